/- A plan of the document's, opened. Condition: the row's own. The walks of the reference's heights and Check of a plan. Conditions: bounds. The walks of the law's Of and To: a plan in another type. Conditions: bounds. The walk of the reference's Same of two plans that are alike. Conditions: bounds. The walks of Lock of a plan where there is no such lock, of slices.Equal and of Same of two locks that are alike. Conditions: bounds. -/
import Derived.Test.YthhiookcknnmdaaGreatJoinUaa
import Derived.Test.YthhiookcknnmdaaGreatJoinUab
import Derived.Deep.Slices
import Derived.Test.YthhiookcknnmdaaGreatJoinUac
namespace Go.Proofs.YthhiookcknnmdaaGreat
open Go.ChangeShapes Go.WideShapes Go.ChangeAt Go.RowKit Go.Joins Go.Deep
theorem flat_any {α : Type} [Inhabited α] {f : α → List Value} {sz : Nat} (hf : ∀ a, (f a).length = sz) : ∀ (l : List α), (l.flatMap f).length = l.length * sz := by
 intro l
 induction l with
 | nil => simp
 | cons i l ih => rw [List.flatMap_cons, List.length_append, ih, hf, List.length_cons, Nat.add_mul]; omega
theorem flat_any_at {α : Type} [Inhabited α] {f : α → List Value} {sz : Nat} (hf : ∀ a, (f a).length = sz) : ∀ (l : List α) (k j : Nat), k < l.length → j < sz → (l.flatMap f)[k * sz + j]? = (f (l.getD k default))[j]? := by
 intro l
 induction l with
 | nil => intro k j h _; exact absurd h (by simp)
 | cons i l ih =>
  intro k j h hj
  rw [List.flatMap_cons]
  cases k with
  | zero =>
   rw [List.getElem?_append_left (by rw [hf]; omega)]
   simp
  | succ k =>
   rw [List.getElem?_append_right (by rw [hf, Nat.add_mul]; omega)]
   have h1 : (k + 1) * sz + j - (f i).length = k * sz + j := by rw [hf, Nat.add_mul]; omega
   rw [h1, ih k j (by simpa using h) hj]
   simp
section
variable {H : Type} {enc : TypeId × Value → H} {W : World} {base : Nat}
theorem cellsInt : Tryz.prog.cellsOf 3 = 1 := by kernel_rfl
theorem cellsD : Tryz.prog.cellsOf 26 = 8 := by kernel_rfl
theorem cellsTwo : Tryz.prog.cellsOf 29 = 2 := by kernel_rfl
theorem two_of_cells {n : Nat} {spare : Nat → Bool} {held : Bool} {cs : List Value} {x : DataW H × List MemPlace} (h : DataW.trod enc Tryz.prog W base spare held n 29 cs = some x) : ∃ a b : Int, cs = [.int .i64 a, .int .i64 b] := by
 obtain ⟨xs, m, _, _, hl, hx, hi⟩ := DataW.trod_array Tryz.underlying29 h
 rw [cellsTwo] at hl
 rw [cellsInt] at hi
 have get : ∀ i, i < 2 → ∃ b : Int, (cs.drop (i * 1)).take 1 = [.int .i64 b] := fun i hi8 => by
  have h1 := hi i hi8
  rw [List.getElem?_eq_getElem (by omega)] at h1
  obtain ⟨b, e, _, _⟩ := DataW.trod_int Tryz.underlying3 h1
  exact ⟨b, e⟩
 obtain ⟨b0, e0⟩ := get 0 (by omega)
 obtain ⟨b1, e1⟩ := get 1 (by omega)
 match cs, hl with
 | [c0, c1], _ =>
  simp at e0 e1
  exact ⟨b0, b1, by simp [e0, e1]⟩
set_option maxRecDepth 100000 in
theorem rows_of_cells {α : Type} [Inhabited α] {T E : TypeId} {sz : Nat} {f : α → List Value} {good : α → Prop} (hf : ∀ a, (f a).length = sz) (hsz : 0 < sz) (hT : Tryz.prog.underlying T = some (.slice E)) (hE : Tryz.prog.cellsOf E = sz)
  (hel : ∀ (b : Nat) (s : Nat → Bool) (h : Bool) (n : Nat) (cs : List Value) (x : DataW H × List MemPlace), DataW.trod enc Tryz.prog W b s h n E cs = some x → ∃ a, cs = f a ∧ good a) {n : Nat} {cs : List Value} {x : DataW H × List MemPlace} (h : DataW.trod enc Tryz.prog W 0 (fun _ => true) true n T cs = some x) :
  ∃ (A : Option Addr) (m c : Nat) (l : List α), cs = [.slice A m c] ∧ Rd W W.heap.size sz A m (l.flatMap f) ∧ m ≤ c ∧ m ≤ 9223372036854775807 ∧ ∀ k, k < l.length → good (l.getD k default) := by
 rcases open_slice hT h with ⟨hcs, _⟩ | ⟨a, len, cap, m, k, D, Pl, hcs, _, hlc, hcm, hm, _, hi⟩
 ·exact ⟨none, 0, 0, [], hcs, by simpa using Rd.empty, by omega, by omega, by simp⟩
 ·have hmn : len ≤ m := by rw [hm]; split <;> omega
  have hall : ∀ i, ∃ s : α, i < len → (good s ∧ ∀ j, j < sz → W.cell? (a.add (i * sz + j)) = (f s)[j]?) := by
   intro i
   by_cases hin : i < len
   ·obtain ⟨cs', hc, ht'⟩ := hi i (by omega)
    rw [hE] at hc
    obtain ⟨_, hcl, hat⟩ := World.cells?_some hc
    obtain ⟨s, rfl, hg⟩ := hel _ _ _ _ _ _ ht'
    exact ⟨s, fun _ => ⟨hg, fun j hj => by rw [← addr_add]; exact hat j hj⟩⟩
   ·exact ⟨default, fun h => absurd h hin⟩
  let g := fun i => Classical.choose (hall i)
  have hg : ∀ i, i < len → good (g i) := fun i h => (Classical.choose_spec (hall i) h).1
  have hfs : ∀ i, i < len → ∀ j, j < sz → W.cell? (a.add (i * sz + j)) = (f (g i))[j]? := fun i h => (Classical.choose_spec (hall i) h).2
  refine ⟨_, _, _, (List.range len).map g, hcs, ⟨by rw [flat_any hf]; simp, fun hn => ?_⟩, hlc, by simp only [maxLen] at hcm; omega, ?_⟩
  ·have h0 := hfs 0 hn 0 hsz
   have h1 : (f (g 0))[0]? = some ((f (g 0))[0]'(by rw [hf]; exact hsz)) := List.getElem?_eq_getElem _
   rw [h1, Nat.zero_mul, Nat.zero_add] at h0
   have hsp : a.spot = none := addr_spot h0 rfl
   refine ⟨a.block, a.off, by cases a; simp_all, ?_, fun j u hu => ?_⟩
   ·rw [addr_flat hsp] at h0
    exact World.block_lt_of_cell? W ⟨a.block, a.off + 0, none⟩ h0
   ·have hjl : j < len * sz := by
     have := (List.getElem?_eq_some_iff.1 hu).1
     rw [flat_any hf] at this; simpa using this
    have hq : j / sz < len := by rw [Nat.div_lt_iff_lt_mul hsz]; exact hjl
    have hr : j % sz < sz := Nat.mod_lt _ hsz
    have ej : j / sz * sz + j % sz = j := by rw [Nat.mul_comm]; exact Nat.div_add_mod j sz
    have e := flat_any_at hf ((List.range len).map g) (j / sz) (j % sz) (by simpa using hq) hr
    rw [ej, hu] at e
    have h2 := hfs (j / sz) hq (j % sz) hr
    rw [ej, addr_flat hsp] at h2
    rw [h2, e]
    simp [List.getD_eq_getElem?_getD, hq]
  ·intro k hk
   have hk' : k < len := by simpa using hk
   have := hg k hk'
   simpa [List.getD_eq_getElem?_getD, hk'] using this
theorem cellsPlanR : Tryz.prog.cellsOf 65 = 13 := by kernel_rfl
theorem cellsIntsR : Tryz.prog.cellsOf 30 = 1 := by kernel_rfl
theorem cellsDigsR : Tryz.prog.cellsOf 63 = 1 := by kernel_rfl
set_option maxRecDepth 100000 in
theorem open_planR {v : Value} {d : DataW H} {p : List MemPlace} (a0 : Value.okWide Tryz.prog W .any base 65 v) (h0 : DataW.Trod enc Tryz.prog W 0 (fun _ => true) true 65 v d p) :
  ∃ (q : Pl) (Ak : Option Addr) (nk ck : Nat) (An : Option Addr) (nn cn : Nat) (Af : Option Addr) (nf cf : Nat), v = .agg #[.int .u8 q.tb.x0, .int .u8 q.tb.x1, .int .u8 q.tb.x2, .int .u8 q.tb.x3, .int .u8 q.tb.x4, .int .u8 q.tb.x5, .int .u8 q.tb.x6, .int .u8 q.tb.x7, .slice Ak nk ck, .int .i64 q.s0, .int .i64 q.s1, .slice An nn cn, .slice Af nf cf] ∧ Rd W W.heap.size 8 Ak nk (flatD q.ks) ∧ Rd W W.heap.size 1 An nn (ivs q.nr) ∧ Rd W W.heap.size 1 Af nf (ivs q.fr) ∧ nk ≤ ck ∧ q.tb.ok ∧ ∀ d ∈ q.ks, d.ok := by
 obtain ⟨cs, rfl, _⟩ := okWide_struct Tryz.underlying65 a0
 obtain ⟨fuel, hf⟩ := h0
 obtain ⟨xs, n, _, _, hl, hxl, hg⟩ := DataW.trod_struct Tryz.underlying65 hf
 rw [cellsPlanR] at hl
 obtain ⟨l⟩ := cs
 simp only [Value.cells] at hl hg
 have g0 : DataW.trod enc Tryz.prog W 0 (fun _ => true) true n 26 ((l.drop 0).take (Tryz.prog.cellsOf 26)) = xs[0]? := hg 0 _ rfl
 have g1 : DataW.trod enc Tryz.prog W 0 (fun _ => true) true n 63 ((l.drop 8).take (Tryz.prog.cellsOf 63)) = xs[1]? := hg 1 _ rfl
 have g2 : DataW.trod enc Tryz.prog W 0 (fun _ => true) true n 29 ((l.drop 9).take (Tryz.prog.cellsOf 29)) = xs[2]? := hg 2 _ rfl
 have g3 : DataW.trod enc Tryz.prog W 0 (fun _ => true) true n 30 ((l.drop 11).take (Tryz.prog.cellsOf 30)) = xs[3]? := hg 3 _ rfl
 have g4 : DataW.trod enc Tryz.prog W 0 (fun _ => true) true n 30 ((l.drop 12).take (Tryz.prog.cellsOf 30)) = xs[4]? := hg 4 _ rfl
 rw [cellsD] at g0
 rw [cellsDigsR] at g1
 rw [cellsTwo] at g2
 rw [cellsIntsR] at g3 g4
 simp at hxl
 rw [List.getElem?_eq_getElem (by omega)] at g0 g1 g2 g3 g4
 obtain ⟨x, e0, ok⟩ := d8_of_cells Tryz.underlying26 cellsD g0
 haveI : Inhabited D8 := ⟨dz8⟩
 obtain ⟨Ak, nk, ck, ks, e1, hrk, hck, _, hok⟩ := rows_of_cells (sz := 8) (f := D8.cells) (good := fun d => d.ok) (fun a => rfl) (by omega) Tryz.underlying63 cellsD (fun _ _ _ _ _ _ h => by obtain ⟨d, e, h⟩ := d8_of_cells Tryz.underlying26 cellsD h; exact ⟨d, e, h⟩) g1
 obtain ⟨s0, s1, e2⟩ := two_of_cells g2
 obtain ⟨An, nn, cn, ns, e3, hrn, _, _, _⟩ := rows_of_cells (sz := 1) (f := fun (i : Int) => [Value.int .i64 i]) (good := fun _ => True) (fun a => rfl) (by omega) Tryz.underlying30 cellsInt (fun _ _ _ _ _ _ h => by obtain ⟨d, e, _, _⟩ := DataW.trod_int Tryz.underlying3 h; exact ⟨d, e, trivial⟩) g3
 obtain ⟨Af, nf, cf, fs, e4, hrf, _, _, _⟩ := rows_of_cells (sz := 1) (f := fun (i : Int) => [Value.int .i64 i]) (good := fun _ => True) (fun a => rfl) (by omega) Tryz.underlying30 cellsInt (fun _ _ _ _ _ _ h => by obtain ⟨d, e, _, _⟩ := DataW.trod_int Tryz.underlying3 h; exact ⟨d, e, trivial⟩) g4
 have hiv : ∀ l : List Int, l.flatMap (fun (i : Int) => [Value.int .i64 i]) = ivs l := fun l => by induction l with
  | nil => rfl
  | cons a l ih => rw [List.flatMap_cons, ih]; rfl
 rw [hiv] at hrn hrf
 refine ⟨⟨x, ks, s0, s1, ns, fs⟩, Ak, nk, ck, An, nn, cn, Af, nf, cf, ?_, hrk, hrn, hrf, hck, ok, fun d hd => ?_⟩
 ·match l, hl with
  | [c0, c1, c2, c3, c4, c5, c6, c7, c8, c9, c10, c11, c12], _ =>
   simp at e0 e1 e2 e3 e4
   simp [e0, e1, e2, e3, e4]
 ·obtain ⟨k, hk, rfl⟩ := List.mem_iff_getElem.1 hd
  have := hok k hk
  simpa [List.getD_eq_getElem?_getD, List.getElem?_eq_getElem hk] using this
end
end Go.Proofs.YthhiookcknnmdaaGreat
namespace Go.Proofs.YthhiookcknnmdaaGreat
open Go.RowKit Go.Lib
theorem far_neg {n : Int} (h1 : 0 ≤ n) (h2 : ¬ 1099511627776 < n) : far n = true := by simp [far]; omega
theorem all_far {l : List Int} {n : Nat} (hn : l.length = n) (h : ∀ j, j < n → far (l.getD j 0) = true) : l.all far = true := by
 rw [List.all_eq_true]
 intro x hx
 obtain ⟨j, hj, rfl⟩ := List.mem_iff_getElem.1 hx
 have := h j (by omega)
 simpa [List.getD_eq_getElem?_getD, List.getElem?_eq_getElem hj] using this
theorem not_all_far {l : List Int} {n k : Nat} (hn : l.length = n) (hk : k < n) (h : far (l.getD k 0) = false) : l.all far = false := by
 rw [List.all_eq_false]
 refine ⟨l.getD k 0, ?_, by rw [h]; simp⟩
 rw [List.getD_eq_getElem?_getD, List.getElem?_eq_getElem (show k < l.length by omega)]
 exact List.getElem_mem _
set_option maxRecDepth 100000 in
set_option maxHeartbeats 4000000 in
theorem heightsr_any (A : Option Addr) (n c : Nat) (l : List Int) (w : World) (h : Rd w w.heap.size 1 A n (ivs l)) (hn : n ≤ 1000000) :
  Calls Tryz.prog 86 #[.slice A n c] w fun e w' => e = .returned (.bool (l.all far)) ∧ w = w' := by
 have H := Lib.hid h
 have Hl := Lib.hid h.ilen
 clear h
 go_enter Tryz.func86, Tryz.ntmps86
 go_wp2
 obtain ⟨w5, rfl⟩ : ∃ w5 : World, w5 = w := ⟨_, rfl⟩
 go_loopw [3] (fun i wr => wr = w5 ∧ ∃ k : Nat, k ≤ n ∧ i = .int .i64 k ∧ (∀ j, j < k → far (l.getD j 0) = true)) (fun i _ => n - (RowKit.intOf i).toNat)
 case atStart => exact ⟨rfl, 0, by omega, rfl, fun j hj => absurd hj (by omega)⟩
 case round =>
  obtain ⟨rfl, k, hk, rfl, h0⟩ := hrel
  have H0 := Lib.hid h0
  clear h0
  by_cases hlt : k < n
  ·obtain ⟨b, o, rfl, hbB, x0⟩ := H.out.iat hlt
   have hd1 : decide ((k : Int) < (n : Int)) = true := decide_eq_true (by omega)
   have hki : (k : Int) < (n : Int) := by omega
   generalize hg : l.getD k 0 = g at *
   have Hg := Lib.hid hg
   clear hg
   by_cases f1 : g < 0
   ·have q1 : decide (g < 0) = true := decide_eq_true f1
    have Hr := Lib.hid (not_all_far Hl.out hlt (by rw [Hg.out]; simp [far]; omega))
    clear f1
    go_wp2
    go_ret
    exact ⟨ret_bool (by rw [Hr.out]), rfl⟩
   ·have q1 : decide (g < 0) = false := decide_eq_false f1
    by_cases f2 : 1099511627776 < g
    ·have q2 : decide (1099511627776 < g) = true := decide_eq_true f2
     have Hr := Lib.hid (not_all_far Hl.out hlt (by rw [Hg.out]; simp [far]; omega))
     clear f1 f2
     go_wp2
     go_ret
     exact ⟨ret_bool (by rw [Hr.out]), rfl⟩
    ·have q2 : decide (1099511627776 < g) = false := decide_eq_false f2
     have Hf := Lib.hid (far_neg (by omega) f2)
     clear f1 f2
     go_wp2
     go_roundw
     case rel =>
      refine ⟨trivial, k + 1, by omega, by go_num, fun j hj => ?_⟩
      rcases Nat.lt_or_ge j k with h1 | h1
      ·exact H0.out j h1
      ·obtain rfl : j = k := by omega
       rw [Hg.out]; exact Hf.out
     case measure => simp [RowKit.intOf]; omega
  ·obtain rfl : k = n := by omega
   have hd1 : decide ((k : Int) < (k : Int)) = false := decide_eq_false (by omega)
   have Hr := Lib.hid (all_far Hl.out H0.out)
   go_wp2
   go_ret
   exact ⟨ret_bool (by rw [Hr.out]), rfl⟩
theorem plc_hgts {p : Pl} {wn : Int} (h : PlL p wn) {m : Nat} (hm : p.ks.length - 1 = m) (h2 : (p.nr.all far && p.fr.all far) = false) : p.check wn = 2 := by
 have hn : p.nr.length = m := by rw [h.l.1, hm]
 have hf : p.fr.length = m := by rw [h.l.2, hm]
 have : ∃ k, k < m ∧ (far (p.nr.getD k 0) && far (p.fr.getD k 0)) = false := by
  refine Classical.byContradiction fun hc => ?_
  have h3 : ∀ k, k < m → (far (p.nr.getD k 0) && far (p.fr.getD k 0)) = true := fun k hk => by
   cases e : (far (p.nr.getD k 0) && far (p.fr.getD k 0)) with
   | true => rfl
   | false => exact absurd ⟨k, hk, e⟩ hc
  rw [all_far hn fun j hj => by have := h3 j hj; simp only [Bool.and_eq_true] at this; exact this.1, all_far hf fun j hj => by have := h3 j hj; simp only [Bool.and_eq_true] at this; exact this.2] at h2
  exact absurd h2 (by decide)
 obtain ⟨k, hk, e⟩ := this
 exact plc_hgt h (by rw [hm]; exact hk) e
theorem PlH.ofs {p : Pl} {wn : Int} (h : PlL p wn) {m : Nat} (hm : p.ks.length - 1 = m) (h1 : p.nr.all far = true) (h2 : p.fr.all far = true) : PlH p wn :=
 ⟨h, fun k hk => by
  have hn : p.nr.length = m := by rw [h.l.1, hm]
  have hf : p.fr.length = m := by rw [h.l.2, hm]
  rw [List.all_eq_true] at h1 h2
  have e1 : far (p.nr.getD k 0) = true := h1 _ (by rw [List.getD_eq_getElem?_getD, List.getElem?_eq_getElem (show k < p.nr.length by omega)]; exact List.getElem_mem _)
  have e2 : far (p.fr.getD k 0) = true := h2 _ (by rw [List.getD_eq_getElem?_getD, List.getElem?_eq_getElem (show k < p.fr.length by omega)]; exact List.getElem_mem _)
  rw [e1, e2]; rfl⟩
theorem info_digC : (Tryz.prog.info? 27).map (fun i => (i.zero, i.size, i.bytes)) = some (some (.agg #[.int .u8 0, .int .u8 0, .int .u8 0, .int .u8 0, .int .u8 0, .int .u8 0, .int .u8 0, .int .u8 0]), 8, 8) := by kernel_rfl
theorem info_digR : (Tryz.prog.info? 26).map (fun i => (i.zero, i.size, i.bytes)) = some (some (.agg #[.int .u8 0, .int .u8 0, .int .u8 0, .int .u8 0, .int .u8 0, .int .u8 0, .int .u8 0, .int .u8 0]), 8, 8) := by kernel_rfl
theorem take_row (l : List D8) {k : Nat} (hk : k < l.length) : flatD (l.take (k + 1)) = flatD (l.take k) ++ (l.getD k dz8).cells := by
 rw [List.take_add_one, List.getElem?_eq_getElem hk, List.getD_eq_getElem?_getD, List.getElem?_eq_getElem hk]
 simp only [flatD, List.flatMap_append, Option.toList_some, Option.getD_some, List.flatMap_cons, List.flatMap_nil, List.append_nil]
set_option maxRecDepth 100000 in
set_option maxHeartbeats 8000000 in
theorem of_any (p : Pl) (Ak : Option Addr) (nk ck : Nat) (An : Option Addr) (nn cn : Nat) (Af : Option Addr) (nf cf : Nat) (w : World) (h : p.At Ak nk ck An nn Af nf w) :
  Calls Tryz.prog 27 #[.agg #[.int .u8 p.tb.x0, .int .u8 p.tb.x1, .int .u8 p.tb.x2, .int .u8 p.tb.x3, .int .u8 p.tb.x4, .int .u8 p.tb.x5, .int .u8 p.tb.x6, .int .u8 p.tb.x7, .slice Ak nk ck, .int .i64 p.s0, .int .i64 p.s1, .slice An nn cn, .slice Af nf cf]] w fun e w' => ∃ (Ax : Option Addr) (cx : Nat), e = .returned (.agg #[.int .u8 p.tb.x0, .int .u8 p.tb.x1, .int .u8 p.tb.x2, .int .u8 p.tb.x3, .int .u8 p.tb.x4, .int .u8 p.tb.x5, .int .u8 p.tb.x6, .int .u8 p.tb.x7, .slice Ax nk cx, .int .i64 p.s0, .int .i64 p.s1, .slice An nn cn, .slice Af nf cf]) ∧ w'.ownsRow w.heap.size 27 8 (.slice Ax nk cx) nk (flatD p.ks) ∧ Below w.heap.size w w' := by
 have HX : Hid (((w.alloc (.cells #[.int .u8 p.tb.x0, .int .u8 p.tb.x1, .int .u8 p.tb.x2, .int .u8 p.tb.x3, .int .u8 p.tb.x4, .int .u8 p.tb.x5, .int .u8 p.tb.x6, .int .u8 p.tb.x7, .slice Ak nk ck, .int .i64 p.s0, .int .i64 p.s1, .slice An nn cn, .slice Af nf cf] 65)).alloc (.cells #[.int .u8 0, .int .u8 0, .int .u8 0, .int .u8 0, .int .u8 0, .int .u8 0, .int .u8 0, .int .u8 0, .slice none 0 0, .int .i64 0, .int .i64 0, .slice none 0 0, .slice none 0 0] 32)).heap[w.heap.size]? = some (.cells #[.int .u8 p.tb.x0, .int .u8 p.tb.x1, .int .u8 p.tb.x2, .int .u8 p.tb.x3, .int .u8 p.tb.x4, .int .u8 p.tb.x5, .int .u8 p.tb.x6, .int .u8 p.tb.x7, .slice Ak nk ck, .int .i64 p.s0, .int .i64 p.s1, .slice An nn cn, .slice Af nf cf] 65 (0, 0))) := block_alloc (heap_alloc_new _ _) _
 have HY : Hid (((w.alloc (.cells #[.int .u8 p.tb.x0, .int .u8 p.tb.x1, .int .u8 p.tb.x2, .int .u8 p.tb.x3, .int .u8 p.tb.x4, .int .u8 p.tb.x5, .int .u8 p.tb.x6, .int .u8 p.tb.x7, .slice Ak nk ck, .int .i64 p.s0, .int .i64 p.s1, .slice An nn cn, .slice Af nf cf] 65)).alloc (.cells #[.int .u8 0, .int .u8 0, .int .u8 0, .int .u8 0, .int .u8 0, .int .u8 0, .int .u8 0, .int .u8 0, .slice none 0 0, .int .i64 0, .int .i64 0, .slice none 0 0, .slice none 0 0] 32)).heap[w.heap.size + 1]? = some (.cells #[.int .u8 0, .int .u8 0, .int .u8 0, .int .u8 0, .int .u8 0, .int .u8 0, .int .u8 0, .int .u8 0, .slice none 0 0, .int .i64 0, .int .i64 0, .slice none 0 0, .slice none 0 0] 32 (0, 0))) := alloc_at (by simp)
 have Hw : Hid (Below w.heap.size w ((w.alloc (.cells #[.int .u8 p.tb.x0, .int .u8 p.tb.x1, .int .u8 p.tb.x2, .int .u8 p.tb.x3, .int .u8 p.tb.x4, .int .u8 p.tb.x5, .int .u8 p.tb.x6, .int .u8 p.tb.x7, .slice Ak nk ck, .int .i64 p.s0, .int .i64 p.s1, .slice An nn cn, .slice Af nf cf] 65)).alloc (.cells #[.int .u8 0, .int .u8 0, .int .u8 0, .int .u8 0, .int .u8 0, .int .u8 0, .int .u8 0, .int .u8 0, .slice none 0 0, .int .i64 0, .int .i64 0, .slice none 0 0, .slice none 0 0] 32))) := below_two _ _ _
 have Hz : Hid (((w.alloc (.cells #[.int .u8 p.tb.x0, .int .u8 p.tb.x1, .int .u8 p.tb.x2, .int .u8 p.tb.x3, .int .u8 p.tb.x4, .int .u8 p.tb.x5, .int .u8 p.tb.x6, .int .u8 p.tb.x7, .slice Ak nk ck, .int .i64 p.s0, .int .i64 p.s1, .slice An nn cn, .slice Af nf cf] 65)).alloc (.cells #[.int .u8 0, .int .u8 0, .int .u8 0, .int .u8 0, .int .u8 0, .int .u8 0, .int .u8 0, .int .u8 0, .slice none 0 0, .int .i64 0, .int .i64 0, .slice none 0 0, .slice none 0 0] 32)).heap.size = w.heap.size + 2) := by show _ = _; simp
 have H := Lib.hid h
 have Hl := Lib.hid h.k.dlenD
 have hbk := h.bk
 clear h
 obtain ⟨i0, hi, hz0, hz1, hz2⟩ := info_parts info_digC
 have HI := Lib.hid (And.intro hi (And.intro hz0 (And.intro hz1 hz2))); clear hi hz0 hz1 hz2
 go_enter Tryz.func27, Tryz.ntmps27
 go_upto_region 1 with fail
 generalize (w.alloc (.cells #[.int .u8 p.tb.x0, .int .u8 p.tb.x1, .int .u8 p.tb.x2, .int .u8 p.tb.x3, .int .u8 p.tb.x4, .int .u8 p.tb.x5, .int .u8 p.tb.x6, .int .u8 p.tb.x7, .slice Ak nk ck, .int .i64 p.s0, .int .i64 p.s1, .slice An nn cn, .slice Af nf cf] 65)).alloc (.cells #[.int .u8 0, .int .u8 0, .int .u8 0, .int .u8 0, .int .u8 0, .int .u8 0, .int .u8 0, .int .u8 0, .slice none 0 0, .int .i64 0, .int .i64 0, .slice none 0 0, .slice none 0 0] 32) = w0 at *
 have z := block_cell HX.out
 have z0 := z 0; have z1 := z 1; have z2 := z 2; have z3 := z 3; have z4 := z 4; have z5 := z 5; have z6 := z 6; have z7 := z 7; have z8 := z 8; have z9 := z 9; have z10 := z 10; have z11 := z 11; have z12 := z 12
 simp at z0 z1 z2 z3 z4 z5 z6 z7 z8 z9 z10 z11 z12
 clear z
 go_upto_region 2 with fail
 have HP0 : Hid ((w0.alloc (.cells #[.int .u8 p.tb.x0, .int .u8 p.tb.x1, .int .u8 p.tb.x2, .int .u8 p.tb.x3, .int .u8 p.tb.x4, .int .u8 p.tb.x5, .int .u8 p.tb.x6, .int .u8 p.tb.x7, .slice none 0 0, .int .i64 p.s0, .int .i64 p.s1, .slice An nn cn, .slice Af nf cf] 32)).heap[w0.heap.size]? = some (.cells #[.int .u8 p.tb.x0, .int .u8 p.tb.x1, .int .u8 p.tb.x2, .int .u8 p.tb.x3, .int .u8 p.tb.x4, .int .u8 p.tb.x5, .int .u8 p.tb.x6, .int .u8 p.tb.x7, .slice none 0 0, .int .i64 p.s0, .int .i64 p.s1, .slice An nn cn, .slice Af nf cf] 32 (0, 0))) := heap_alloc_new _ _
 have HX1 := Lib.hid (block_alloc HX.out (.cells #[.int .u8 p.tb.x0, .int .u8 p.tb.x1, .int .u8 p.tb.x2, .int .u8 p.tb.x3, .int .u8 p.tb.x4, .int .u8 p.tb.x5, .int .u8 p.tb.x6, .int .u8 p.tb.x7, .slice none 0 0, .int .i64 p.s0, .int .i64 p.s1, .slice An nn cn, .slice Af nf cf] 32))
 have HY1 := Lib.hid (block_alloc HY.out (.cells #[.int .u8 p.tb.x0, .int .u8 p.tb.x1, .int .u8 p.tb.x2, .int .u8 p.tb.x3, .int .u8 p.tb.x4, .int .u8 p.tb.x5, .int .u8 p.tb.x6, .int .u8 p.tb.x7, .slice none 0 0, .int .i64 p.s0, .int .i64 p.s1, .slice An nn cn, .slice Af nf cf] 32))
 have Hw1 := Lib.hid (Hw.out.alloc Hw.out.size (.cells #[.int .u8 p.tb.x0, .int .u8 p.tb.x1, .int .u8 p.tb.x2, .int .u8 p.tb.x3, .int .u8 p.tb.x4, .int .u8 p.tb.x5, .int .u8 p.tb.x6, .int .u8 p.tb.x7, .slice none 0 0, .int .i64 p.s0, .int .i64 p.s1, .slice An nn cn, .slice Af nf cf] 32))
 have hz1 : (w0.alloc (.cells #[.int .u8 p.tb.x0, .int .u8 p.tb.x1, .int .u8 p.tb.x2, .int .u8 p.tb.x3, .int .u8 p.tb.x4, .int .u8 p.tb.x5, .int .u8 p.tb.x6, .int .u8 p.tb.x7, .slice none 0 0, .int .i64 p.s0, .int .i64 p.s1, .slice An nn cn, .slice Af nf cf] 32)).heap.size = w0.heap.size + 1 := by simp
 generalize w0.alloc (.cells #[.int .u8 p.tb.x0, .int .u8 p.tb.x1, .int .u8 p.tb.x2, .int .u8 p.tb.x3, .int .u8 p.tb.x4, .int .u8 p.tb.x5, .int .u8 p.tb.x6, .int .u8 p.tb.x7, .slice none 0 0, .int .i64 p.s0, .int .i64 p.s1, .slice An nn cn, .slice Af nf cf] 32) = w1 at *
 have Hz1 := Lib.hid hz1
 clear hz1 z0 z1 z2 z3 z4 z5 z6 z7 z8 z9 z10 z11 z12 HX
 have z := block_cell HX1.out
 have z0 := z 0; have z1 := z 1; have z2 := z 2; have z3 := z 3; have z4 := z 4; have z5 := z 5; have z6 := z 6; have z7 := z 7; have z8 := z 8; have z9 := z 9; have z10 := z 10; have z11 := z 11; have z12 := z 12
 simp at z0 z1 z2 z3 z4 z5 z6 z7 z8 z9 z10 z11 z12
 clear z
 go_upto_region 3 with fail
 go_loopw [18] (fun i wz => ∃ (k : Nat) (Ax : Option Addr) (cx : Nat), k ≤ nk ∧ i = .int .i64 k ∧ Hid (wz.heap[w0.heap.size]? = some (.cells #[.int .u8 p.tb.x0, .int .u8 p.tb.x1, .int .u8 p.tb.x2, .int .u8 p.tb.x3, .int .u8 p.tb.x4, .int .u8 p.tb.x5, .int .u8 p.tb.x6, .int .u8 p.tb.x7, .slice Ax k cx, .int .i64 p.s0, .int .i64 p.s1, .slice An nn cn, .slice Af nf cf] 32 (0, 0))) ∧ Hid (wz.ownsRow w1.heap.size 27 8 (.slice Ax k cx) k (flatD (p.ks.take k))) ∧ Hid (w1.grownBy wz (some w0.heap.size))) (fun i _ => nk - (RowKit.intOf i).toNat)
 case atStart => exact ⟨0, none, 0, by omega, rfl, HP0, Lib.hid (World.ownsRow_nil _ _ _ _), Lib.hid (World.grownBy.refl _ _)⟩
 case round =>
  obtain ⟨k, Ax, cx, hk, rfl, HP, HO, HG⟩ := hrel
  by_cases hlt : k < nk
  ·have hd1 : decide ((k : Int) < (nk : Int)) = true := decide_eq_true (by omega)
   have hki : (k : Int) < (nk : Int) := by omega
   have hbr : Below w.heap.size w wr := Hw1.out.grown HG.out Hw1.out.size (fun g hg => by cases hg; have := Hz.out; omega)
   obtain ⟨b, o, rfl, hbB, x0, x1, x2, x3, x4, x5, x6, x7⟩ := (H.out.k.below hbr (Nat.le_refl _)).di8v hlt
   have Htk := Lib.hid (take_row p.ks (k := k) (by rw [Hl.out]; exact hlt))
   generalize p.ks.getD k dz8 = d at *
   have hgs : w1.heap.size ≤ wr.heap.size := HG.out.size
   clear hbr
   go_upto_region 5 with fail
   have HD : Hid ((wr.alloc (.cells #[.int .u8 d.x0, .int .u8 d.x1, .int .u8 d.x2, .int .u8 d.x3, .int .u8 d.x4, .int .u8 d.x5, .int .u8 d.x6, .int .u8 d.x7] 26)).heap[wr.heap.size]? = some (.cells #[.int .u8 d.x0, .int .u8 d.x1, .int .u8 d.x2, .int .u8 d.x3, .int .u8 d.x4, .int .u8 d.x5, .int .u8 d.x6, .int .u8 d.x7] 26 (0, 0))) := heap_alloc_new _ _
   have HP5 := Lib.hid (block_alloc HP.out (.cells #[.int .u8 d.x0, .int .u8 d.x1, .int .u8 d.x2, .int .u8 d.x3, .int .u8 d.x4, .int .u8 d.x5, .int .u8 d.x6, .int .u8 d.x7] 26))
   have HO5 := Lib.hid (HO.out.alloc (.cells #[.int .u8 d.x0, .int .u8 d.x1, .int .u8 d.x2, .int .u8 d.x3, .int .u8 d.x4, .int .u8 d.x5, .int .u8 d.x6, .int .u8 d.x7] 26))
   have HG5 := Lib.hid (grown_alloc HG.out (.cells #[.int .u8 d.x0, .int .u8 d.x1, .int .u8 d.x2, .int .u8 d.x3, .int .u8 d.x4, .int .u8 d.x5, .int .u8 d.x6, .int .u8 d.x7] 26))
   have hgs5 : w1.heap.size ≤ (wr.alloc (.cells #[.int .u8 d.x0, .int .u8 d.x1, .int .u8 d.x2, .int .u8 d.x3, .int .u8 d.x4, .int .u8 d.x5, .int .u8 d.x6, .int .u8 d.x7] 26)).heap.size := by simp; omega
   generalize wr.alloc (.cells #[.int .u8 d.x0, .int .u8 d.x1, .int .u8 d.x2, .int .u8 d.x3, .int .u8 d.x4, .int .u8 d.x5, .int .u8 d.x6, .int .u8 d.x7] 26) = w5 at *
   clear z0 z1 z2 z3 z4 z5 z6 z7 z8 z9 z10 z11 z12
   have y := block_cell HD.out
   have y0 := y 0; have y1 := y 1; have y2 := y 2; have y3 := y 3; have y4 := y 4; have y5 := y 5; have y6 := y 6; have y7 := y 7
   simp at y0 y1 y2 y3 y4 y5 y6 y7
   clear y
   obtain ⟨zf, z0, z1, z2, z3, z4, z5, z6, z7, z8, z9, z10, z11, z12⟩ := free13 HP5.out
   go_upto_region 6 with (at_builtin; go_must (refine append_at w5 (by rfl) _ _ 25 (by rfl) w1.heap.size 27 i0 (.agg #[.int .u8 0, .int .u8 0, .int .u8 0, .int .u8 0, .int .u8 0, .int .u8 0, .int .u8 0, .int .u8 0]) 8 8 Tryz.underlying25 HI.out rfl (by decide) _ _ _ (by rfl) HO5.out 1 1 #[.int .u8 d.x0, .int .u8 d.x1, .int .u8 d.x2, .int .u8 d.x3, .int .u8 d.x4, .int .u8 d.x5, .int .u8 d.x6, .int .u8 d.x7] 27 (by simp [Act.eval]) rfl (by simp [Value.oneCell']) (by omega) (by omega) hgs5 ?_; intro v7 w7 own7 bel7 gr7 at7; obtain ⟨A7, c7, rfl⟩ := own_form own7; have O7 := Lib.hid own7; have HP7 := Lib.hid (block_grown (block_alloc HP5.out (.cells #[.int .u8 d.x0, .int .u8 d.x1, .int .u8 d.x2, .int .u8 d.x3, .int .u8 d.x4, .int .u8 d.x5, .int .u8 d.x6, .int .u8 d.x7] 27)) gr7 (own_ne HO5.out HP5.out (by decide))); have GR7 := Lib.hid gr7; clear own7 bel7 gr7 at7 z0 z1 z2 z3 z4 z5 z6 z7 z8 z9 z10 z11 z12 zf; obtain ⟨zf, z0, z1, z2, z3, z4, z5, z6, z7, z8, z9, z10, z11, z12⟩ := free13 HP7.out))
   have h8 := Joins.block_setCell (i := 8) HP7.out (.slice A7 (k + 1) c7)
   have g8 := pgrown_set (w := w7) w0.heap.size 8 (.slice A7 (k + 1) c7)
   simp at h8
   have HP8 := Lib.hid h8
   have O8 := Lib.hid (O7.out.kept g8 (.inr fun e => own_ne O7.out HP7.out (by decide) e.symm))
   have HG8 : Hid (w1.grownBy (w7.setCell ⟨w0.heap.size, 8, none⟩ (.slice A7 (k + 1) c7)) (some w0.heap.size)) :=
    Lib.hid ((grown_row (grown_alloc HG5.out _) GR7.out (fun g hg => (HO5.out.lt g hg).1)).trans g8)
   clear h8 g8
   go_wp2
   go_roundw
   case rel => exact ⟨k + 1, A7, c7, hlt, by go_num, HP8, Lib.hid (by rw [Htk.out]; exact O8.out), HG8⟩
   case measure => simp [RowKit.intOf]; omega
  ·obtain rfl : k = nk := by omega
   have hd1 : decide ((k : Int) < (k : Int)) = false := decide_eq_false (by omega)
   have HBr : Hid (Below w.heap.size w wr) := Lib.hid (Hw1.out.grown HG.out Hw1.out.size (fun g hg => by injection hg with hg; have := Hz.out; omega))
   have HYr := Lib.hid (block_grown HY1.out HG.out (by intro e; injection e with e; have := Hz.out; omega))
   have hw1 := Hw1.out.size
   have htk : p.ks.take k = p.ks := List.take_of_length_le (by rw [Hl.out]; omega)
   rw [htk] at HO
   clear htk
   go_upto_region 7 with fail
   refine wp_region_list ?_
   refine wpList_load_mid (by rfl) 32 _ (by rfl) w0.heap.size 0 (by rfl) [.int .u8 p.tb.x0, .int .u8 p.tb.x1, .int .u8 p.tb.x2, .int .u8 p.tb.x3, .int .u8 p.tb.x4, .int .u8 p.tb.x5, .int .u8 p.tb.x6, .int .u8 p.tb.x7, .slice Ax k cx, .int .i64 p.s0, .int .i64 p.s1, .slice An nn cn, .slice Af nf cf] _ (range_all HP.out) Tryz.underlying32 rfl (by kernel_rfl) ?_
   simp only [Act.put, sT]
   refine wpList_store_mid (by rfl) 32 _ _ (by rfl) (w.heap.size + 1) 0 #[.int .u8 p.tb.x0, .int .u8 p.tb.x1, .int .u8 p.tb.x2, .int .u8 p.tb.x3, .int .u8 p.tb.x4, .int .u8 p.tb.x5, .int .u8 p.tb.x6, .int .u8 p.tb.x7, .slice Ax k cx, .int .i64 p.s0, .int .i64 p.s1, .slice An nn cn, .slice Af nf cf] (by rfl) (by rfl) (there_mid HYr.out (by simp)) (by kernel_rfl) (by kernel_rfl) ?_
   obtain ⟨s1', s2'⟩ := set_all HYr.out [.int .u8 p.tb.x0, .int .u8 p.tb.x1, .int .u8 p.tb.x2, .int .u8 p.tb.x3, .int .u8 p.tb.x4, .int .u8 p.tb.x5, .int .u8 p.tb.x6, .int .u8 p.tb.x7, .slice Ax k cx, .int .i64 p.s0, .int .i64 p.s1, .slice An nn cn, .slice Af nf cf] rfl
   have HS1 := Lib.hid s1'; have HS2 := Lib.hid s2'
   clear s1' s2'
   dsimp only
   generalize World.setCells _ _ _ [.int .u8 p.tb.x0, .int .u8 p.tb.x1, .int .u8 p.tb.x2, .int .u8 p.tb.x3, .int .u8 p.tb.x4, .int .u8 p.tb.x5, .int .u8 p.tb.x6, .int .u8 p.tb.x7, .slice Ax k cx, .int .i64 p.s0, .int .i64 p.s1, .slice An nn cn, .slice Af nf cf] = w11 at *
   go_wp2
   refine bodyPost_ret (results_cell 2 32 (w.heap.size + 1) #[.int .u8 p.tb.x0, .int .u8 p.tb.x1, .int .u8 p.tb.x2, .int .u8 p.tb.x3, .int .u8 p.tb.x4, .int .u8 p.tb.x5, .int .u8 p.tb.x6, .int .u8 p.tb.x7, .slice Ax k cx, .int .i64 p.s0, .int .i64 p.s1, .slice An nn cn, .slice Af nf cf] _ _ _ rfl rfl HS1.out Tryz.underlying32 rfl (by kernel_rfl)) rfl ?_
   exact ⟨Ax, cx, rfl, own_weak (HO.out.kept HS2.out (.inr fun e => own_ne HO.out HYr.out (by decide) e.symm)) hw1, HBr.out.grown HS2.out HBr.out.size (fun g hg => by injection hg with hg; omega)⟩
set_option maxRecDepth 100000 in
set_option maxHeartbeats 8000000 in
theorem to_any (p : Pl) (Ak : Option Addr) (nk ck : Nat) (An : Option Addr) (nn cn : Nat) (Af : Option Addr) (nf cf : Nat) (w : World) (h : p.At Ak nk ck An nn Af nf w) :
  Calls Tryz.prog 30 #[.agg #[.int .u8 p.tb.x0, .int .u8 p.tb.x1, .int .u8 p.tb.x2, .int .u8 p.tb.x3, .int .u8 p.tb.x4, .int .u8 p.tb.x5, .int .u8 p.tb.x6, .int .u8 p.tb.x7, .slice Ak nk ck, .int .i64 p.s0, .int .i64 p.s1, .slice An nn cn, .slice Af nf cf]] w fun e w' => ∃ (Ax : Option Addr) (cx : Nat), e = .returned (.agg #[.int .u8 p.tb.x0, .int .u8 p.tb.x1, .int .u8 p.tb.x2, .int .u8 p.tb.x3, .int .u8 p.tb.x4, .int .u8 p.tb.x5, .int .u8 p.tb.x6, .int .u8 p.tb.x7, .slice Ax nk cx, .int .i64 p.s0, .int .i64 p.s1, .slice An nn cn, .slice Af nf cf]) ∧ w'.ownsRow w.heap.size 26 8 (.slice Ax nk cx) nk (flatD p.ks) ∧ Below w.heap.size w w' := by
 have HX : Hid (((w.alloc (.cells #[.int .u8 p.tb.x0, .int .u8 p.tb.x1, .int .u8 p.tb.x2, .int .u8 p.tb.x3, .int .u8 p.tb.x4, .int .u8 p.tb.x5, .int .u8 p.tb.x6, .int .u8 p.tb.x7, .slice Ak nk ck, .int .i64 p.s0, .int .i64 p.s1, .slice An nn cn, .slice Af nf cf] 32)).alloc (.cells #[.int .u8 0, .int .u8 0, .int .u8 0, .int .u8 0, .int .u8 0, .int .u8 0, .int .u8 0, .int .u8 0, .slice none 0 0, .int .i64 0, .int .i64 0, .slice none 0 0, .slice none 0 0] 65)).heap[w.heap.size]? = some (.cells #[.int .u8 p.tb.x0, .int .u8 p.tb.x1, .int .u8 p.tb.x2, .int .u8 p.tb.x3, .int .u8 p.tb.x4, .int .u8 p.tb.x5, .int .u8 p.tb.x6, .int .u8 p.tb.x7, .slice Ak nk ck, .int .i64 p.s0, .int .i64 p.s1, .slice An nn cn, .slice Af nf cf] 32 (0, 0))) := block_alloc (heap_alloc_new _ _) _
 have HY : Hid (((w.alloc (.cells #[.int .u8 p.tb.x0, .int .u8 p.tb.x1, .int .u8 p.tb.x2, .int .u8 p.tb.x3, .int .u8 p.tb.x4, .int .u8 p.tb.x5, .int .u8 p.tb.x6, .int .u8 p.tb.x7, .slice Ak nk ck, .int .i64 p.s0, .int .i64 p.s1, .slice An nn cn, .slice Af nf cf] 32)).alloc (.cells #[.int .u8 0, .int .u8 0, .int .u8 0, .int .u8 0, .int .u8 0, .int .u8 0, .int .u8 0, .int .u8 0, .slice none 0 0, .int .i64 0, .int .i64 0, .slice none 0 0, .slice none 0 0] 65)).heap[w.heap.size + 1]? = some (.cells #[.int .u8 0, .int .u8 0, .int .u8 0, .int .u8 0, .int .u8 0, .int .u8 0, .int .u8 0, .int .u8 0, .slice none 0 0, .int .i64 0, .int .i64 0, .slice none 0 0, .slice none 0 0] 65 (0, 0))) := alloc_at (by simp)
 have Hw : Hid (Below w.heap.size w ((w.alloc (.cells #[.int .u8 p.tb.x0, .int .u8 p.tb.x1, .int .u8 p.tb.x2, .int .u8 p.tb.x3, .int .u8 p.tb.x4, .int .u8 p.tb.x5, .int .u8 p.tb.x6, .int .u8 p.tb.x7, .slice Ak nk ck, .int .i64 p.s0, .int .i64 p.s1, .slice An nn cn, .slice Af nf cf] 32)).alloc (.cells #[.int .u8 0, .int .u8 0, .int .u8 0, .int .u8 0, .int .u8 0, .int .u8 0, .int .u8 0, .int .u8 0, .slice none 0 0, .int .i64 0, .int .i64 0, .slice none 0 0, .slice none 0 0] 65))) := below_two _ _ _
 have Hz : Hid (((w.alloc (.cells #[.int .u8 p.tb.x0, .int .u8 p.tb.x1, .int .u8 p.tb.x2, .int .u8 p.tb.x3, .int .u8 p.tb.x4, .int .u8 p.tb.x5, .int .u8 p.tb.x6, .int .u8 p.tb.x7, .slice Ak nk ck, .int .i64 p.s0, .int .i64 p.s1, .slice An nn cn, .slice Af nf cf] 32)).alloc (.cells #[.int .u8 0, .int .u8 0, .int .u8 0, .int .u8 0, .int .u8 0, .int .u8 0, .int .u8 0, .int .u8 0, .slice none 0 0, .int .i64 0, .int .i64 0, .slice none 0 0, .slice none 0 0] 65)).heap.size = w.heap.size + 2) := by show _ = _; simp
 have H := Lib.hid h
 have Hl := Lib.hid h.k.dlenD
 have hbk := h.bk
 clear h
 obtain ⟨i0, hi, hz0, hz1, hz2⟩ := info_parts info_digR
 have HI := Lib.hid (And.intro hi (And.intro hz0 (And.intro hz1 hz2))); clear hi hz0 hz1 hz2
 go_enter Tryz.func30, Tryz.ntmps30
 go_upto_region 1 with fail
 generalize (w.alloc (.cells #[.int .u8 p.tb.x0, .int .u8 p.tb.x1, .int .u8 p.tb.x2, .int .u8 p.tb.x3, .int .u8 p.tb.x4, .int .u8 p.tb.x5, .int .u8 p.tb.x6, .int .u8 p.tb.x7, .slice Ak nk ck, .int .i64 p.s0, .int .i64 p.s1, .slice An nn cn, .slice Af nf cf] 32)).alloc (.cells #[.int .u8 0, .int .u8 0, .int .u8 0, .int .u8 0, .int .u8 0, .int .u8 0, .int .u8 0, .int .u8 0, .slice none 0 0, .int .i64 0, .int .i64 0, .slice none 0 0, .slice none 0 0] 65) = w0 at *
 have z := block_cell HX.out
 have z0 := z 0; have z1 := z 1; have z2 := z 2; have z3 := z 3; have z4 := z 4; have z5 := z 5; have z6 := z 6; have z7 := z 7; have z8 := z 8; have z9 := z 9; have z10 := z 10; have z11 := z 11; have z12 := z 12
 simp at z0 z1 z2 z3 z4 z5 z6 z7 z8 z9 z10 z11 z12
 clear z
 go_upto_region 2 with fail
 have HP0 : Hid ((w0.alloc (.cells #[.int .u8 p.tb.x0, .int .u8 p.tb.x1, .int .u8 p.tb.x2, .int .u8 p.tb.x3, .int .u8 p.tb.x4, .int .u8 p.tb.x5, .int .u8 p.tb.x6, .int .u8 p.tb.x7, .slice none 0 0, .int .i64 p.s0, .int .i64 p.s1, .slice An nn cn, .slice Af nf cf] 65)).heap[w0.heap.size]? = some (.cells #[.int .u8 p.tb.x0, .int .u8 p.tb.x1, .int .u8 p.tb.x2, .int .u8 p.tb.x3, .int .u8 p.tb.x4, .int .u8 p.tb.x5, .int .u8 p.tb.x6, .int .u8 p.tb.x7, .slice none 0 0, .int .i64 p.s0, .int .i64 p.s1, .slice An nn cn, .slice Af nf cf] 65 (0, 0))) := heap_alloc_new _ _
 have HX1 := Lib.hid (block_alloc HX.out (.cells #[.int .u8 p.tb.x0, .int .u8 p.tb.x1, .int .u8 p.tb.x2, .int .u8 p.tb.x3, .int .u8 p.tb.x4, .int .u8 p.tb.x5, .int .u8 p.tb.x6, .int .u8 p.tb.x7, .slice none 0 0, .int .i64 p.s0, .int .i64 p.s1, .slice An nn cn, .slice Af nf cf] 65))
 have HY1 := Lib.hid (block_alloc HY.out (.cells #[.int .u8 p.tb.x0, .int .u8 p.tb.x1, .int .u8 p.tb.x2, .int .u8 p.tb.x3, .int .u8 p.tb.x4, .int .u8 p.tb.x5, .int .u8 p.tb.x6, .int .u8 p.tb.x7, .slice none 0 0, .int .i64 p.s0, .int .i64 p.s1, .slice An nn cn, .slice Af nf cf] 65))
 have Hw1 := Lib.hid (Hw.out.alloc Hw.out.size (.cells #[.int .u8 p.tb.x0, .int .u8 p.tb.x1, .int .u8 p.tb.x2, .int .u8 p.tb.x3, .int .u8 p.tb.x4, .int .u8 p.tb.x5, .int .u8 p.tb.x6, .int .u8 p.tb.x7, .slice none 0 0, .int .i64 p.s0, .int .i64 p.s1, .slice An nn cn, .slice Af nf cf] 65))
 have hz1 : (w0.alloc (.cells #[.int .u8 p.tb.x0, .int .u8 p.tb.x1, .int .u8 p.tb.x2, .int .u8 p.tb.x3, .int .u8 p.tb.x4, .int .u8 p.tb.x5, .int .u8 p.tb.x6, .int .u8 p.tb.x7, .slice none 0 0, .int .i64 p.s0, .int .i64 p.s1, .slice An nn cn, .slice Af nf cf] 65)).heap.size = w0.heap.size + 1 := by simp
 generalize w0.alloc (.cells #[.int .u8 p.tb.x0, .int .u8 p.tb.x1, .int .u8 p.tb.x2, .int .u8 p.tb.x3, .int .u8 p.tb.x4, .int .u8 p.tb.x5, .int .u8 p.tb.x6, .int .u8 p.tb.x7, .slice none 0 0, .int .i64 p.s0, .int .i64 p.s1, .slice An nn cn, .slice Af nf cf] 65) = w1 at *
 have Hz1 := Lib.hid hz1
 clear hz1 z0 z1 z2 z3 z4 z5 z6 z7 z8 z9 z10 z11 z12 HX
 have z := block_cell HX1.out
 have z0 := z 0; have z1 := z 1; have z2 := z 2; have z3 := z 3; have z4 := z 4; have z5 := z 5; have z6 := z 6; have z7 := z 7; have z8 := z 8; have z9 := z 9; have z10 := z 10; have z11 := z 11; have z12 := z 12
 simp at z0 z1 z2 z3 z4 z5 z6 z7 z8 z9 z10 z11 z12
 clear z
 go_upto_region 3 with fail
 go_loopw [18] (fun i wz => ∃ (k : Nat) (Ax : Option Addr) (cx : Nat), k ≤ nk ∧ i = .int .i64 k ∧ Hid (wz.heap[w0.heap.size]? = some (.cells #[.int .u8 p.tb.x0, .int .u8 p.tb.x1, .int .u8 p.tb.x2, .int .u8 p.tb.x3, .int .u8 p.tb.x4, .int .u8 p.tb.x5, .int .u8 p.tb.x6, .int .u8 p.tb.x7, .slice Ax k cx, .int .i64 p.s0, .int .i64 p.s1, .slice An nn cn, .slice Af nf cf] 65 (0, 0))) ∧ Hid (wz.ownsRow w1.heap.size 26 8 (.slice Ax k cx) k (flatD (p.ks.take k))) ∧ Hid (w1.grownBy wz (some w0.heap.size))) (fun i _ => nk - (RowKit.intOf i).toNat)
 case atStart => exact ⟨0, none, 0, by omega, rfl, HP0, Lib.hid (World.ownsRow_nil _ _ _ _), Lib.hid (World.grownBy.refl _ _)⟩
 case round =>
  obtain ⟨k, Ax, cx, hk, rfl, HP, HO, HG⟩ := hrel
  by_cases hlt : k < nk
  ·have hd1 : decide ((k : Int) < (nk : Int)) = true := decide_eq_true (by omega)
   have hki : (k : Int) < (nk : Int) := by omega
   have hbr : Below w.heap.size w wr := Hw1.out.grown HG.out Hw1.out.size (fun g hg => by cases hg; have := Hz.out; omega)
   obtain ⟨b, o, rfl, hbB, x0, x1, x2, x3, x4, x5, x6, x7⟩ := (H.out.k.below hbr (Nat.le_refl _)).di8v hlt
   have Htk := Lib.hid (take_row p.ks (k := k) (by rw [Hl.out]; exact hlt))
   generalize p.ks.getD k dz8 = d at *
   have hgs : w1.heap.size ≤ wr.heap.size := HG.out.size
   clear hbr
   go_upto_region 5 with fail
   have HD : Hid ((wr.alloc (.cells #[.int .u8 d.x0, .int .u8 d.x1, .int .u8 d.x2, .int .u8 d.x3, .int .u8 d.x4, .int .u8 d.x5, .int .u8 d.x6, .int .u8 d.x7] 27)).heap[wr.heap.size]? = some (.cells #[.int .u8 d.x0, .int .u8 d.x1, .int .u8 d.x2, .int .u8 d.x3, .int .u8 d.x4, .int .u8 d.x5, .int .u8 d.x6, .int .u8 d.x7] 27 (0, 0))) := heap_alloc_new _ _
   have HP5 := Lib.hid (block_alloc HP.out (.cells #[.int .u8 d.x0, .int .u8 d.x1, .int .u8 d.x2, .int .u8 d.x3, .int .u8 d.x4, .int .u8 d.x5, .int .u8 d.x6, .int .u8 d.x7] 27))
   have HO5 := Lib.hid (HO.out.alloc (.cells #[.int .u8 d.x0, .int .u8 d.x1, .int .u8 d.x2, .int .u8 d.x3, .int .u8 d.x4, .int .u8 d.x5, .int .u8 d.x6, .int .u8 d.x7] 27))
   have HG5 := Lib.hid (grown_alloc HG.out (.cells #[.int .u8 d.x0, .int .u8 d.x1, .int .u8 d.x2, .int .u8 d.x3, .int .u8 d.x4, .int .u8 d.x5, .int .u8 d.x6, .int .u8 d.x7] 27))
   have hgs5 : w1.heap.size ≤ (wr.alloc (.cells #[.int .u8 d.x0, .int .u8 d.x1, .int .u8 d.x2, .int .u8 d.x3, .int .u8 d.x4, .int .u8 d.x5, .int .u8 d.x6, .int .u8 d.x7] 27)).heap.size := by simp; omega
   generalize wr.alloc (.cells #[.int .u8 d.x0, .int .u8 d.x1, .int .u8 d.x2, .int .u8 d.x3, .int .u8 d.x4, .int .u8 d.x5, .int .u8 d.x6, .int .u8 d.x7] 27) = w5 at *
   clear z0 z1 z2 z3 z4 z5 z6 z7 z8 z9 z10 z11 z12
   have y := block_cell HD.out
   have y0 := y 0; have y1 := y 1; have y2 := y 2; have y3 := y 3; have y4 := y 4; have y5 := y 5; have y6 := y 6; have y7 := y 7
   simp at y0 y1 y2 y3 y4 y5 y6 y7
   clear y
   obtain ⟨zf, z0, z1, z2, z3, z4, z5, z6, z7, z8, z9, z10, z11, z12⟩ := free13 HP5.out
   go_upto_region 6 with (at_builtin; go_must (refine append_at w5 (by rfl) _ _ 63 (by rfl) w1.heap.size 26 i0 (.agg #[.int .u8 0, .int .u8 0, .int .u8 0, .int .u8 0, .int .u8 0, .int .u8 0, .int .u8 0, .int .u8 0]) 8 8 Tryz.underlying63 HI.out rfl (by decide) _ _ _ (by rfl) HO5.out 1 1 #[.int .u8 d.x0, .int .u8 d.x1, .int .u8 d.x2, .int .u8 d.x3, .int .u8 d.x4, .int .u8 d.x5, .int .u8 d.x6, .int .u8 d.x7] 26 (by simp [Act.eval]) rfl (by simp [Value.oneCell']) (by omega) (by omega) hgs5 ?_; intro v7 w7 own7 bel7 gr7 at7; obtain ⟨A7, c7, rfl⟩ := own_form own7; have O7 := Lib.hid own7; have HP7 := Lib.hid (block_grown (block_alloc HP5.out (.cells #[.int .u8 d.x0, .int .u8 d.x1, .int .u8 d.x2, .int .u8 d.x3, .int .u8 d.x4, .int .u8 d.x5, .int .u8 d.x6, .int .u8 d.x7] 26)) gr7 (own_ne HO5.out HP5.out (by decide))); have GR7 := Lib.hid gr7; clear own7 bel7 gr7 at7 z0 z1 z2 z3 z4 z5 z6 z7 z8 z9 z10 z11 z12 zf; obtain ⟨zf, z0, z1, z2, z3, z4, z5, z6, z7, z8, z9, z10, z11, z12⟩ := free13 HP7.out))
   have h8 := Joins.block_setCell (i := 8) HP7.out (.slice A7 (k + 1) c7)
   have g8 := pgrown_set (w := w7) w0.heap.size 8 (.slice A7 (k + 1) c7)
   simp at h8
   have HP8 := Lib.hid h8
   have O8 := Lib.hid (O7.out.kept g8 (.inr fun e => own_ne O7.out HP7.out (by decide) e.symm))
   have HG8 : Hid (w1.grownBy (w7.setCell ⟨w0.heap.size, 8, none⟩ (.slice A7 (k + 1) c7)) (some w0.heap.size)) :=
    Lib.hid ((grown_row (grown_alloc HG5.out _) GR7.out (fun g hg => (HO5.out.lt g hg).1)).trans g8)
   clear h8 g8
   go_wp2
   go_roundw
   case rel => exact ⟨k + 1, A7, c7, hlt, by go_num, HP8, Lib.hid (by rw [Htk.out]; exact O8.out), HG8⟩
   case measure => simp [RowKit.intOf]; omega
  ·obtain rfl : k = nk := by omega
   have hd1 : decide ((k : Int) < (k : Int)) = false := decide_eq_false (by omega)
   have HBr : Hid (Below w.heap.size w wr) := Lib.hid (Hw1.out.grown HG.out Hw1.out.size (fun g hg => by injection hg with hg; have := Hz.out; omega))
   have HYr := Lib.hid (block_grown HY1.out HG.out (by intro e; injection e with e; have := Hz.out; omega))
   have hw1 := Hw1.out.size
   have htk : p.ks.take k = p.ks := List.take_of_length_le (by rw [Hl.out]; omega)
   rw [htk] at HO
   clear htk
   go_upto_region 7 with fail
   refine wp_region_list ?_
   refine wpList_load_mid (by rfl) 65 _ (by rfl) w0.heap.size 0 (by rfl) [.int .u8 p.tb.x0, .int .u8 p.tb.x1, .int .u8 p.tb.x2, .int .u8 p.tb.x3, .int .u8 p.tb.x4, .int .u8 p.tb.x5, .int .u8 p.tb.x6, .int .u8 p.tb.x7, .slice Ax k cx, .int .i64 p.s0, .int .i64 p.s1, .slice An nn cn, .slice Af nf cf] _ (range_all HP.out) Tryz.underlying65 rfl (by kernel_rfl) ?_
   simp only [Act.put, sT]
   refine wpList_store_mid (by rfl) 65 _ _ (by rfl) (w.heap.size + 1) 0 #[.int .u8 p.tb.x0, .int .u8 p.tb.x1, .int .u8 p.tb.x2, .int .u8 p.tb.x3, .int .u8 p.tb.x4, .int .u8 p.tb.x5, .int .u8 p.tb.x6, .int .u8 p.tb.x7, .slice Ax k cx, .int .i64 p.s0, .int .i64 p.s1, .slice An nn cn, .slice Af nf cf] (by rfl) (by rfl) (there_mid HYr.out (by simp)) (by kernel_rfl) (by kernel_rfl) ?_
   obtain ⟨s1', s2'⟩ := set_all HYr.out [.int .u8 p.tb.x0, .int .u8 p.tb.x1, .int .u8 p.tb.x2, .int .u8 p.tb.x3, .int .u8 p.tb.x4, .int .u8 p.tb.x5, .int .u8 p.tb.x6, .int .u8 p.tb.x7, .slice Ax k cx, .int .i64 p.s0, .int .i64 p.s1, .slice An nn cn, .slice Af nf cf] rfl
   have HS1 := Lib.hid s1'; have HS2 := Lib.hid s2'
   clear s1' s2'
   dsimp only
   generalize World.setCells _ _ _ [.int .u8 p.tb.x0, .int .u8 p.tb.x1, .int .u8 p.tb.x2, .int .u8 p.tb.x3, .int .u8 p.tb.x4, .int .u8 p.tb.x5, .int .u8 p.tb.x6, .int .u8 p.tb.x7, .slice Ax k cx, .int .i64 p.s0, .int .i64 p.s1, .slice An nn cn, .slice Af nf cf] = w11 at *
   go_wp2
   refine bodyPost_ret (results_cell 2 65 (w.heap.size + 1) #[.int .u8 p.tb.x0, .int .u8 p.tb.x1, .int .u8 p.tb.x2, .int .u8 p.tb.x3, .int .u8 p.tb.x4, .int .u8 p.tb.x5, .int .u8 p.tb.x6, .int .u8 p.tb.x7, .slice Ax k cx, .int .i64 p.s0, .int .i64 p.s1, .slice An nn cn, .slice Af nf cf] _ _ _ rfl rfl HS1.out Tryz.underlying65 rfl (by kernel_rfl)) rfl ?_
   exact ⟨Ax, cx, rfl, own_weak (HO.out.kept HS2.out (.inr fun e => own_ne HO.out HYr.out (by decide) e.symm)) hw1, HBr.out.grown HS2.out HBr.out.size (fun g hg => by injection hg with hg; omega)⟩
theorem isAgg_i64P : ∀ w, (isAgg 3).run Tryz.prog w = .ok false w := fun w => by kernel_rfl
theorem info_i64P : ∃ i, Tryz.prog.info? 3 = some i := info_of_underlying Tryz.underlying3
theorem cells_i64P : Tryz.prog.cellsOf 3 = 1 := by kernel_rfl
theorem two_reflP (a b : Int) : ∀ u, (binOp .neq 29 (.agg #[.int .i64 a, .int .i64 b]) (.agg #[.int .i64 a, .int .i64 b])).run Tryz.prog u = .ok (.bool false) u := by
 intro u
 obtain ⟨i, hi⟩ := info_i64P
 have h : (Op.equalIn (9998 + 2) 29 (.agg #[.int .i64 a, .int .i64 b]) (.agg #[.int .i64 a, .int .i64 b])).run Tryz.prog u = .ok (eqI [a, b] [a, b]) u :=
  eqArr Tryz.underlying29 hi cells_i64P isAgg_i64P Tryz.underlying3 [a, b] [a, b] rfl rfl 9998 u
 rw [run_neq_struct, show (10000 : Nat) = 9998 + 2 from rfl, h]
 have e : eqI [a, b] [a, b] = true := by simp [eqI]
 rw [e]
 rfl
theorem two_guardP (a b : Int) (x y : Operand) (u : World) : (eqGuard .neq 29 x y (.agg #[.int .i64 a, .int .i64 b]) (.agg #[.int .i64 a, .int .i64 b])).run Tryz.prog u = .ok () u := run_eqGuard_agg _ _ _ _ _ _ _ (by kernel_rfl)
set_option maxRecDepth 100000 in
set_option maxHeartbeats 8000000 in
theorem samer_any (p : Pl) (Ak : Option Addr) (nk ck : Nat) (An : Option Addr) (nn cn : Nat) (Af : Option Addr) (nf cf : Nat) (Bk : Option Addr) (ck2 : Nat) (Bn : Option Addr) (cn2 : Nat) (Bf : Option Addr) (cf2 : Nat) (w : World) (h : p.At Ak nk ck An nn Af nf w) (g : p.At Bk nk ck2 Bn nn Bf nf w) :
  Calls Tryz.prog 29 #[.agg #[.int .u8 p.tb.x0, .int .u8 p.tb.x1, .int .u8 p.tb.x2, .int .u8 p.tb.x3, .int .u8 p.tb.x4, .int .u8 p.tb.x5, .int .u8 p.tb.x6, .int .u8 p.tb.x7, .slice Ak nk ck, .int .i64 p.s0, .int .i64 p.s1, .slice An nn cn, .slice Af nf cf], .agg #[.int .u8 p.tb.x0, .int .u8 p.tb.x1, .int .u8 p.tb.x2, .int .u8 p.tb.x3, .int .u8 p.tb.x4, .int .u8 p.tb.x5, .int .u8 p.tb.x6, .int .u8 p.tb.x7, .slice Bk nk ck2, .int .i64 p.s0, .int .i64 p.s1, .slice Bn nn cn2, .slice Bf nf cf2]] w fun e w' => e = .returned (.bool true) ∧ Below w.heap.size w w' := by
 have HX : Hid (((w.alloc (.cells #[.int .u8 p.tb.x0, .int .u8 p.tb.x1, .int .u8 p.tb.x2, .int .u8 p.tb.x3, .int .u8 p.tb.x4, .int .u8 p.tb.x5, .int .u8 p.tb.x6, .int .u8 p.tb.x7, .slice Ak nk ck, .int .i64 p.s0, .int .i64 p.s1, .slice An nn cn, .slice Af nf cf] 65)).alloc (.cells #[.int .u8 p.tb.x0, .int .u8 p.tb.x1, .int .u8 p.tb.x2, .int .u8 p.tb.x3, .int .u8 p.tb.x4, .int .u8 p.tb.x5, .int .u8 p.tb.x6, .int .u8 p.tb.x7, .slice Bk nk ck2, .int .i64 p.s0, .int .i64 p.s1, .slice Bn nn cn2, .slice Bf nf cf2] 65)).heap[w.heap.size]? = some (.cells #[.int .u8 p.tb.x0, .int .u8 p.tb.x1, .int .u8 p.tb.x2, .int .u8 p.tb.x3, .int .u8 p.tb.x4, .int .u8 p.tb.x5, .int .u8 p.tb.x6, .int .u8 p.tb.x7, .slice Ak nk ck, .int .i64 p.s0, .int .i64 p.s1, .slice An nn cn, .slice Af nf cf] 65 (0, 0))) := block_alloc (heap_alloc_new _ _) _
 have HY : Hid (((w.alloc (.cells #[.int .u8 p.tb.x0, .int .u8 p.tb.x1, .int .u8 p.tb.x2, .int .u8 p.tb.x3, .int .u8 p.tb.x4, .int .u8 p.tb.x5, .int .u8 p.tb.x6, .int .u8 p.tb.x7, .slice Ak nk ck, .int .i64 p.s0, .int .i64 p.s1, .slice An nn cn, .slice Af nf cf] 65)).alloc (.cells #[.int .u8 p.tb.x0, .int .u8 p.tb.x1, .int .u8 p.tb.x2, .int .u8 p.tb.x3, .int .u8 p.tb.x4, .int .u8 p.tb.x5, .int .u8 p.tb.x6, .int .u8 p.tb.x7, .slice Bk nk ck2, .int .i64 p.s0, .int .i64 p.s1, .slice Bn nn cn2, .slice Bf nf cf2] 65)).heap[w.heap.size + 1]? = some (.cells #[.int .u8 p.tb.x0, .int .u8 p.tb.x1, .int .u8 p.tb.x2, .int .u8 p.tb.x3, .int .u8 p.tb.x4, .int .u8 p.tb.x5, .int .u8 p.tb.x6, .int .u8 p.tb.x7, .slice Bk nk ck2, .int .i64 p.s0, .int .i64 p.s1, .slice Bn nn cn2, .slice Bf nf cf2] 65 (0, 0))) := alloc_at (by simp)
 have Hw : Hid (Below w.heap.size w ((w.alloc (.cells #[.int .u8 p.tb.x0, .int .u8 p.tb.x1, .int .u8 p.tb.x2, .int .u8 p.tb.x3, .int .u8 p.tb.x4, .int .u8 p.tb.x5, .int .u8 p.tb.x6, .int .u8 p.tb.x7, .slice Ak nk ck, .int .i64 p.s0, .int .i64 p.s1, .slice An nn cn, .slice Af nf cf] 65)).alloc (.cells #[.int .u8 p.tb.x0, .int .u8 p.tb.x1, .int .u8 p.tb.x2, .int .u8 p.tb.x3, .int .u8 p.tb.x4, .int .u8 p.tb.x5, .int .u8 p.tb.x6, .int .u8 p.tb.x7, .slice Bk nk ck2, .int .i64 p.s0, .int .i64 p.s1, .slice Bn nn cn2, .slice Bf nf cf2] 65))) := below_two _ _ _
 have Hz : Hid (((w.alloc (.cells #[.int .u8 p.tb.x0, .int .u8 p.tb.x1, .int .u8 p.tb.x2, .int .u8 p.tb.x3, .int .u8 p.tb.x4, .int .u8 p.tb.x5, .int .u8 p.tb.x6, .int .u8 p.tb.x7, .slice Ak nk ck, .int .i64 p.s0, .int .i64 p.s1, .slice An nn cn, .slice Af nf cf] 65)).alloc (.cells #[.int .u8 p.tb.x0, .int .u8 p.tb.x1, .int .u8 p.tb.x2, .int .u8 p.tb.x3, .int .u8 p.tb.x4, .int .u8 p.tb.x5, .int .u8 p.tb.x6, .int .u8 p.tb.x7, .slice Bk nk ck2, .int .i64 p.s0, .int .i64 p.s1, .slice Bn nn cn2, .slice Bf nf cf2] 65)).heap.size = w.heap.size + 2) := by show _ = _; simp
 have H := Lib.hid h; have G := Lib.hid g
 have hbk := h.bk; have hbn := h.bn; have hbf := h.bf
 clear h g
 have hneq := neq_digR
 have htwo := two_reflP p.s0 p.s1
 have c5 : eqI [(p.tb.x0 : Int), (p.tb.x1 : Int), (p.tb.x2 : Int), (p.tb.x3 : Int), (p.tb.x4 : Int), (p.tb.x5 : Int), (p.tb.x6 : Int), (p.tb.x7 : Int)] [(p.tb.x0 : Int), (p.tb.x1 : Int), (p.tb.x2 : Int), (p.tb.x3 : Int), (p.tb.x4 : Int), (p.tb.x5 : Int), (p.tb.x6 : Int), (p.tb.x7 : Int)] = true := eqI_iff.2 rfl
 go_enter Tryz.func29, Tryz.ntmps29
 go_upto_region 1 with fail
 generalize (w.alloc (.cells #[.int .u8 p.tb.x0, .int .u8 p.tb.x1, .int .u8 p.tb.x2, .int .u8 p.tb.x3, .int .u8 p.tb.x4, .int .u8 p.tb.x5, .int .u8 p.tb.x6, .int .u8 p.tb.x7, .slice Ak nk ck, .int .i64 p.s0, .int .i64 p.s1, .slice An nn cn, .slice Af nf cf] 65)).alloc (.cells #[.int .u8 p.tb.x0, .int .u8 p.tb.x1, .int .u8 p.tb.x2, .int .u8 p.tb.x3, .int .u8 p.tb.x4, .int .u8 p.tb.x5, .int .u8 p.tb.x6, .int .u8 p.tb.x7, .slice Bk nk ck2, .int .i64 p.s0, .int .i64 p.s1, .slice Bn nn cn2, .slice Bf nf cf2] 65) = w0 at *
 have hzx : w.heap.size < w0.heap.size := by have := Hz.out; omega
 have hzy : w.heap.size + 1 < w0.heap.size := by have := Hz.out; omega
 have z := block_cell HX.out
 have z0 := z 0; have z1 := z 1; have z2 := z 2; have z3 := z 3; have z4 := z 4; have z5 := z 5; have z6 := z 6; have z7 := z 7; have z8 := z 8; have z9 := z 9; have z10 := z 10; have z11 := z 11; have z12 := z 12
 simp at z0 z1 z2 z3 z4 z5 z6 z7 z8 z9 z10 z11 z12
 clear z
 have y := block_cell HY.out
 have y0 := y 0; have y1 := y 1; have y2 := y 2; have y3 := y 3; have y4 := y 4; have y5 := y 5; have y6 := y 6; have y7 := y 7; have y8 := y 8; have y9 := y 9; have y10 := y 10; have y11 := y 11; have y12 := y 12
 simp at y0 y1 y2 y3 y4 y5 y6 y7 y8 y9 y10 y11 y12
 clear y
 go_upto_region 3 with fail
 go_wp2_with fail
 clear z0 z1 z2 z3 z4 z5 z6 z7 z8 z9 z10 z11 z12 y0 y1 y2 y3 y4 y5 y6 y7 y8 y9 y10 y11 y12 c5 htwo
 have HB : Hid (Below w0.heap.size w0 w0) := Lib.hid (Below.refl _ _)
 go_loopw [5] (fun i wz => ∃ k : Nat, k ≤ nk ∧ i = .int .i64 k ∧ Hid (Below w0.heap.size w0 wz)) (fun i _ => nk - (RowKit.intOf i).toNat)
 case atStart => exact ⟨0, by omega, rfl, HB⟩
 case round =>
  obtain ⟨k, hk, rfl, HB⟩ := hrel
  have HXr := Lib.hid (block_below HX.out HB.out hzx)
  have HYr := Lib.hid (block_below HY.out HB.out hzy)
  have z := block_cell HXr.out
  have z0 := z 0; have z1 := z 1; have z2 := z 2; have z3 := z 3; have z4 := z 4; have z5 := z 5; have z6 := z 6; have z7 := z 7; have z8 := z 8; have z9 := z 9; have z10 := z 10; have z11 := z 11; have z12 := z 12
  simp at z0 z1 z2 z3 z4 z5 z6 z7 z8 z9 z10 z11 z12
  clear z
  have y := block_cell HYr.out
  have y0 := y 0; have y1 := y 1; have y2 := y 2; have y3 := y 3; have y4 := y 4; have y5 := y 5; have y6 := y 6; have y7 := y 7; have y8 := y 8; have y9 := y 9; have y10 := y 10; have y11 := y 11; have y12 := y 12
  simp at y0 y1 y2 y3 y4 y5 y6 y7 y8 y9 y10 y11 y12
  clear y
  by_cases hlt : k < nk
  ·have hd1 : decide ((k : Int) < (nk : Int)) = true := decide_eq_true (by omega)
   have hki : (k : Int) < (nk : Int) := by omega
   obtain ⟨b, o, rfl, hbB, x0, x1, x2, x3, x4, x5, x6, x7⟩ := ((H.out.k.below Hw.out (Nat.le_refl _)).below HB.out (by have := Hz.out; omega)).di8v hlt
   obtain ⟨b', o', rfl, hbB', v0, v1, v2, v3, v4, v5, v6, v7⟩ := ((G.out.k.below Hw.out (Nat.le_refl _)).below HB.out (by have := Hz.out; omega)).di8v hlt
   generalize p.ks.getD k dz8 = d at *
   have c5 : eqI [(d.x0 : Int), (d.x1 : Int), (d.x2 : Int), (d.x3 : Int), (d.x4 : Int), (d.x5 : Int), (d.x6 : Int), (d.x7 : Int)] [(d.x0 : Int), (d.x1 : Int), (d.x2 : Int), (d.x3 : Int), (d.x4 : Int), (d.x5 : Int), (d.x6 : Int), (d.x7 : Int)] = true := eqI_iff.2 rfl
   go_wp2
   go_region
   all_goals
    go_wp2
    go_roundw
    case rel => exact ⟨k + 1, by omega, by go_num, Lib.hid HB.out.drew⟩
    case measure => simp [RowKit.intOf]; omega
  ·obtain rfl : k = nk := by omega
   have hd1 : decide ((k : Int) < (k : Int)) = false := decide_eq_false (by omega)
   go_upto_region 8 with fail
   go_wp2_with fail
   clear z0 z1 z2 z3 z4 z5 z6 z7 z8 z9 z10 z11 z12 y0 y1 y2 y3 y4 y5 y6 y7 y8 y9 y10 y11 y12 HXr HYr hd1 hlt
   go_loopw [6] (fun i wz => ∃ k : Nat, k ≤ nn ∧ i = .int .i64 k ∧ Hid (Below w0.heap.size w0 wz)) (fun i _ => nn - (RowKit.intOf i).toNat)
   case atStart => exact ⟨0, by omega, rfl, HB⟩
   case round =>
    obtain ⟨k, hk, rfl, HB⟩ := hrel
    have HXr := Lib.hid (block_below HX.out HB.out hzx)
    have HYr := Lib.hid (block_below HY.out HB.out hzy)
    have z := block_cell HXr.out
    have z0 := z 0; have z1 := z 1; have z2 := z 2; have z3 := z 3; have z4 := z 4; have z5 := z 5; have z6 := z 6; have z7 := z 7; have z8 := z 8; have z9 := z 9; have z10 := z 10; have z11 := z 11; have z12 := z 12
    simp at z0 z1 z2 z3 z4 z5 z6 z7 z8 z9 z10 z11 z12
    clear z
    have y := block_cell HYr.out
    have y0 := y 0; have y1 := y 1; have y2 := y 2; have y3 := y 3; have y4 := y 4; have y5 := y 5; have y6 := y 6; have y7 := y 7; have y8 := y 8; have y9 := y 9; have y10 := y 10; have y11 := y 11; have y12 := y 12
    simp at y0 y1 y2 y3 y4 y5 y6 y7 y8 y9 y10 y11 y12
    clear y
    by_cases hlt : k < nn
    ·have hd1 : decide ((k : Int) < (nn : Int)) = true := decide_eq_true (by omega)
     have hki : (k : Int) < (nn : Int) := by omega
     obtain ⟨b, o, rfl, hbB, x0⟩ := ((H.out.n.below Hw.out (Nat.le_refl _)).below HB.out (by have := Hz.out; omega)).iat hlt
     obtain ⟨b', o', rfl, hbB', v0⟩ := ((G.out.n.below Hw.out (Nat.le_refl _)).below HB.out (by have := Hz.out; omega)).iat hlt
     generalize p.nr.getD k 0 = gv at *
     go_wp2
     go_region
     all_goals
      go_wp2
      go_roundw
      case rel => exact ⟨k + 1, by omega, by go_num, Lib.hid HB.out.drew⟩
      case measure => simp [RowKit.intOf]; omega
    ·obtain rfl : k = nn := by omega
     have hd1 : decide ((k : Int) < (k : Int)) = false := decide_eq_false (by omega)
     (go_upto_region 13 with fail; go_wp2_with fail)
     clear z0 z1 z2 z3 z4 z5 z6 z7 z8 z9 z10 z11 z12 y0 y1 y2 y3 y4 y5 y6 y7 y8 y9 y10 y11 y12 HXr HYr hd1 hlt
     go_loopw [7] (fun i wz => ∃ k : Nat, k ≤ nf ∧ i = .int .i64 k ∧ Hid (Below w0.heap.size w0 wz)) (fun i _ => nf - (RowKit.intOf i).toNat)
     case atStart => exact ⟨0, by omega, rfl, HB⟩
     case round =>
      obtain ⟨k, hk, rfl, HB⟩ := hrel
      have HXr := Lib.hid (block_below HX.out HB.out hzx)
      have HYr := Lib.hid (block_below HY.out HB.out hzy)
      have z := block_cell HXr.out
      have z0 := z 0; have z1 := z 1; have z2 := z 2; have z3 := z 3; have z4 := z 4; have z5 := z 5; have z6 := z 6; have z7 := z 7; have z8 := z 8; have z9 := z 9; have z10 := z 10; have z11 := z 11; have z12 := z 12
      simp at z0 z1 z2 z3 z4 z5 z6 z7 z8 z9 z10 z11 z12
      clear z
      have y := block_cell HYr.out
      have y0 := y 0; have y1 := y 1; have y2 := y 2; have y3 := y 3; have y4 := y 4; have y5 := y 5; have y6 := y 6; have y7 := y 7; have y8 := y 8; have y9 := y 9; have y10 := y 10; have y11 := y 11; have y12 := y 12
      simp at y0 y1 y2 y3 y4 y5 y6 y7 y8 y9 y10 y11 y12
      clear y
      by_cases hlt : k < nf
      ·have hd1 : decide ((k : Int) < (nf : Int)) = true := decide_eq_true (by omega)
       have hki : (k : Int) < (nf : Int) := by omega
       obtain ⟨b, o, rfl, hbB, x0⟩ := ((H.out.f.below Hw.out (Nat.le_refl _)).below HB.out (by have := Hz.out; omega)).iat hlt
       obtain ⟨b', o', rfl, hbB', v0⟩ := ((G.out.f.below Hw.out (Nat.le_refl _)).below HB.out (by have := Hz.out; omega)).iat hlt
       generalize p.fr.getD k 0 = gv at *
       go_wp2
       go_region
       all_goals
        go_wp2
        go_roundw
        case rel => exact ⟨k + 1, by omega, by go_num, Lib.hid HB.out.drew⟩
        case measure => simp [RowKit.intOf]; omega
      ·obtain rfl : k = nf := by omega
       have hd1 : decide ((k : Int) < (k : Int)) = false := decide_eq_false (by omega)
       go_wp2
       clear z0 z1 z2 z3 z4 z5 z6 z7 z8 z9 z10 z11 z12 y0 y1 y2 y3 y4 y5 y6 y7 y8 y9 y10 y11 y12 HXr HYr hd1 hlt
       go_ret
       exact ⟨rfl, Hw.out.trans (HB.out.mono Hw.out.size)⟩
set_option maxRecDepth 100000 in
set_option maxHeartbeats 4000000 in
theorem pllock_none (p : Pl) (Ak : Option Addr) (nk ck : Nat) (An : Option Addr) (nn cn : Nat) (Af : Option Addr) (nf cf : Nat) (hop wh : Int) (w : World) (hbk : nk ≤ 1000000) (hno : ¬ (0 ≤ hop ∧ hop < (nk : Int) - 1 ∧ hop < (nn : Int) ∧ hop < (nf : Int) ∧ (wh = 0 ∨ wh = 1))) :
  Calls Tryz.prog 16 #[.agg #[.int .u8 p.tb.x0, .int .u8 p.tb.x1, .int .u8 p.tb.x2, .int .u8 p.tb.x3, .int .u8 p.tb.x4, .int .u8 p.tb.x5, .int .u8 p.tb.x6, .int .u8 p.tb.x7, .slice Ak nk ck, .int .i64 p.s0, .int .i64 p.s1, .slice An nn cn, .slice Af nf cf], .int .i64 hop, .int .i64 wh] w fun e w' => e = .returned (.tuple #[.agg #[.int .i64 0, .int .u8 0, .int .u8 0, .int .u8 0, .int .u8 0, .int .u8 0, .int .u8 0, .int .u8 0, .int .u8 0, .slice none 0 0, .int .i64 0, .int .i64 0, .int .i64 0], .int .i64 9]) ∧ Below w.heap.size w w' := by
 have HX0 : Hid (((w.alloc (.cells #[.int .u8 p.tb.x0, .int .u8 p.tb.x1, .int .u8 p.tb.x2, .int .u8 p.tb.x3, .int .u8 p.tb.x4, .int .u8 p.tb.x5, .int .u8 p.tb.x6, .int .u8 p.tb.x7, .slice Ak nk ck, .int .i64 p.s0, .int .i64 p.s1, .slice An nn cn, .slice Af nf cf] 32)).alloc (.cells #[.int .i64 0, .int .u8 0, .int .u8 0, .int .u8 0, .int .u8 0, .int .u8 0, .int .u8 0, .int .u8 0, .int .u8 0, .slice none 0 0, .int .i64 0, .int .i64 0, .int .i64 0] 40)).heap[w.heap.size]? = some (.cells #[.int .u8 p.tb.x0, .int .u8 p.tb.x1, .int .u8 p.tb.x2, .int .u8 p.tb.x3, .int .u8 p.tb.x4, .int .u8 p.tb.x5, .int .u8 p.tb.x6, .int .u8 p.tb.x7, .slice Ak nk ck, .int .i64 p.s0, .int .i64 p.s1, .slice An nn cn, .slice Af nf cf] 32 (0, 0))) := block_alloc (heap_alloc_new _ _) _
 have HY0 : Hid (((w.alloc (.cells #[.int .u8 p.tb.x0, .int .u8 p.tb.x1, .int .u8 p.tb.x2, .int .u8 p.tb.x3, .int .u8 p.tb.x4, .int .u8 p.tb.x5, .int .u8 p.tb.x6, .int .u8 p.tb.x7, .slice Ak nk ck, .int .i64 p.s0, .int .i64 p.s1, .slice An nn cn, .slice Af nf cf] 32)).alloc (.cells #[.int .i64 0, .int .u8 0, .int .u8 0, .int .u8 0, .int .u8 0, .int .u8 0, .int .u8 0, .int .u8 0, .int .u8 0, .slice none 0 0, .int .i64 0, .int .i64 0, .int .i64 0] 40)).heap[w.heap.size + 1]? = some (.cells #[.int .i64 0, .int .u8 0, .int .u8 0, .int .u8 0, .int .u8 0, .int .u8 0, .int .u8 0, .int .u8 0, .int .u8 0, .slice none 0 0, .int .i64 0, .int .i64 0, .int .i64 0] 40 (0, 0))) := alloc_at (by simp)
 have Hb0 : Hid (Below w.heap.size w ((w.alloc (.cells #[.int .u8 p.tb.x0, .int .u8 p.tb.x1, .int .u8 p.tb.x2, .int .u8 p.tb.x3, .int .u8 p.tb.x4, .int .u8 p.tb.x5, .int .u8 p.tb.x6, .int .u8 p.tb.x7, .slice Ak nk ck, .int .i64 p.s0, .int .i64 p.s1, .slice An nn cn, .slice Af nf cf] 32)).alloc (.cells #[.int .i64 0, .int .u8 0, .int .u8 0, .int .u8 0, .int .u8 0, .int .u8 0, .int .u8 0, .int .u8 0, .int .u8 0, .slice none 0 0, .int .i64 0, .int .i64 0, .int .i64 0] 40))) := below_two _ _ _
 obtain ⟨nI, hnI⟩ : ∃ z : Int, (nk : Int) - 1 = z := ⟨_, rfl⟩
 have hb1 : -1 ≤ nI := by omega
 have hb2 : nI ≤ 1000000 := by omega
 rw [hnI] at hno
 have HNo := Lib.hid hno
 clear hno
 by_cases h1 : hop < 0
 ·have q1 : decide (hop < 0) = true := decide_eq_true h1
  clear h1
  go_enter Tryz.func16, Tryz.ntmps16
  have r := block_cell HX0.out
  have r0 := r 0; have r1 := r 1; have r2 := r 2; have r3 := r 3; have r4 := r 4; have r5 := r 5; have r6 := r 6; have r7 := r 7; have r8 := r 8; have r9 := r 9; have r10 := r 10; have r11 := r 11; have r12 := r 12
  simp at r0 r1 r2 r3 r4 r5 r6 r7 r8 r9 r10 r11 r12
  clear r
  go_upto_region 2 with fail
  generalize ((w.alloc (.cells #[.int .u8 p.tb.x0, .int .u8 p.tb.x1, .int .u8 p.tb.x2, .int .u8 p.tb.x3, .int .u8 p.tb.x4, .int .u8 p.tb.x5, .int .u8 p.tb.x6, .int .u8 p.tb.x7, .slice Ak nk ck, .int .i64 p.s0, .int .i64 p.s1, .slice An nn cn, .slice Af nf cf] 32)).alloc (.cells #[.int .i64 0, .int .u8 0, .int .u8 0, .int .u8 0, .int .u8 0, .int .u8 0, .int .u8 0, .int .u8 0, .int .u8 0, .slice none 0 0, .int .i64 0, .int .i64 0, .int .i64 0] 40)) = w0 at *
  refine wp_region_list ?_
  refine wpList_value (.agg #[.int .i64 0, .int .u8 0, .int .u8 0, .int .u8 0, .int .u8 0, .int .u8 0, .int .u8 0, .int .u8 0, .int .u8 0, .slice none 0 0, .int .i64 0, .int .i64 0, .int .i64 0]) (by kernel_rfl) (by kernel_rfl) ?_
  simp only [Act.put, sT]
  refine wpList_store_mid (by rfl) 40 _ _ (by rfl) (w.heap.size + 1) 0 #[.int .i64 0, .int .u8 0, .int .u8 0, .int .u8 0, .int .u8 0, .int .u8 0, .int .u8 0, .int .u8 0, .int .u8 0, .slice none 0 0, .int .i64 0, .int .i64 0, .int .i64 0] (by rfl) (by rfl) (there_mid HY0.out (by simp)) (by kernel_rfl) (by kernel_rfl) ?_
  obtain ⟨s1', s2'⟩ := set_all HY0.out [.int .i64 0, .int .u8 0, .int .u8 0, .int .u8 0, .int .u8 0, .int .u8 0, .int .u8 0, .int .u8 0, .int .u8 0, .slice none 0 0, .int .i64 0, .int .i64 0, .int .i64 0] rfl
  have HS1 := Lib.hid s1'; have HS2 := Lib.hid s2'
  clear s1' s2'
  dsimp only
  generalize World.setCells _ _ _ [.int .i64 0, .int .u8 0, .int .u8 0, .int .u8 0, .int .u8 0, .int .u8 0, .int .u8 0, .int .u8 0, .int .u8 0, .slice none 0 0, .int .i64 0, .int .i64 0, .int .i64 0] = w9 at *
  go_wp2
  exact bodyPost_ret (results_cellT 6 7 40 (w.heap.size + 1) #[.int .i64 0, .int .u8 0, .int .u8 0, .int .u8 0, .int .u8 0, .int .u8 0, .int .u8 0, .int .u8 0, .int .u8 0, .slice none 0 0, .int .i64 0, .int .i64 0, .int .i64 0] _ _ _ rfl rfl HS1.out Tryz.underlying40 rfl (by kernel_rfl)) rfl ⟨rfl, Hb0.out.grown HS2.out Hb0.out.size (fun k hk => by cases hk; omega)⟩
 have q1 : decide (hop < 0) = false := decide_eq_false h1
 by_cases h2 : nI ≤ hop
 ·have q2 : decide (nI ≤ hop) = true := decide_eq_true h2
  clear h1 h2
  go_enter Tryz.func16, Tryz.ntmps16
  have r := block_cell HX0.out
  have r0 := r 0; have r1 := r 1; have r2 := r 2; have r3 := r 3; have r4 := r 4; have r5 := r 5; have r6 := r 6; have r7 := r 7; have r8 := r 8; have r9 := r 9; have r10 := r 10; have r11 := r 11; have r12 := r 12
  simp at r0 r1 r2 r3 r4 r5 r6 r7 r8 r9 r10 r11 r12
  clear r
  go_upto_region 2 with fail
  generalize ((w.alloc (.cells #[.int .u8 p.tb.x0, .int .u8 p.tb.x1, .int .u8 p.tb.x2, .int .u8 p.tb.x3, .int .u8 p.tb.x4, .int .u8 p.tb.x5, .int .u8 p.tb.x6, .int .u8 p.tb.x7, .slice Ak nk ck, .int .i64 p.s0, .int .i64 p.s1, .slice An nn cn, .slice Af nf cf] 32)).alloc (.cells #[.int .i64 0, .int .u8 0, .int .u8 0, .int .u8 0, .int .u8 0, .int .u8 0, .int .u8 0, .int .u8 0, .int .u8 0, .slice none 0 0, .int .i64 0, .int .i64 0, .int .i64 0] 40)) = w0 at *
  refine wp_region_list ?_
  refine wpList_value (.agg #[.int .i64 0, .int .u8 0, .int .u8 0, .int .u8 0, .int .u8 0, .int .u8 0, .int .u8 0, .int .u8 0, .int .u8 0, .slice none 0 0, .int .i64 0, .int .i64 0, .int .i64 0]) (by kernel_rfl) (by kernel_rfl) ?_
  simp only [Act.put, sT]
  refine wpList_store_mid (by rfl) 40 _ _ (by rfl) (w.heap.size + 1) 0 #[.int .i64 0, .int .u8 0, .int .u8 0, .int .u8 0, .int .u8 0, .int .u8 0, .int .u8 0, .int .u8 0, .int .u8 0, .slice none 0 0, .int .i64 0, .int .i64 0, .int .i64 0] (by rfl) (by rfl) (there_mid HY0.out (by simp)) (by kernel_rfl) (by kernel_rfl) ?_
  obtain ⟨s1', s2'⟩ := set_all HY0.out [.int .i64 0, .int .u8 0, .int .u8 0, .int .u8 0, .int .u8 0, .int .u8 0, .int .u8 0, .int .u8 0, .int .u8 0, .slice none 0 0, .int .i64 0, .int .i64 0, .int .i64 0] rfl
  have HS1 := Lib.hid s1'; have HS2 := Lib.hid s2'
  clear s1' s2'
  dsimp only
  generalize World.setCells _ _ _ [.int .i64 0, .int .u8 0, .int .u8 0, .int .u8 0, .int .u8 0, .int .u8 0, .int .u8 0, .int .u8 0, .int .u8 0, .slice none 0 0, .int .i64 0, .int .i64 0, .int .i64 0] = w9 at *
  go_wp2
  exact bodyPost_ret (results_cellT 6 7 40 (w.heap.size + 1) #[.int .i64 0, .int .u8 0, .int .u8 0, .int .u8 0, .int .u8 0, .int .u8 0, .int .u8 0, .int .u8 0, .int .u8 0, .slice none 0 0, .int .i64 0, .int .i64 0, .int .i64 0] _ _ _ rfl rfl HS1.out Tryz.underlying40 rfl (by kernel_rfl)) rfl ⟨rfl, Hb0.out.grown HS2.out Hb0.out.size (fun k hk => by cases hk; omega)⟩
 have q2 : decide (nI ≤ hop) = false := decide_eq_false h2
 by_cases h3 : wh < 0
 ·have q3 : decide (wh < 0) = true := decide_eq_true h3
  clear h1 h2 h3
  go_enter Tryz.func16, Tryz.ntmps16
  have r := block_cell HX0.out
  have r0 := r 0; have r1 := r 1; have r2 := r 2; have r3 := r 3; have r4 := r 4; have r5 := r 5; have r6 := r 6; have r7 := r 7; have r8 := r 8; have r9 := r 9; have r10 := r 10; have r11 := r 11; have r12 := r 12
  simp at r0 r1 r2 r3 r4 r5 r6 r7 r8 r9 r10 r11 r12
  clear r
  go_upto_region 2 with fail
  generalize ((w.alloc (.cells #[.int .u8 p.tb.x0, .int .u8 p.tb.x1, .int .u8 p.tb.x2, .int .u8 p.tb.x3, .int .u8 p.tb.x4, .int .u8 p.tb.x5, .int .u8 p.tb.x6, .int .u8 p.tb.x7, .slice Ak nk ck, .int .i64 p.s0, .int .i64 p.s1, .slice An nn cn, .slice Af nf cf] 32)).alloc (.cells #[.int .i64 0, .int .u8 0, .int .u8 0, .int .u8 0, .int .u8 0, .int .u8 0, .int .u8 0, .int .u8 0, .int .u8 0, .slice none 0 0, .int .i64 0, .int .i64 0, .int .i64 0] 40)) = w0 at *
  refine wp_region_list ?_
  refine wpList_value (.agg #[.int .i64 0, .int .u8 0, .int .u8 0, .int .u8 0, .int .u8 0, .int .u8 0, .int .u8 0, .int .u8 0, .int .u8 0, .slice none 0 0, .int .i64 0, .int .i64 0, .int .i64 0]) (by kernel_rfl) (by kernel_rfl) ?_
  simp only [Act.put, sT]
  refine wpList_store_mid (by rfl) 40 _ _ (by rfl) (w.heap.size + 1) 0 #[.int .i64 0, .int .u8 0, .int .u8 0, .int .u8 0, .int .u8 0, .int .u8 0, .int .u8 0, .int .u8 0, .int .u8 0, .slice none 0 0, .int .i64 0, .int .i64 0, .int .i64 0] (by rfl) (by rfl) (there_mid HY0.out (by simp)) (by kernel_rfl) (by kernel_rfl) ?_
  obtain ⟨s1', s2'⟩ := set_all HY0.out [.int .i64 0, .int .u8 0, .int .u8 0, .int .u8 0, .int .u8 0, .int .u8 0, .int .u8 0, .int .u8 0, .int .u8 0, .slice none 0 0, .int .i64 0, .int .i64 0, .int .i64 0] rfl
  have HS1 := Lib.hid s1'; have HS2 := Lib.hid s2'
  clear s1' s2'
  dsimp only
  generalize World.setCells _ _ _ [.int .i64 0, .int .u8 0, .int .u8 0, .int .u8 0, .int .u8 0, .int .u8 0, .int .u8 0, .int .u8 0, .int .u8 0, .slice none 0 0, .int .i64 0, .int .i64 0, .int .i64 0] = w9 at *
  go_wp2
  exact bodyPost_ret (results_cellT 6 7 40 (w.heap.size + 1) #[.int .i64 0, .int .u8 0, .int .u8 0, .int .u8 0, .int .u8 0, .int .u8 0, .int .u8 0, .int .u8 0, .int .u8 0, .slice none 0 0, .int .i64 0, .int .i64 0, .int .i64 0] _ _ _ rfl rfl HS1.out Tryz.underlying40 rfl (by kernel_rfl)) rfl ⟨rfl, Hb0.out.grown HS2.out Hb0.out.size (fun k hk => by cases hk; omega)⟩
 have q3 : decide (wh < 0) = false := decide_eq_false h3
 by_cases h4 : 1 < wh
 ·have q4 : decide (1 < wh) = true := decide_eq_true h4
  clear h1 h2 h3 h4
  go_enter Tryz.func16, Tryz.ntmps16
  have r := block_cell HX0.out
  have r0 := r 0; have r1 := r 1; have r2 := r 2; have r3 := r 3; have r4 := r 4; have r5 := r 5; have r6 := r 6; have r7 := r 7; have r8 := r 8; have r9 := r 9; have r10 := r 10; have r11 := r 11; have r12 := r 12
  simp at r0 r1 r2 r3 r4 r5 r6 r7 r8 r9 r10 r11 r12
  clear r
  go_upto_region 2 with fail
  generalize ((w.alloc (.cells #[.int .u8 p.tb.x0, .int .u8 p.tb.x1, .int .u8 p.tb.x2, .int .u8 p.tb.x3, .int .u8 p.tb.x4, .int .u8 p.tb.x5, .int .u8 p.tb.x6, .int .u8 p.tb.x7, .slice Ak nk ck, .int .i64 p.s0, .int .i64 p.s1, .slice An nn cn, .slice Af nf cf] 32)).alloc (.cells #[.int .i64 0, .int .u8 0, .int .u8 0, .int .u8 0, .int .u8 0, .int .u8 0, .int .u8 0, .int .u8 0, .int .u8 0, .slice none 0 0, .int .i64 0, .int .i64 0, .int .i64 0] 40)) = w0 at *
  refine wp_region_list ?_
  refine wpList_value (.agg #[.int .i64 0, .int .u8 0, .int .u8 0, .int .u8 0, .int .u8 0, .int .u8 0, .int .u8 0, .int .u8 0, .int .u8 0, .slice none 0 0, .int .i64 0, .int .i64 0, .int .i64 0]) (by kernel_rfl) (by kernel_rfl) ?_
  simp only [Act.put, sT]
  refine wpList_store_mid (by rfl) 40 _ _ (by rfl) (w.heap.size + 1) 0 #[.int .i64 0, .int .u8 0, .int .u8 0, .int .u8 0, .int .u8 0, .int .u8 0, .int .u8 0, .int .u8 0, .int .u8 0, .slice none 0 0, .int .i64 0, .int .i64 0, .int .i64 0] (by rfl) (by rfl) (there_mid HY0.out (by simp)) (by kernel_rfl) (by kernel_rfl) ?_
  obtain ⟨s1', s2'⟩ := set_all HY0.out [.int .i64 0, .int .u8 0, .int .u8 0, .int .u8 0, .int .u8 0, .int .u8 0, .int .u8 0, .int .u8 0, .int .u8 0, .slice none 0 0, .int .i64 0, .int .i64 0, .int .i64 0] rfl
  have HS1 := Lib.hid s1'; have HS2 := Lib.hid s2'
  clear s1' s2'
  dsimp only
  generalize World.setCells _ _ _ [.int .i64 0, .int .u8 0, .int .u8 0, .int .u8 0, .int .u8 0, .int .u8 0, .int .u8 0, .int .u8 0, .int .u8 0, .slice none 0 0, .int .i64 0, .int .i64 0, .int .i64 0] = w9 at *
  go_wp2
  exact bodyPost_ret (results_cellT 6 7 40 (w.heap.size + 1) #[.int .i64 0, .int .u8 0, .int .u8 0, .int .u8 0, .int .u8 0, .int .u8 0, .int .u8 0, .int .u8 0, .int .u8 0, .slice none 0 0, .int .i64 0, .int .i64 0, .int .i64 0] _ _ _ rfl rfl HS1.out Tryz.underlying40 rfl (by kernel_rfl)) rfl ⟨rfl, Hb0.out.grown HS2.out Hb0.out.size (fun k hk => by cases hk; omega)⟩
 have q4 : decide (1 < wh) = false := decide_eq_false h4
 by_cases h5 : (nn : Int) ≤ hop
 ·have q5 : decide ((nn : Int) ≤ hop) = true := decide_eq_true h5
  clear h1 h2 h3 h4 h5
  go_enter Tryz.func16, Tryz.ntmps16
  have r := block_cell HX0.out
  have r0 := r 0; have r1 := r 1; have r2 := r 2; have r3 := r 3; have r4 := r 4; have r5 := r 5; have r6 := r 6; have r7 := r 7; have r8 := r 8; have r9 := r 9; have r10 := r 10; have r11 := r 11; have r12 := r 12
  simp at r0 r1 r2 r3 r4 r5 r6 r7 r8 r9 r10 r11 r12
  clear r
  go_upto_region 4 with fail
  generalize ((w.alloc (.cells #[.int .u8 p.tb.x0, .int .u8 p.tb.x1, .int .u8 p.tb.x2, .int .u8 p.tb.x3, .int .u8 p.tb.x4, .int .u8 p.tb.x5, .int .u8 p.tb.x6, .int .u8 p.tb.x7, .slice Ak nk ck, .int .i64 p.s0, .int .i64 p.s1, .slice An nn cn, .slice Af nf cf] 32)).alloc (.cells #[.int .i64 0, .int .u8 0, .int .u8 0, .int .u8 0, .int .u8 0, .int .u8 0, .int .u8 0, .int .u8 0, .int .u8 0, .slice none 0 0, .int .i64 0, .int .i64 0, .int .i64 0] 40)) = w0 at *
  refine wp_region_list ?_
  refine wpList_value (.agg #[.int .i64 0, .int .u8 0, .int .u8 0, .int .u8 0, .int .u8 0, .int .u8 0, .int .u8 0, .int .u8 0, .int .u8 0, .slice none 0 0, .int .i64 0, .int .i64 0, .int .i64 0]) (by kernel_rfl) (by kernel_rfl) ?_
  simp only [Act.put, sT]
  refine wpList_store_mid (by rfl) 40 _ _ (by rfl) (w.heap.size + 1) 0 #[.int .i64 0, .int .u8 0, .int .u8 0, .int .u8 0, .int .u8 0, .int .u8 0, .int .u8 0, .int .u8 0, .int .u8 0, .slice none 0 0, .int .i64 0, .int .i64 0, .int .i64 0] (by rfl) (by rfl) (there_mid HY0.out (by simp)) (by kernel_rfl) (by kernel_rfl) ?_
  obtain ⟨s1', s2'⟩ := set_all HY0.out [.int .i64 0, .int .u8 0, .int .u8 0, .int .u8 0, .int .u8 0, .int .u8 0, .int .u8 0, .int .u8 0, .int .u8 0, .slice none 0 0, .int .i64 0, .int .i64 0, .int .i64 0] rfl
  have HS1 := Lib.hid s1'; have HS2 := Lib.hid s2'
  clear s1' s2'
  dsimp only
  generalize World.setCells _ _ _ [.int .i64 0, .int .u8 0, .int .u8 0, .int .u8 0, .int .u8 0, .int .u8 0, .int .u8 0, .int .u8 0, .int .u8 0, .slice none 0 0, .int .i64 0, .int .i64 0, .int .i64 0] = w9 at *
  go_wp2
  exact bodyPost_ret (results_cellT 6 7 40 (w.heap.size + 1) #[.int .i64 0, .int .u8 0, .int .u8 0, .int .u8 0, .int .u8 0, .int .u8 0, .int .u8 0, .int .u8 0, .int .u8 0, .slice none 0 0, .int .i64 0, .int .i64 0, .int .i64 0] _ _ _ rfl rfl HS1.out Tryz.underlying40 rfl (by kernel_rfl)) rfl ⟨rfl, Hb0.out.grown HS2.out Hb0.out.size (fun k hk => by cases hk; omega)⟩
 have q5 : decide ((nn : Int) ≤ hop) = false := decide_eq_false h5
 have h6 : (nf : Int) ≤ hop := by
  refine Classical.byContradiction fun h => HNo.out ⟨by omega, by omega, by omega, by omega, by omega⟩
 have q6 : decide ((nf : Int) ≤ hop) = true := decide_eq_true h6
 clear h1 h2 h3 h4 h5 h6
 go_enter Tryz.func16, Tryz.ntmps16
 have r := block_cell HX0.out
 have r0 := r 0; have r1 := r 1; have r2 := r 2; have r3 := r 3; have r4 := r 4; have r5 := r 5; have r6 := r 6; have r7 := r 7; have r8 := r 8; have r9 := r 9; have r10 := r 10; have r11 := r 11; have r12 := r 12
 simp at r0 r1 r2 r3 r4 r5 r6 r7 r8 r9 r10 r11 r12
 clear r
 go_upto_region 4 with fail
 generalize ((w.alloc (.cells #[.int .u8 p.tb.x0, .int .u8 p.tb.x1, .int .u8 p.tb.x2, .int .u8 p.tb.x3, .int .u8 p.tb.x4, .int .u8 p.tb.x5, .int .u8 p.tb.x6, .int .u8 p.tb.x7, .slice Ak nk ck, .int .i64 p.s0, .int .i64 p.s1, .slice An nn cn, .slice Af nf cf] 32)).alloc (.cells #[.int .i64 0, .int .u8 0, .int .u8 0, .int .u8 0, .int .u8 0, .int .u8 0, .int .u8 0, .int .u8 0, .int .u8 0, .slice none 0 0, .int .i64 0, .int .i64 0, .int .i64 0] 40)) = w0 at *
 refine wp_region_list ?_
 refine wpList_value (.agg #[.int .i64 0, .int .u8 0, .int .u8 0, .int .u8 0, .int .u8 0, .int .u8 0, .int .u8 0, .int .u8 0, .int .u8 0, .slice none 0 0, .int .i64 0, .int .i64 0, .int .i64 0]) (by kernel_rfl) (by kernel_rfl) ?_
 simp only [Act.put, sT]
 refine wpList_store_mid (by rfl) 40 _ _ (by rfl) (w.heap.size + 1) 0 #[.int .i64 0, .int .u8 0, .int .u8 0, .int .u8 0, .int .u8 0, .int .u8 0, .int .u8 0, .int .u8 0, .int .u8 0, .slice none 0 0, .int .i64 0, .int .i64 0, .int .i64 0] (by rfl) (by rfl) (there_mid HY0.out (by simp)) (by kernel_rfl) (by kernel_rfl) ?_
 obtain ⟨s1', s2'⟩ := set_all HY0.out [.int .i64 0, .int .u8 0, .int .u8 0, .int .u8 0, .int .u8 0, .int .u8 0, .int .u8 0, .int .u8 0, .int .u8 0, .slice none 0 0, .int .i64 0, .int .i64 0, .int .i64 0] rfl
 have HS1 := Lib.hid s1'; have HS2 := Lib.hid s2'
 clear s1' s2'
 dsimp only
 generalize World.setCells _ _ _ [.int .i64 0, .int .u8 0, .int .u8 0, .int .u8 0, .int .u8 0, .int .u8 0, .int .u8 0, .int .u8 0, .int .u8 0, .slice none 0 0, .int .i64 0, .int .i64 0, .int .i64 0] = w9 at *
 go_wp2
 exact bodyPost_ret (results_cellT 6 7 40 (w.heap.size + 1) #[.int .i64 0, .int .u8 0, .int .u8 0, .int .u8 0, .int .u8 0, .int .u8 0, .int .u8 0, .int .u8 0, .int .u8 0, .slice none 0 0, .int .i64 0, .int .i64 0, .int .i64 0] _ _ _ rfl rfl HS1.out Tryz.underlying40 rfl (by kernel_rfl)) rfl ⟨rfl, Hb0.out.grown HS2.out Hb0.out.size (fun k hk => by cases hk; omega)⟩
set_option maxRecDepth 100000 in
set_option maxHeartbeats 4000000 in
theorem deqs_any (l : List D8) (A : Option Addr) (n c : Nat) (B : Option Addr) (c2 : Nat) (w : World) (h : Rd w w.heap.size 8 A n (flatD l)) (g : Rd w w.heap.size 8 B n (flatD l)) (hn : n ≤ 1000000) :
  Calls Tryz.prog 93 #[.slice A n c, .slice B n c2] w fun e w' => e = .returned (.bool true) ∧ Below w.heap.size w w' := by
 have H := Lib.hid h; have G := Lib.hid g
 have hneq := neq_dig
 clear h g
 go_enter Tryz.func93, Tryz.ntmps93
 go_upto_region 3 with fail
 go_wp2_with fail
 go_loopw [13] (fun i wz => ∃ k : Nat, k ≤ n ∧ i = .int .i64 k ∧ Hid (Below w.heap.size w wz)) (fun i _ => n - (RowKit.intOf i).toNat)
 case atStart => exact ⟨0, by omega, rfl, Lib.hid (Below.refl _ _)⟩
 case round =>
  obtain ⟨k, hk, rfl, HB⟩ := hrel
  by_cases hlt : k < n
  ·have hd1 : decide ((k : Int) < (n : Int)) = true := decide_eq_true (by omega)
   have hki : (k : Int) < (n : Int) := by omega
   obtain ⟨b, o, rfl, hbB, x0, x1, x2, x3, x4, x5, x6, x7⟩ := (H.out.below HB.out (Nat.le_refl _)).di8v hlt
   obtain ⟨b', o', rfl, hbB', v0, v1, v2, v3, v4, v5, v6, v7⟩ := (G.out.below HB.out (Nat.le_refl _)).di8v hlt
   generalize l.getD k dz8 = d at *
   have c5 : eqI [(d.x0 : Int), (d.x1 : Int), (d.x2 : Int), (d.x3 : Int), (d.x4 : Int), (d.x5 : Int), (d.x6 : Int), (d.x7 : Int)] [(d.x0 : Int), (d.x1 : Int), (d.x2 : Int), (d.x3 : Int), (d.x4 : Int), (d.x5 : Int), (d.x6 : Int), (d.x7 : Int)] = true := eqI_iff.2 rfl
   go_wp2
   go_region
   all_goals
    go_wp2
    go_roundw
    case rel => exact ⟨k + 1, by omega, by go_num, Lib.hid HB.out.drew⟩
    case measure => simp [RowKit.intOf]; omega
  ·obtain rfl : k = n := by omega
   have hd1 : decide ((k : Int) < (k : Int)) = false := decide_eq_false (by omega)
   go_wp2
   go_ret
   exact ⟨rfl, HB.out⟩
set_option maxRecDepth 100000 in
set_option maxHeartbeats 4000000 in
theorem lksame_any (l : Lk) (A : Option Addr) (n c : Nat) (B : Option Addr) (c2 : Nat) (w : World) (h : Rd w w.heap.size 8 A n (flatD l.ks)) (g : Rd w w.heap.size 8 B n (flatD l.ks)) (hn : n ≤ 1000000) :
  Calls Tryz.prog 34 #[.agg #[.int .i64 l.kd, .int .u8 l.hs.x0, .int .u8 l.hs.x1, .int .u8 l.hs.x2, .int .u8 l.hs.x3, .int .u8 l.hs.x4, .int .u8 l.hs.x5, .int .u8 l.hs.x6, .int .u8 l.hs.x7, .slice A n c, .int .i64 l.st, .int .i64 l.cp, .int .i64 l.un], .agg #[.int .i64 l.kd, .int .u8 l.hs.x0, .int .u8 l.hs.x1, .int .u8 l.hs.x2, .int .u8 l.hs.x3, .int .u8 l.hs.x4, .int .u8 l.hs.x5, .int .u8 l.hs.x6, .int .u8 l.hs.x7, .slice B n c2, .int .i64 l.st, .int .i64 l.cp, .int .i64 l.un]] w fun e w' => e = .returned (.bool true) ∧ Below w.heap.size w w' := by
 have HX : Hid (((w.alloc (.cells #[.int .i64 l.kd, .int .u8 l.hs.x0, .int .u8 l.hs.x1, .int .u8 l.hs.x2, .int .u8 l.hs.x3, .int .u8 l.hs.x4, .int .u8 l.hs.x5, .int .u8 l.hs.x6, .int .u8 l.hs.x7, .slice A n c, .int .i64 l.st, .int .i64 l.cp, .int .i64 l.un] 40)).alloc (.cells #[.int .i64 l.kd, .int .u8 l.hs.x0, .int .u8 l.hs.x1, .int .u8 l.hs.x2, .int .u8 l.hs.x3, .int .u8 l.hs.x4, .int .u8 l.hs.x5, .int .u8 l.hs.x6, .int .u8 l.hs.x7, .slice B n c2, .int .i64 l.st, .int .i64 l.cp, .int .i64 l.un] 40)).heap[w.heap.size]? = some (.cells #[.int .i64 l.kd, .int .u8 l.hs.x0, .int .u8 l.hs.x1, .int .u8 l.hs.x2, .int .u8 l.hs.x3, .int .u8 l.hs.x4, .int .u8 l.hs.x5, .int .u8 l.hs.x6, .int .u8 l.hs.x7, .slice A n c, .int .i64 l.st, .int .i64 l.cp, .int .i64 l.un] 40 (0, 0))) := block_alloc (heap_alloc_new _ _) _
 have HY : Hid (((w.alloc (.cells #[.int .i64 l.kd, .int .u8 l.hs.x0, .int .u8 l.hs.x1, .int .u8 l.hs.x2, .int .u8 l.hs.x3, .int .u8 l.hs.x4, .int .u8 l.hs.x5, .int .u8 l.hs.x6, .int .u8 l.hs.x7, .slice A n c, .int .i64 l.st, .int .i64 l.cp, .int .i64 l.un] 40)).alloc (.cells #[.int .i64 l.kd, .int .u8 l.hs.x0, .int .u8 l.hs.x1, .int .u8 l.hs.x2, .int .u8 l.hs.x3, .int .u8 l.hs.x4, .int .u8 l.hs.x5, .int .u8 l.hs.x6, .int .u8 l.hs.x7, .slice B n c2, .int .i64 l.st, .int .i64 l.cp, .int .i64 l.un] 40)).heap[w.heap.size + 1]? = some (.cells #[.int .i64 l.kd, .int .u8 l.hs.x0, .int .u8 l.hs.x1, .int .u8 l.hs.x2, .int .u8 l.hs.x3, .int .u8 l.hs.x4, .int .u8 l.hs.x5, .int .u8 l.hs.x6, .int .u8 l.hs.x7, .slice B n c2, .int .i64 l.st, .int .i64 l.cp, .int .i64 l.un] 40 (0, 0))) := alloc_at (by simp)
 have Hw : Hid (Below w.heap.size w ((w.alloc (.cells #[.int .i64 l.kd, .int .u8 l.hs.x0, .int .u8 l.hs.x1, .int .u8 l.hs.x2, .int .u8 l.hs.x3, .int .u8 l.hs.x4, .int .u8 l.hs.x5, .int .u8 l.hs.x6, .int .u8 l.hs.x7, .slice A n c, .int .i64 l.st, .int .i64 l.cp, .int .i64 l.un] 40)).alloc (.cells #[.int .i64 l.kd, .int .u8 l.hs.x0, .int .u8 l.hs.x1, .int .u8 l.hs.x2, .int .u8 l.hs.x3, .int .u8 l.hs.x4, .int .u8 l.hs.x5, .int .u8 l.hs.x6, .int .u8 l.hs.x7, .slice B n c2, .int .i64 l.st, .int .i64 l.cp, .int .i64 l.un] 40))) := below_two _ _ _
 have Hz : Hid (((w.alloc (.cells #[.int .i64 l.kd, .int .u8 l.hs.x0, .int .u8 l.hs.x1, .int .u8 l.hs.x2, .int .u8 l.hs.x3, .int .u8 l.hs.x4, .int .u8 l.hs.x5, .int .u8 l.hs.x6, .int .u8 l.hs.x7, .slice A n c, .int .i64 l.st, .int .i64 l.cp, .int .i64 l.un] 40)).alloc (.cells #[.int .i64 l.kd, .int .u8 l.hs.x0, .int .u8 l.hs.x1, .int .u8 l.hs.x2, .int .u8 l.hs.x3, .int .u8 l.hs.x4, .int .u8 l.hs.x5, .int .u8 l.hs.x6, .int .u8 l.hs.x7, .slice B n c2, .int .i64 l.st, .int .i64 l.cp, .int .i64 l.un] 40)).heap.size = w.heap.size + 2) := by show _ = _; simp
 have H := Lib.hid h; have G := Lib.hid g
 have heq := eql_dig
 have c5 : eqI [(l.hs.x0 : Int), (l.hs.x1 : Int), (l.hs.x2 : Int), (l.hs.x3 : Int), (l.hs.x4 : Int), (l.hs.x5 : Int), (l.hs.x6 : Int), (l.hs.x7 : Int)] [(l.hs.x0 : Int), (l.hs.x1 : Int), (l.hs.x2 : Int), (l.hs.x3 : Int), (l.hs.x4 : Int), (l.hs.x5 : Int), (l.hs.x6 : Int), (l.hs.x7 : Int)] = true := eqI_iff.2 rfl
 clear h g
 go_enter Tryz.func34, Tryz.ntmps34
 go_upto_region 1 with fail
 generalize (w.alloc (.cells #[.int .i64 l.kd, .int .u8 l.hs.x0, .int .u8 l.hs.x1, .int .u8 l.hs.x2, .int .u8 l.hs.x3, .int .u8 l.hs.x4, .int .u8 l.hs.x5, .int .u8 l.hs.x6, .int .u8 l.hs.x7, .slice A n c, .int .i64 l.st, .int .i64 l.cp, .int .i64 l.un] 40)).alloc (.cells #[.int .i64 l.kd, .int .u8 l.hs.x0, .int .u8 l.hs.x1, .int .u8 l.hs.x2, .int .u8 l.hs.x3, .int .u8 l.hs.x4, .int .u8 l.hs.x5, .int .u8 l.hs.x6, .int .u8 l.hs.x7, .slice B n c2, .int .i64 l.st, .int .i64 l.cp, .int .i64 l.un] 40) = w0 at *
 have z := block_cell HX.out
 have z0 := z 0; have z1 := z 1; have z2 := z 2; have z3 := z 3; have z4 := z 4; have z5 := z 5; have z6 := z 6; have z7 := z 7; have z8 := z 8; have z9 := z 9; have z10 := z 10; have z11 := z 11; have z12 := z 12
 simp at z0 z1 z2 z3 z4 z5 z6 z7 z8 z9 z10 z11 z12
 clear z
 have y := block_cell HY.out
 have y0 := y 0; have y1 := y 1; have y2 := y 2; have y3 := y 3; have y4 := y 4; have y5 := y 5; have y6 := y 6; have y7 := y 7; have y8 := y 8; have y9 := y 9; have y10 := y 10; have y11 := y 11; have y12 := y 12
 simp at y0 y1 y2 y3 y4 y5 y6 y7 y8 y9 y10 y11 y12
 clear y
 go_wp2_with fail
 refine (deqs_any l.ks A n c B c2 w0 ((H.out.below Hw.out (Nat.le_refl _)).more Hw.out.size) ((G.out.below Hw.out (Nat.le_refl _)).more Hw.out.size) hn).mono ?_
 rintro e w1 ⟨rfl, hb1⟩
 have HX1 := Lib.hid (block_below HX.out hb1 (by have := Hz.out; omega))
 have HY1 := Lib.hid (block_below HY.out hb1 (by have := Hz.out; omega))
 have Hw1 := Lib.hid (Hw.out.trans (hb1.mono Hw.out.size))
 clear hb1 z0 z1 z2 z3 z4 z5 z6 z7 z8 z9 z10 z11 z12 y0 y1 y2 y3 y4 y5 y6 y7 y8 y9 y10 y11 y12
 have z := block_cell HX1.out
 have z0 := z 0; have z1 := z 1; have z2 := z 2; have z3 := z 3; have z4 := z 4; have z5 := z 5; have z6 := z 6; have z7 := z 7; have z8 := z 8; have z9 := z 9; have z10 := z 10; have z11 := z 11; have z12 := z 12
 simp at z0 z1 z2 z3 z4 z5 z6 z7 z8 z9 z10 z11 z12
 clear z
 have y := block_cell HY1.out
 have y0 := y 0; have y1 := y 1; have y2 := y 2; have y3 := y 3; have y4 := y 4; have y5 := y 5; have y6 := y 6; have y7 := y 7; have y8 := y 8; have y9 := y 9; have y10 := y 10; have y11 := y 11; have y12 := y 12
 simp at y0 y1 y2 y3 y4 y5 y6 y7 y8 y9 y10 y11 y12
 clear y
 go_wp2
 go_ret
 exact ⟨rfl, Hw1.out⟩
theorem lkzero_any (w : World) : Calls Tryz.prog 34 #[.agg #[.int .i64 0, .int .u8 0, .int .u8 0, .int .u8 0, .int .u8 0, .int .u8 0, .int .u8 0, .int .u8 0, .int .u8 0, .slice none 0 0, .int .i64 0, .int .i64 0, .int .i64 0], .agg #[.int .i64 0, .int .u8 0, .int .u8 0, .int .u8 0, .int .u8 0, .int .u8 0, .int .u8 0, .int .u8 0, .int .u8 0, .slice none 0 0, .int .i64 0, .int .i64 0, .int .i64 0]] w fun e w' => e = .returned (.bool true) ∧ Below w.heap.size w w' := lksame_any lk0 none 0 0 none 0 w Rd.empty Rd.empty (by omega)
end Go.Proofs.YthhiookcknnmdaaGreat
