/- Digests in rows, where the document's book is not there. Nothing of the program stands in it but its tables, so there is no condition. The walk of bytes.Clone: a copy of a slice's bytes. Condition: bounds on how many. Whose signatures lack: rows of signatures in memory, and the plain list of places. Nothing of the program stands in it but its tables, so there is no condition. The walk of Missing by a book: whose signatures lack. Conditions: bounds. The walk of All by a book. Conditions: bounds. -/
import Derived.Test.YthhiookcknnmdaaGreatJoinM
import Derived.Deep.DeepCutAuto
import Derived.Test.YthhiookcknnmdaaGreatJoinC
namespace Go.Proofs.YthhiookcknnmdaaGreat
open Go.RowKit Go.Lib

theorem own_weak {w : World} {b b' : Nat} {e : TypeId} {sz n : Nat} {v : Value} {xs : List Value} (h : w.ownsRow b e sz v n xs) (hb : b' ≤ b) : w.ownsRow b' e sz v n xs := by
 refine ⟨h.1, ?_⟩
 rcases h.2 with h1 | ⟨g, cap, cur, h1, h2, h3⟩
 ·exact .inl h1
 ·exact .inr ⟨g, cap, cur, h1, Nat.le_trans hb h2, h3⟩
def D8.cells (d : D8) : List Value := [.int .u8 d.x0, .int .u8 d.x1, .int .u8 d.x2, .int .u8 d.x3, .int .u8 d.x4, .int .u8 d.x5, .int .u8 d.x6, .int .u8 d.x7]
def flatD (l : List D8) : List Value := l.flatMap D8.cells
theorem flatD_len (l : List D8) : (flatD l).length = l.length * 8 := by
 induction l with
 | nil => rfl
 | cons i l ih =>
  have : flatD (i :: l) = i.cells ++ flatD l := by simp [flatD]
  rw [this, List.length_append, ih]; simp [D8.cells]; omega
theorem flatD_append (l m : List D8) : flatD (l ++ m) = flatD l ++ flatD m := by simp [flatD]
theorem flatD_at : ∀ (l : List D8) (k j : Nat), k < l.length → j < 8 → (flatD l)[k * 8 + j]? = (l.getD k ⟨0, 0, 0, 0, 0, 0, 0, 0⟩).cells[j]?
 | [], k, _, h, _ => by simp at h
 | i :: l, k, j, h, hj => by
  have e : flatD (i :: l) = i.cells ++ flatD l := by simp [flatD]
  have hc : i.cells.length = 8 := rfl
  rw [e]
  cases k with
  | zero => rw [List.getElem?_append_left (by omega)]; simp
  | succ k =>
   rw [List.getElem?_append_right (by omega), hc, show (k + 1) * 8 + j - 8 = k * 8 + j from by omega]
   have := flatD_at l k j (by simpa using h) hj
   simpa using this
theorem Rd.dlenD {w : World} {B n : Nat} {A : Option Addr} {l : List D8} (h : Rd w B 8 A n (flatD l)) : l.length = n := by have := h.1; rw [flatD_len] at this; omega
theorem Rd.di {w : World} {B n : Nat} {A : Option Addr} {l : List D8} (h : Rd w B 8 A n (flatD l)) {k : Nat} (hk : k < n) :
  ∃ b o, A = some ⟨b, o, none⟩ ∧ b < B ∧ ∀ j, j < 8 → w.cell? ⟨b, o + k * 8 + j, none⟩ = (l.getD k ⟨0, 0, 0, 0, 0, 0, 0, 0⟩).cells[j]? := by
 have hl := h.dlenD
 obtain ⟨b, o, e, hb, hc⟩ := h.2 (by omega)
 refine ⟨b, o, e, hb, fun j hj => ?_⟩
 have hs : ∃ u, (l.getD k ⟨0, 0, 0, 0, 0, 0, 0, 0⟩).cells[j]? = some u := ⟨_, List.getElem?_eq_getElem (by simpa [D8.cells] using hj)⟩
 obtain ⟨u, hu⟩ := hs
 rw [hu, Nat.add_assoc]
 exact hc (k * 8 + j) u ((flatD_at l k j (by omega) hj).trans hu)
theorem cell_kept {w w' : World} {B b j : Nat} {v : Value} (h : w.cell? ⟨b, j, none⟩ = some v) (hb : Below B w w') (hl : b < B) : w'.cell? ⟨b, j, none⟩ = some v := (World.cell?_of_block (hb.block b hl)).trans h
theorem types_many : Tryz.prog.types.size + Made.depth = 347 := by kernel_rfl
end Go.Proofs.YthhiookcknnmdaaGreat
namespace Go.Proofs.YthhiookcknnmdaaGreat
open Go.RowKit Go.Lib
theorem info_u8W : (Tryz.prog.info? 5).map (fun i => (i.zero, i.size, i.bytes)) = some (some (.int .u8 0), 1, 1) := by kernel_rfl
theorem bvN_one (l : List Nat) : ∀ u ∈ bvN l, u.oneCell' = true := by
 intro u hu
 simp only [bvN, List.mem_map] at hu
 obtain ⟨x, _, rfl⟩ := hu
 rfl
theorem own_empty (u : World) (t : TypeId) (sz B : Nat) (hB : B ≤ u.heap.size) : (u.alloc (.cells #[] t)).ownsRow B t sz (.slice (some ⟨u.heap.size, 0, none⟩) 0 0) 0 [] :=
 ⟨by simp, .inr ⟨u.heap.size, 0, #[], rfl, hB, heap_alloc_new u _, by omega, by simp, by simp, by simp⟩⟩
set_option maxRecDepth 100000 in
set_option maxHeartbeats 2000000 in
theorem bclone_any (s : List Nat) (A : Option Addr) (n c : Nat) (w : World) (hr : Rd w w.heap.size 1 A n (bvN s)) (hn : n ≤ 1000000) :
  Calls Tryz.prog 180 #[.slice A n c] w fun r w' => ∃ A' c', r = .returned (.slice A' n c') ∧ Rd w' w'.heap.size 1 A' n (bvN s) ∧ Below w.heap.size w w' := by
 cases A with
 | none =>
  have h0 : n = 0 := by
   rcases Nat.eq_zero_or_pos n with h0 | h0
   ·exact h0
   ·obtain ⟨_, _, h2, _⟩ := hr.2 h0
    cases h2
  subst h0
  have Hr := Lib.hid hr
  clear hr
  have heq : ∀ w : World, (binOp .eql 46 (.slice none 0 c) (.slice none 0 0)).run Tryz.prog w = .ok (.bool true) w := fun w => run_eql_slice_nil w _ _ none 0 c 0 0 Tryz.underlying46
  go_enter Tryz.func180, Tryz.ntmps180
  go_wp2
  go_ret
  exact ⟨none, 0, rfl, ⟨Hr.out.1, fun h => absurd h (by omega)⟩, Below.refl _ _⟩
 | some a =>
  obtain ⟨i0, hi, hz0, hz1, hz2⟩ := info_parts info_u8W
  have HI := Lib.hid (And.intro hi (And.intro hz0 (And.intro hz1 hz2))); clear hi hz0 hz1 hz2
  have HO : Hid ((w.alloc (.cells #[] 5)).ownsRow w.heap.size 5 1 (.slice (some ⟨w.heap.size, 0, none⟩) 0 0) 0 []) := own_empty w _ _ _ (Nat.le_refl _)
  have Hr := Lib.hid ((hr.alloc (Nat.le_refl _) (.cells #[] 5)).more (B' := (w.alloc (.cells #[] 5)).heap.size) (by simp))
  have h1 := bvN_one s
  have Hu := Lib.hid Tryz.underlying46
  clear hr
  have heq : ∀ w : World, (binOp .eql 46 (.slice (some a) n c) (.slice none 0 0)).run Tryz.prog w = .ok (.bool false) w := fun w => run_eql_slice_nil w _ _ (some a) n c 0 0 Tryz.underlying46
  go_enter Tryz.func180, Tryz.ntmps180
  go_wp2_with (at_builtin; go_must (refine wpList_append_rd (w.alloc (.cells #[] 5)) (by rfl) _ _ 46 (by rfl) w.heap.size 5 i0 (.int .u8 0) 1 1 Hu.out HI.out rfl (by decide) _ _ _ (by rfl) HO.out (w.alloc (.cells #[] 5)).heap.size (some a) n c _ (by rfl) Hr.out h1 (by omega) (by omega) (by simp) ?_); intro v4 w4 ho4 hb4; obtain ⟨A4, c4, rfl⟩ := own_form ho4; simp only [Nat.zero_add, List.nil_append] at ho4; have HO4 := Lib.hid ho4; have Hb4 := Lib.hid ((below_one w (.cells #[] 5)).trans (hb4.mono (Nat.le_refl _))); clear ho4 hb4)
  go_ret
  exact ⟨A4, c4, by simp, Rd.of_own HO4.out, Hb4.out⟩
end Go.Proofs.YthhiookcknnmdaaGreat
namespace Go.Proofs.YthhiookcknnmdaaGreat
open Go.RowKit Go.Lib
def bvI (l : List Nat) : List Value := l.map fun x => .int .i64 ((x : Nat) : Int)
theorem bvI_append (l m : List Nat) : bvI (l ++ m) = bvI l ++ bvI m := by simp [bvI]
theorem Rd.intI {w : World} {B n k : Nat} {A : Option Addr} {l : List Nat} (h : Rd w B 1 A n (bvI l)) (hk : k < n) : ∃ b o, A = some ⟨b, o, none⟩ ∧ b < B ∧ w.cell? ⟨b, o + k, none⟩ = some (.int .i64 ((l.getD k 0 : Nat) : Int)) := by
 have hl : l.length = n := by have := h.1; simp [bvI] at this; omega
 obtain ⟨b, o, e, hb, hc⟩ := h.2 (by omega)
 refine ⟨b, o, e, hb, hc k _ ?_⟩
 have hkl : k < l.length := by omega
 simp [bvI, hkl, List.getD_eq_getElem?_getD]
def bvB (l : List Bool) : List Value := l.map fun x => .bool x
theorem Rd.blenB {w : World} {B n : Nat} {A : Option Addr} {l : List Bool} (h : Rd w B 1 A n (bvB l)) : l.length = n := by have := h.1; simp [bvB] at this; omega
theorem Rd.boolB {w : World} {B n k : Nat} {A : Option Addr} {l : List Bool} (h : Rd w B 1 A n (bvB l)) (hk : k < n) : ∃ b o, A = some ⟨b, o, none⟩ ∧ b < B ∧ w.cell? ⟨b, o + k, none⟩ = some (.bool (l.getD k false)) := by
 have hl := h.blenB
 obtain ⟨b, o, e, hb, hc⟩ := h.2 (by omega)
 refine ⟨b, o, e, hb, hc k _ ?_⟩
 have hkl : k < l.length := by omega
 simp [bvB, hkl, List.getD_eq_getElem?_getD]
def missTo (p : Nat → Bool) (k : Nat) : List Nat := (List.range k).filter p
theorem miss_yes {p : Nat → Bool} {k : Nat} (h : p k = true) : missTo p (k + 1) = missTo p k ++ [k] := by simp [missTo, List.range_succ, List.filter_append, h]
theorem miss_no {p : Nat → Bool} {k : Nat} (h : p k = false) : missTo p (k + 1) = missTo p k := by simp [missTo, List.range_succ, List.filter_append, h]
theorem miss_len (p : Nat → Bool) (k : Nat) : (missTo p k).length ≤ k := by
 have := List.length_filter_le p (List.range k)
 simpa [missTo] using this
def lacksE (L : List En) (m : D8) (ks : List D8) (ss : List (List Nat)) (fs : List Bool) (i : Nat) : Bool :=
 !(fs.getD i false) && (decide (ss.length ≤ i) || !(verS L ⟨ks.getD i ⟨0, 0, 0, 0, 0, 0, 0, 0⟩, m⟩ (ss.getD i [])))
def SigRd (w : World) (B : Nat) (A : Option Addr) (n : Nat) (ss : List (List Nat)) : Prop :=
 ss.length = n ∧ (0 < n → ∃ b o, A = some ⟨b, o, none⟩ ∧ b < B ∧ ∀ k, k < n → ∃ A' m c, w.cell? ⟨b, o + k, none⟩ = some (.slice A' m c) ∧ Rd w B 1 A' m (bvN (ss.getD k [])))
theorem SigRd.below {w w' : World} {B C n : Nat} {A : Option Addr} {ss : List (List Nat)} (h : SigRd w B A n ss) (hb : Below C w w') (hC : B ≤ C) : SigRd w' B A n ss := by
 refine ⟨h.1, fun hn => ?_⟩
 obtain ⟨b, o, e, hbB, hk⟩ := h.2 hn
 refine ⟨b, o, e, hbB, fun k hk1 => ?_⟩
 obtain ⟨A', m, c, h1, h2⟩ := hk k hk1
 exact ⟨A', m, c, (hb.cell (p := ⟨b, o + k, none⟩) (show b < C by omega)).trans h1, h2.below hb hC⟩
theorem SigRd.more {w : World} {B C n : Nat} {A : Option Addr} {ss : List (List Nat)} (h : SigRd w B A n ss) (hC : B ≤ C) : SigRd w C A n ss := by
 refine ⟨h.1, fun hn => ?_⟩
 obtain ⟨b, o, e, hbB, hk⟩ := h.2 hn
 refine ⟨b, o, e, by omega, fun k hk1 => ?_⟩
 obtain ⟨A', m, c, h1, h2⟩ := hk k hk1
 exact ⟨A', m, c, h1, h2.more hC⟩
theorem info_int : (Tryz.prog.info? 3).map (fun i => (i.zero, i.size, i.bytes)) = some (some (.int .i64 0), 1, 8) := by kernel_rfl
theorem nil_ver (b : Nat) (w : World) : (nilAhead (Tryz.prog.types.size + Made.depth) 51 (.pointer (some ⟨b, 0, none⟩)) "Verify").run Tryz.prog w = .ok (some false) w := by kernel_rfl
theorem meth_ver (b : Nat) (w : World) : (method (Tryz.prog.types.size + Made.depth) 51 (.pointer (some ⟨b, 0, none⟩)) "Verify").run Tryz.prog w = .ok (198, .pointer (some ⟨b, 0, none⟩)) w := by kernel_rfl
end Go.Proofs.YthhiookcknnmdaaGreat
namespace Go.Proofs.YthhiookcknnmdaaGreat
open Go.RowKit Go.Lib


set_option maxRecDepth 100000 in
set_option maxHeartbeats 4000000 in
theorem missing_any (B bk mb : Nat) (L : List En) (ks : List D8) (Ak : Option Addr) (nk ck : Nat) (m : D8) (ss : List (List Nat)) (As : Option Addr) (ns cs : Nat) (fs : List Bool) (Af : Option Addr) (nf cf : Nat) (w : World)
  (h : BookAt w B bk mb L) (hlen : L.length < 60000) (hk : Rd w w.heap.size 8 Ak nk (flatD ks)) (hko : ∀ x ∈ ks, x.ok) (hm : m.ok) (hs : SigRd w w.heap.size As ns ss) (hso : ∀ s ∈ ss, s.length ≤ 1000 ∧ ∀ x ∈ s, x < 256)
  (hf : Rd w w.heap.size 1 Af nf (bvB fs)) (hnk : nk ≤ 1000) :
  Calls Tryz.prog 177 #[.iface 51 (.pointer (some ⟨bk, 0, none⟩)), .slice Ak nk ck, .agg #[.int .u8 m.x0, .int .u8 m.x1, .int .u8 m.x2, .int .u8 m.x3, .int .u8 m.x4, .int .u8 m.x5, .int .u8 m.x6, .int .u8 m.x7], .slice As ns cs, .slice Af nf cf] w fun r w' => ∃ A' n' c', r = .returned (.slice A' n' c') ∧ w'.ownsRow w.heap.size 3 1 (.slice A' n' c') n' (bvI (missTo (lacksE L m ks ss fs) nk)) ∧ Below w.heap.size w w' := by
 have hna := nil_ver bk
 have hme := meth_ver bk
 rw [types_many] at hna hme
 obtain ⟨i0, hi, hz0, hz1, hz2⟩ := info_parts info_int
 have HI := Lib.hid (And.intro hi (And.intro hz0 (And.intro hz1 hz2))); clear hi hz0 hz1 hz2
 have Hlk := Lib.hid hk.dlenD; have Hls := Lib.hid hs.1; have Hlf := Lib.hid hf.blenB
 have hb0 := below_one w (.cells #[.int .u8 m.x0, .int .u8 m.x1, .int .u8 m.x2, .int .u8 m.x3, .int .u8 m.x4, .int .u8 m.x5, .int .u8 m.x6, .int .u8 m.x7] 27)
 have HM0 : Hid ((w.alloc (.cells #[.int .u8 m.x0, .int .u8 m.x1, .int .u8 m.x2, .int .u8 m.x3, .int .u8 m.x4, .int .u8 m.x5, .int .u8 m.x6, .int .u8 m.x7] 27)).heap[w.heap.size]? = some (.cells #[.int .u8 m.x0, .int .u8 m.x1, .int .u8 m.x2, .int .u8 m.x3, .int .u8 m.x4, .int .u8 m.x5, .int .u8 m.x6, .int .u8 m.x7] 27 (0, 0))) := heap_alloc_new w _
 have HB0 := Lib.hid (h.below hb0)
 have Hb0 := Lib.hid hb0
 have Hk := Lib.hid hk; have Hs := Lib.hid hs; have Hf := Lib.hid hf; have Hko := Lib.hid hko; have Hso := Lib.hid hso; have Hm := Lib.hid hm
 have Hlen := Lib.hid hlen; have H := Lib.hid h
 clear h hk hs hf hko hso hm hb0 hlen
 go_enter Tryz.func177, Tryz.ntmps177
 go_wp2
 go_loopw [11, 16] (fun v i wr => ∃ (k n11 : Nat), k ≤ nk ∧ i = .int .i64 k ∧ n11 ≤ k ∧ Hid (wr.ownsRow (w.heap.size + 1) 3 1 v n11 (bvI (missTo (lacksE L m ks ss fs) k))) ∧ Hid (wr.heap[w.heap.size]? = some (.cells #[.int .u8 m.x0, .int .u8 m.x1, .int .u8 m.x2, .int .u8 m.x3, .int .u8 m.x4, .int .u8 m.x5, .int .u8 m.x6, .int .u8 m.x7] 27 (0, 0))) ∧ Hid (BookAt wr B bk mb L) ∧ Hid (Below w.heap.size w wr)) (fun _ i _ => nk - (Lib.intOf i).toNat)
 case atStart => exact ⟨0, 0, Nat.zero_le _, rfl, Nat.le_refl _, Lib.hid (World.ownsRow_nil _ _ _ _), HM0, HB0, Hb0⟩
 case round =>
  obtain ⟨k, n11, hkn, rfl, hn11, Hown, HM, HBk, Hb⟩ := hrel
  obtain ⟨A', c', rfl⟩ := own_form Hown.out
  by_cases hlt : k < nk
  ·obtain ⟨b, o, rfl, hbB, x⟩ := (Hk.out.below Hb.out (Nat.le_refl _)).di hlt
   have Hyes := Lib.hid (fun h => miss_yes (p := lacksE L m ks ss fs) (k := k) h)
   have Hno := Lib.hid (fun h => miss_no (p := lacksE L m ks ss fs) (k := k) h)
   have hdo : (ks.getD k ⟨0, 0, 0, 0, 0, 0, 0, 0⟩).ok := Hko.out _ (by
    have hkl : k < ks.length := by have := Hlk.out; omega
    rw [List.getD_eq_getElem?_getD, List.getElem?_eq_getElem hkl]; exact List.getElem_mem hkl)
   have Hlack : Hid (lacksE L m ks ss fs k = (!(fs.getD k false) && (decide (ss.length ≤ k) || !(verS L ⟨ks.getD k ⟨0, 0, 0, 0, 0, 0, 0, 0⟩, m⟩ (ss.getD k []))))) := rfl
   generalize missTo (lacksE L m ks ss fs) k = Mk at *
   generalize lacksE L m ks ss fs k = lk at *
   generalize ks.getD k ⟨0, 0, 0, 0, 0, 0, 0, 0⟩ = d at *
   have Hdo := Lib.hid hdo
   have x0 := x 0 (by decide); have x1 := x 1 (by decide); have x2 := x 2 (by decide); have x3 := x 3 (by decide); have x4 := x 4 (by decide); have x5 := x 5 (by decide); have x6 := x 6 (by decide); have x7 := x 7 (by decide)
   simp [D8.cells] at x0 x1 x2 x3 x4 x5 x6 x7
   clear x hdo
   have hd1 : decide ((k : Int) < (nk : Int)) = true := decide_eq_true (by omega)
   have hi0 : (0 : Int) ≤ (k : Int) := by omega
   have hki : (k : Int) < (nk : Int) := by omega
   have hsz := Hb.out.size
   have HM2 := Lib.hid (block_alloc HM.out (.cells #[.int .u8 d.x0, .int .u8 d.x1, .int .u8 d.x2, .int .u8 d.x3, .int .u8 d.x4, .int .u8 d.x5, .int .u8 d.x6, .int .u8 d.x7] 27))
   have HD2 : Hid ((wr.alloc (.cells #[.int .u8 d.x0, .int .u8 d.x1, .int .u8 d.x2, .int .u8 d.x3, .int .u8 d.x4, .int .u8 d.x5, .int .u8 d.x6, .int .u8 d.x7] 27)).heap[wr.heap.size]? = some (.cells #[.int .u8 d.x0, .int .u8 d.x1, .int .u8 d.x2, .int .u8 d.x3, .int .u8 d.x4, .int .u8 d.x5, .int .u8 d.x6, .int .u8 d.x7] 27 (0, 0))) := heap_alloc_new wr _
   have Hown2 := Lib.hid (Hown.out.alloc (.cells #[.int .u8 d.x0, .int .u8 d.x1, .int .u8 d.x2, .int .u8 d.x3, .int .u8 d.x4, .int .u8 d.x5, .int .u8 d.x6, .int .u8 d.x7] 27))
   have Hb2 := Lib.hid (Hb.out.alloc Hb.out.size (.cells #[.int .u8 d.x0, .int .u8 d.x1, .int .u8 d.x2, .int .u8 d.x3, .int .u8 d.x4, .int .u8 d.x5, .int .u8 d.x6, .int .u8 d.x7] 27))
   have HBk2 := Lib.hid (HBk.out.below (below_one wr (.cells #[.int .u8 d.x0, .int .u8 d.x1, .int .u8 d.x2, .int .u8 d.x3, .int .u8 d.x4, .int .u8 d.x5, .int .u8 d.x6, .int .u8 d.x7] 27)))
   have Hlt := Lib.hid (block_lt HM.out)
   have Hsz2 : Hid ((wr.alloc (.cells #[.int .u8 d.x0, .int .u8 d.x1, .int .u8 d.x2, .int .u8 d.x3, .int .u8 d.x4, .int .u8 d.x5, .int .u8 d.x6, .int .u8 d.x7] 27)).heap.size = wr.heap.size + 1) := Lib.hid (by simp)
   generalize hfv : fs.getD k false = fv at *
   have Hfv := Lib.hid hfv
   clear hfv HM Hown Hb HBk hsz
   go_upto_region 5 with fail
   have hmk : wr.heap.size < (wr.alloc (.cells #[.int .u8 d.x0, .int .u8 d.x1, .int .u8 d.x2, .int .u8 d.x3, .int .u8 d.x4, .int .u8 d.x5, .int .u8 d.x6, .int .u8 d.x7] 27)).heap.size := by rw [Hsz2.out]; omega
   generalize wr.heap.size = bd at *
   generalize wr.alloc (.cells #[.int .u8 d.x0, .int .u8 d.x1, .int .u8 d.x2, .int .u8 d.x3, .int .u8 d.x4, .int .u8 d.x5, .int .u8 d.x6, .int .u8 d.x7] 27) = w2 at *
   go_cut [21] (fun s21 wx => s21 = .bool fv ∧ wx = w2)
   case first =>
    by_cases hkf : k < nf
    ·obtain ⟨b5, o5, rfl, hb5, y⟩ := (Hf.out.below Hb2.out (Nat.le_refl _)).boolB hkf
     rw [Hfv.out] at y
     have hd2 : decide ((k : Int) < (nf : Int)) = true := decide_eq_true (by omega)
     have hkf2 : (k : Int) < (nf : Int) := by omega
     go_wp2_with fail
     go_meet
     exact ⟨rfl, rfl⟩
    ·have hd2 : decide ((k : Int) < (nf : Int)) = false := decide_eq_false (by omega)
     have : fs.getD k false = false := by
      have hkl : fs.length ≤ k := by have := Hlf.out; omega
      simp [List.getD_eq_getElem?_getD, hkl]
     rw [Hfv.out] at this
     subst this
     go_wp2_with fail
     go_meet
     exact ⟨rfl, rfl⟩
   case rest =>
    obtain ⟨rfl, rfl⟩ := hcut
    obtain ⟨w2, rfl⟩ : ∃ w2 : World, w2 = wc := ⟨_, rfl⟩
    cases fv with
    | true =>
     have Hl2 : Hid (lk = false) := by show _ = _; rw [Hlack.out]; rfl
     go_wp2
     go_roundw
     case rel => exact ⟨k + 1, n11, hlt, by go_num, by omega, by rw [Hno.out Hl2.out]; exact Hown2, HM2, HBk2, Hb2⟩
     case measure => simp [Lib.intOf]; omega
    | false =>
     go_upto_region 6 with fail
     go_cut [32] (fun s32 wx => s32 = .bool lk ∧ Hid (wx.ownsRow (w.heap.size + 1) 3 1 (.slice A' n11 c') n11 (bvI Mk)) ∧ Hid (wx.heap[w.heap.size]? = some (.cells #[.int .u8 m.x0, .int .u8 m.x1, .int .u8 m.x2, .int .u8 m.x3, .int .u8 m.x4, .int .u8 m.x5, .int .u8 m.x6, .int .u8 m.x7] 27 (0, 0))) ∧ Hid (BookAt wx B bk mb L) ∧ Hid (Below w.heap.size w wx))
     case first =>
      by_cases hks : k < ns
      ·obtain ⟨b6, o6, rfl, hb6, hel⟩ := (Hs.out.below Hb2.out (Nat.le_refl _)).2 (by omega)
       obtain ⟨A6, m6, c6, y, hr6⟩ := hel k hks
       have hd3 : decide ((ns : Int) ≤ (k : Int)) = false := decide_eq_false (by omega)
       have hd4 : decide (ns ≤ k) = false := decide_eq_false (by omega)
       have hkls : k < ss.length := by have := Hls.out; omega
       have hsm : ss.getD k [] ∈ ss := by
        rw [List.getD_eq_getElem?_getD, List.getElem?_eq_getElem hkls]; exact List.getElem_mem hkls
       obtain ⟨hs1, hs2⟩ := Hso.out _ hsm
       have Hv : Hid (lk = !(verS L ⟨d, m⟩ (ss.getD k []))) := by
        show _ = _
        rw [Hlack.out, decide_eq_false (by omega)]; simp
       have hm6 : m6 ≤ 1000 := by have := hr6.blenN; omega
       have Hs2 := Lib.hid hs2
       have Hr6 := Lib.hid hr6
       generalize ss.getD k [] = s6 at *
       have hks2 : (k : Int) < (ns : Int) := by omega
       clear hel hsm hs1 hs2 hr6 hkls Hlack
       have hS : (w2.heap[bd]? = some (.cells #[.int .u8 d.x0, .int .u8 d.x1, .int .u8 d.x2, .int .u8 d.x3, .int .u8 d.x4, .int .u8 d.x5, .int .u8 d.x6, .int .u8 d.x7] 27 (0, 0)) ∧ w2.heap[w.heap.size]? = some (.cells #[.int .u8 m.x0, .int .u8 m.x1, .int .u8 m.x2, .int .u8 m.x3, .int .u8 m.x4, .int .u8 m.x5, .int .u8 m.x6, .int .u8 m.x7] 27 (0, 0))) ∧ w2.cell? ⟨b6, o6 + k, none⟩ = some (.slice A6 m6 c6) := ⟨⟨HD2.out, HM2.out⟩, y⟩
       refine wp_region_held_drew (S := fun w' => (w'.heap[bd]? = some (.cells #[.int .u8 d.x0, .int .u8 d.x1, .int .u8 d.x2, .int .u8 d.x3, .int .u8 d.x4, .int .u8 d.x5, .int .u8 d.x6, .int .u8 d.x7] 27 (0, 0)) ∧ w'.heap[w.heap.size]? = some (.cells #[.int .u8 m.x0, .int .u8 m.x1, .int .u8 m.x2, .int .u8 m.x3, .int .u8 m.x4, .int .u8 m.x5, .int .u8 m.x6, .int .u8 m.x7] 27 (0, 0))) ∧ w'.cell? ⟨b6, o6 + k, none⟩ = some (.slice A6 m6 c6)) (by kernel_rfl) hS (fun hHeld => ?_)
       refine takeH 0 (some 33) (v := ?_) rfl (by kernel_rfl) (by kernel_rfl) (by kernel_rfl) (by kernel_rfl) (fun _ _ _ h => h) (Or.inl ⟨by kernel_rfl, ?hy⟩) (by assumption) ?_
       case hy =>
        intro w' hSw
        try dsimp only at hSw
        first
         | (go_simp; done)
         | (go_simp; with_reducible rfl)
       simp only [Act.put, sA, sZ, sS]
       refine takeH 1 (some 34) (v := ?_) rfl (by kernel_rfl) (by kernel_rfl) (by kernel_rfl) (by kernel_rfl) (fun _ _ _ h => h) (Or.inl ⟨by kernel_rfl, ?hy⟩) (by assumption) ?_
       case hy =>
        intro w' hSw
        try dsimp only at hSw
        first
         | (go_simp; done)
         | (go_simp; with_reducible rfl)
       simp only [Act.put, sA, sZ, sS]
       refine takeH 2 (some 35) (v := ?_) rfl (by kernel_rfl) (by kernel_rfl) (by kernel_rfl) (by kernel_rfl) (fun _ _ _ h => h) (Or.inl ⟨by kernel_rfl, ?hy⟩) (by assumption) ?_
       case hy =>
        intro w' hSw
        try dsimp only at hSw
        first
         | (go_simp; done)
         | (go_simp; with_reducible rfl)
       simp only [Act.put, sA, sZ, sS]
       refine takeH 3 (some 36) (v := ?_) rfl (by kernel_rfl) (by kernel_rfl) (by kernel_rfl) (by kernel_rfl) (fun _ _ _ h => h) (Or.inl ⟨by kernel_rfl, ?hy⟩) (by assumption) ?_
       case hy =>
        intro w' hSw
        try dsimp only at hSw
        first
         | (go_simp; done)
         | (go_simp; with_reducible rfl)
       simp only [Act.put, sA, sZ, sS]
       refine takeH 4 (some 37) (v := ?_) rfl (by kernel_rfl) (by kernel_rfl) (by kernel_rfl) (by kernel_rfl) (fun _ _ _ h => h) (Or.inl ⟨by kernel_rfl, ?hy⟩) (by assumption) ?_
       case hy =>
        intro w' hSw
        try dsimp only at hSw
        first
         | (go_simp; done)
         | (go_simp; with_reducible rfl)
       simp only [Act.put, sA, sZ, sS]
       refine takeH 5 (some 38) (v := ?_) rfl (by kernel_rfl) (by kernel_rfl) (by kernel_rfl) (by kernel_rfl) (fun _ _ _ h => h) (Or.inl ⟨by kernel_rfl, ?hy⟩) (by assumption) ?_
       case hy =>
        intro w' hSw
        try dsimp only at hSw
        first
         | (go_simp; done)
         | (go_simp; with_reducible rfl)
       simp only [Act.put, sA, sZ, sS]
       refine takeH 6 (some 39) (v := ?_) rfl (by kernel_rfl) (by kernel_rfl) (by kernel_rfl) (by kernel_rfl) (fun _ _ _ h => h) (Or.inl ⟨by kernel_rfl, ?hy⟩) (by assumption) ?_
       case hy =>
        intro w' hSw
        try dsimp only at hSw
        first
         | (go_simp; done)
         | (go_simp; with_reducible rfl)
       simp only [Act.put, sA, sZ, sS]
       refine takeH 7 (some 40) (v := ?_) rfl (by kernel_rfl) (by kernel_rfl) (by kernel_rfl) (by kernel_rfl) (fun _ _ _ h => h) (Or.inl ⟨by kernel_rfl, ?hy⟩) (by assumption) ?_
       case hy =>
        intro w' hSw
        try dsimp only at hSw
        first
         | (go_simp; done)
         | (go_simp; with_reducible rfl)
       simp only [Act.put, sA, sZ, sS]
       refine takeH 8 (some 41) (v := ?_) rfl (by kernel_rfl) (by kernel_rfl) (by kernel_rfl) (by kernel_rfl) (fun _ _ _ h => h) (Or.inl ⟨by kernel_rfl, ?hy⟩) (by assumption) ?_
       case hy =>
        intro w' hSw
        try dsimp only at hSw
        first
         | (go_simp; done)
         | (go_simp; with_reducible rfl)
       simp only [Act.put, sA, sZ, sS]
       refine takeH 9 (some 42) (v := ?_) rfl (by kernel_rfl) (by kernel_rfl) (by kernel_rfl) (by kernel_rfl) (fun _ _ _ h => h) (Or.inl ⟨by kernel_rfl, ?hy⟩) (by assumption) ?_
       case hy =>
        intro w' hSw
        try dsimp only at hSw
        first
         | (go_simp; done)
         | (go_simp; with_reducible rfl)
       simp only [Act.put, sA, sZ, sS]
       refine takeH 10 (some 43) (v := ?_) rfl (by kernel_rfl) (by kernel_rfl) (by kernel_rfl) (by kernel_rfl) (fun _ _ _ h => h) (Or.inl ⟨by kernel_rfl, ?hy⟩) (by assumption) ?_
       case hy =>
        intro w' hSw
        try dsimp only at hSw
        have x := block_cell hSw.1.1
        have x0 := x 0; have x1 := x 1; have x2 := x 2; have x3 := x 3; have x4 := x 4; have x5 := x 5; have x6 := x 6; have x7 := x 7
        simp at x0 x1 x2 x3 x4 x5 x6 x7
        clear x hSw
        first
         | (go_simp; done)
         | (go_simp; with_reducible rfl)
       simp only [Act.put, sA, sZ, sS]
       refine takeH 11 (some 44) (v := ?_) rfl (by kernel_rfl) (by kernel_rfl) (by kernel_rfl) (by kernel_rfl) (fun _ _ _ h => h) (Or.inl ⟨by kernel_rfl, ?hy⟩) (by assumption) ?_
       case hy =>
        intro w' hSw
        try dsimp only at hSw
        have x := block_cell hSw.1.2
        have x0 := x 0; have x1 := x 1; have x2 := x 2; have x3 := x 3; have x4 := x 4; have x5 := x 5; have x6 := x 6; have x7 := x 7
        simp at x0 x1 x2 x3 x4 x5 x6 x7
        clear x hSw
        first
         | (go_simp; done)
         | (go_simp; with_reducible rfl)
       simp only [Act.put, sA, sZ, sS]
       refine takeH 12 (some 45) (v := ?_) rfl (by kernel_rfl) (by kernel_rfl) (by kernel_rfl) (by kernel_rfl) (fun _ _ _ h => h) (Or.inl ⟨by kernel_rfl, ?hy⟩) (by assumption) ?_
       case hy =>
        intro w' hSw
        try dsimp only at hSw
        first
         | (go_simp; done)
         | (go_simp; with_reducible rfl)
       simp only [Act.put, sA, sZ, sS]
       refine takeH 13 (some 46) (v := ?_) rfl (by kernel_rfl) (by kernel_rfl) (by kernel_rfl) (by kernel_rfl) (fun _ _ _ h => h) (Or.inl ⟨by kernel_rfl, ?hy⟩) (by assumption) ?_
       case hy =>
        intro w' hSw
        try dsimp only at hSw
        first
         | (go_simp; done)
         | (go_simp; with_reducible rfl)
       simp only [Act.put, sA, sZ, sS]
       refine takeH 14 (some 47) (v := ?_) rfl (by kernel_rfl) (by kernel_rfl) (by kernel_rfl) (by kernel_rfl) (fun _ _ _ h => h) (Or.inl ⟨by kernel_rfl, ?hy⟩) (by assumption) ?_
       case hy =>
        intro w' hSw
        try dsimp only at hSw
        first
         | (go_simp; done)
         | (go_simp; with_reducible rfl)
       simp only [Act.put, sA, sZ, sS]
       refine takeH 15 (some 48) (v := ?_) rfl (by kernel_rfl) (by kernel_rfl) (by kernel_rfl) (by kernel_rfl) (fun _ _ _ h => h) (Or.inl ⟨by kernel_rfl, ?hy⟩) (by assumption) ?_
       case hy =>
        intro w' hSw
        try dsimp only at hSw
        first
         | (go_simp; done)
         | (go_simp; with_reducible rfl)
       simp only [Act.put, sA, sZ, sS]
       refine takeH 17 (some 50) (v := ?_) rfl (by kernel_rfl) (by kernel_rfl) (by kernel_rfl) (by kernel_rfl) (fun _ _ _ h => h) (Or.inl ⟨by kernel_rfl, ?hy⟩) (by assumption) ?_
       case hy =>
        intro w' hSw
        try dsimp only at hSw
        first
         | (go_simp; done)
         | (go_simp; with_reducible rfl)
       simp only [Act.put, sA, sZ, sS]
       refine takeH 18 (some 51) (v := ?_) rfl (by kernel_rfl) (by kernel_rfl) (by kernel_rfl) (by kernel_rfl) (fun _ _ _ h => h) (Or.inl ⟨by kernel_rfl, ?hy⟩) (by assumption) ?_
       case hy =>
        intro w' hSw
        try dsimp only at hSw
        first
         | (go_simp; done)
         | (go_simp; with_reducible rfl)
       simp only [Act.put, sA, sZ, sS]
       refine takeH 19 (some 52) (v := ?_) rfl (by kernel_rfl) (by kernel_rfl) (by kernel_rfl) (by kernel_rfl) (fun _ _ _ h => h) (Or.inl ⟨by kernel_rfl, ?hy⟩) (by assumption) ?_
       case hy =>
        intro w' hSw
        try dsimp only at hSw
        first
         | (go_simp; done)
         | (go_simp; with_reducible rfl)
       simp only [Act.put, sA, sZ, sS]
       refine wpAnyH_ready (rs := [16]) (by kernel_rfl) (by simp) ?_
       refine AllReadyH.cons rfl (fun K hK => ?_) AllReadyH.nil
       rw [if_pos (by kernel_rfl)]
       go_simp
       refine (bclone_any s6 A6 m6 c6 w2.drew ((Hr6.out.below (Below.refl _ _).drew (by have := Hb2.out.size; omega)).more (by have := Hb2.out.size; exact this)) (by omega)).mono ?_
       rintro r v1 ⟨A7, c7, rfl, hr7, hb⟩
       have hq := (Below.refl w2.heap.size w2).drew.trans hb
       have hS1 : (v1.heap[bd]? = some (.cells #[.int .u8 d.x0, .int .u8 d.x1, .int .u8 d.x2, .int .u8 d.x3, .int .u8 d.x4, .int .u8 d.x5, .int .u8 d.x6, .int .u8 d.x7] 27 (0, 0)) ∧ v1.heap[w.heap.size]? = some (.cells #[.int .u8 m.x0, .int .u8 m.x1, .int .u8 m.x2, .int .u8 m.x3, .int .u8 m.x4, .int .u8 m.x5, .int .u8 m.x6, .int .u8 m.x7] 27 (0, 0))) ∧ v1.cell? ⟨b6, o6 + k, none⟩ = some (.slice A6 m6 c6) := ⟨⟨block_below HD2.out hq hmk, block_below HM2.out hq (block_lt HM2.out)⟩, cell_kept y hq (by have := Hb2.out.size; omega)⟩
       have HO1 := Lib.hid (own_below Hown2.out hq); have HB1 := Lib.hid (HBk2.out.below hq); have Hb1 := Lib.hid (Hb2.out.trans (hq.mono Hb2.out.size))
       refine hK.out _ _ hS1 (fun _ => ?_)
       clear hK K hS y
       refine wpAnyH_ready (rs := [20]) (by kernel_rfl) (by simp) ?_
       refine AllReadyH.cons rfl (fun K hK => ?_) AllReadyH.nil
       rw [if_pos (by kernel_rfl)]
       go_simp
       refine (bverify_any _ _ _ _ ⟨d, m⟩ A7 m6 c7 s6 v1 HB1.out ⟨Hdo.out, Hm.out⟩ Hlen.out hr7 Hs2.out).mono ?_
       rintro r v2 ⟨rfl, hq2⟩
       have hS2 : (v2.heap[bd]? = some (.cells #[.int .u8 d.x0, .int .u8 d.x1, .int .u8 d.x2, .int .u8 d.x3, .int .u8 d.x4, .int .u8 d.x5, .int .u8 d.x6, .int .u8 d.x7] 27 (0, 0)) ∧ v2.heap[w.heap.size]? = some (.cells #[.int .u8 m.x0, .int .u8 m.x1, .int .u8 m.x2, .int .u8 m.x3, .int .u8 m.x4, .int .u8 m.x5, .int .u8 m.x6, .int .u8 m.x7] 27 (0, 0))) ∧ v2.cell? ⟨b6, o6 + k, none⟩ = some (.slice A6 m6 c6) := ⟨⟨block_below hS1.1.1 hq2 (block_lt hS1.1.1), block_below hS1.1.2 hq2 (block_lt hS1.1.2)⟩, cell_kept hS1.2 hq2 (by have := Hb1.out.size; omega)⟩
       have HO2 := Lib.hid (own_below HO1.out hq2); have HB2 := Lib.hid (HB1.out.below hq2); have Hb3 := Lib.hid (Hb1.out.trans (hq2.mono Hb1.out.size)); have HM3 := Lib.hid hS2.1.2
       refine hK.out _ _ hS2 (fun _ => ?_)
       clear hK K hS1 hS2
       generalize verS L ⟨d, m⟩ s6 = vb at *
       refine takeH 21 (some 54) (v := ?_) rfl (by kernel_rfl) (by kernel_rfl) (by kernel_rfl) (by kernel_rfl) (fun _ _ _ h => h) (Or.inl ⟨by kernel_rfl, ?hy⟩) (by assumption) ?_
       case hy =>
        intro w' hSw
        try dsimp only at hSw
        first
         | (go_simp; done)
         | (go_simp; with_reducible rfl)
       simp only [Act.put, sA, sZ, sS]
       refine takeH 22 (some 55) (v := ?_) rfl (by kernel_rfl) (by kernel_rfl) (by kernel_rfl) (by kernel_rfl) (fun _ _ _ h => h) (Or.inl ⟨by kernel_rfl, ?hy⟩) (by assumption) ?_
       case hy =>
        intro w' hSw
        try dsimp only at hSw
        first
         | (go_simp; done)
         | (go_simp; with_reducible rfl)
       simp only [Act.put, sA, sZ, sS]
       refine takeH 23 (some 32) (v := ?_) rfl (by kernel_rfl) (by kernel_rfl) (by kernel_rfl) (by kernel_rfl) (fun _ _ _ h => h) (Or.inl ⟨by kernel_rfl, ?hy⟩) (by assumption) ?_
       case hy =>
        intro w' hSw
        try dsimp only at hSw
        first
         | (go_simp; done)
         | (go_simp; with_reducible rfl)
       simp only [Act.put, sA, sZ, sS]
       refine wpAnyH_done (by kernel_rfl) ?_ _
       go_wp2_with fail
       go_meet
       exact ⟨by rw [Hv.out], HO2, HM3, HB2, Hb3⟩
      ·have hd3 : decide ((ns : Int) ≤ (k : Int)) = true := decide_eq_true (by omega)
       have hd4 : decide (ns ≤ k) = true := decide_eq_true (by omega)
       have Hv : Hid (lk = true) := by
        show _ = _
        rw [Hlack.out, decide_eq_true (by have := Hls.out; omega)]; simp
       refine wp_region_held_drew (S := fun _ => True) (by kernel_rfl) trivial (fun hHeld => ?_)
       refine takeH 0 (some 33) (v := ?_) rfl (by kernel_rfl) (by kernel_rfl) (by kernel_rfl) (by kernel_rfl) (fun _ _ _ h => h) (Or.inl ⟨by kernel_rfl, ?hy⟩) (by assumption) ?_
       case hy =>
        intro w' hSw
        try dsimp only at hSw
        first
         | (go_simp; done)
         | (go_simp; with_reducible rfl)
       simp only [Act.put, sA, sZ, sS]
       refine takeH 1 (some 34) (v := ?_) rfl (by kernel_rfl) (by kernel_rfl) (by kernel_rfl) (by kernel_rfl) (fun _ _ _ h => h) (Or.inl ⟨by kernel_rfl, ?hy⟩) (by assumption) ?_
       case hy =>
        intro w' hSw
        try dsimp only at hSw
        first
         | (go_simp; done)
         | (go_simp; with_reducible rfl)
       simp only [Act.put, sA, sZ, sS]
       refine takeH 2 (some 35) (v := ?_) rfl (by kernel_rfl) (by kernel_rfl) (by kernel_rfl) (by kernel_rfl) (fun _ _ _ h => h) (Or.inl ⟨by kernel_rfl, ?hy⟩) (by assumption) ?_
       case hy =>
        intro w' hSw
        try dsimp only at hSw
        first
         | (go_simp; done)
         | (go_simp; with_reducible rfl)
       simp only [Act.put, sA, sZ, sS]
       refine takeH 3 (some 36) (v := ?_) rfl (by kernel_rfl) (by kernel_rfl) (by kernel_rfl) (by kernel_rfl) (fun _ _ _ h => h) (Or.inl ⟨by kernel_rfl, ?hy⟩) (by assumption) ?_
       case hy =>
        intro w' hSw
        try dsimp only at hSw
        first
         | (go_simp; done)
         | (go_simp; with_reducible rfl)
       simp only [Act.put, sA, sZ, sS]
       refine takeH 4 (some 37) (v := ?_) rfl (by kernel_rfl) (by kernel_rfl) (by kernel_rfl) (by kernel_rfl) (fun _ _ _ h => h) (Or.inl ⟨by kernel_rfl, ?hy⟩) (by assumption) ?_
       case hy =>
        intro w' hSw
        try dsimp only at hSw
        first
         | (go_simp; done)
         | (go_simp; with_reducible rfl)
       simp only [Act.put, sA, sZ, sS]
       refine takeH 5 (some 38) (v := ?_) rfl (by kernel_rfl) (by kernel_rfl) (by kernel_rfl) (by kernel_rfl) (fun _ _ _ h => h) (Or.inl ⟨by kernel_rfl, ?hy⟩) (by assumption) ?_
       case hy =>
        intro w' hSw
        try dsimp only at hSw
        first
         | (go_simp; done)
         | (go_simp; with_reducible rfl)
       simp only [Act.put, sA, sZ, sS]
       refine takeH 6 (some 39) (v := ?_) rfl (by kernel_rfl) (by kernel_rfl) (by kernel_rfl) (by kernel_rfl) (fun _ _ _ h => h) (Or.inl ⟨by kernel_rfl, ?hy⟩) (by assumption) ?_
       case hy =>
        intro w' hSw
        try dsimp only at hSw
        first
         | (go_simp; done)
         | (go_simp; with_reducible rfl)
       simp only [Act.put, sA, sZ, sS]
       refine takeH 7 (some 40) (v := ?_) rfl (by kernel_rfl) (by kernel_rfl) (by kernel_rfl) (by kernel_rfl) (fun _ _ _ h => h) (Or.inl ⟨by kernel_rfl, ?hy⟩) (by assumption) ?_
       case hy =>
        intro w' hSw
        try dsimp only at hSw
        first
         | (go_simp; done)
         | (go_simp; with_reducible rfl)
       simp only [Act.put, sA, sZ, sS]
       refine takeH 8 (some 41) (v := ?_) rfl (by kernel_rfl) (by kernel_rfl) (by kernel_rfl) (by kernel_rfl) (fun _ _ _ h => h) (Or.inl ⟨by kernel_rfl, ?hy⟩) (by assumption) ?_
       case hy =>
        intro w' hSw
        try dsimp only at hSw
        first
         | (go_simp; done)
         | (go_simp; with_reducible rfl)
       simp only [Act.put, sA, sZ, sS]
       refine takeH 9 (some 42) (v := undef) rfl (by kernel_rfl) (by kernel_rfl) (by kernel_rfl) (by kernel_rfl) (fun _ _ _ h => h) (Or.inr ⟨by kernel_rfl, rfl⟩) (by assumption) ?_
       simp only [Act.put, sA, sZ, sS]
       refine takeH 10 (some 43) (v := undef) rfl (by kernel_rfl) (by kernel_rfl) (by kernel_rfl) (by kernel_rfl) (fun _ _ _ h => h) (Or.inr ⟨by kernel_rfl, rfl⟩) (by assumption) ?_
       simp only [Act.put, sA, sZ, sS]
       refine takeH 11 (some 44) (v := undef) rfl (by kernel_rfl) (by kernel_rfl) (by kernel_rfl) (by kernel_rfl) (fun _ _ _ h => h) (Or.inr ⟨by kernel_rfl, rfl⟩) (by assumption) ?_
       simp only [Act.put, sA, sZ, sS]
       refine takeH 12 (some 45) (v := undef) rfl (by kernel_rfl) (by kernel_rfl) (by kernel_rfl) (by kernel_rfl) (fun _ _ _ h => h) (Or.inr ⟨by kernel_rfl, rfl⟩) (by assumption) ?_
       simp only [Act.put, sA, sZ, sS]
       refine takeH 13 (some 46) (v := undef) rfl (by kernel_rfl) (by kernel_rfl) (by kernel_rfl) (by kernel_rfl) (fun _ _ _ h => h) (Or.inr ⟨by kernel_rfl, rfl⟩) (by assumption) ?_
       simp only [Act.put, sA, sZ, sS]
       refine takeH 14 (some 47) (v := undef) rfl (by kernel_rfl) (by kernel_rfl) (by kernel_rfl) (by kernel_rfl) (fun _ _ _ h => h) (Or.inr ⟨by kernel_rfl, rfl⟩) (by assumption) ?_
       simp only [Act.put, sA, sZ, sS]
       refine takeH 15 (some 48) (v := undef) rfl (by kernel_rfl) (by kernel_rfl) (by kernel_rfl) (by kernel_rfl) (fun _ _ _ h => h) (Or.inr ⟨by kernel_rfl, rfl⟩) (by assumption) ?_
       simp only [Act.put, sA, sZ, sS]
       refine takeH 16 (some 49) (v := undef) rfl (by kernel_rfl) (by kernel_rfl) (by kernel_rfl) (by kernel_rfl) (fun _ _ _ h => h) (Or.inr ⟨by kernel_rfl, rfl⟩) (by assumption) ?_
       simp only [Act.put, sA, sZ, sS]
       refine takeH 17 (some 50) (v := undef) rfl (by kernel_rfl) (by kernel_rfl) (by kernel_rfl) (by kernel_rfl) (fun _ _ _ h => h) (Or.inr ⟨by kernel_rfl, rfl⟩) (by assumption) ?_
       simp only [Act.put, sA, sZ, sS]
       refine takeH 18 (some 51) (v := undef) rfl (by kernel_rfl) (by kernel_rfl) (by kernel_rfl) (by kernel_rfl) (fun _ _ _ h => h) (Or.inr ⟨by kernel_rfl, rfl⟩) (by assumption) ?_
       simp only [Act.put, sA, sZ, sS]
       refine takeH 19 (some 52) (v := undef) rfl (by kernel_rfl) (by kernel_rfl) (by kernel_rfl) (by kernel_rfl) (fun _ _ _ h => h) (Or.inr ⟨by kernel_rfl, rfl⟩) (by assumption) ?_
       simp only [Act.put, sA, sZ, sS]
       refine takeH 20 (some 53) (v := undef) rfl (by kernel_rfl) (by kernel_rfl) (by kernel_rfl) (by kernel_rfl) (fun _ _ _ h => h) (Or.inr ⟨by kernel_rfl, rfl⟩) (by assumption) ?_
       simp only [Act.put, sA, sZ, sS]
       refine takeH 21 (some 54) (v := undef) rfl (by kernel_rfl) (by kernel_rfl) (by kernel_rfl) (by kernel_rfl) (fun _ _ _ h => h) (Or.inr ⟨by kernel_rfl, rfl⟩) (by assumption) ?_
       simp only [Act.put, sA, sZ, sS]
       refine takeH 22 (some 55) (v := ?_) rfl (by kernel_rfl) (by kernel_rfl) (by kernel_rfl) (by kernel_rfl) (fun _ _ _ h => h) (Or.inl ⟨by kernel_rfl, ?hy⟩) (by assumption) ?_
       case hy =>
        intro w' hSw
        try dsimp only at hSw
        first
         | (go_simp; done)
         | (go_simp; with_reducible rfl)
       simp only [Act.put, sA, sZ, sS]
       refine takeH 23 (some 32) (v := ?_) rfl (by kernel_rfl) (by kernel_rfl) (by kernel_rfl) (by kernel_rfl) (fun _ _ _ h => h) (Or.inl ⟨by kernel_rfl, ?hy⟩) (by assumption) ?_
       case hy =>
        intro w' hSw
        try dsimp only at hSw
        first
         | (go_simp; done)
         | (go_simp; with_reducible rfl)
       simp only [Act.put, sA, sZ, sS]
       refine wpAnyH_done (by kernel_rfl) ?_ _
       go_wp2_with fail
       go_meet
       exact ⟨by rw [Hv.out], Lib.hid (own_below Hown2.out (Below.refl _ _).drew), HM2, Lib.hid (HBk2.out.below (Below.refl _ _).drew), Lib.hid Hb2.out.drew⟩
     case rest =>
      obtain ⟨rfl, HO3, HM3, HB3, Hb3⟩ := hcut
      have HI2 := HI
      cases lk with
      | false =>
       go_wp2
       go_roundw
       case rel => exact ⟨k + 1, n11, hlt, by go_num, by omega, by rw [Hno.out rfl]; exact HO3, HM3, HB3, Hb3⟩
       case measure => simp [Lib.intOf]; omega
      | true =>
       have Hu := Lib.hid Tryz.underlying30
       have hsz3 := Lib.hid (block_lt HM3.out)
       go_wp2_with (at_builtin; go_must (refine wpList_append_lit wc (by rfl) _ _ 30 (by rfl) (w.heap.size + 1) 3 i0 (.int .i64 0) 1 8 Hu.out HI.out rfl (by decide) _ _ _ (by rfl) HO3.out 1 1 #[.int .i64 k] 3 (by simp [Act.eval]) rfl (by simp [Value.oneCell']) (by omega) (by omega) (by have := hsz3.out; omega) ?_); intro v5 w5 hown5 hbel5; have HO5 := Lib.hid hown5; have Hb5 := Lib.hid (Hb3.out.trans (hbel5.mono (by omega))); have HM5 := Lib.hid (block_below HM3.out hbel5 (by omega)); have Hq5 := Lib.hid hbel5; clear hown5 hbel5)
       go_roundw
       case rel => exact ⟨k + 1, n11 + 1, hlt, by go_num, by omega, by rw [Hyes.out rfl, bvI_append]; exact HO5, HM5, Lib.hid (H.out.below Hb5.out), Hb5⟩
       case measure => simp [Lib.intOf]; omega
  ·have hkk : k = nk := by omega
   subst hkk
   have hd1 : decide ((k : Int) < (k : Int)) = false := by simp
   clear hlt
   go_wp2
   go_ret
   exact ⟨A', n11, c', rfl, own_weak Hown.out (by omega), Hb.out⟩
end Go.Proofs.YthhiookcknnmdaaGreat
namespace Go.Proofs.YthhiookcknnmdaaGreat
open Go.RowKit Go.Lib


def allI (nk ns : Nat) (ms : List Nat) : Int := if nk = 0 ∨ ns ≠ nk then 1 else if ms.length = 0 then 0 else 16
theorem load_dig {w : World} {b : Nat} {d : D8} (h : w.heap[b]? = some (.cells #[.int .u8 d.x0, .int .u8 d.x1, .int .u8 d.x2, .int .u8 d.x3, .int .u8 d.x4, .int .u8 d.x5, .int .u8 d.x6, .int .u8 d.x7] 27 (0, 0))) : (Instr.loadAt 27 (.pointer (some ⟨b, 0, none⟩))).run Tryz.prog w = .ok (.agg #[.int .u8 d.x0, .int .u8 d.x1, .int .u8 d.x2, .int .u8 d.x3, .int .u8 d.x4, .int .u8 d.x5, .int .u8 d.x6, .int .u8 d.x7]) w := by
 have x := block_cell h
 have x0 := x 0; have x1 := x 1; have x2 := x 2; have x3 := x 3; have x4 := x 4; have x5 := x 5; have x6 := x 6; have x7 := x 7
 simp at x0 x1 x2 x3 x4 x5 x6 x7
 clear x h
 go_simp
set_option maxRecDepth 100000 in
set_option maxHeartbeats 2000000 in
theorem all_any (B bk mb : Nat) (L : List En) (ks : List D8) (Ak : Option Addr) (nk ck : Nat) (m : D8) (ss : List (List Nat)) (As : Option Addr) (ns cs : Nat) (fs : List Bool) (Af : Option Addr) (nf cf : Nat) (w : World)
  (h : BookAt w B bk mb L) (hlen : L.length < 60000) (hk : Rd w w.heap.size 8 Ak nk (flatD ks)) (hko : ∀ x ∈ ks, x.ok) (hm : m.ok) (hs : SigRd w w.heap.size As ns ss) (hso : ∀ s ∈ ss, s.length ≤ 1000 ∧ ∀ x ∈ s, x < 256)
  (hf : Rd w w.heap.size 1 Af nf (bvB fs)) (hnk : nk ≤ 1000) :
  Calls Tryz.prog 174 #[.iface 51 (.pointer (some ⟨bk, 0, none⟩)), .slice Ak nk ck, .agg #[.int .u8 m.x0, .int .u8 m.x1, .int .u8 m.x2, .int .u8 m.x3, .int .u8 m.x4, .int .u8 m.x5, .int .u8 m.x6, .int .u8 m.x7], .slice As ns cs, .slice Af nf cf] w fun r w' => r = .returned (.int .i64 (allI nk ns (missTo (lacksE L m ks ss fs) nk))) ∧ Below w.heap.size w w' := by
 have hb0 := below_one w (.cells #[.int .u8 m.x0, .int .u8 m.x1, .int .u8 m.x2, .int .u8 m.x3, .int .u8 m.x4, .int .u8 m.x5, .int .u8 m.x6, .int .u8 m.x7] 27)
 have HM0 : Hid ((w.alloc (.cells #[.int .u8 m.x0, .int .u8 m.x1, .int .u8 m.x2, .int .u8 m.x3, .int .u8 m.x4, .int .u8 m.x5, .int .u8 m.x6, .int .u8 m.x7] 27)).heap[w.heap.size]? = some (.cells #[.int .u8 m.x0, .int .u8 m.x1, .int .u8 m.x2, .int .u8 m.x3, .int .u8 m.x4, .int .u8 m.x5, .int .u8 m.x6, .int .u8 m.x7] 27 (0, 0))) := heap_alloc_new w _
 have x := block_cell HM0.out
 have x0 := x 0; have x1 := x 1; have x2 := x 2; have x3 := x 3; have x4 := x 4; have x5 := x 5; have x6 := x 6; have x7 := x 7
 simp at x0 x1 x2 x3 x4 x5 x6 x7
 have hz : w.heap.size < (w.alloc (.cells #[.int .u8 m.x0, .int .u8 m.x1, .int .u8 m.x2, .int .u8 m.x3, .int .u8 m.x4, .int .u8 m.x5, .int .u8 m.x6, .int .u8 m.x7] 27)).heap.size := by simp
 have HA : Hid (∀ w0, w0 = w.alloc (.cells #[.int .u8 m.x0, .int .u8 m.x1, .int .u8 m.x2, .int .u8 m.x3, .int .u8 m.x4, .int .u8 m.x5, .int .u8 m.x6, .int .u8 m.x7] 27) → Calls Tryz.prog 177 #[.iface 51 (.pointer (some ⟨bk, 0, none⟩)), .slice Ak nk ck, .agg #[.int .u8 m.x0, .int .u8 m.x1, .int .u8 m.x2, .int .u8 m.x3, .int .u8 m.x4, .int .u8 m.x5, .int .u8 m.x6, .int .u8 m.x7], .slice As ns cs, .slice Af nf cf] w0 fun r w' => ∃ A' n' c', r = .returned (.slice A' n' c') ∧ n' = (missTo (lacksE L m ks ss fs) nk).length ∧ Below w.heap.size w w') := by
  rintro w0 rfl
  refine (missing_any B bk mb L ks Ak nk ck m ss As ns cs fs Af nf cf _ (h.below hb0) hlen ((hk.below hb0 (Nat.le_refl _)).more hb0.size) hko hm ((hs.below hb0 (Nat.le_refl _)).more hb0.size) hso ((hf.below hb0 (Nat.le_refl _)).more hb0.size) hnk).mono ?_
  rintro r w' ⟨A', n', c', rfl, ho, hb⟩
  exact ⟨A', n', c', rfl, by have := ho.1; simp [bvI] at this; omega, hb0.trans (hb.mono hb0.size)⟩
 have Hb0 := Lib.hid hb0
 clear x h hk hs hf hko hso hm hb0
 have HA2 := Lib.hid (HA.out _ rfl)
 clear HA
 by_cases hnk0 : nk = 0
 ·subst hnk0
  clear HA2
  go_enter Tryz.func174, Tryz.ntmps174
  go_wp2
  go_ret
  exact ⟨by simp [allI], Hb0.out⟩
 have e1 : ((nk : Int) == 0) = false := by simp; omega
 have e2 : decide ((nk : Int) = 0) = false := decide_eq_false (by omega)
 have e3 : decide (nk = 0) = false := decide_eq_false hnk0
 by_cases hns : ns = nk
 ·subst hns
  have e4 : ((ns : Int) != (ns : Int)) = false := by simp
  go_enter Tryz.func174, Tryz.ntmps174
  go_wp2_with fail
  refine HA2.out.mono ?_
  rintro r v1 ⟨A1, n1, c1, rfl, hn1, hb1⟩
  have Hb1 := Lib.hid hb1
  by_cases h0 : n1 = 0
  ·have Hr : Hid (allI ns ns (missTo (lacksE L m ks ss fs) ns) = 0) := by
    show _ = _
    unfold allI
    rw [if_neg (by omega), if_pos (by omega)]
   subst h0
   clear hn1
   go_wp2
   go_ret
   exact ⟨by rw [Hr.out]; rfl, Hb1.out⟩
  ·have Hr : Hid (allI ns ns (missTo (lacksE L m ks ss fs) ns) = 16) := by
    show _ = _
    unfold allI
    rw [if_neg (by omega), if_neg (by omega)]
   have e5 : decide ((0 : Int) < (n1 : Int)) = true := decide_eq_true (by omega)
   clear hn1
   go_wp2
   go_ret
   exact ⟨by rw [Hr.out]; rfl, Hb1.out⟩
 ·have e4 : ((ns : Int) != (nk : Int)) = true := by simp; omega
  clear HA2
  go_enter Tryz.func174, Tryz.ntmps174
  go_wp2
  go_ret
  exact ⟨by simp [allI, hns], Hb0.out⟩
end Go.Proofs.YthhiookcknnmdaaGreat
