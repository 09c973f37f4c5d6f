/- Acts in rows, and what Virtual's laws are handed of them, opened. Conditions: the row's own. Bytes, opened. Condition: the row's own. The walks of few and mine. Conditions: bounds. What any act keeps, plainly. No program in it, so there is no condition. No coin is made or lost, whatever is done; the law's own purses stay. Conditions: the law's world lies in memory. -/
import Derived.Test.YthhiookcknnmdaaGreatJoinUaa
import Derived.Test.YthhiookcknnmdaaGreatJoinUba
import Derived.Test.YthhiookcknnmdaaGreatJoinUai
import Derived.Test.YthhiookcknnmdaaGreatJoinUaj
namespace Go.Proofs.YthhiookcknnmdaaGreat
open Go.ChangeShapes Go.WideShapes Go.ChangeAt Go.RowKit Go.Joins Go.Deep
def Ac.cells (a : Ac) : List Value := [.int .u8 a.w, .int .u8 a.by_, .int .i64 a.hop, .int .i64 a.wh, .int .i64 a.party, .int .i64 a.a, .int .i64 a.b, .bool a.bad]
def flatC (l : List Ac) : List Value := l.flatMap Ac.cells
def Ac.zero : Ac := ⟨0, 0, 0, 0, 0, 0, 0, false⟩
theorem Ac.zero_ok : Ac.zero.ok := ⟨by decide, by decide, by unfold i64ok; decide, by unfold i64ok; decide, by unfold i64ok; decide, by unfold i64ok; decide, by unfold i64ok; decide⟩
theorem flatC_len (l : List Ac) : (flatC l).length = l.length * 8 := by
 induction l with
 | nil => rfl
 | cons i l ih =>
  have : flatC (i :: l) = i.cells ++ flatC l := by simp [flatC]
  rw [this, List.length_append, ih]; simp [Ac.cells]; omega
theorem flatC_at : ∀ (l : List Ac) (k j : Nat), k < l.length → j < 8 → (flatC l)[k * 8 + j]? = (l.getD k Ac.zero).cells[j]?
 | [], k, _, h, _ => by simp at h
 | i :: l, k, j, h, hj => by
  have e : flatC (i :: l) = i.cells ++ flatC l := by simp [flatC]
  have hc : i.cells.length = 8 := rfl
  rw [e]
  cases k with
  | zero => rw [List.getElem?_append_left (by omega)]; simp
  | succ k =>
   rw [List.getElem?_append_right (by omega), hc, show (k + 1) * 8 + j - 8 = k * 8 + j from by omega]
   have := flatC_at l k j (by simpa using h) hj
   simpa using this
theorem Rd.clen {w : World} {B n : Nat} {A : Option Addr} {l : List Ac} (h : Rd w B 8 A n (flatC l)) : l.length = n := by have := h.1; rw [flatC_len] at this; omega
theorem Rd.ci {w : World} {B n : Nat} {A : Option Addr} {l : List Ac} (h : Rd w B 8 A n (flatC l)) {k : Nat} (hk : k < n) :
  ∃ b o, A = some ⟨b, o, none⟩ ∧ b < B ∧ ∀ j, j < 8 → w.cell? ⟨b, o + k * 8 + j, none⟩ = (l.getD k Ac.zero).cells[j]? := by
 have hl := h.clen
 obtain ⟨b, o, e, hb, hc⟩ := h.2 (by omega)
 refine ⟨b, o, e, hb, fun j hj => ?_⟩
 have hs : ∃ u, (l.getD k Ac.zero).cells[j]? = some u := ⟨_, List.getElem?_eq_getElem (by simpa [Ac.cells] using hj)⟩
 obtain ⟨u, hu⟩ := hs
 rw [hu, Nat.add_assoc]
 exact hc (k * 8 + j) u ((flatC_at l k j (by omega) hj).trans hu)
theorem getC_ok {l : List Ac} (h : ∀ d ∈ l, d.ok) (k : Nat) : (l.getD k Ac.zero).ok := by
 rw [List.getD_eq_getElem?_getD]
 rcases hk : l[k]? with _ | x
 ·exact Ac.zero_ok
 ·exact h x (List.mem_of_getElem? hk)
theorem Rd.crange {w : World} {B n : Nat} {A : Option Addr} {l : List Ac} (h : Rd w B 8 A n (flatC l)) {k : Nat} (hk : k < n) :
  ∃ b o, A = some ⟨b, o, none⟩ ∧ b < B ∧ w.rangeAt b (o + k * 8) [.int .u8 (l.getD k Ac.zero).w, .int .u8 (l.getD k Ac.zero).by_, .int .i64 (l.getD k Ac.zero).hop, .int .i64 (l.getD k Ac.zero).wh, .int .i64 (l.getD k Ac.zero).party, .int .i64 (l.getD k Ac.zero).a, .int .i64 (l.getD k Ac.zero).b, .bool (l.getD k Ac.zero).bad] := by
 obtain ⟨b, o, e, hb, hc⟩ := h.ci hk
 refine ⟨b, o, e, hb, fun j v hj => ?_⟩
 have hj8 : j < 8 := (List.getElem?_eq_some_iff.1 hj).1
 rw [hc j hj8]; exact hj
section
variable {H : Type} {enc : TypeId × Value → H} {W : World} {base : Nat}
theorem cellsAV : Tryz.prog.cellsOf 78 = 8 := by kernel_rfl
theorem cellsIntV : Tryz.prog.cellsOf 3 = 1 := by kernel_rfl
theorem cellsBoolV : Tryz.prog.cellsOf 4 = 1 := by kernel_rfl
set_option maxRecDepth 100000 in
theorem i64_of_cells {n : Nat} {spare : Nat → Bool} {held : Bool} {cs : List Value} {x : DataW H × List MemPlace} (h : DataW.trod enc Tryz.prog W base spare held n 3 cs = some x) : ∃ b : Int, cs = [.int .i64 b] ∧ i64ok b := by
 obtain ⟨m, rfl, _, hw⟩ := DataW.trod_int Tryz.underlying3 h
 exact ⟨m, rfl, (wf_i64 hw).1, (wf_i64 hw).2⟩
set_option maxRecDepth 100000 in
theorem act_of_cellsV {n : Nat} {spare : Nat → Bool} {held : Bool} {cs : List Value} {x : DataW H × List MemPlace} (h : DataW.trod enc Tryz.prog W base spare held n 78 cs = some x) : ∃ a : Ac, cs = a.cells ∧ a.ok := by
 obtain ⟨xs, n, _, _, hl, hxl, hg⟩ := DataW.trod_struct Tryz.underlying78 h
 rw [cellsAV] at hl
 have g0 : DataW.trod enc Tryz.prog W base spare held n 5 ((cs.drop 0).take (Tryz.prog.cellsOf 5)) = xs[0]? := hg 0 _ rfl
 have g1 : DataW.trod enc Tryz.prog W base spare held n 5 ((cs.drop 1).take (Tryz.prog.cellsOf 5)) = xs[1]? := hg 1 _ rfl
 have g2 : DataW.trod enc Tryz.prog W base spare held n 3 ((cs.drop 2).take (Tryz.prog.cellsOf 3)) = xs[2]? := hg 2 _ rfl
 have g3 : DataW.trod enc Tryz.prog W base spare held n 3 ((cs.drop 3).take (Tryz.prog.cellsOf 3)) = xs[3]? := hg 3 _ rfl
 have g4 : DataW.trod enc Tryz.prog W base spare held n 3 ((cs.drop 4).take (Tryz.prog.cellsOf 3)) = xs[4]? := hg 4 _ rfl
 have g5 : DataW.trod enc Tryz.prog W base spare held n 3 ((cs.drop 5).take (Tryz.prog.cellsOf 3)) = xs[5]? := hg 5 _ rfl
 have g6 : DataW.trod enc Tryz.prog W base spare held n 3 ((cs.drop 6).take (Tryz.prog.cellsOf 3)) = xs[6]? := hg 6 _ rfl
 have g7 : DataW.trod enc Tryz.prog W base spare held n 4 ((cs.drop 7).take (Tryz.prog.cellsOf 4)) = xs[7]? := hg 7 _ rfl
 rw [List.getElem?_eq_getElem (by rw [hxl]; decide)] at g0 g1 g2 g3 g4 g5 g6 g7
 rw [cellsU8] at g0 g1
 rw [cellsIntV] at g2 g3 g4 g5 g6
 rw [cellsBoolV] at g7
 obtain ⟨b0, e0, k0⟩ := byte_of_cells g0
 obtain ⟨b1, e1, k1⟩ := byte_of_cells g1
 obtain ⟨b2, e2, k2⟩ := i64_of_cells g2
 obtain ⟨b3, e3, k3⟩ := i64_of_cells g3
 obtain ⟨b4, e4, k4⟩ := i64_of_cells g4
 obtain ⟨b5, e5, k5⟩ := i64_of_cells g5
 obtain ⟨b6, e6, k6⟩ := i64_of_cells g6
 obtain ⟨b7, e7, _⟩ := DataW.trod_bool Tryz.underlying4 g7
 match cs, hl with
 | [c0, c1, c2, c3, c4, c5, c6, c7], _ =>
  simp at e0 e1 e2 e3 e4 e5 e6 e7
  subst e0 e1 e2 e3 e4 e5 e6 e7
  exact ⟨⟨b0, b1, b2, b3, b4, b5, b6, b7⟩, rfl, k0, k1, k2, k3, k4, k5, k6⟩
set_option maxRecDepth 100000 in
theorem open_actsV {v : Value} {d : DataW H} {p : List MemPlace}
  (a0 : Value.okWide Tryz.prog W .any base 75 v) (h0 : DataW.Trod enc Tryz.prog W 0 (fun _ => true) true 75 v d p) :
  ∃ A n c l, v = .slice A n c ∧ Rd W W.heap.size 8 A n (flatC l) ∧ ∀ x ∈ l, x.ok := by
 obtain ⟨A, n, c, rfl⟩ := okWide_slice Tryz.underlying75 a0
 obtain ⟨fuel, hf⟩ := h0
 rcases open_slice Tryz.underlying75 hf with ⟨hcs, _⟩ | ⟨a, len, cap, m, k, D, Pl, hcs, _, hlc, hcm, hm, _, hi⟩
 ·simp [Value.cells] at hcs
  obtain ⟨rfl, rfl, rfl⟩ := hcs
  exact ⟨_, _, _, [], rfl, Rd.empty, by simp⟩
 ·simp [Value.cells] at hcs
  obtain ⟨rfl, rfl, rfl⟩ := hcs
  have hmn : n ≤ m := by rw [hm]; split <;> omega
  have hall : ∀ i, ∃ s : Ac, s.ok ∧ (i < n → ∀ j, j < 8 → W.cell? (a.add (i * 8 + j)) = s.cells[j]?) := by
   intro i
   by_cases hin : i < n
   ·obtain ⟨cs', hc, ht'⟩ := hi i (by omega)
    rw [cellsAV] at hc
    obtain ⟨_, hcl, hat⟩ := World.cells?_some hc
    obtain ⟨s, rfl, hsm⟩ := act_of_cellsV ht'
    exact ⟨s, hsm, fun _ j hj => by rw [← addr_add]; exact hat j hj⟩
   ·exact ⟨Ac.zero, Ac.zero_ok, fun h => absurd h hin⟩
  let f := fun i => Classical.choose (hall i)
  have hfs : ∀ i, i < n → ∀ j, j < 8 → W.cell? (a.add (i * 8 + j)) = (f i).cells[j]? := fun i => (Classical.choose_spec (hall i)).2
  have hfm : ∀ i, (f i).ok := fun i => (Classical.choose_spec (hall i)).1
  refine ⟨_, _, _, (List.range n).map f, rfl, ?_, fun x hx => by obtain ⟨i, _, rfl⟩ := List.mem_map.1 hx; exact hfm i⟩
  refine ⟨by rw [flatC_len]; simp, fun hn => ?_⟩
  have h00 := hfs 0 hn 0 (by omega)
  have hsp : a.spot = none := by
   have h1 : W.cell? (a.add 0) = some (.int .u8 (f 0).w) := h00
   exact addr_spot h1 rfl
  refine ⟨a.block, a.off, by cases a; simp_all, ?_, fun j u hu => ?_⟩
  ·have h1 : W.cell? (a.add 0) = some (.int .u8 (f 0).w) := h00
   rw [addr_flat hsp] at h1
   exact World.block_lt_of_cell? W ⟨a.block, a.off + 0, none⟩ h1
  ·have hjl : j < n * 8 := by
    have := (List.getElem?_eq_some_iff.1 hu).1
    rw [flatC_len] at this; simpa using this
   have e := flatC_at ((List.range n).map f) (j / 8) (j % 8) (by simp; omega) (by omega)
   have ej : j / 8 * 8 + j % 8 = j := by omega
   rw [ej, hu] at e
   have h2 := hfs (j / 8) (by omega) (j % 8) (by omega)
   rw [ej, addr_flat hsp] at h2
   rw [h2, e]
   have hdn : j / 8 < n := by omega
   simp [List.getD_eq_getElem?_getD, hdn]
end
set_option maxRecDepth 100000 in
theorem open_octetsV {H : Type} {enc : TypeId × Value → H} {W : World} {base : Nat} {v : Value} {d : DataW H} {p : List MemPlace} (a0 : Value.okWide Tryz.prog W .any base 46 v) (h0 : DataW.Trod enc Tryz.prog W 0 (fun _ => true) true 46 v d p) :
  ∃ (L : Option Addr) (m c : Nat) (l : List Nat), v = .slice L m c ∧ Rd W W.heap.size 1 L m (bv l) ∧ ∀ x ∈ l, x < 256 := by
 obtain ⟨A, n, c, rfl⟩ := okWide_slice Tryz.underlying46 a0
 obtain ⟨fuel, hf⟩ := h0
 obtain ⟨A', m, c', l, e, hr, hc, hm, hg⟩ := bytes_of_cells Tryz.underlying46 hf
 simp [Value.cells] at e
 obtain ⟨rfl, rfl, rfl⟩ := e
 exact ⟨_, _, _, l, rfl, hr, hg⟩
end Go.Proofs.YthhiookcknnmdaaGreat
namespace Go.Proofs.YthhiookcknnmdaaGreat
open Go.RowKit Go.Lib
set_option maxRecDepth 100000 in
theorem few_any (A : Option Addr) (n c : Nat) (w : World) : Calls Tryz.prog 35 #[.slice A n c] w fun e w' => e = .returned (.bool (decide (n ≤ 60))) ∧ w = w' := by
 by_cases h : n ≤ 60
 ·have h1 : decide ((n : Int) ≤ 60) = true := decide_eq_true (by omega)
  have h2 : decide (n ≤ 60) = true := decide_eq_true h
  rw [h2]
  clear h h2
  go_enter Tryz.func35, Tryz.ntmps35
  go_wp2
  go_ret
  exact ⟨rfl, rfl⟩
 ·have h1 : decide ((n : Int) ≤ 60) = false := decide_eq_false (by omega)
  have h2 : decide (n ≤ 60) = false := decide_eq_false h
  rw [h2]
  clear h h2
  go_enter Tryz.func35, Tryz.ntmps35
  go_wp2
  go_ret
  exact ⟨rfl, rfl⟩
end Go.Proofs.YthhiookcknnmdaaGreat
namespace Go.Proofs.YthhiookcknnmdaaGreat
theorem outA_len (L : List En) (n : Nat) (x : Ac) : (outA L n x).2.length ≤ L.length + 2 := by
 have := outD_lenV L n (amt x.a) (amt x.b)
 unfold outA; split <;> exact this
theorem lawDo_len (y : Wy) (L : List En) (x : Ac) (now : Int) : (lawDo y L x now).2.2.length ≤ L.length + 2 := by
 unfold lawDo
 split
 ·show L.length ≤ _; omega
 ·split
  ·have := signE_len L ⟨byD x.kb, y.pl.digest⟩
   show (sgA y L x).1.length ≤ _
   unfold sgA; omega
  ·split
   ·exact outA_len L _ x
   ·show L.length ≤ _; omega
section
variable {p : Pl} {Ps : List Pu} {y : Wy}
theorem WInv.act (h : WInv p Ps y) (L : List En) (x : Ac) (now : Int) : WInv p Ps (lawDo y L x now).2.1 := by
 unfold lawDo
 split
 ·exact h.lock _ _
 ·split
  ·exact h.agree _ _ _
  ·split
   ·exact h.open_ _ _ _ _ _
   ·exact h.back _ _ _
end
def runA (now : Int) (y : Wy) (L : List En) : List Ac → Int × Wy × List En
 | [] => (now, y, L)
 | x :: l => runA (now + x.by_) (lawDo y L x (now + x.by_)).2.1 (lawDo y L x (now + x.by_)).2.2 l
theorem runA_snoc (now : Int) (y : Wy) (L : List En) (l : List Ac) (x : Ac) : runA now y L (l ++ [x]) =
  ((runA now y L l).1 + x.by_, (lawDo (runA now y L l).2.1 (runA now y L l).2.2 x ((runA now y L l).1 + x.by_)).2.1, (lawDo (runA now y L l).2.1 (runA now y L l).2.2 x ((runA now y L l).1 + x.by_)).2.2) := by
 induction l generalizing now y L with
 | nil => rfl
 | cons a l ih => exact ih _ _ _
theorem runA_inv {p : Pl} {Ps : List Pu} (l : List Ac) : ∀ (now : Int) (y : Wy) (L : List En), WInv p Ps y → WInv p Ps (runA now y L l).2.1 := by
 induction l with
 | nil => intro now y L h; exact h
 | cons a l ih => intro now y L h; exact ih _ _ _ (h.act L a _)
theorem runA_len (l : List Ac) : ∀ (now : Int) (y : Wy) (L : List En), (runA now y L l).2.2.length ≤ L.length + 2 * l.length := by
 induction l with
 | nil => intro now y L; exact Nat.le_add_right _ _
 | cons a l ih =>
  intro now y L
  have h1 := ih (now + a.by_) (lawDo y L a (now + a.by_)).2.1 (lawDo y L a (now + a.by_)).2.2
  have h2 := lawDo_len y L a (now + a.by_)
  show (runA _ _ _ l).2.2.length ≤ _
  simp only [List.length_cons]
  omega
theorem runA_now (l : List Ac) (hl : ∀ x ∈ l, x.by_ < 256) : ∀ (now : Int) (y : Wy) (L : List En), now ≤ (runA now y L l).1 ∧ (runA now y L l).1 ≤ now + 255 * l.length := by
 induction l with
 | nil => intro now y L; simp [runA]
 | cons a l ih =>
  intro now y L
  have h1 := ih (fun x hx => hl x (by simp [hx])) (now + a.by_) (lawDo y L a (now + a.by_)).2.1 (lawDo y L a (now + a.by_)).2.2
  have h2 := hl a (by simp)
  show now ≤ (runA _ _ _ l).1 ∧ (runA _ _ _ l).1 ≤ _
  simp only [List.length_cons]
  omega
end Go.Proofs.YthhiookcknnmdaaGreat
namespace Go.Proofs.YthhiookcknnmdaaGreat
open Go.RowKit Go.Lib
section
variable {y : Wy}
theorem worth_bound (hf : ∀ p ∈ y.pu, p.check = 0) (j : Int) : 0 ≤ y.worth j ∧ y.worth j ≤ 38280596832649216 := by
 rw [Wy.worth_eq]
 have h1 := term_bound hf j 0
 have h2 := term_bound hf (j - 1) 1
 split <;> omega
theorem sumW_bound (hf : ∀ p ∈ y.pu, p.check = 0) : ∀ k : Nat, k ≤ 10 → 0 ≤ sumW y k ∧ sumW y k ≤ k * 38280596832649216
 | 0, _ => by simp [sumW]
 | k + 1, h => by
  have h1 := sumW_bound hf k (by omega)
  have h2 := worth_bound hf (k : Int)
  show 0 ≤ sumW y k + y.worth k ∧ sumW y k + y.worth k ≤ _
  omega
end
section
variable {w w' : World} {B Bb wob wb bk mb : Nat} {y : Wy} {a : WyA} {L : List En} {Ak : Option Addr} {nk ck : Nat} {An : Option Addr} {nn cn : Nat} {Af : Option Addr} {nf cf : Nat} {vp : Value} {Au : Option Addr} {n cu : Nat} {lp : List PuA}
theorem BgAt.chg (h : BgAt w B Au n cu lp) (hl : LwAt w B Bb wob wb bk mb y a L Ak nk ck An nn cn Af nf cf vp) (hc : LChg a bk mb w w') : BgAt w' B Au n cu lp :=
 ⟨hc.own h.own (by decide) (fun cs fz x => by
  obtain ⟨_, _, _, h1, _⟩ := hl.book.book
  rw [h1] at x; injection x with x; injection x with _ x; revert x; decide) (fun g hg hf => by have := hl.way.F_ge hf; have := h.lt g hg; omega), h.lt, h.nil⟩
theorem LwAt.under {w0 : World} (hl : LwAt w B Bb wob wb bk mb y a L Ak nk ck An nn cn Af nf cf vp) (hc : LChg a bk mb w w') (h0 : Below w0.heap.size w0 w) (h1 : w0.heap.size ≤ bk) (h2 : w0.heap.size ≤ mb) (h3 : w0.heap.size ≤ B) : Below w0.heap.size w0 w' :=
 hc.under h0 h1 h2 fun k hf => by have := hl.way.F_ge hf; omega
end
def stA (y : Wy) (l : List Ac) (k : Nat) : Int × Wy × List En := runA 0 y [] (l.take k)
theorem stA_zero (y : Wy) (l : List Ac) : stA y l 0 = (0, y, []) := rfl
theorem stA_succ (y : Wy) (l : List Ac) {k : Nat} (hk : k < l.length) : stA y l (k + 1) =
  ((stA y l k).1 + (l.getD k Ac.zero).by_, (lawDo (stA y l k).2.1 (stA y l k).2.2 (l.getD k Ac.zero) ((stA y l k).1 + (l.getD k Ac.zero).by_)).2.1, (lawDo (stA y l k).2.1 (stA y l k).2.2 (l.getD k Ac.zero) ((stA y l k).1 + (l.getD k Ac.zero).by_)).2.2) := by
 unfold stA
 rw [List.take_succ_eq_append_getElem hk, runA_snoc, List.getD_eq_getElem?_getD, List.getElem?_eq_getElem hk]
 rfl
theorem stA_len (y : Wy) (l : List Ac) (k : Nat) : (stA y l k).2.2.length ≤ 2 * k := by
 have h1 := runA_len (l.take k) 0 y []
 have h2 := List.length_take_le k l
 simp only [List.length_nil] at h1
 show (runA 0 y [] (l.take k)).2.2.length ≤ _
 omega
theorem stA_now (y : Wy) {l : List Ac} (hl : ∀ x ∈ l, x.ok) (k : Nat) : 0 ≤ (stA y l k).1 ∧ (stA y l k).1 ≤ 255 * k := by
 have h1 := runA_now (l.take k) (fun x hx => (hl x (List.mem_of_mem_take hx)).kb) 0 y []
 have h2 := List.length_take_le k l
 show 0 ≤ (runA 0 y [] (l.take k)).1 ∧ (runA 0 y [] (l.take k)).1 ≤ _
 omega
theorem stA_inv {p : Pl} {Ps : List Pu} {y : Wy} (h : WInv p Ps y) (l : List Ac) (k : Nat) : WInv p Ps (stA y l k).2.1 := runA_inv _ _ _ _ h
end Go.Proofs.YthhiookcknnmdaaGreat
