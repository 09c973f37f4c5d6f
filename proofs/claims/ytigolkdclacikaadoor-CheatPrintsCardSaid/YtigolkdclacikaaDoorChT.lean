/- The walks of the example's text: numbers, words, deeds. Condition: internal/bytealg.MaxLen holds a number. -/
import Derived.Test.YtigolkdclacikaaDoorChW
import Derived.Test.YtigolkdclacikaaDoorChS
import Derived.Lib.SmallJoins
namespace Go.Proofs.YtigolkdclacikaaDoor
open Go.RowKit Go.Lib
set_option maxRecDepth 100000 in
theorem num0 (w : World) : Calls Tryd.prog 65 #[.string ⟨#[48]⟩] w fun e w' => e = .returned (.tuple #[.int .i64 0, .bool true]) ∧ w = w' := by
  go_enter Tryd.func65, Tryd.ntmps65
  go_wp2
  refine wp_loop_rounds 2 ?_
  iterate 2 (rw [rounds_succ]; go_wp2)
  go_ret2
  exact ⟨rfl, rfl⟩
set_option maxRecDepth 100000 in
theorem num3 (w : World) : Calls Tryd.prog 65 #[.string ⟨#[51]⟩] w fun e w' => e = .returned (.tuple #[.int .i64 3, .bool true]) ∧ w = w' := by
  go_enter Tryd.func65, Tryd.ntmps65
  go_wp2
  refine wp_loop_rounds 2 ?_
  iterate 2 (rw [rounds_succ]; go_wp2)
  go_ret2
  exact ⟨rfl, rfl⟩
set_option maxRecDepth 100000 in
theorem num5 (w : World) : Calls Tryd.prog 65 #[.string ⟨#[53]⟩] w fun e w' => e = .returned (.tuple #[.int .i64 5, .bool true]) ∧ w = w' := by
  go_enter Tryd.func65, Tryd.ntmps65
  go_wp2
  refine wp_loop_rounds 2 ?_
  iterate 2 (rw [rounds_succ]; go_wp2)
  go_ret2
  exact ⟨rfl, rfl⟩
set_option maxRecDepth 100000 in
theorem num03 (w : World) : Calls Tryd.prog 65 #[.string ⟨#[48, 51]⟩] w fun e w' => e = .returned (.tuple #[.int .i64 0, .bool false]) ∧ w = w' := by
  go_enter Tryd.func65, Tryd.ntmps65
  go_wp2
  go_ret2
  exact ⟨rfl, rfl⟩
set_option maxRecDepth 100000 in
theorem kindLose (w : World) : Calls Tryd.prog 66 #[.string ⟨#[108, 111, 115, 101]⟩] w fun e w' => e = .returned (.tuple #[.int .i64 1, .bool true]) ∧ Below w.heap.size w w' := by
  have n1 : ((⟨#[110, 111, 116, 104, 105, 110, 103]⟩ : ByteArray).toList == (⟨#[108, 111, 115, 101]⟩ : ByteArray).toList) = false := by decide +kernel
  have n2 : ((⟨#[108, 111, 115, 101]⟩ : ByteArray).toList == (⟨#[108, 111, 115, 101]⟩ : ByteArray).toList) = true := by decide +kernel
  go_enter Tryd.func66, Tryd.ntmps66
  go_wp2_with (go_at_call 27; refine (words_any _).mono ?_; rintro e w9 ⟨rfl, hb9⟩; have Hb9 := Lib.hid hb9; clear hb9)
  refine wp_loop_rounds 2 ?_
  iterate 2 (rw [rounds_succ]; go_wp2)
  go_ret2
  exact ⟨rfl, Hb9.out.trans ((below_one w9 _).mono Hb9.out.size)⟩
theorem count5 : Lib.countB ⟨#[51, 32, 108, 111, 115, 101, 32, 48, 32, 53, 32, 48]⟩ ⟨#[32]⟩ = 4 := by decide +kernel
theorem split5 : Lib.splitB ⟨#[32]⟩ 0 4 ⟨#[51, 32, 108, 111, 115, 101, 32, 48, 32, 53, 32, 48]⟩ = [⟨#[51]⟩, ⟨#[108, 111, 115, 101]⟩, ⟨#[48]⟩, ⟨#[53]⟩, ⟨#[48]⟩] := by decide +kernel
theorem count6 : Lib.countB ⟨#[48, 51, 32, 108, 111, 115, 101, 32, 48, 32, 53, 32, 48]⟩ ⟨#[32]⟩ = 4 := by decide +kernel
theorem split6 : Lib.splitB ⟨#[32]⟩ 0 4 ⟨#[48, 51, 32, 108, 111, 115, 101, 32, 48, 32, 53, 32, 48]⟩ = [⟨#[48, 51]⟩, ⟨#[108, 111, 115, 101]⟩, ⟨#[48]⟩, ⟨#[53]⟩, ⟨#[48]⟩] := by decide +kernel
theorem cut5 : Lib.cut [51, 32, 108, 111, 115, 101, 32, 48, 32, 53, 32, 48, 10] [10] = ([51, 32, 108, 111, 115, 101, 32, 48, 32, 53, 32, 48], [], true) := by decide +kernel
theorem cut6 : Lib.cut [48, 51, 32, 108, 111, 115, 101, 32, 48, 32, 53, 32, 48, 10] [10] = ([48, 51, 32, 108, 111, 115, 101, 32, 48, 32, 53, 32, 48], [], true) := by decide +kernel
theorem grown_set {w : World} (b i : Nat) (v : Value) : w.grownBy (w.setCell ⟨b, i, none⟩ v) (some b) :=
  ⟨rfl, rfl, rfl, by simp, fun k _ hne => Below.heap_setCell w ⟨b, i, none⟩ v k (fun e => hne (by rw [e]))⟩
theorem grown_trans {w w' w'' : World} {r : Option Nat} (h : w.grownBy w' r) (h2 : w'.grownBy w'' r) : w.grownBy w'' r :=
  ⟨h2.os.trans h.os, h2.tape.trans h.tape, h2.output.trans h.output, Nat.le_trans h.size h2.size, fun k hk hne => (h2.block k (by have := h.size; omega) hne).trans (h.block k hk hne)⟩
theorem set5 {w : World} {q : Nat} {a b c d e : Int} {t : TypeId} (h : w.heap[q]? = some (.cells #[.int .i64 a, .int .i64 b, .int .i64 c, .int .i64 d, .int .i64 e] t)) (a' b' c' d' e' : Int) :
    (((((w.setCell ⟨q, 0, none⟩ (.int .i64 a')).setCell ⟨q, 1, none⟩ (.int .i64 b')).setCell ⟨q, 2, none⟩ (.int .i64 c')).setCell ⟨q, 3, none⟩ (.int .i64 d')).setCell ⟨q, 4, none⟩ (.int .i64 e')).heap[q]? = some (.cells #[.int .i64 a', .int .i64 b', .int .i64 c', .int .i64 d', .int .i64 e'] t) ∧ w.grownBy (((((w.setCell ⟨q, 0, none⟩ (.int .i64 a')).setCell ⟨q, 1, none⟩ (.int .i64 b')).setCell ⟨q, 2, none⟩ (.int .i64 c')).setCell ⟨q, 3, none⟩ (.int .i64 d')).setCell ⟨q, 4, none⟩ (.int .i64 e')) (some q) := by
  have := Joins.block_setCell (i := 4) (Joins.block_setCell (i := 3) (Joins.block_setCell (i := 2) (Joins.block_setCell (i := 1) (Joins.block_setCell (i := 0) h (.int .i64 a')) (.int .i64 b')) (.int .i64 c')) (.int .i64 d')) (.int .i64 e')
  exact ⟨by simpa using this, grown_trans (grown_trans (grown_trans (grown_trans (grown_set _ _ _) (grown_set _ _ _)) (grown_set _ _ _)) (grown_set _ _ _)) (grown_set _ _ _)⟩
/-- internal/bytealg.MaxLen holds a number. -/
def MaxAt (w : World) : Prop := 0 < w.heap.size ∧ ∃ m : Int, w.cell? ⟨0, 0, none⟩ = some (.int .i64 m)
theorem MaxAt.below {w w' : World} {B : Nat} (h : MaxAt w) (hb : Below B w w') (hB : 0 < B) : MaxAt w' := by
  obtain ⟨h0, m, h1⟩ := h
  exact ⟨by have := hb.size; omega, m, (hb.cell (p := ⟨0, _, none⟩) hB).trans h1⟩
set_option maxRecDepth 100000 in
set_option maxHeartbeats 1000000 in
theorem deed_good (w : World) (hM : MaxAt w) : Calls Tryd.prog 47 #[.string ⟨#[51, 32, 108, 111, 115, 101, 32, 48, 32, 53, 32, 48]⟩] w fun e w' =>
    e = .returned (.tuple #[.agg #[.int .i64 3, .int .i64 1, .int .i64 0, .int .i64 5, .int .i64 0], .int .i64 0]) ∧ Below w.heap.size w w' := by
  obtain ⟨m, hm⟩ := (hM.below (below_one w (.cells #[.int .i64 0, .int .i64 0, .int .i64 0, .int .i64 0, .int .i64 0] 46)) hM.1).2
  go_enter Tryd.func47, Tryd.ntmps47
  go_wp2_with (go_at_call 64; refine (Tryd.strings_Split _ _ m _ (by decide) hm (by decide)).mono ?_; rintro e w' ⟨rfl, hw⟩; rw [count5, split5] at hw; rw [count5]; subst hw)
  refine wp_loop_rounds 6 ?_
  rw [rounds_succ]
  go_wp2_with (go_at_call 65; refine (num3 _).mono ?_; rintro e w' ⟨rfl, rfl⟩)
  rw [rounds_succ]
  go_wp2_with fail
  rw [rounds_succ]
  go_wp2_with (go_at_call 65; refine (num0 _).mono ?_; rintro e w' ⟨rfl, rfl⟩)
  rw [rounds_succ]
  go_wp2_with (go_at_call 65; refine (num5 _).mono ?_; rintro e w' ⟨rfl, rfl⟩)
  rw [rounds_succ]
  go_wp2_with (go_at_call 65; refine (num0 _).mono ?_; rintro e w' ⟨rfl, rfl⟩)
  rw [rounds_succ]
  go_wp2_with fail
  refine (kindLose _).mono ?_
  rintro e w2 ⟨rfl, hb2⟩
  have hd0 : w2.heap[w.heap.size]? = some (.cells #[.int .i64 0, .int .i64 0, .int .i64 0, .int .i64 0, .int .i64 0] 46) := block_below (block_alloc (block_alloc (heap_alloc_new w _) _) _) hb2 (by simp; omega)
  have g0 := (bcell hb2).1 w.heap.size
  have g2 := (bcell hb2).1 (w.heap.size + 1 + 1)
  have gf := (bcell hb2).2 w.heap.size
  have hz := hb2.size
  simp at hz
  have hbw : Below w.heap.size w w2 := ((((Below.refl _ _).alloc (Nat.le_refl _) _).alloc (by simp) _).alloc (by simp; omega) _).trans (hb2.mono (by simp; omega))
  have Hb2 := Lib.hid hbw
  clear hb2 hbw
  go_wp2
  obtain ⟨q1, q2⟩ := set5 (w := w2) hd0 3 1 0 5 0
  have hbz := Hb2.out.grown q2 Hb2.out.size (fun k hk => by injection hk with hk; omega)
  generalize ((((w2.setCell ⟨w.heap.size, 0, none⟩ (.int .i64 3)).setCell ⟨w.heap.size, 1, none⟩ (.int .i64 1)).setCell ⟨w.heap.size, 2, none⟩ (.int .i64 0)).setCell ⟨w.heap.size, 3, none⟩ (.int .i64 5)).setCell ⟨w.heap.size, 4, none⟩ (.int .i64 0) = wz at *
  have c := block_cell q1
  have c0 := c 0; have c1 := c 1; have c2 := c 2; have c3 := c 3; have c4 := c 4
  simp at c0 c1 c2 c3 c4
  clear c
  refine bodyPost_ret (v := .tuple #[.agg #[.int .i64 3, .int .i64 1, .int .i64 0, .int .i64 5, .int .i64 0], .int .i64 0]) (by simp [results, Tryd.results47, go_sem, c0, c1, c2, c3, c4]) rfl ⟨rfl, hbz⟩
set_option maxRecDepth 100000 in
set_option maxHeartbeats 1000000 in
theorem deed_bad (w : World) (hM : MaxAt w) : Calls Tryd.prog 47 #[.string ⟨#[48, 51, 32, 108, 111, 115, 101, 32, 48, 32, 53, 32, 48]⟩] w fun e w' =>
    e = .returned (.tuple #[.agg #[.int .i64 0, .int .i64 0, .int .i64 0, .int .i64 0, .int .i64 0], .int .i64 3]) ∧ Below w.heap.size w w' := by
  obtain ⟨m, hm⟩ := (hM.below (below_one w (.cells #[.int .i64 0, .int .i64 0, .int .i64 0, .int .i64 0, .int .i64 0] 46)) hM.1).2
  go_enter Tryd.func47, Tryd.ntmps47
  go_wp2_with (go_at_call 64; refine (Tryd.strings_Split _ _ m _ (by decide) hm (by decide)).mono ?_; rintro e w' ⟨rfl, hw⟩; rw [count6, split6] at hw; rw [count6]; subst hw)
  refine wp_loop_rounds 1 ?_
  rw [rounds_succ]
  go_wp2_with (go_at_call 65; refine (num03 _).mono ?_; rintro e w' ⟨rfl, rfl⟩)
  refine bodyPost_ret (v := .tuple #[.agg #[.int .i64 0, .int .i64 0, .int .i64 0, .int .i64 0, .int .i64 0], .int .i64 3]) (by simp [results, Tryd.results47, go_sem]) rfl ⟨rfl, ?_⟩
  exact (((Below.refl _ _).alloc (Nat.le_refl _) _).alloc (by simp) _).alloc (by simp; omega) _
end Go.Proofs.YtigolkdclacikaaDoor
