/- What KeysOnce is handed, opened. Condition: the row's own. -/
import Derived.Test.YtmpklplojfjfbaaKeOp
import Derived.Test.YtmpklplojfjfbaaKhE
namespace Go.Proofs.Ytmpklplojfjfbaa
open Go.ChangeShapes Go.WideShapes Go.ChangeAt Go.RowKit Go.Joins Go.Deep
section
variable {H : Type} {enc : TypeId × Value → H} {W : World} {base : Nat}
theorem cellsBoolO : Try.prog.cellsOf 4 = 1 := by kernel_rfl
set_option maxRecDepth 100000 in
theorem bools_of_cellsO {T : TypeId} (hT : Try.prog.underlying T = some (.slice 4)) {n : Nat} {cs : List Value} {x : DataW H × List MemPlace} (h : DataW.trod enc Try.prog W 0 (fun _ => true) true n T cs = some x) :
    ∃ A m c l, cs = [.slice A m c] ∧ Rd W W.heap.size 1 A m (bvO l) := by
  rcases open_slice hT h with ⟨hcs, _⟩ | ⟨a, len, cap, m, k, D, Pl, hcs, _, hlc, hcm, hm, _, hi⟩
  · exact ⟨none, 0, 0, [], hcs, Rd.empty⟩
  · have hmn : len ≤ m := by rw [hm]; split <;> omega
    have hall : ∀ i, ∃ s : Bool, (i < len → W.cell? (a.add i) = some (.bool s)) := by
      intro i
      by_cases hin : i < len
      · obtain ⟨cs', hc, ht'⟩ := hi i (by omega)
        rw [cellsBoolO] at hc
        obtain ⟨_, hcl, hat⟩ := World.cells?_some hc
        obtain ⟨s, rfl, _⟩ := DataW.trod_bool Try.underlying4 ht'
        refine ⟨s, fun _ => ?_⟩
        have := hat 0 (by omega)
        rw [addr_add] at this
        simpa using this
      · exact ⟨false, fun h => absurd h hin⟩
    let f := fun i => Classical.choose (hall i)
    have hfs : ∀ i, i < len → W.cell? (a.add i) = some (.bool (f i)) := fun i => Classical.choose_spec (hall i)
    refine ⟨_, _, _, (List.range len).map f, hcs, ⟨by simp [bvO], fun hn => ?_⟩⟩
    have h0 := hfs 0 hn
    have hsp : a.spot = none := addr_spot h0 rfl
    refine ⟨a.block, a.off, by cases a; simp_all, ?_, fun j u hu => ?_⟩
    · rw [addr_flat hsp] at h0
      exact World.block_lt_of_cell? W ⟨a.block, a.off + 0, none⟩ h0
    · have hj : j < len := by
        have := (List.getElem?_eq_some_iff.1 hu).1
        simpa [bvO] using this
      have h2 := hfs j hj
      rw [addr_flat hsp] at h2
      rw [h2, ← hu]
      simp [bvO, hj]
set_option maxRecDepth 100000 in
theorem open_boolsO {v : Value} {d : DataW H} {p : List MemPlace} (a0 : Value.okWide Try.prog W .any base 52 v) (h0 : DataW.Trod enc Try.prog W 0 (fun _ => true) true 52 v d p) :
    ∃ A n c l, v = .slice A n c ∧ Rd W W.heap.size 1 A n (bvO l) := by
  obtain ⟨A, n, c, rfl⟩ := okWide_slice Try.underlying52 a0
  obtain ⟨fuel, hf⟩ := h0
  obtain ⟨A', m, c', l, e, hr⟩ := bools_of_cellsO Try.underlying52 hf
  simp [Value.cells] at e
  obtain ⟨rfl, rfl, rfl⟩ := e
  exact ⟨_, _, _, l, rfl, hr⟩
end
set_option maxRecDepth 100000 in
theorem keysOnce_open {H : Type} {enc : TypeId × Value → H} {W : World} {base : Nat} {v0 v1 v2 v3 : Value} {d0 d1 d2 d3 : DataW H} {p0 p1 p2 p3 : List MemPlace} {q : Prop}
    (a0 : Value.okWide Try.prog W .any base 22 v0) (a1 : Value.okWide Try.prog W .any base 5 v1) (a2 : Value.okWide Try.prog W .any base 23 v2) (a3 : Value.okWide Try.prog W .any base 52 v3)
    (h0 : DataW.Trod enc Try.prog W 0 (fun _ => true) true 22 v0 d0 p0) (h1 : DataW.Trod enc Try.prog W 0 (fun _ => true) true 5 v1 d1 p1) (h2 : DataW.Trod enc Try.prog W 0 (fun _ => true) true 23 v2 d2 p2) (h3 : DataW.Trod enc Try.prog W 0 (fun _ => true) true 52 v3 d3 p3) (_hq : q) :
    Calls Try.prog 6 #[v0, v1, v2, v3] W fun e w' => e = .returned (.bool true) ∧ Below W.heap.size W w' := by
  obtain ⟨a, rfl, ha⟩ := open_dig a0 h0
  obtain ⟨h, rfl, hh⟩ := open_u8 a1 h1
  obtain ⟨A, n, c, l, rfl, hr, hok⟩ := open_digs Try.underlying23 a2 h2
  obtain ⟨A', n', c', l', rfl, hr'⟩ := open_boolsO a3 h3
  exact konce_any a h A n c l A' n' c' l' W ha hh hr hok hr'
end Go.Proofs.Ytmpklplojfjfbaa
