/- A party that comes in, opened; what NotaryParties is handed. Condition: the row's own. -/
import Derived.Test.YtepdinfopcohiaaNoOpen2
import Derived.Test.YtepdinfopcohiaaNpC
namespace Go.Proofs.Ytepdinfopcohiaa
open Go.ChangeShapes Go.WideShapes Go.ChangeAt Go.RowKit Go.Joins Go.Deep
section
variable {H : Type} {enc : TypeId × Value → H} {W : World} {base : Nat}
theorem cellsBool : Try.prog.cellsOf 4 = 1 := by kernel_rfl
theorem cellsBytes : Try.prog.cellsOf 37 = 1 := by kernel_rfl
theorem cellsBools : Try.prog.cellsOf 62 = 1 := by kernel_rfl
theorem cellsPa : Try.prog.cellsOf 64 = 5 := by kernel_rfl
set_option maxRecDepth 100000 in
theorem bools_of_cells {T : TypeId} (hT : Try.prog.underlying T = some (.slice 4)) {n : Nat} {cs : List Value} {x : DataW H × List MemPlace} (h : DataW.trod enc Try.prog W 0 (fun _ => true) true n T cs = some x) :
    ∃ A m c l, cs = [.slice A m c] ∧ Rd W W.heap.size 1 A m (bvB l) := by
  rcases open_slice hT h with ⟨hcs, _⟩ | ⟨a, len, cap, m, k, D, Pl, hcs, _, hlc, hcm, hm, _, hi⟩
  · exact ⟨none, 0, 0, [], hcs, Rd.empty⟩
  · have hmn : len ≤ m := by rw [hm]; split <;> omega
    have hall : ∀ i, ∃ s : Bool, (i < len → W.cell? (a.add i) = some (.bool s)) := by
      intro i
      by_cases hin : i < len
      · obtain ⟨cs', hc, ht'⟩ := hi i (by omega)
        rw [cellsBool] at hc
        obtain ⟨_, hcl, hat⟩ := World.cells?_some hc
        obtain ⟨s, rfl, _⟩ := DataW.trod_bool Try.underlying4 ht'
        refine ⟨s, fun _ => ?_⟩
        have := hat 0 (by omega)
        rw [addr_add] at this
        simpa using this
      · exact ⟨false, fun h => absurd h hin⟩
    let f := fun i => Classical.choose (hall i)
    have hfs : ∀ i, i < len → W.cell? (a.add i) = some (.bool (f i)) := fun i => Classical.choose_spec (hall i)
    refine ⟨_, _, _, (List.range len).map f, hcs, ⟨by simp [bvB], fun hn => ?_⟩⟩
    have h0 := hfs 0 hn
    have hsp : a.spot = none := addr_spot h0 rfl
    refine ⟨a.block, a.off, by cases a; simp_all, ?_, fun j u hu => ?_⟩
    · rw [addr_flat hsp] at h0
      exact World.block_lt_of_cell? W ⟨a.block, a.off + 0, none⟩ h0
    · have hj : j < len := by
        have := (List.getElem?_eq_some_iff.1 hu).1
        simpa [bvB] using this
      have h2 := hfs j hj
      rw [addr_flat hsp] at h2
      rw [h2, ← hu]
      simp [bvB, hj]
set_option maxRecDepth 100000 in
theorem open_party {v : Value} {d : DataW H} {p : List MemPlace} (a0 : Value.okWide Try.prog W .any base 64 v) (h0 : DataW.Trod enc Try.prog W 0 (fun _ => true) true 64 v d p) :
    ∃ (kl : List Nat) (Ak : Option Addr) (nk ck m : Nat) (sl : List Nat) (As : Option Addr) (ns cs : Nat) (cl : List Bool) (Ac : Option Addr) (nc cc : Nat) (fl : List Bool) (Af : Option Addr) (nf cf : Nat),
      v = .agg #[.slice Ak nk ck, .int .u8 (m : Int), .slice As ns cs, .slice Ac nc cc, .slice Af nf cf] ∧ Rd W W.heap.size 1 Ak nk (bvN kl) ∧ (∀ x ∈ kl, x < 256) ∧ m < 256 ∧ Rd W W.heap.size 1 As ns (bvN sl) ∧ (∀ x ∈ sl, x < 256) ∧ Rd W W.heap.size 1 Ac nc (bvB cl) ∧ Rd W W.heap.size 1 Af nf (bvB fl) := by
  obtain ⟨cs, rfl, _⟩ := okWide_struct Try.underlying64 a0
  obtain ⟨fuel, hf⟩ := h0
  obtain ⟨xs, n, _, _, hl, hxl, hg⟩ := DataW.trod_struct Try.underlying64 hf
  rw [cellsPa] at hl
  obtain ⟨l⟩ := cs
  simp only [Value.cells] at hl hg
  have g0 : DataW.trod enc Try.prog W 0 (fun _ => true) true n 37 ((l.drop 0).take (Try.prog.cellsOf 37)) = xs[0]? := hg 0 _ rfl
  have g1 : DataW.trod enc Try.prog W 0 (fun _ => true) true n 5 ((l.drop 1).take (Try.prog.cellsOf 5)) = xs[1]? := hg 1 _ rfl
  have g2 : DataW.trod enc Try.prog W 0 (fun _ => true) true n 37 ((l.drop 2).take (Try.prog.cellsOf 37)) = xs[2]? := hg 2 _ rfl
  have g3 : DataW.trod enc Try.prog W 0 (fun _ => true) true n 62 ((l.drop 3).take (Try.prog.cellsOf 62)) = xs[3]? := hg 3 _ rfl
  have g4 : DataW.trod enc Try.prog W 0 (fun _ => true) true n 62 ((l.drop 4).take (Try.prog.cellsOf 62)) = xs[4]? := hg 4 _ rfl
  rw [cellsBytes] at g0 g2
  rw [cellsU8] at g1
  rw [cellsBools] at g3 g4
  simp at hxl
  rw [List.getElem?_eq_getElem (by omega)] at g0 g1 g2 g3 g4
  obtain ⟨Ak, nk, ck, kl, e0, r0, _, _, b0⟩ := bytes_of_cells Try.underlying37 g0
  obtain ⟨m, e1, b1⟩ := byte_of_cells g1
  obtain ⟨As, ns, cs, sl, e2, r2, _, _, b2⟩ := bytes_of_cells Try.underlying37 g2
  obtain ⟨Ac, nc, cc, cl, e3, r3⟩ := bools_of_cells Try.underlying62 g3
  obtain ⟨Af, nf, cf, fl, e4, r4⟩ := bools_of_cells Try.underlying62 g4
  refine ⟨kl, Ak, nk, ck, m, sl, As, ns, cs, cl, Ac, nc, cc, fl, Af, nf, cf, ?_, r0, b0, b1, r2, b2, r3, r4⟩
  match l, hl with
  | [c0, c1, c2, c3, c4], _ =>
    simp at e0 e1 e2 e3 e4
    simp [e0, e1, e2, e3, e4]
end
set_option maxRecDepth 100000 in
theorem notaryParties_open {H : Type} {enc : TypeId × Value → H} {W : World} {base : Nat} {v0 v1 : Value} {d0 d1 : DataW H} {p0 p1 : List MemPlace} {q : Prop}
    (a0 : Value.okWide Try.prog W .any base 22 v0) (a1 : Value.okWide Try.prog W .any base 64 v1)
    (h0 : DataW.Trod enc Try.prog W 0 (fun _ => true) true 22 v0 d0 p0) (h1 : DataW.Trod enc Try.prog W 0 (fun _ => true) true 64 v1 d1 p1) (_hq : q) :
    Calls Try.prog 7 #[v0, v1] W fun e w' => e = .returned (.bool true) ∧ Below W.heap.size W w' := by
  obtain ⟨A, n, c, l, rfl, hr, hs⟩ := open_le Try.underlying22 a0 h0
  obtain ⟨kl, Ak, nk, ck, m, sl, As, ns, cs, cl, Ac, nc, cc, fl, Af, nf, cf, rfl, r0, b0, b1, r2, b2, r3, r4⟩ := open_party a1 h1
  exact parties_any l A n c kl Ak nk ck m sl As ns cs cl Ac nc cc fl Af nf cf W hr hs r0 b0 b1 r2 b2 r3 r4
end Go.Proofs.Ytepdinfopcohiaa
