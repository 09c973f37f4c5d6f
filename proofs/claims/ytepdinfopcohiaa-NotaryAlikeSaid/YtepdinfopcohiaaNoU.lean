/- A map of numbers to signatures: what is read and written. Nothing of the program stands in it but its tables, so there is no condition. -/
import Derived.Test.YtepdinfopcohiaaNoK
namespace Go.Proofs.Ytepdinfopcohiaa
open Go.RowKit Go.Lib
theorem lawU : Go.Maps.Keyed Try.prog 34 := Go.Maps.int_keyed Try.underlying34
theorem keyU (n : Nat) (h : n < 18446744073709551616) : ∃ l, keyOf Try.prog 34 (.int .u64 (n : Int)) = some l := by
  have hw : (Lit.int .u64 (n : Int)).wf = true := by
    simp [Lit.wf, show IntKind.u64.min = 0 from rfl, show IntKind.u64.max = 18446744073709551615 from rfl]; omega
  refine ⟨.int .u64 (n : Int), ?_⟩
  unfold keyOf
  simp only [Try.underlying34]
  unfold mapKey
  simp only [Try.underlying34]
  simp [hw]
/-- What stands in the map: of each entry its message and its signature. -/
def seenL (W : List Nu) : List (Value × Value) := W.mapIdx fun i e => (.int .u64 (e.m : Int), .string (strNo (sigL i)))
theorem seenL_at (W : List Nu) (j : Nat) : (seenL W)[j]? = W[j]?.map fun e => (.int .u64 (e.m : Int), .string (strNo (sigL j))) := by
  unfold seenL; rw [List.getElem?_mapIdx]
theorem seenL_snoc (W : List Nu) (e : Nu) : seenL (W ++ [e]) = seenL W ++ [(.int .u64 (e.m : Int), .string (strNo (sigL W.length)))] := by
  unfold seenL; rw [List.mapIdx_append]; simp
def SeenAt (w : World) (b : Nat) (W : List Nu) : Prop := ∃ es clock, w.heap[b]? = some (.map es clock) ∧ es.toList.map (fun x => (x.key, x.val)) = seenL W
theorem SeenAt.same {w w' : World} {b : Nat} {W : List Nu} (h : SeenAt w b W) (hb : w'.heap[b]? = w.heap[b]?) : SeenAt w' b W := by
  obtain ⟨es, clock, h1, h2⟩ := h
  exact ⟨es, clock, hb.trans h1, h2⟩
theorem SeenAt.lt {w : World} {b : Nat} {W : List Nu} (h : SeenAt w b W) : b < w.heap.size := by
  obtain ⟨es, clock, h1, _⟩ := h
  exact (Array.getElem?_eq_some_iff.1 h1).1
theorem posN_none {W : List Nu} {e : Nu} : posN W e = none ↔ e ∉ W := by
  unfold posN
  rw [List.findIdx?_eq_none_iff]
  constructor
  · intro h hm
    have := h e hm
    rw [show sameNu e e = true from sameNu_iff.2 rfl] at this
    simp at this
  · intro h x hx
    cases hs : sameNu x e with
    | false => rfl
    | true => rw [sameNu_iff.1 hs] at hx; exact absurd hx h
theorem posN_at {W : List Nu} {e : Nu} {j : Nat} (hn : W.Nodup) (h : W[j]? = some e) : posN W e = some j := by
  obtain ⟨hj, hje⟩ := List.getElem?_eq_some_iff.1 h
  unfold posN
  rw [List.findIdx?_eq_some_iff_getElem]
  refine ⟨hj, by rw [hje]; exact sameNu_iff.2 rfl, fun i hi => ?_⟩
  intro hs
  have h2 := sameNu_iff.1 hs
  exact List.pairwise_iff_getElem.1 hn i j (by omega) hj hi (by rw [h2, hje])
section
variable {w : World} {b : Nat} {W : List Nu} {k : Nat}
theorem seen_find (h : SeenAt w b W) (hn : W.Nodup) (hk : ∀ e ∈ W, e.k = k ∧ e.m < 18446744073709551616) (m : Nat) (hm : m < 18446744073709551616) :
    ∃ es clock kl, w.heap[b]? = some (.map es clock) ∧ es.toList.map (fun x => (x.key, x.val)) = seenL W ∧ keyOf Try.prog 34 (.int .u64 (m : Int)) = some kl ∧
      (((Instr.findKey 34 (.int .u64 (m : Int)) es.toList).run Try.prog w = .ok none w ∧ posN W ⟨k, m⟩ = none) ∨
       ∃ j x, (Instr.findKey 34 (.int .u64 (m : Int)) es.toList).run Try.prog w = .ok (some (j, x.val)) w ∧ es.toList[j]? = some x ∧ x.key = .int .u64 (m : Int) ∧ x.val = .string (strNo (sigL j)) ∧ posN W ⟨k, m⟩ = some j) := by
  obtain ⟨es, clock, hb, hes⟩ := h
  obtain ⟨kl, hkey⟩ := keyU m hm
  have hent : ∀ (j : Nat) (x : MapEntry), es.toList[j]? = some x → ∃ y, W[j]? = some y ∧ x.key = .int .u64 (y.m : Int) ∧ x.val = .string (strNo (sigL j)) := by
    intro j x hx
    have h1 : (es.toList.map (fun x => (x.key, x.val)))[j]? = some (x.key, x.val) := by rw [List.getElem?_map, hx]; rfl
    rw [hes, seenL_at] at h1
    cases hL : W[j]? with
    | none => rw [hL] at h1; simp at h1
    | some y =>
      rw [hL] at h1
      simp only [Option.map_some, Option.some.injEq, Prod.mk.injEq] at h1
      exact ⟨y, rfl, h1.1.symm, h1.2.symm⟩
  have hkeys : ∀ x ∈ es.toList, ∃ l, keyOf Try.prog 34 x.key = some l := by
    intro x hx
    obtain ⟨j, hj, hjx⟩ := List.mem_iff_getElem.1 hx
    obtain ⟨y, h1, h2, _⟩ := hent j x (by rw [List.getElem?_eq_getElem hj, hjx])
    rw [h2]
    exact keyU y.m (hk y (List.mem_of_getElem? h1)).2
  refine ⟨es, clock, kl, hb, hes, hkey, ?_⟩
  rcases lawU.find w hkey es.toList hkeys with ⟨h1, h2⟩ | ⟨j, x, h1, h2, h3⟩
  · refine .inl ⟨h1, ?_⟩
    rw [posN_none]
    intro hmem
    obtain ⟨j, hj, hje⟩ := List.mem_iff_getElem.1 hmem
    have hl : es.toList.length = W.length := by
      have := congrArg List.length hes
      rw [List.length_map] at this
      rw [this]; unfold seenL; simp
    have hjs : j < es.toList.length := by omega
    obtain ⟨y, k1, k2, _⟩ := hent j _ (List.getElem?_eq_getElem hjs)
    rw [List.getElem?_eq_getElem hj, hje] at k1
    injection k1 with k1
    subst k1
    exact h2 _ (List.getElem_mem hjs) k2
  · refine .inr ⟨j, x, h1, h2, h3, ?_⟩
    obtain ⟨y, k1, k2, k3⟩ := hent j x h2
    have hy : y = ⟨k, m⟩ := by
      have h4 := k2.symm.trans h3
      simp only [Value.int.injEq, true_and] at h4
      obtain ⟨y0, y1⟩ := y
      have := (hk _ (List.mem_of_getElem? k1)).1
      simp only at this h4
      simp only [Nu.mk.injEq]
      omega
    rw [hy] at k1
    exact ⟨k3, posN_at hn k1⟩
theorem look_seen (h : SeenAt w b W) (hn : W.Nodup) (hk : ∀ e ∈ W, e.k = k ∧ e.m < 18446744073709551616) (m : Nat) (hm : m < 18446744073709551616) :
    (Instr.lookup 46 (.map (some b)) (.int .u64 (m : Int)) true).run Try.prog w = .ok (match posN W ⟨k, m⟩ with | some i => .tuple #[.string (strNo (sigL i)), .bool true] | none => .tuple #[.string ⟨#[]⟩, .bool false]) w := by
  obtain ⟨es, clock, kl, hb, hes, hkey, hc⟩ := seen_find h hn hk m hm
  have hz : (zeroValue 9).run Try.prog w = .ok (.string ⟨#[]⟩) w := by kernel_rfl
  rcases hc with ⟨h1, h2⟩ | ⟨j, x, h1, _, _, h3, h4⟩
  · rw [h2]
    simp [Instr.lookup, run_underlying Try.underlying46, MapKept.run_getObj_map hb, lawU.check w _ hkey, h1, hz, Result.andThen]
  · rw [h4]
    simp [Instr.lookup, run_underlying Try.underlying46, MapKept.run_getObj_map hb, lawU.check w _ hkey, h1, h3, Result.andThen]
theorem put_seen (h : SeenAt w b W) (hn : W.Nodup) (hk : ∀ e ∈ W, e.k = k ∧ e.m < 18446744073709551616) (m : Nat) (hm : m < 18446744073709551616) :
    ∃ w', (Instr.mapUpdate 46 (.map (some b)) (.int .u64 (m : Int)) (.string (strNo (sigL (signN W ⟨k, m⟩).2)))).run Try.prog w = .ok () w' ∧ SeenAt w' b (signN W ⟨k, m⟩).1 ∧ w.grownBy w' (some b) := by
  obtain ⟨es, clock, kl, hb, hes, hkey, hc⟩ := seen_find h hn hk m hm
  have hbl : b < w.heap.size := (Array.getElem?_eq_some_iff.1 hb).1
  have hgr : ∀ o, w.grownBy (Go.ChangeMaps.setBlock w b o) (some b) := fun o => by
    refine ⟨rfl, rfl, rfl, by simp [Go.ChangeMaps.setBlock], fun q hq hne => ?_⟩
    have hqb : b ≠ q := fun e => hne (by rw [e])
    simp [Go.ChangeMaps.setBlock, hqb]
  rcases hc with ⟨h1, h2⟩ | ⟨j, x, h1, hx, hxk, h3, h4⟩
  · have hs : signN W ⟨k, m⟩ = (W ++ [⟨k, m⟩], W.length) := by unfold signN; rw [h2]
    rw [hs]
    refine ⟨Go.ChangeMaps.setBlock w b (.map (es.push ⟨.int .u64 (m : Int), .string (strNo (sigL W.length)), clock⟩) (clock + 1)), ?_, ⟨es.push ⟨.int .u64 (m : Int), .string (strNo (sigL W.length)), clock⟩, clock + 1, ?_, ?_⟩, hgr _⟩
    · simp [Instr.mapUpdate, run_underlying Try.underlying46, MapKept.run_getObj_map hb, lawU.check w false hkey, h1, MapKept.run_setObj_map _ hb, Result.andThen, Go.ChangeMaps.setBlock]
    · simp [Go.ChangeMaps.setBlock, hbl]
    · rw [Array.toList_push, List.map_append, hes, seenL_snoc]; rfl
  · have hs : signN W ⟨k, m⟩ = (W, j) := by unfold signN; rw [h4]
    rw [hs]
    have hxa : es[j]? = some x := by rw [← Array.getElem?_toList]; exact hx
    have hst : (Instr.keyThatStays (.int .u64 (m : Int)) (.int .u64 (m : Int))).run Try.prog w = .ok (.int .u64 (m : Int)) w := lawU.stays w hkey
    refine ⟨Go.ChangeMaps.setBlock w b (.map (es.modify j fun e => { e with key := .int .u64 (m : Int), val := .string (strNo (sigL j)) }) clock), ?_, ⟨es.modify j fun e => { e with key := .int .u64 (m : Int), val := .string (strNo (sigL j)) }, clock, ?_, ?_⟩, hgr _⟩
    · simp [Instr.mapUpdate, run_underlying Try.underlying46, MapKept.run_getObj_map hb, lawU.check w false hkey, h1, MapKept.run_setObj_map _ hb, Result.andThen, Go.ChangeMaps.setBlock, hxa, hxk, hst]
    · simp [Go.ChangeMaps.setBlock, hbl]
    · rw [← hes]
      refine List.ext_getElem? fun q => ?_
      rw [Array.toList_modify, List.getElem?_map, List.getElem?_map, List.getElem?_modify]
      by_cases hq : j = q
      · subst hq
        rw [hx]
        simp [hxk, h3]
      · simp [hq]
end
end Go.Proofs.Ytepdinfopcohiaa
