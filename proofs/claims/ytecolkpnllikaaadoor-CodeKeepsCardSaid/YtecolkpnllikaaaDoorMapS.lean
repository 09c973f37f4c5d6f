/- A map from texts to their places in a list. Condition: lengths below 2^48. -/
import Derived.Test.YtecolkpnllikaaaDoorProg
import Derived.Test.YtecolkpnllikaaaDoorWords
import Derived.Test.YtecolkpnllikaaaDoorAppend
import Derived.WalkLawsBesides
import Derived.Maps.Keyed
import Derived.StringKeys
import Derived.OpenShut
namespace Go.Proofs.YtecolkpnllikaaaDoor
open Go.RowKit Go.Lib
def posS (L : List ByteArray) (e : ByteArray) : Option Nat := L.findIdx? (fun x => decide (x = e))
theorem posS_none {L : List ByteArray} {e : ByteArray} : posS L e = none ↔ e ∉ L := by
  unfold posS
  rw [List.findIdx?_eq_none_iff]
  constructor
  · intro h hm; have := h e hm; simp at this
  · intro h x hx; simp only [decide_eq_false_iff_not]; intro e1; exact h (e1 ▸ hx)
theorem posS_at {L : List ByteArray} {e : ByteArray} {j : Nat} (hn : L.Nodup) (h : L[j]? = some e) : posS L e = some j := by
  obtain ⟨hj, hje⟩ := List.getElem?_eq_some_iff.1 h
  unfold posS
  rw [List.findIdx?_eq_some_iff_getElem]
  refine ⟨hj, by simpa using hje, fun i hi => ?_⟩
  simp only [decide_eq_true_eq]
  intro e1
  exact List.pairwise_iff_getElem.1 hn i j (by omega) hj hi (by rw [e1, hje])
/-- What a map of places holds. -/
def mapS (L : List ByteArray) : List (Value × Value) := L.mapIdx fun i e => (.string e, .int .i64 (i : Int))
theorem mapS_at (L : List ByteArray) (j : Nat) : (mapS L)[j]? = L[j]?.map fun e => (.string e, .int .i64 (j : Int)) := by
  unfold mapS; rw [List.getElem?_mapIdx]
theorem mapS_snoc (L : List ByteArray) (e : ByteArray) : mapS (L ++ [e]) = mapS L ++ [(.string e, .int .i64 (L.length : Int))] := by
  unfold mapS; rw [List.mapIdx_append]; simp
theorem lawS : Go.WideMaps.KeyLaw Tryd.prog 9 := Go.WideMaps.string_law Tryd.underlying9
theorem keyS (e : ByteArray) (h : e.size ≤ maxLen) : ∃ l, keyOf Tryd.prog 9 (.string e) = some l := ⟨_, Go.WideMaps.keyOf_string_mk Tryd.underlying9 h⟩
/-- The map of texts' places lies in block b. -/
def PlacesS (w : World) (b : Nat) (L : List ByteArray) : Prop := ∃ es clock, w.heap[b]? = some (.map es clock) ∧ es.toList.map (fun x => (x.key, x.val)) = mapS L
theorem PlacesS.same {w w' : World} {b : Nat} {L : List ByteArray} (h : PlacesS w b L) (hb : w'.heap[b]? = w.heap[b]?) : PlacesS w' b L := by
  obtain ⟨es, clock, h1, h2⟩ := h
  exact ⟨es, clock, hb.trans h1, h2⟩
section
variable {w : World} {b : Nat} {L : List ByteArray}
theorem look_placesS (h : PlacesS w b L) (hn : L.Nodup) (hok : ∀ e ∈ L, e.size ≤ maxLen) (e : ByteArray) (he : e.size ≤ maxLen) :
    (Instr.lookup 105 (.map (some b)) (.string e) true).run Tryd.prog w = .ok (match posS L e with | some i => .tuple #[.int .i64 (i : Int), .bool true] | none => .tuple #[.int .i64 0, .bool false]) w := by
  obtain ⟨es, clock, hb, hes⟩ := h
  obtain ⟨kl, hkey⟩ := keyS e he
  have hz : (zeroValue 3).run Tryd.prog w = .ok (.int .i64 0) w := by kernel_rfl
  have hent : ∀ (j : Nat) (x : MapEntry), es.toList[j]? = some x → ∃ y, L[j]? = some y ∧ x.key = .string y ∧ x.val = .int .i64 (j : Int) := by
    intro j x hx
    have h1 : (es.toList.map (fun x => (x.key, x.val)))[j]? = some (x.key, x.val) := by rw [List.getElem?_map, hx]; rfl
    rw [hes, mapS_at] at h1
    cases hL : L[j]? with
    | none => rw [hL] at h1; simp at h1
    | some y =>
      rw [hL] at h1
      simp only [Option.map_some, Option.some.injEq, Prod.mk.injEq] at h1
      exact ⟨y, rfl, h1.1.symm, h1.2.symm⟩
  have hkeys : ∀ x ∈ es.toList, ∃ l, keyOf Tryd.prog 9 x.key = some l := by
    intro x hx
    obtain ⟨j, hj, hjx⟩ := List.mem_iff_getElem.1 hx
    obtain ⟨y, h1, h2, _⟩ := hent j x (by rw [List.getElem?_eq_getElem hj, hjx])
    rw [h2]
    exact keyS y (hok y (List.mem_of_getElem? h1))
  rcases lawS.find w hkey es.toList hkeys with ⟨h1, h2⟩ | ⟨j, e0, h1, h2, h3⟩
  · have hp : posS L e = none := by
      rw [posS_none]
      intro hm
      obtain ⟨j, hj, hje⟩ := List.mem_iff_getElem.1 hm
      have hl : es.toList.length = L.length := by
        have := congrArg List.length hes
        rw [List.length_map] at this
        rw [this]; unfold mapS; simp
      have hjs : j < es.toList.length := by omega
      obtain ⟨y, k1, k2, _⟩ := hent j _ (List.getElem?_eq_getElem hjs)
      rw [List.getElem?_eq_getElem hj, hje] at k1
      injection k1 with k1
      subst k1
      exact h2 _ (List.getElem_mem hjs) k2
    rw [hp]
    simp [Instr.lookup, run_underlying Tryd.underlying105, MapKept.run_getObj_map hb, lawS.check w _ hkey, h1, hz, Result.andThen]
  · obtain ⟨y, k1, k2, k3⟩ := hent j e0 h2
    have hye : y = e := Value.string.inj (k2.symm.trans h3)
    subst hye
    rw [posS_at hn k1]
    simp [Instr.lookup, run_underlying Tryd.underlying105, MapKept.run_getObj_map hb, lawS.check w _ hkey, h1, k3, Result.andThen]
theorem put_placesS (h : PlacesS w b L) (hok : ∀ e ∈ L, e.size ≤ maxLen) (e : ByteArray) (he : e.size ≤ maxLen) (hp : e ∉ L) :
    ∃ w', (Instr.mapUpdate 105 (.map (some b)) (.string e) (.int .i64 (L.length : Int))).run Tryd.prog w = .ok () w' ∧ PlacesS w' b (L ++ [e]) ∧ w.grownBy w' (some b) := by
  obtain ⟨es, clock, hb, hes⟩ := h
  obtain ⟨kl, hkey⟩ := keyS e he
  have hbl : b < w.heap.size := (Array.getElem?_eq_some_iff.1 hb).1
  have hent : ∀ (j : Nat) (x : MapEntry), es.toList[j]? = some x → ∃ y, L[j]? = some y ∧ x.key = .string y := by
    intro j x hx
    have h1 : (es.toList.map (fun x => (x.key, x.val)))[j]? = some (x.key, x.val) := by rw [List.getElem?_map, hx]; rfl
    rw [hes, mapS_at] at h1
    cases hL : L[j]? with
    | none => rw [hL] at h1; simp at h1
    | some y =>
      rw [hL] at h1
      simp only [Option.map_some, Option.some.injEq, Prod.mk.injEq] at h1
      exact ⟨y, rfl, h1.1.symm⟩
  have hkeys : ∀ x ∈ es.toList, ∃ l, keyOf Tryd.prog 9 x.key = some l := by
    intro x hx
    obtain ⟨j, hj, hjx⟩ := List.mem_iff_getElem.1 hx
    obtain ⟨y, h1, h2⟩ := hent j x (by rw [List.getElem?_eq_getElem hj, hjx])
    rw [h2]
    exact keyS y (hok y (List.mem_of_getElem? h1))
  rcases lawS.find w hkey es.toList hkeys with ⟨h1, h2⟩ | ⟨j, e0, h1, h2, h3⟩
  · refine ⟨Go.ChangeMaps.setBlock w b (.map (es.push ⟨.string e, .int .i64 (L.length : Int), clock⟩) (clock + 1)), ?_, ⟨es.push ⟨.string e, .int .i64 (L.length : Int), clock⟩, clock + 1, ?_, ?_⟩, ?_⟩
    · simp [Instr.mapUpdate, run_underlying Tryd.underlying105, MapKept.run_getObj_map hb, lawS.check w false hkey, h1, MapKept.run_setObj_map _ hb, Result.andThen, Go.ChangeMaps.setBlock]
    · simp [Go.ChangeMaps.setBlock, hbl]
    · rw [Array.toList_push, List.map_append, hes, mapS_snoc]; rfl
    · refine ⟨rfl, rfl, rfl, by simp [Go.ChangeMaps.setBlock], fun k hk hne => ?_⟩
      have hkb : b ≠ k := fun e => hne (by rw [e])
      simp [Go.ChangeMaps.setBlock, hkb]
  · obtain ⟨y, k1, k2⟩ := hent j e0 h2
    have hye : y = e := Value.string.inj (k2.symm.trans h3)
    subst hye
    exact absurd (List.mem_of_getElem? k1) hp
end
end Go.Proofs.YtecolkpnllikaaaDoor
