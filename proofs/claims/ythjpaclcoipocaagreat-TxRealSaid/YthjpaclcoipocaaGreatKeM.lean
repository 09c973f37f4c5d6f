/- The map of a ledger's places. Nothing of the program stands in it but its tables, so there is no condition. -/
import Derived.Test.YthjpaclcoipocaaGreatJoinS
import Derived.Test.YthjpaclcoipocaaGreatWords
import Derived.Test.YthjpaclcoipocaaGreatAppend
import Derived.Test.YthjpaclcoipocaaGreatDigEq
import Derived.WalkLawsBesides
import Derived.Maps.Keyed
import Derived.DeepKeys4
import Derived.OpenShut
namespace Go.Proofs.YthjpaclcoipocaaGreat
open Go.RowKit Go.Lib
def D8.V (d : D8) : Value := .agg #[.int .u8 (d.x0 : Int), .int .u8 (d.x1 : Int), .int .u8 (d.x2 : Int), .int .u8 (d.x3 : Int), .int .u8 (d.x4 : Int), .int .u8 (d.x5 : Int), .int .u8 (d.x6 : Int), .int .u8 (d.x7 : Int)]
theorem D8.V_inj {a b : D8} (h : a.V = b.V) : a = b := by
  obtain ⟨a0, a1, a2, a3, a4, a5, a6, a7⟩ := a
  obtain ⟨b0, b1, b2, b3, b4, b5, b6, b7⟩ := b
  simp only [D8.V, Value.agg.injEq, Array.mk.injEq, List.cons.injEq, Value.int.injEq, true_and, and_true] at h
  simp only [D8.mk.injEq]
  omega
/-- What a map of places holds. -/
def mapD (L : List D8) : List (Value × Value) := L.mapIdx fun i e => (e.V, .int .i64 (i : Int))
theorem mapD_at (L : List D8) (j : Nat) : (mapD L)[j]? = L[j]?.map fun e => (e.V, .int .i64 (j : Int)) := by
  unfold mapD; rw [List.getElem?_mapIdx]
theorem mapD_snoc (L : List D8) (e : D8) : mapD (L ++ [e]) = mapD L ++ [(e.V, .int .i64 (L.length : Int))] := by
  unfold mapD; rw [List.mapIdx_append]; simp
theorem laidOutD : laidOutB Tryz.prog = true := by kernel_rfl
theorem lawD : Go.Maps.Keyed Tryz.prog 30 := Go.Maps.Keyed.of_law (deep_law_laid (m := 5) laidOutD (by decide) (of_decide_eq_true (by kernel_rfl)) (by kernel_rfl) (by kernel_rfl))
theorem lits_u8D (d n : Nat) (h : n < 256) : Tryz.prog.keyLits (d + 1) 5 [.int .u8 (n : Int)] = some [.int .u8 (n : Int)] := by
  have hw : (Lit.int .u8 (n : Int)).wf = true := by
    simp [Lit.wf, show IntKind.u8.min = 0 from rfl, show IntKind.u8.max = 255 from rfl]; omega
  unfold Program.keyLits
  simp only [Tryz.underlying5]
  simp [hw]
theorem cells_u8D : Tryz.prog.cellsOf 5 = 1 := by kernel_rfl
theorem cells_digD : Tryz.prog.cellsOf 30 = 8 := by kernel_rfl
theorem lits_digD (d : Nat) (x : D8) (h : x.ok) : Tryz.prog.keyLits (d + 2) 30 [.int .u8 (x.x0 : Int), .int .u8 (x.x1 : Int), .int .u8 (x.x2 : Int), .int .u8 (x.x3 : Int), .int .u8 (x.x4 : Int), .int .u8 (x.x5 : Int), .int .u8 (x.x6 : Int), .int .u8 (x.x7 : Int)] = some [.int .u8 (x.x0 : Int), .int .u8 (x.x1 : Int), .int .u8 (x.x2 : Int), .int .u8 (x.x3 : Int), .int .u8 (x.x4 : Int), .int .u8 (x.x5 : Int), .int .u8 (x.x6 : Int), .int .u8 (x.x7 : Int)] := by
  obtain ⟨h0, h1, h2, h3, h4, h5, h6, h7⟩ := h
  have hr : List.range 8 = [0, 1, 2, 3, 4, 5, 6, 7] := by decide
  unfold Program.keyLits
  simp only [Tryz.underlying30, cells_digD, cells_u8D]
  simp [hr, lits_u8D d _ h0, lits_u8D d _ h1, lits_u8D d _ h2, lits_u8D d _ h3, lits_u8D d _ h4, lits_u8D d _ h5, lits_u8D d _ h6, lits_u8D d _ h7]
theorem keyDg (e : D8) (h : e.ok) : ∃ l, keyOf Tryz.prog 30 e.V = some l := by
  have hk : Tryz.prog.keyType 30 = true := by kernel_rfl
  have hf : e.V.formed Tryz.prog 30 = true := by
    kernel_rfl
  have hs : 1 ≤ Tryz.prog.types.size := of_decide_eq_true (by kernel_rfl)
  obtain ⟨d, hd⟩ : ∃ d, Tryz.prog.types.size + 1 = d + 2 := ⟨Tryz.prog.types.size - 1, by omega⟩
  have hl2 := lits_digD d e h
  rw [← hd] at hl2
  obtain ⟨l, hl⟩ : ∃ l, Tryz.prog.keyLits (Tryz.prog.types.size + 1) 30 e.V.cells.toList = some l := ⟨_, hl2⟩
  refine ⟨.string (keyBytes l), ?_⟩
  unfold keyOf
  simp only [Tryz.underlying30]
  rw [hl, hk, hf]
  rfl
/-- The map of a book's places lies in block b. -/
def PlacesD (w : World) (b : Nat) (L : List D8) : Prop := ∃ es clock, w.heap[b]? = some (.map es clock) ∧ es.toList.map (fun x => (x.key, x.val)) = mapD L
theorem PlacesD.same {w w' : World} {b : Nat} {L : List D8} (h : PlacesD w b L) (hb : w'.heap[b]? = w.heap[b]?) : PlacesD w' b L := by
  obtain ⟨es, clock, h1, h2⟩ := h
  exact ⟨es, clock, hb.trans h1, h2⟩
section
variable {w : World} {b : Nat} {L : List D8}
theorem look_placesD (h : PlacesD w b L) (hn : L.Nodup) (hok : ∀ e ∈ L, e.ok) (e : D8) (he : e.ok) :
    (Instr.lookup 64 (.map (some b)) e.V true).run Tryz.prog w = .ok (match posD L e with | some i => .tuple #[.int .i64 (i : Int), .bool true] | none => .tuple #[.int .i64 0, .bool false]) w := by
  obtain ⟨es, clock, hb, hes⟩ := h
  obtain ⟨kl, hkey⟩ := keyDg e he
  have hz : (zeroValue 3).run Tryz.prog w = .ok (.int .i64 0) w := by kernel_rfl
  have hent : ∀ (j : Nat) (x : MapEntry), es.toList[j]? = some x → ∃ y, L[j]? = some y ∧ x.key = y.V ∧ x.val = .int .i64 (j : Int) := by
    intro j x hx
    have h1 : (es.toList.map (fun x => (x.key, x.val)))[j]? = some (x.key, x.val) := by rw [List.getElem?_map, hx]; rfl
    rw [hes, mapD_at] at h1
    cases hL : L[j]? with
    | none => rw [hL] at h1; simp at h1
    | some y =>
      rw [hL] at h1
      simp only [Option.map_some, Option.some.injEq, Prod.mk.injEq] at h1
      exact ⟨y, rfl, h1.1.symm, h1.2.symm⟩
  have hkeys : ∀ x ∈ es.toList, ∃ l, keyOf Tryz.prog 30 x.key = some l := by
    intro x hx
    obtain ⟨j, hj, hjx⟩ := List.mem_iff_getElem.1 hx
    obtain ⟨y, h1, h2, _⟩ := hent j x (by rw [List.getElem?_eq_getElem hj, hjx])
    rw [h2]
    exact keyDg y (hok y (List.mem_of_getElem? h1))
  rcases lawD.find w hkey es.toList hkeys with ⟨h1, h2⟩ | ⟨j, e0, h1, h2, h3⟩
  · have hp : posD L e = none := by
      rw [posD_none]
      intro hm
      obtain ⟨j, hj, hje⟩ := List.mem_iff_getElem.1 hm
      have hl : es.toList.length = L.length := by
        have := congrArg List.length hes
        rw [List.length_map] at this
        rw [this]; unfold mapD; simp
      have hjs : j < es.toList.length := by omega
      obtain ⟨y, k1, k2, _⟩ := hent j _ (List.getElem?_eq_getElem hjs)
      rw [List.getElem?_eq_getElem hj, hje] at k1
      injection k1 with k1
      subst k1
      exact h2 _ (List.getElem_mem hjs) k2
    rw [hp]
    simp [Instr.lookup, run_underlying Tryz.underlying64, MapKept.run_getObj_map hb, lawD.check w _ hkey, h1, hz, Result.andThen]
  · obtain ⟨y, k1, k2, k3⟩ := hent j e0 h2
    have hye : y = e := D8.V_inj (k2.symm.trans h3)
    subst hye
    rw [posD_at hn k1]
    simp [Instr.lookup, run_underlying Tryz.underlying64, MapKept.run_getObj_map hb, lawD.check w _ hkey, h1, k3, Result.andThen]
theorem put_placesD (h : PlacesD w b L) (hok : ∀ e ∈ L, e.ok) (e : D8) (he : e.ok) (hp : posD L e = none) :
    ∃ w', (Instr.mapUpdate 64 (.map (some b)) e.V (.int .i64 (L.length : Int))).run Tryz.prog w = .ok () w' ∧ PlacesD w' b (L ++ [e]) ∧ w.grownBy w' (some b) := by
  obtain ⟨es, clock, hb, hes⟩ := h
  obtain ⟨kl, hkey⟩ := keyDg e he
  have hbl : b < w.heap.size := (Array.getElem?_eq_some_iff.1 hb).1
  have hent : ∀ (j : Nat) (x : MapEntry), es.toList[j]? = some x → ∃ y, L[j]? = some y ∧ x.key = y.V := by
    intro j x hx
    have h1 : (es.toList.map (fun x => (x.key, x.val)))[j]? = some (x.key, x.val) := by rw [List.getElem?_map, hx]; rfl
    rw [hes, mapD_at] at h1
    cases hL : L[j]? with
    | none => rw [hL] at h1; simp at h1
    | some y =>
      rw [hL] at h1
      simp only [Option.map_some, Option.some.injEq, Prod.mk.injEq] at h1
      exact ⟨y, rfl, h1.1.symm⟩
  have hkeys : ∀ x ∈ es.toList, ∃ l, keyOf Tryz.prog 30 x.key = some l := by
    intro x hx
    obtain ⟨j, hj, hjx⟩ := List.mem_iff_getElem.1 hx
    obtain ⟨y, h1, h2⟩ := hent j x (by rw [List.getElem?_eq_getElem hj, hjx])
    rw [h2]
    exact keyDg y (hok y (List.mem_of_getElem? h1))
  rcases lawD.find w hkey es.toList hkeys with ⟨h1, h2⟩ | ⟨j, e0, h1, h2, h3⟩
  · refine ⟨Go.ChangeMaps.setBlock w b (.map (es.push ⟨e.V, .int .i64 (L.length : Int), clock⟩) (clock + 1)), ?_, ⟨es.push ⟨e.V, .int .i64 (L.length : Int), clock⟩, clock + 1, ?_, ?_⟩, ?_⟩
    · simp [Instr.mapUpdate, run_underlying Tryz.underlying64, MapKept.run_getObj_map hb, lawD.check w false hkey, h1, MapKept.run_setObj_map _ hb, Result.andThen, Go.ChangeMaps.setBlock]
    · simp [Go.ChangeMaps.setBlock, hbl]
    · rw [Array.toList_push, List.map_append, hes, mapD_snoc]; rfl
    · refine ⟨rfl, rfl, rfl, by simp [Go.ChangeMaps.setBlock], fun k hk hne => ?_⟩
      have hkb : b ≠ k := fun e => hne (by rw [e])
      simp [Go.ChangeMaps.setBlock, hkb]
  · obtain ⟨y, k1, k2⟩ := hent j e0 h2
    have hye : y = e := D8.V_inj (k2.symm.trans h3)
    subst hye
    rw [posD_none] at hp
    exact absurd (List.mem_of_getElem? k1) hp
/-- Whatever the key: a map that holds it is put to as well. -/
theorem put_anyD (h : PlacesD w b L) (hok : ∀ e ∈ L, e.ok) (e : D8) (he : e.ok) (x : Value) :
    ∃ w', (Instr.mapUpdate 64 (.map (some b)) e.V x).run Tryz.prog w = .ok () w' ∧ w.grownBy w' (some b) := by
  obtain ⟨es, clock, hb, hes⟩ := h
  obtain ⟨kl, hkey⟩ := keyDg e he
  have hbl : b < w.heap.size := (Array.getElem?_eq_some_iff.1 hb).1
  have hgr : ∀ o, w.grownBy (Go.ChangeMaps.setBlock w b o) (some b) := fun o => ⟨rfl, rfl, rfl, by simp [Go.ChangeMaps.setBlock], fun k hk hne => by
    have hkb : b ≠ k := fun e => hne (by rw [e])
    simp [Go.ChangeMaps.setBlock, hkb]⟩
  have hkeys : ∀ x ∈ es.toList, ∃ l, keyOf Tryz.prog 30 x.key = some l := by
    intro x hx
    obtain ⟨j, hj, hjx⟩ := List.mem_iff_getElem.1 hx
    have h1 : (es.toList.map (fun x => (x.key, x.val)))[j]? = some (x.key, x.val) := by rw [List.getElem?_map, List.getElem?_eq_getElem hj, hjx]; rfl
    rw [hes, mapD_at] at h1
    cases hL : L[j]? with
    | none => rw [hL] at h1; simp at h1
    | some y =>
      rw [hL] at h1
      simp only [Option.map_some, Option.some.injEq, Prod.mk.injEq] at h1
      rw [← h1.1]
      exact keyDg y (hok y (List.mem_of_getElem? hL))
  rcases lawD.find w hkey es.toList hkeys with ⟨h1, h2⟩ | ⟨j, e0, h1, h2, h3⟩
  · refine ⟨Go.ChangeMaps.setBlock w b (.map (es.push ⟨e.V, x, clock⟩) (clock + 1)), ?_, hgr _⟩
    simp [Instr.mapUpdate, run_underlying Tryz.underlying64, MapKept.run_getObj_map hb, lawD.check w false hkey, h1, MapKept.run_setObj_map _ hb, Result.andThen, Go.ChangeMaps.setBlock]
  · have hj : es[j]? = some e0 := by rw [← Array.getElem?_toList]; exact h2
    refine ⟨Go.ChangeMaps.setBlock w b (.map (es.modify j fun y => { y with key := e.V, val := x }) clock), ?_, hgr _⟩
    simp [Instr.mapUpdate, run_underlying Tryz.underlying64, MapKept.run_getObj_map hb, lawD.check w false hkey, h1, hj, h3, lawD.stays w hkey, MapKept.run_setObj_map _ hb, Result.andThen, Go.ChangeMaps.setBlock]
end
end Go.Proofs.YthjpaclcoipocaaGreat
