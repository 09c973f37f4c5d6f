/- Entries of a book, plain and in memory; the map of their places. Nothing of the program stands in it but its tables, so there is no condition. Plain: the reference's list of entries, as numbers, against the book's. No program in it, so there is no condition. The walks of Digest, and of a book's small functions. Condition: none. -/
import Derived.Test.YthhiookcknnmdaaGreatProg
import Derived.Test.YthhiookcknnmdaaGreatWords
import Derived.Test.YthhiookcknnmdaaGreatAppend
import Derived.Test.YthhiookcknnmdaaGreatJoinX
import Derived.Test.YthhiookcknnmdaaGreatDigEq
import Derived.WalkLawsBesides
import Derived.Maps.Keyed
import Derived.DeepKeys4
import Derived.OpenShut
import Derived.Carry
import Derived.Test.YthhiookcknnmdaaGreatPuB
import Derived.Deep.RegionHeld3
namespace Go.Proofs.YthhiookcknnmdaaGreat
open Go.RowKit

structure En where
 key : D8
 msg : D8
instance : Inhabited En := ⟨⟨⟨0, 0, 0, 0, 0, 0, 0, 0⟩, ⟨0, 0, 0, 0, 0, 0, 0, 0⟩⟩⟩
def En.cells (e : En) : List Value := [.int .u8 e.key.x0, .int .u8 e.key.x1, .int .u8 e.key.x2, .int .u8 e.key.x3, .int .u8 e.key.x4, .int .u8 e.key.x5, .int .u8 e.key.x6, .int .u8 e.key.x7, .int .u8 e.msg.x0, .int .u8 e.msg.x1, .int .u8 e.msg.x2, .int .u8 e.msg.x3, .int .u8 e.msg.x4, .int .u8 e.msg.x5, .int .u8 e.msg.x6, .int .u8 e.msg.x7]
def En.V (e : En) : Value := .agg #[.int .u8 e.key.x0, .int .u8 e.key.x1, .int .u8 e.key.x2, .int .u8 e.key.x3, .int .u8 e.key.x4, .int .u8 e.key.x5, .int .u8 e.key.x6, .int .u8 e.key.x7, .int .u8 e.msg.x0, .int .u8 e.msg.x1, .int .u8 e.msg.x2, .int .u8 e.msg.x3, .int .u8 e.msg.x4, .int .u8 e.msg.x5, .int .u8 e.msg.x6, .int .u8 e.msg.x7]
def En.ok (e : En) : Prop := e.key.ok ∧ e.msg.ok
def sameEn (a b : En) : Bool := eqI a.key.L b.key.L && eqI a.msg.L b.msg.L
theorem sameEn_iff {a b : En} : sameEn a b = true ↔ a = b := by
 obtain ⟨a0, a1⟩ := a
 obtain ⟨b0, b1⟩ := b
 unfold sameEn
 simp only [Bool.and_eq_true, eqN_iff, En.mk.injEq]
theorem En.V_inj {a b : En} (h : a.V = b.V) : a = b := by
 obtain ⟨⟨a0, a1, a2, a3, a4, a5, a6, a7⟩, ⟨c0, c1, c2, c3, c4, c5, c6, c7⟩⟩ := a
 obtain ⟨⟨b0, b1, b2, b3, b4, b5, b6, b7⟩, ⟨d0, d1, d2, d3, d4, d5, d6, d7⟩⟩ := b
 simp only [En.V, Value.agg.injEq, Array.mk.injEq, List.cons.injEq, Value.int.injEq, true_and, and_true] at h
 simp only [En.mk.injEq, D8.mk.injEq]
 omega
def posE (L : List En) (e : En) : Option Nat := L.findIdx? (fun x => sameEn x e)
theorem posE_none {L : List En} {e : En} : posE L e = none ↔ e ∉ L := by
 unfold posE
 rw [List.findIdx?_eq_none_iff]
 constructor
 ·intro h hm
  have := h e hm
  rw [show sameEn e e = true from sameEn_iff.2 rfl] at this
  simp at this
 ·intro h x hx
  cases hs : sameEn x e with
  | false => rfl
  | true => rw [sameEn_iff.1 hs] at hx; exact absurd hx h
theorem posE_at {L : List En} {e : En} {j : Nat} (hn : L.Nodup) (h : L[j]? = some e) : posE L e = some j := by
 obtain ⟨hj, hje⟩ := List.getElem?_eq_some_iff.1 h
 unfold posE
 rw [List.findIdx?_eq_some_iff_getElem]
 refine ⟨hj, by rw [hje]; exact sameEn_iff.2 rfl, fun i hi => ?_⟩
 intro hs
 have h2 := sameEn_iff.1 hs
 exact List.pairwise_iff_getElem.1 hn i j (by omega) hj hi (by rw [h2, hje])
theorem posE_some {L : List En} {e : En} {j : Nat} (h : posE L e = some j) : L[j]? = some e := by
 unfold posE at h
 rw [List.findIdx?_eq_some_iff_getElem] at h
 obtain ⟨hj, hs, _⟩ := h
 rw [List.getElem?_eq_getElem hj, sameEn_iff.1 hs]
def mapL (L : List En) : List (Value × Value) := L.mapIdx fun i e => (e.V, .int .i64 i)
theorem mapL_at (L : List En) (j : Nat) : (mapL L)[j]? = L[j]?.map fun e => (e.V, .int .i64 j) := by
 unfold mapL; rw [List.getElem?_mapIdx]
theorem mapL_snoc (L : List En) (e : En) : mapL (L ++ [e]) = mapL L ++ [(e.V, .int .i64 L.length)] := by
 unfold mapL; rw [List.mapIdx_append]; simp
theorem laidOut : laidOutB Tryz.prog = true := by kernel_rfl
theorem lawE : Go.Maps.Keyed Tryz.prog 243 := Go.Maps.Keyed.of_law (deep_law_laid (m := 5) laidOut (by decide) (of_decide_eq_true (by kernel_rfl)) (by kernel_rfl) (by kernel_rfl))
theorem lits_u8 (d n : Nat) (h : n < 256) : Tryz.prog.keyLits (d + 1) 5 [.int .u8 n] = some [.int .u8 n] := by
 have hw : (Lit.int .u8 n).wf = true := by
  simp [Lit.wf, show IntKind.u8.min = 0 from rfl, show IntKind.u8.max = 255 from rfl]; omega
 unfold Program.keyLits
 simp only [Tryz.underlying5]
 simp [hw]
theorem cells_u8' : Tryz.prog.cellsOf 5 = 1 := by kernel_rfl
theorem cells_dig : Tryz.prog.cellsOf 27 = 8 := by kernel_rfl
theorem cells_en : Tryz.prog.cellsOf 243 = 16 := by kernel_rfl
theorem lits_dig (d : Nat) (x : D8) (h : x.ok) : Tryz.prog.keyLits (d + 2) 27 [.int .u8 x.x0, .int .u8 x.x1, .int .u8 x.x2, .int .u8 x.x3, .int .u8 x.x4, .int .u8 x.x5, .int .u8 x.x6, .int .u8 x.x7] = some [.int .u8 x.x0, .int .u8 x.x1, .int .u8 x.x2, .int .u8 x.x3, .int .u8 x.x4, .int .u8 x.x5, .int .u8 x.x6, .int .u8 x.x7] := by
 obtain ⟨h0, h1, h2, h3, h4, h5, h6, h7⟩ := h
 have hr : List.range 8 = [0, 1, 2, 3, 4, 5, 6, 7] := by decide
 unfold Program.keyLits
 simp only [Tryz.underlying27, cells_dig, cells_u8']
 simp [hr, lits_u8 d _ h0, lits_u8 d _ h1, lits_u8 d _ h2, lits_u8 d _ h3, lits_u8 d _ h4, lits_u8 d _ h5, lits_u8 d _ h6, lits_u8 d _ h7]
theorem lits_en (d : Nat) (e : En) (h : e.ok) : ∃ l, Tryz.prog.keyLits (d + 3) 243 e.cells = some l := by
 have h0 := lits_dig d e.key h.1
 have h1 := lits_dig d e.msg h.2
 unfold Program.keyLits En.cells
 simp only [Tryz.underlying243, cells_en]
 simp [h0, h1, cells_dig]
theorem keyE (e : En) (h : e.ok) : ∃ l, keyOf Tryz.prog 243 e.V = some l := by
 have hk : Tryz.prog.keyType 243 = true := by kernel_rfl
 have hf : e.V.formed Tryz.prog 243 = true := by
  kernel_rfl
 have hs : 2 ≤ Tryz.prog.types.size := of_decide_eq_true (by kernel_rfl)
 obtain ⟨d, hd⟩ : ∃ d, Tryz.prog.types.size + 1 = d + 3 := ⟨Tryz.prog.types.size - 2, by omega⟩
 obtain ⟨l, hl⟩ := lits_en d e h
 have hl2 : Tryz.prog.keyLits (Tryz.prog.types.size + 1) 243 e.V.cells.toList = some l := by rw [hd]; exact hl
 refine ⟨.string (keyBytes l), ?_⟩
 unfold keyOf
 simp only [Tryz.underlying243]
 rw [hl2, hk, hf]
 rfl
def PlacesAt (w : World) (b : Nat) (L : List En) : Prop := ∃ es clock, w.heap[b]? = some (.map es clock) ∧ es.toList.map (fun x => (x.key, x.val)) = mapL L
theorem PlacesAt.same {w w' : World} {b : Nat} {L : List En} (h : PlacesAt w b L) (hb : w'.heap[b]? = w.heap[b]?) : PlacesAt w' b L := by
 obtain ⟨es, clock, h1, h2⟩ := h
 exact ⟨es, clock, hb.trans h1, h2⟩
section
variable {w : World} {b : Nat} {L : List En}
theorem look_places (h : PlacesAt w b L) (hn : L.Nodup) (hok : ∀ e ∈ L, e.ok) (e : En) (he : e.ok) :
  (Instr.lookup 178 (.map (some b)) e.V true).run Tryz.prog w = .ok (match posE L e with | some i => .tuple #[.int .i64 i, .bool true] | none => .tuple #[.int .i64 0, .bool false]) w := by
 obtain ⟨es, clock, hb, hes⟩ := h
 obtain ⟨kl, hkey⟩ := keyE e he
 have hz : (zeroValue 3).run Tryz.prog w = .ok (.int .i64 0) w := by kernel_rfl
 have hent : ∀ (j : Nat) (x : MapEntry), es.toList[j]? = some x → ∃ y, L[j]? = some y ∧ x.key = y.V ∧ x.val = .int .i64 j := by
  intro j x hx
  have h1 : (es.toList.map (fun x => (x.key, x.val)))[j]? = some (x.key, x.val) := by rw [List.getElem?_map, hx]; rfl
  rw [hes, mapL_at] at h1
  cases hL : L[j]? with
  | none => rw [hL] at h1; simp at h1
  | some y =>
   rw [hL] at h1
   simp only [Option.map_some, Option.some.injEq, Prod.mk.injEq] at h1
   exact ⟨y, rfl, h1.1.symm, h1.2.symm⟩
 have hkeys : ∀ x ∈ es.toList, ∃ l, keyOf Tryz.prog 243 x.key = some l := by
  intro x hx
  obtain ⟨j, hj, hjx⟩ := List.mem_iff_getElem.1 hx
  obtain ⟨y, h1, h2, _⟩ := hent j x (by rw [List.getElem?_eq_getElem hj, hjx])
  rw [h2]
  exact keyE y (hok y (List.mem_of_getElem? h1))
 rcases lawE.find w hkey es.toList hkeys with ⟨h1, h2⟩ | ⟨j, e0, h1, h2, h3⟩
 ·have hp : posE L e = none := by
   rw [posE_none]
   intro hm
   obtain ⟨j, hj, hje⟩ := List.mem_iff_getElem.1 hm
   have hl : es.toList.length = L.length := by
    have := congrArg List.length hes
    rw [List.length_map] at this
    rw [this]; unfold mapL; simp
   have hjs : j < es.toList.length := by omega
   obtain ⟨y, k1, k2, _⟩ := hent j _ (List.getElem?_eq_getElem hjs)
   rw [List.getElem?_eq_getElem hj, hje] at k1
   injection k1 with k1
   subst k1
   exact h2 _ (List.getElem_mem hjs) k2
  rw [hp]
  simp [Instr.lookup, run_underlying Tryz.underlying178, MapKept.run_getObj_map hb, lawE.check w _ hkey, h1, hz, Result.andThen]
 ·obtain ⟨y, k1, k2, k3⟩ := hent j e0 h2
  have hye : y = e := En.V_inj (k2.symm.trans h3)
  subst hye
  rw [posE_at hn k1]
  simp [Instr.lookup, run_underlying Tryz.underlying178, MapKept.run_getObj_map hb, lawE.check w _ hkey, h1, k3, Result.andThen]
theorem put_places (h : PlacesAt w b L) (hok : ∀ e ∈ L, e.ok) (e : En) (he : e.ok) (hp : posE L e = none) :
  ∃ w', (Instr.mapUpdate 178 (.map (some b)) e.V (.int .i64 L.length)).run Tryz.prog w = .ok () w' ∧ PlacesAt w' b (L ++ [e]) ∧ w.grownBy w' (some b) := by
 obtain ⟨es, clock, hb, hes⟩ := h
 obtain ⟨kl, hkey⟩ := keyE e he
 have hbl : b < w.heap.size := (Array.getElem?_eq_some_iff.1 hb).1
 have hent : ∀ (j : Nat) (x : MapEntry), es.toList[j]? = some x → ∃ y, L[j]? = some y ∧ x.key = y.V := by
  intro j x hx
  have h1 : (es.toList.map (fun x => (x.key, x.val)))[j]? = some (x.key, x.val) := by rw [List.getElem?_map, hx]; rfl
  rw [hes, mapL_at] at h1
  cases hL : L[j]? with
  | none => rw [hL] at h1; simp at h1
  | some y =>
   rw [hL] at h1
   simp only [Option.map_some, Option.some.injEq, Prod.mk.injEq] at h1
   exact ⟨y, rfl, h1.1.symm⟩
 have hkeys : ∀ x ∈ es.toList, ∃ l, keyOf Tryz.prog 243 x.key = some l := by
  intro x hx
  obtain ⟨j, hj, hjx⟩ := List.mem_iff_getElem.1 hx
  obtain ⟨y, h1, h2⟩ := hent j x (by rw [List.getElem?_eq_getElem hj, hjx])
  rw [h2]
  exact keyE y (hok y (List.mem_of_getElem? h1))
 rcases lawE.find w hkey es.toList hkeys with ⟨h1, h2⟩ | ⟨j, e0, h1, h2, h3⟩
 ·refine ⟨Go.ChangeMaps.setBlock w b (.map (es.push ⟨e.V, .int .i64 L.length, clock⟩) (clock + 1)), ?_, ⟨es.push ⟨e.V, .int .i64 L.length, clock⟩, clock + 1, ?_, ?_⟩, ?_⟩
  ·simp [Instr.mapUpdate, run_underlying Tryz.underlying178, MapKept.run_getObj_map hb, lawE.check w false hkey, h1, MapKept.run_setObj_map _ hb, Result.andThen, Go.ChangeMaps.setBlock]
  ·simp [Go.ChangeMaps.setBlock, hbl]
  ·rw [Array.toList_push, List.map_append, hes, mapL_snoc]; rfl
  ·refine ⟨rfl, rfl, rfl, by simp [Go.ChangeMaps.setBlock], fun k hk hne => ?_⟩
   have hkb : b ≠ k := fun e => hne (by rw [e])
   simp [Go.ChangeMaps.setBlock, hkb]
 ·obtain ⟨y, k1, k2⟩ := hent j e0 h2
  have hye : y = e := En.V_inj (k2.symm.trans h3)
  subst hye
  rw [posE_none] at hp
  exact absurd (List.mem_of_getElem? k1) hp
end
end Go.Proofs.YthhiookcknnmdaaGreat
namespace Go.Proofs.YthhiookcknnmdaaGreat
structure Nu where
 k : Nat
 m : Nat
instance : Inhabited Nu := ⟨⟨0, 0⟩⟩
def Nu.ok (e : Nu) : Prop := e.k < 18446744073709551616 ∧ e.m < 18446744073709551616
def Nu.en (e : Nu) : En := ⟨D8.of e.k, D8.of e.m⟩
def sameNu (a b : Nu) : Bool := a.k == b.k && a.m == b.m
theorem sameNu_iff {a b : Nu} : sameNu a b = true ↔ a = b := by
 obtain ⟨a0, a1⟩ := a
 obtain ⟨b0, b1⟩ := b
 simp [sameNu]
theorem of_inj {a b : Nat} (ha : a < 18446744073709551616) (hb : b < 18446744073709551616) (h : D8.of a = D8.of b) : a = b := by
 have := congrArg D8.num h
 rwa [D8.num_of ha, D8.num_of hb] at this
theorem en_inj {a b : Nu} (ha : a.ok) (hb : b.ok) (h : a.en = b.en) : a = b := by
 obtain ⟨a0, a1⟩ := a
 obtain ⟨b0, b1⟩ := b
 simp only [Nu.en, En.mk.injEq] at h
 simp only [Nu.mk.injEq]
 exact ⟨of_inj ha.1 hb.1 h.1, of_inj ha.2 hb.2 h.2⟩
theorem en_ok (e : Nu) : e.en.ok := ⟨D8.of_ok _, D8.of_ok _⟩
def posN (l : List Nu) (e : Nu) : Option Nat := l.findIdx? (fun x => sameNu x e)
theorem posN_en {l : List Nu} {e : Nu} (hl : ∀ x ∈ l, x.ok) (he : e.ok) : posE (l.map Nu.en) e.en = posN l e := by
 unfold posE posN
 rw [List.findIdx?_map]
 induction l with
 | nil => rfl
 | cons x l ih =>
  have hx := hl x (by simp)
  have e1 : ((fun x => sameEn x e.en) ∘ Nu.en) x = sameNu x e := by
   simp only [Function.comp]
   cases h : sameNu x e with
   | true => rw [sameNu_iff.1 h]; exact sameEn_iff.2 rfl
   | false =>
    cases h2 : sameEn x.en e.en with
    | false => rfl
    | true =>
     have := en_inj hx he (sameEn_iff.1 h2)
     rw [this, sameNu_iff.2 rfl] at h
     simp at h
  rw [List.findIdx?_cons, List.findIdx?_cons, e1]
  have := ih (fun y hy => hl y (by simp [hy]))
  rw [this]
def signN (l : List Nu) (e : Nu) : List Nu × Nat := match posN l e with
 | some i => (l, i)
 | none => (l ++ [e], l.length)
def signE (L : List En) (e : En) : List En × Nat := match posE L e with
 | some i => (L, i)
 | none => (L ++ [e], L.length)
theorem sign_en {l : List Nu} {e : Nu} (hl : ∀ x ∈ l, x.ok) (he : e.ok) : signE (l.map Nu.en) e.en = ((signN l e).1.map Nu.en, (signN l e).2) := by
 unfold signE signN
 rw [posN_en hl he]
 cases posN l e with
 | some i => rfl
 | none => simp
theorem signN_ok {l : List Nu} {e : Nu} (hl : ∀ x ∈ l, x.ok) (he : e.ok) : ∀ x ∈ (signN l e).1, x.ok := by
 unfold signN
 cases posN l e with
 | some i => exact hl
 | none =>
  intro x hx
  rcases List.mem_append.1 hx with h | h
  ·exact hl x h
  ·simp at h; rw [h]; exact he
theorem posN_lt {l : List Nu} {e : Nu} {i : Nat} (h : posN l e = some i) : i < l.length ∧ l[i]? = some e := by
 unfold posN at h
 rw [List.findIdx?_eq_some_iff_getElem] at h
 obtain ⟨hj, hs, _⟩ := h
 exact ⟨hj, by rw [List.getElem?_eq_getElem hj, sameNu_iff.1 hs]⟩
theorem signN_len (l : List Nu) (e : Nu) : (signN l e).1.length ≤ l.length + 1 ∧ (signN l e).2 ≤ l.length := by
 unfold signN
 cases h : posN l e with
 | some i => exact ⟨by simp, by have := (posN_lt h).1; simp only; omega⟩
 | none => simp
theorem signE_nodup {L : List En} {e : En} (h : L.Nodup) : (signE L e).1.Nodup := by
 unfold signE
 cases hp : posE L e with
 | some i => exact h
 | none =>
  simp only
  rw [List.nodup_append]
  refine ⟨h, by simp, fun a ha b hb hab => ?_⟩
  simp at hb
  subst hb hab
  exact posE_none.1 hp ha
theorem signE_ok {L : List En} {e : En} (h : ∀ x ∈ L, x.ok) (he : e.ok) : ∀ x ∈ (signE L e).1, x.ok := by
 unfold signE
 cases hp : posE L e with
 | some i => exact h
 | none =>
  intro x hx
  rcases List.mem_append.1 hx with h1 | h1
  ·exact h x h1
  ·simp at h1; rw [h1]; exact he
end Go.Proofs.YthhiookcknnmdaaGreat
namespace Go.Proofs.YthhiookcknnmdaaGreat
open Go.RowKit Go.Lib

theorem info_En : (Tryz.prog.info? 243).map (fun i => (i.zero, i.size, i.bytes)) = some (some (.agg #[.int .u8 0, .int .u8 0, .int .u8 0, .int .u8 0, .int .u8 0, .int .u8 0, .int .u8 0, .int .u8 0, .int .u8 0, .int .u8 0, .int .u8 0, .int .u8 0, .int .u8 0, .int .u8 0, .int .u8 0, .int .u8 0]), 16, 16) := by kernel_rfl
def flatE (l : List En) : List Value := l.flatMap En.cells
theorem flatE_len (l : List En) : (flatE l).length = l.length * 16 := by
 induction l with
 | nil => rfl
 | cons i l ih =>
  have : flatE (i :: l) = i.cells ++ flatE l := by simp [flatE]
  rw [this, List.length_append, ih]; simp [En.cells]; omega
theorem flatE_append (l m : List En) : flatE (l ++ m) = flatE l ++ flatE m := by simp [flatE]
structure BookAt (w : World) (B bk mb : Nat) (L : List En) : Prop where
 book : ∃ A n c, w.heap[bk]? = some (.cells #[.slice A n c, .map (some mb)] 181 (0, 0)) ∧ w.ownsRow B 243 16 (.slice A n c) n (flatE L)
 places : PlacesAt w mb L
 lb : bk < B
 lm : mb < B
 hB : B ≤ w.heap.size
 nodup : L.Nodup
 ok : ∀ e ∈ L, e.ok
theorem PlacesAt.lt {w : World} {b : Nat} {L : List En} (h : PlacesAt w b L) : b < w.heap.size := by
 obtain ⟨es, clock, h1, _⟩ := h
 exact (Array.getElem?_eq_some_iff.1 h1).1
theorem BookAt.below {w w' : World} {B bk mb : Nat} {L : List En} (h : BookAt w B bk mb L) (hb : Below w.heap.size w w') : BookAt w' B bk mb L := by
 obtain ⟨A, n, c, h1, h2⟩ := h.book
 exact ⟨⟨A, n, c, block_below h1 hb (block_lt h1), own_below h2 hb⟩, h.places.same (hb.block _ h.places.lt), h.lb, h.lm, Nat.le_trans h.hB hb.size, h.nodup, h.ok⟩
set_option maxRecDepth 100000 in
theorem newBook_any (w : World) : Calls Tryz.prog 59 #[] w fun e w' => e = .returned (.pointer (some ⟨w.heap.size + 1, 0, none⟩)) ∧ BookAt w' (w.heap.size + 2) (w.heap.size + 1) w.heap.size [] ∧ Below w.heap.size w w' := by
 have hmm := @run_makeMap Tryz.prog
 go_enter Tryz.func59, Tryz.ntmps59
 go_wp2
 go_ret
 refine ⟨rfl, ⟨⟨none, 0, 0, ?_, World.ownsRow_nil _ _ _ _⟩, ⟨#[], 0, ?_, rfl⟩, by omega, by omega, by simp, by simp, by simp⟩, ((Below.refl _ _).alloc (Nat.le_refl _) _).alloc (by simp) _⟩
 ·have := heap_alloc_new (w.alloc (Obj.map #[] 0)) (.cells #[.slice none 0 0, .map (some w.heap.size)] 181)
  simpa using this
 ·exact block_alloc (heap_alloc_new w _) _
set_option maxRecDepth 100000 in
theorem signer_any (k : D8) (b : Nat) (w : World) : Calls Tryz.prog 74 #[.pointer (some ⟨b, 0, none⟩), .agg #[.int .u8 k.x0, .int .u8 k.x1, .int .u8 k.x2, .int .u8 k.x3, .int .u8 k.x4, .int .u8 k.x5, .int .u8 k.x6, .int .u8 k.x7]] w fun e w' => e = .returned (.iface 186 (.agg #[.pointer (some ⟨b, 0, none⟩), .int .u8 k.x0, .int .u8 k.x1, .int .u8 k.x2, .int .u8 k.x3, .int .u8 k.x4, .int .u8 k.x5, .int .u8 k.x6, .int .u8 k.x7])) ∧ Below w.heap.size w w' := by
 go_enter Tryz.func74, Tryz.ntmps74
 go_wp2
 go_ret
 exact ⟨rfl, below_one w _⟩
end Go.Proofs.YthhiookcknnmdaaGreat
