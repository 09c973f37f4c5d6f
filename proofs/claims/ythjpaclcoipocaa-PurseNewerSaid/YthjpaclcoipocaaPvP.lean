/- Whose signatures of two purses stand, plainly. Nothing of the program stands in it, so there is no condition. -/
import Derived.Test.YthjpaclcoipocaaJoinZ
import Derived.Test.YthjpaclcoipocaaJoinE
namespace Go.Proofs.Ythjpaclcoipocaa
open Go.RowKit Go.Lib

def sameP (a b : D8) : Bool := eqI [(a.x0 : Int), (a.x1 : Int), (a.x2 : Int), (a.x3 : Int), (a.x4 : Int), (a.x5 : Int), (a.x6 : Int), (a.x7 : Int)] [(b.x0 : Int), (b.x1 : Int), (b.x2 : Int), (b.x3 : Int), (b.x4 : Int), (b.x5 : Int), (b.x6 : Int), (b.x7 : Int)]
theorem sameP_iff {a b : D8} : sameP a b = true ↔ a = b := by
  unfold sameP
  rw [eqI_iff]
  constructor
  · intro h
    obtain ⟨a0, a1, a2, a3, a4, a5, a6, a7⟩ := a
    obtain ⟨b0, b1, b2, b3, b4, b5, b6, b7⟩ := b
    simp at h
    simp only [D8.mk.injEq]
    omega
  · rintro rfl; rfl
/-- The key of a side. -/
def kS (j : Nat) : D8 := ⟨7 + j, 0, 0, 0, 0, 0, 0, 0⟩
theorem kS_inj {i j : Nat} (h : kS i = kS j) : i = j := by
  have := congrArg D8.x0 h
  simp only [kS] at this
  omega
theorem kS_ok {j : Nat} (h : j < 2) : (kS j).ok := by unfold kS D8.ok; simp; omega
theorem hashOf_okP (l : List Nat) : (hashOf l).ok := D8.of_ok _
theorem digest_ok (p : Pu) : p.digest.ok := by
  unfold Pu.digest
  split
  · exact hashOf_okP _
  · unfold nm0 D8.ok; simp
theorem signE_at (L : List En) (e : En) : (signE L e).1[(signE L e).2]? = some e := by
  unfold signE
  split
  · rename_i i h; exact posE_some h
  · simp
theorem signE_keep {L : List En} {e x : En} {i : Nat} (h : L[i]? = some x) : (signE L e).1[i]? = some x := by
  unfold signE
  split
  · exact h
  · have hl := (List.getElem?_eq_some_iff.1 h).1
    rw [List.getElem?_append_left hl]; exact h
theorem signE_mem {L : List En} {e x : En} (h : x ∈ (signE L e).1) : x ∈ L ∨ x = e := by
  unfold signE at h
  split at h
  · exact .inl h
  · simpa using h
theorem signE_len (L : List En) (e : En) : (signE L e).1.length ≤ L.length + 1 := by
  unfold signE
  split
  · show L.length ≤ _; omega
  · simp
/-- What was signed by the sides ahead of the k-th one: the book, and the places of their signatures. -/
structure SgI (N O : Nat → Bool) (dX dY : D8) (k : Nat) (L : List En) (q : Nat → Option Nat) : Prop where
  len : L.length ≤ 2 * k
  mem : ∀ e ∈ L, ∃ j, j < k ∧ e.key = kS j ∧ ((N j = true ∧ e.msg = dY) ∨ (O j = true ∧ e.msg = dX))
  got : ∀ j, j < k → (N j = true → ∃ i, q j = some i ∧ L[i]? = some ⟨kS j, dY⟩) ∧ (N j = false → O j = true → ∃ i, q j = some i ∧ L[i]? = some ⟨kS j, dX⟩) ∧ (N j = false → O j = false → q j = none)
theorem SgI.start (N O : Nat → Bool) (dX dY : D8) (q : Nat → Option Nat) : SgI N O dX dY 0 [] q := ⟨Nat.le_refl _, by simp, fun j h => absurd h (by omega)⟩
/-- The book behind what a side signs of the old one, then of the new one; and the place of its signature. -/
def oldL (O : Bool) (k dX : D8) (L : List En) : List En := if O then (signE L ⟨k, dX⟩).1 else L
def oldQ (O : Bool) (k dX : D8) (L : List En) : Option Nat := if O then some (signE L ⟨k, dX⟩).2 else none
def newQ (N : Bool) (k dY : D8) (L : List En) (q : Option Nat) : Option Nat := if N then some (signE L ⟨k, dY⟩).2 else q
def putQ (q : Nat → Option Nat) (k : Nat) (v : Option Nat) : Nat → Option Nat := fun j => if j = k then v else q j
theorem oldL_keep {O : Bool} {k dX : D8} {L : List En} {i : Nat} {x : En} (h : L[i]? = some x) : (oldL O k dX L)[i]? = some x := by
  unfold oldL; split
  · exact signE_keep h
  · exact h
theorem oldL_len (O : Bool) (k dX : D8) (L : List En) : (oldL O k dX L).length ≤ L.length + 1 := by
  unfold oldL; split
  · exact signE_len _ _
  · omega
theorem oldL_mem {O : Bool} {k dX : D8} {L : List En} {x : En} (h : x ∈ oldL O k dX L) : x ∈ L ∨ (O = true ∧ x = ⟨k, dX⟩) := by
  unfold oldL at h; split at h
  · rename_i ho; rcases signE_mem h with h | h; exact .inl h; exact .inr ⟨ho, h⟩
  · exact .inl h
theorem SgI.next {N O : Nat → Bool} {dX dY : D8} {k : Nat} {L : List En} {q : Nat → Option Nat} (h : SgI N O dX dY k L q) :
    SgI N O dX dY (k + 1) (oldL (N k) (kS k) dY (oldL (O k) (kS k) dX L)) (putQ q k (newQ (N k) (kS k) dY (oldL (O k) (kS k) dX L) (oldQ (O k) (kS k) dX L))) := by
  refine ⟨?_, fun e he => ?_, fun j hj => ?_⟩
  · have h1 := oldL_len (N k) (kS k) dY (oldL (O k) (kS k) dX L); have h2 := oldL_len (O k) (kS k) dX L; have h3 := h.len; omega
  · rcases oldL_mem he with he | ⟨hn, rfl⟩
    · rcases oldL_mem he with he | ⟨ho, rfl⟩
      · obtain ⟨j, hj, h1, h2⟩ := h.mem e he
        exact ⟨j, by omega, h1, h2⟩
      · exact ⟨k, by omega, rfl, .inr ⟨ho, rfl⟩⟩
    · exact ⟨k, by omega, rfl, .inl ⟨hn, rfl⟩⟩
  · by_cases hjk : j = k
    · subst hjk
      unfold putQ newQ
      simp only [if_true]
      refine ⟨fun hn => ?_, fun hn ho => ?_, fun hn ho => ?_⟩
      · rw [hn]
        exact ⟨_, rfl, by unfold oldL; simp only [if_true]; exact signE_at _ _⟩
      · rw [hn, ho]
        refine ⟨_, rfl, ?_⟩
        unfold oldL
        simp only [if_true]
        exact signE_at _ _
      · rw [hn, ho]; rfl
    · obtain ⟨g1, g2, g3⟩ := h.got j (by omega)
      unfold putQ
      rw [if_neg hjk]
      refine ⟨fun hn => ?_, fun hn ho => ?_, g3⟩
      · obtain ⟨i, h1, h2⟩ := g1 hn; exact ⟨i, h1, oldL_keep (oldL_keep h2)⟩
      · obtain ⟨i, h1, h2⟩ := g2 hn ho; exact ⟨i, h1, oldL_keep (oldL_keep h2)⟩
/-- A signature's bytes, or none. -/
def qS (o : Option Nat) : List Nat := match o with | some i => sigL i | none => []
def sgnd (N O : Nat → Bool) (dX dY : D8) (j : Nat) : Bool := N j || (O j && sameP dX dY)
theorem SgI.ver {N O : Nat → Bool} {dX dY : D8} {k : Nat} {L : List En} {q : Nat → Option Nat} (h : SgI N O dX dY k L q) (hn : L.Nodup) (_hk : k ≤ 1000) {j : Nat} (hj : j < k) : verS L ⟨kS j, dY⟩ (qS (q j)) = sgnd N O dX dY j := by
  obtain ⟨g1, g2, g3⟩ := h.got j hj
  unfold sgnd
  cases hN : N j with
  | true =>
    obtain ⟨i, h1, h2⟩ := g1 hN
    rw [h1]
    unfold verS qS
    rw [posE_at hn h2]
    simp
  | false =>
    cases hO : O j with
    | false =>
      rw [g3 hN hO]
      exact verS_bad (by simp [qS])
    | true =>
      obtain ⟨i, h1, h2⟩ := g2 hN hO
      rw [h1]
      simp only [Bool.false_or, Bool.true_and]
      by_cases he : dX = dY
      · subst he
        unfold verS qS
        rw [posE_at hn h2, sameP_iff.2 rfl]
        simp
      · have hs : sameP dX dY = false := by
          cases hs : sameP dX dY with
          | false => rfl
          | true => exact absurd (sameP_iff.1 hs) he
        rw [hs]
        have hp : posE L ⟨kS j, dY⟩ = none := by
          rw [posE_none]
          intro hm
          obtain ⟨j', hj', h3, h4⟩ := h.mem _ hm
          have := kS_inj h3
          subst this
          rcases h4 with ⟨h4, _⟩ | ⟨_, h4⟩
          · rw [hN] at h4; exact absurd h4 (by decide)
          · exact he h4.symm
        unfold verS
        rw [hp]
theorem SgI.other {N O : Nat → Bool} {dX dY : D8} {k : Nat} {L : List En} {q : Nat → Option Nat} (h : SgI N O dX dY k L q) (hk : k ≤ 1000) {i j : Nat} (hi : i < k) (_hj : j < k) (hij : i ≠ j) : verS L ⟨kS j, dY⟩ (qS (q i)) = false := by
  obtain ⟨g1, g2, g3⟩ := h.got i hi
  have key : ∀ a d, q i = some a → L[a]? = some ⟨kS i, d⟩ → verS L ⟨kS j, dY⟩ (qS (q i)) = false := fun a d h1 h2 => by
    rw [h1]
    unfold verS qS
    cases hp : posE L ⟨kS j, dY⟩ with
    | none => rfl
    | some b =>
      simp only [decide_eq_false_iff_not]
      intro e
      have hla := (List.getElem?_eq_some_iff.1 h2).1
      have hlb := (List.getElem?_eq_some_iff.1 (posE_some hp)).1
      have hl := h.len
      have := (sigL_inj (by omega) (by omega)).1 e
      subst this
      rw [posE_some hp] at h2
      injection h2 with h2
      injection h2 with h2 _
      exact hij (kS_inj h2).symm
  cases hN : N i with
  | true => obtain ⟨a, h1, h2⟩ := g1 hN; exact key a _ h1 h2
  | false =>
    cases hO : O i with
    | false => rw [g3 hN hO]; exact verS_bad (by simp [qS])
    | true => obtain ⟨a, h1, h2⟩ := g2 hN hO; exact key a _ h1 h2
theorem all_two {L : List En} {m k0 k1 : D8} {s0 s1 : List Nat} : allI 2 2 (missTo (lacksE L m [k0, k1] [s0, s1] []) 2) = if verS L ⟨k0, m⟩ s0 && verS L ⟨k1, m⟩ s1 then 0 else 16 := by
  have e : missTo (lacksE L m [k0, k1] [s0, s1] []) 2 = [0, 1].filter (lacksE L m [k0, k1] [s0, s1] []) := rfl
  have l0 : lacksE L m [k0, k1] [s0, s1] [] 0 = !(verS L ⟨k0, m⟩ s0) := by simp [lacksE]
  have l1 : lacksE L m [k0, k1] [s0, s1] [] 1 = !(verS L ⟨k1, m⟩ s1) := by simp [lacksE]
  rw [e]
  unfold allI
  simp only [List.filter_cons, List.filter_nil, l0, l1]
  cases verS L ⟨k0, m⟩ s0 <;> cases verS L ⟨k1, m⟩ s1 <;> simp
/-- What Newer answers. -/
def newI (X Y : Pu) (a : Int) : Int := if X.check ≠ 0 then 3 else if Y.check ≠ 0 then 3 else if sameP X.nm Y.nm = false then 6 else if X.sum ≠ Y.sum then 22 else if Y.no ≤ X.no then 18 else if a ≠ 0 then 16 else 0
end Go.Proofs.Ythjpaclcoipocaa
