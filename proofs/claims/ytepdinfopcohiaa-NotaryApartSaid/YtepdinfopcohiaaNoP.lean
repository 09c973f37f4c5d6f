/- Plain: the reference's list of entries, as numbers, against the book's. No program in it, so there is no condition. -/
import Derived.Test.YtepdinfopcohiaaNoA
namespace Go.Proofs.Ytepdinfopcohiaa
/-- An entry of numbers. -/
structure Nu where
  k : Nat
  m : Nat
instance : Inhabited Nu := ⟨⟨0, 0⟩⟩
def Nu.ok (e : Nu) : Prop := e.k < 18446744073709551616 ∧ e.m < 18446744073709551616
def Nu.en (e : Nu) : En := ⟨D8.of e.k, D8.of e.m⟩
def sameNu (a b : Nu) : Bool := a.k == b.k && a.m == b.m
theorem sameNu_iff {a b : Nu} : sameNu a b = true ↔ a = b := by
  obtain ⟨a0, a1⟩ := a
  obtain ⟨b0, b1⟩ := b
  simp [sameNu]
theorem of_inj {a b : Nat} (ha : a < 18446744073709551616) (hb : b < 18446744073709551616) (h : D8.of a = D8.of b) : a = b := by
  have := congrArg D8.num h
  rwa [D8.num_of ha, D8.num_of hb] at this
theorem en_inj {a b : Nu} (ha : a.ok) (hb : b.ok) (h : a.en = b.en) : a = b := by
  obtain ⟨a0, a1⟩ := a
  obtain ⟨b0, b1⟩ := b
  simp only [Nu.en, En.mk.injEq] at h
  simp only [Nu.mk.injEq]
  exact ⟨of_inj ha.1 hb.1 h.1, of_inj ha.2 hb.2 h.2⟩
theorem en_ok (e : Nu) : e.en.ok := ⟨D8.of_ok _, D8.of_ok _⟩
def posN (l : List Nu) (e : Nu) : Option Nat := l.findIdx? (fun x => sameNu x e)
theorem posN_en {l : List Nu} {e : Nu} (hl : ∀ x ∈ l, x.ok) (he : e.ok) : posE (l.map Nu.en) e.en = posN l e := by
  unfold posE posN
  rw [List.findIdx?_map]
  induction l with
  | nil => rfl
  | cons x l ih =>
    have hx := hl x (by simp)
    have e1 : ((fun x => sameEn x e.en) ∘ Nu.en) x = sameNu x e := by
      simp only [Function.comp]
      cases h : sameNu x e with
      | true => rw [sameNu_iff.1 h]; exact sameEn_iff.2 rfl
      | false =>
        cases h2 : sameEn x.en e.en with
        | false => rfl
        | true =>
          have := en_inj hx he (sameEn_iff.1 h2)
          rw [this, sameNu_iff.2 rfl] at h
          simp at h
    rw [List.findIdx?_cons, List.findIdx?_cons, e1]
    have := ih (fun y hy => hl y (by simp [hy]))
    rw [this]
/-- Sign: the list behind a signature, and its number. -/
def signN (l : List Nu) (e : Nu) : List Nu × Nat := match posN l e with
  | some i => (l, i)
  | none => (l ++ [e], l.length)
def signE (L : List En) (e : En) : List En × Nat := match posE L e with
  | some i => (L, i)
  | none => (L ++ [e], L.length)
theorem sign_en {l : List Nu} {e : Nu} (hl : ∀ x ∈ l, x.ok) (he : e.ok) : signE (l.map Nu.en) e.en = ((signN l e).1.map Nu.en, (signN l e).2) := by
  unfold signE signN
  rw [posN_en hl he]
  cases posN l e with
  | some i => rfl
  | none => simp
theorem signN_ok {l : List Nu} {e : Nu} (hl : ∀ x ∈ l, x.ok) (he : e.ok) : ∀ x ∈ (signN l e).1, x.ok := by
  unfold signN
  cases posN l e with
  | some i => exact hl
  | none =>
    intro x hx
    rcases List.mem_append.1 hx with h | h
    · exact hl x h
    · simp at h; rw [h]; exact he
theorem posN_lt {l : List Nu} {e : Nu} {i : Nat} (h : posN l e = some i) : i < l.length ∧ l[i]? = some e := by
  unfold posN at h
  rw [List.findIdx?_eq_some_iff_getElem] at h
  obtain ⟨hj, hs, _⟩ := h
  exact ⟨hj, by rw [List.getElem?_eq_getElem hj, sameNu_iff.1 hs]⟩
theorem signN_len (l : List Nu) (e : Nu) : (signN l e).1.length ≤ l.length + 1 ∧ (signN l e).2 ≤ l.length := by
  unfold signN
  cases h : posN l e with
  | some i => exact ⟨by simp, by have := (posN_lt h).1; simp only; omega⟩
  | none => simp
theorem signE_nodup {L : List En} {e : En} (h : L.Nodup) : (signE L e).1.Nodup := by
  unfold signE
  cases hp : posE L e with
  | some i => exact h
  | none =>
    simp only
    rw [List.nodup_append]
    refine ⟨h, by simp, fun a ha b hb hab => ?_⟩
    simp at hb
    subst hb hab
    exact posE_none.1 hp ha
theorem signE_ok {L : List En} {e : En} (h : ∀ x ∈ L, x.ok) (he : e.ok) : ∀ x ∈ (signE L e).1, x.ok := by
  unfold signE
  cases hp : posE L e with
  | some i => exact h
  | none =>
    intro x hx
    rcases List.mem_append.1 hx with h1 | h1
    · exact h x h1
    · simp at h1; rw [h1]; exact he
end Go.Proofs.Ytepdinfopcohiaa
