/- Plain: what a law's entries are, and the book of them. No program in it, so there is no condition. -/
import Derived.Test.YtepdinfopcohiaaNoH
namespace Go.Proofs.Ytepdinfopcohiaa
open Go.RowKit Go.Lib
def Nu.cells8 (e : Nu) : List Value := [.int .u8 (e.k : Int), .int .u8 (e.m : Int)]
def flatL (l : List Nu) : List Value := l.flatMap Nu.cells8
theorem flatL_len (l : List Nu) : (flatL l).length = l.length * 2 := by
  induction l with
  | nil => rfl
  | cons i l ih =>
    have : flatL (i :: l) = i.cells8 ++ flatL l := by simp [flatL]
    rw [this, List.length_append, ih]; simp [Nu.cells8]; omega
theorem flatL_at : ∀ (l : List Nu) (k j : Nat), k < l.length → j < 2 → (flatL l)[k * 2 + j]? = (l.getD k default).cells8[j]?
  | [], k, _, h, _ => by simp at h
  | i :: l, k, j, h, hj => by
    have e : flatL (i :: l) = i.cells8 ++ flatL l := by simp [flatL]
    have hc : i.cells8.length = 2 := rfl
    rw [e]
    cases k with
    | zero => rw [List.getElem?_append_left (by omega)]; simp
    | succ k =>
      rw [List.getElem?_append_right (by omega), hc, show (k + 1) * 2 + j - 2 = k * 2 + j from by omega]
      have := flatL_at l k j (by simpa using h) hj
      simpa using this
theorem Rd.llen {w : World} {B n : Nat} {A : Option Addr} {l : List Nu} (h : Rd w B 2 A n (flatL l)) : l.length = n := by have := h.1; rw [flatL_len] at this; omega
theorem Rd.le8 {w : World} {B n : Nat} {A : Option Addr} {l : List Nu} (h : Rd w B 2 A n (flatL l)) {k : Nat} (hk : k < n) :
    ∃ b o, A = some ⟨b, o, none⟩ ∧ b < B ∧ w.cell? ⟨b, o + k * 2, none⟩ = some (.int .u8 ((l.getD k default).k : Int)) ∧ w.cell? ⟨b, o + k * 2 + 1, none⟩ = some (.int .u8 ((l.getD k default).m : Int)) := by
  have hl := h.llen
  obtain ⟨b, o, e, hb, hc⟩ := h.2 (by omega)
  refine ⟨b, o, e, hb, ?_, ?_⟩
  · exact hc (k * 2 + 0) _ (flatL_at l k 0 (by omega) (by omega))
  · exact hc (k * 2 + 1) _ (flatL_at l k 1 (by omega) (by omega))
/-- Small numbers. -/
def Nu.small (e : Nu) : Prop := e.k < 256 ∧ e.m < 256
theorem Nu.small.ok {e : Nu} (h : e.small) : e.ok := ⟨by have := h.1; omega, by have := h.2; omega⟩
/-- The entries of a book. -/
def bookN (l : List Nu) : List Nu := l.foldl (fun W e => (signN W e).1) []
theorem bookN_snoc (l : List Nu) (e : Nu) : bookN (l ++ [e]) = (signN (bookN l) e).1 := by simp [bookN]
theorem take_snoc {l : List Nu} {k : Nat} (h : k < l.length) : l.take (k + 1) = l.take k ++ [l.getD k default] := by
  rw [List.take_add_one, List.getElem?_eq_getElem h]; simp [List.getD_eq_getElem?_getD, h]
theorem bookN_take {l : List Nu} {k : Nat} (h : k < l.length) : bookN (l.take (k + 1)) = (signN (bookN (l.take k)) (l.getD k default)).1 := by rw [take_snoc h, bookN_snoc]
theorem getD_memN {l : List Nu} {k : Nat} (h : k < l.length) : l.getD k default ∈ l := by
  rw [List.getD_eq_getElem?_getD, List.getElem?_eq_getElem h]; exact List.getElem_mem h
theorem bookN_small {l : List Nu} (h : ∀ x ∈ l, x.small) : ∀ k, k ≤ l.length → ∀ x ∈ bookN (l.take k), x.small := by
  intro k
  induction k with
  | zero => intro _ x hx; simp [bookN] at hx
  | succ k ih =>
    intro hk x hx
    rw [bookN_take (by omega)] at hx
    have hs := h _ (getD_memN (l := l) (k := k) (by omega))
    generalize l.getD k default = e at *
    unfold signN at hx
    cases hp : posN (bookN (l.take k)) e with
    | some i => rw [hp] at hx; exact ih (by omega) x hx
    | none =>
      rw [hp] at hx
      rcases List.mem_append.1 hx with h1 | h1
      · exact ih (by omega) x h1
      · simp at h1; rw [h1]; exact hs
theorem bookN_ok {l : List Nu} (h : ∀ x ∈ l, x.small) (k : Nat) (hk : k ≤ l.length) : ∀ x ∈ bookN (l.take k), x.ok := fun x hx => (bookN_small h k hk x hx).ok
theorem bookN_len {l : List Nu} : ∀ k, k ≤ l.length → (bookN (l.take k)).length ≤ k := by
  intro k
  induction k with
  | zero => intro _; simp [bookN]
  | succ k ih =>
    intro hk
    rw [bookN_take (by omega)]
    have := (signN_len (bookN (l.take k)) (l.getD k default)).1
    have := ih (by omega)
    omega
/-- What is in a book is found again, and stays. -/
theorem signN_pos (l : List Nu) (e : Nu) : posN (signN l e).1 e = some (signN l e).2 := by
  unfold signN
  cases h : posN l e with
  | some i => exact h
  | none =>
    simp only
    have hn : ∀ x ∈ l, sameNu x e = false := by
      have := List.findIdx?_eq_none_iff.1 h
      intro x hx; simpa using this x hx
    unfold posN
    rw [List.findIdx?_append]
    have h' : List.findIdx? (fun x => sameNu x e) l = none := h
    rw [h']
    have hs : sameNu e e = true := sameNu_iff.2 rfl
    simp [List.findIdx?_cons, hs]
theorem signN_keeps (l : List Nu) (e x : Nu) {i : Nat} (h : posN l x = some i) : posN (signN l e).1 x = some i := by
  unfold signN
  cases hp : posN l e with
  | some j => exact h
  | none =>
    simp only
    unfold posN at h ⊢
    rw [List.findIdx?_append, h]
    rfl
theorem bookN_has {l : List Nu} {j : Nat} (_hj : j < l.length) : ∀ k, k ≤ l.length → j < k → ∃ i, posN (bookN (l.take k)) (l.getD j default) = some i := by
  intro k
  induction k with
  | zero => intro _ h; omega
  | succ k ih =>
    intro hk hjk
    rw [bookN_take (by omega)]
    rcases Nat.lt_or_ge j k with h1 | h1
    · obtain ⟨i, hi⟩ := ih (by omega) h1
      exact ⟨i, signN_keeps _ _ _ hi⟩
    · obtain rfl : j = k := by omega
      exact ⟨_, signN_pos _ _⟩
/-- A number of an entry is of that alone. -/
theorem posN_inj {l : List Nu} {a b : Nu} {i : Nat} (ha : posN l a = some i) (hb : posN l b = some i) : a = b := by
  have h1 := (posN_lt ha).2
  have h2 := (posN_lt hb).2
  rw [h1] at h2
  injection h2
end Go.Proofs.Ytepdinfopcohiaa
