/- What is reserved is signed as without that, plainly. Nothing of the program stands in it, so there is no condition. -/
import Derived.Test.YthjpaclcoipocaaGreatJoinS
import Derived.Test.YthjpaclcoipocaaGreatKeJ
namespace Go.Proofs.YthjpaclcoipocaaGreat
open Go.RowKit Go.Lib
def RingM.resAll (r : RingM) (l : List D8) : RingM := l.foldl (fun r m => (r.reserve m).1) r
theorem resAll_snoc (r : RingM) (l : List D8) {k : Nat} (hk : k < l.length) : r.resAll (l.take (k + 1)) = ((r.resAll (l.take k)).reserve (l.getD k D8.zero)).1 := by
  unfold RingM.resAll
  rw [List.take_add_one, List.getElem?_eq_getElem hk, List.foldl_append]
  simp [List.getD_eq_getElem?_getD, List.getElem?_eq_getElem hk]
theorem resAll_secret (r : RingM) (l : List D8) : (r.resAll l).secret = r.secret ∧ (r.resAll l).h = r.h := by
  induction l generalizing r with
  | nil => exact ⟨rfl, rfl⟩
  | cons m l ih =>
    have := ih (r.reserve m).1
    exact ⟨this.1.trans (RingM.reserve_secret r m).1, this.2.trans (RingM.reserve_secret r m).2⟩
theorem resAll_ok {r : RingM} (h : r.ok) {l : List D8} (hl : ∀ d ∈ l, d.ok) : (r.resAll l).ok := by
  induction l generalizing r with
  | nil => exact h
  | cons m l ih => exact ih (RingM.reserve_ok h (hl m (by simp))) (fun d hd => hl d (by simp [hd]))
theorem reserve_pre (r : RingM) (m : D8) : r.led <+: (r.reserve m).1.led := by
  unfold RingM.reserve
  cases posD r.led m with
  | some i => exact List.prefix_refl _
  | none =>
    simp only
    split
    · exact List.prefix_refl _
    · exact List.prefix_append _ _
theorem resAll_pre (r : RingM) (l : List D8) : r.led <+: (r.resAll l).led := by
  induction l generalizing r with
  | nil => exact List.prefix_refl _
  | cons m l ih => exact (reserve_pre r m).trans (ih _)
theorem resAll_app (r : RingM) (l l' : List D8) : r.resAll (l ++ l') = (r.resAll l).resAll l' := by unfold RingM.resAll; rw [List.foldl_append]
theorem sign_ring (r : RingM) (m : D8) : (r.sign m).1 = (r.reserve m).1 := by
  unfold RingM.sign
  simp only
  split <;> rfl
/-- A message that was asked for has the same signature later. -/
theorem sign_later {a b : RingM} {m : D8} (hs : a.secret = b.secret) (hh : a.h = b.h) (_ha : a.ok) (hb : b.ok) (_hm : m.ok) (hp : (a.reserve m).1.led <+: b.led) : (b.reserve m).1 = b ∧ (a.sign m).2 = (b.sign m).2 := by
  have hsec := RingM.reserve_secret a m
  cases hpa : posD a.led m with
  | some i =>
    have e : a.reserve m = (a, i, 0) := by unfold RingM.reserve; rw [hpa]
    rw [e] at hp
    obtain ⟨t, ht⟩ := hp
    have h1 := posD_some hpa
    have h2 : b.led[i]? = some m := by
      rw [← ht]
      show (a.led ++ t)[i]? = _
      rw [List.getElem?_append_left (posD_lt hpa)]
      exact h1
    have e2 : b.reserve m = (b, i, 0) := by unfold RingM.reserve; rw [posD_at hb.2.2.1 h2]
    refine ⟨by rw [e2], ?_⟩
    unfold RingM.sign
    rw [e, e2]
    show (a.sigB i m, 0) = (b.sigB i m, 0)
    unfold RingM.sigB
    rw [hs, hh]
  | none =>
    by_cases hf : a.led.length = 2 ^ a.h
    · have e : a.reserve m = (a, 0, 17) := by unfold RingM.reserve; rw [hpa]; simp only; rw [if_pos hf]
      rw [e] at hp
      have hlb := hb.2.2.2.2
      rw [← hh] at hlb
      have hl : a.led = b.led := List.IsPrefix.eq_of_length_le hp (by show b.led.length ≤ a.led.length; omega)
      have e2 : b.reserve m = (b, 0, 17) := by unfold RingM.reserve; rw [← hl, hpa]; simp only; rw [← hh, if_pos hf]
      refine ⟨by rw [e2], ?_⟩
      unfold RingM.sign
      rw [e, e2]
      rfl
    · have e : a.reserve m = ({ a with led := a.led ++ [m] }, a.led.length, 0) := by unfold RingM.reserve; rw [hpa]; simp only; rw [if_neg hf]
      rw [e] at hp
      obtain ⟨t, ht⟩ := hp
      have h2 : b.led[a.led.length]? = some m := by
        rw [← ht]
        show (a.led ++ [m] ++ t)[a.led.length]? = _
        simp
      have e2 : b.reserve m = (b, a.led.length, 0) := by unfold RingM.reserve; rw [posD_at hb.2.2.1 h2]
      refine ⟨by rw [e2], ?_⟩
      unfold RingM.sign
      rw [e, e2]
      show (RingM.sigB { a with led := a.led ++ [m] } a.led.length m, 0) = (b.sigB a.led.length m, 0)
      unfold RingM.sigB
      simp only
      rw [hs, hh]
theorem sameR_self (r : RingM) : sameR r r = true := by
  unfold sameR
  rw [sameD_iff.2 rfl]
  simp
theorem sameR_iff {a b : RingM} : sameR a b = true ↔ a = b := by
  obtain ⟨s, h, l⟩ := a
  obtain ⟨s', h', l'⟩ := b
  unfold sameR
  simp only [Bool.and_eq_true, sameD_iff, decide_eq_true_eq, RingM.mk.injEq]
  exact and_assoc
end Go.Proofs.YthjpaclcoipocaaGreat
