/- Rings of keys, plainly: keys, a ledger, signatures. Nothing of the program stands in it, so there is no condition. -/
import Derived.Test.YtmpklplojfjfbaaGreatDoorJoinM
import Derived.Test.YtmpklplojfjfbaaGreatDoorJoinO
import Derived.Test.YtmpklplojfjfbaaGreatDoorKeS
import Derived.Test.YtmpklplojfjfbaaGreatDoorJoinA
namespace Go.Proofs.YtmpklplojfjfbaaGreatDoor
open Go.RowKit Go.Lib
def keyW : ByteArray := ⟨#[107, 101, 121]⟩
/-- The secret of a key. -/
def ownD (s : D8) (i : Nat) : D8 := hashTwo (hashWord s (wordB keyW)) (D8.of i)
theorem ownD_ok (s : D8) (i : Nat) : (ownD s i).ok := hs_ok _
def keysD (s : D8) (h : Nat) : List D8 := (List.range (2 ^ h)).map fun i => publicD (ownD s i)
theorem keysD_len (s : D8) (h : Nat) : (keysD s h).length = 2 ^ h := by simp [keysD]
theorem keysD_ok (s : D8) (h : Nat) : ∀ d ∈ keysD s h, d.ok := by
  intro d hd
  obtain ⟨i, _, rfl⟩ := List.mem_map.1 hd
  exact publicD_ok _
def rootW (h : Nat) : ByteArray := ⟨#[114, 111, 111, 116, UInt8.ofNat (48 + h)]⟩
def topD (d : D8) (h : Nat) : D8 := hashWord d (wordB (rootW h))
def rootD (l : List D8) (h : Nat) : D8 := topD ((lvl l h).getD 0 D8.zero) h
theorem topD_ok (d : D8) (h : Nat) : (topD d h).ok := hs_ok _
/-- How far along its chains a message's signature stands. -/
def lackN (m : D8) : Nat := 240 - (m.x0 % 16 + m.x0 / 16 + (m.x1 % 16 + m.x1 / 16) + (m.x2 % 16 + m.x2 / 16) + (m.x3 % 16 + m.x3 / 16) + (m.x4 % 16 + m.x4 / 16) + (m.x5 % 16 + m.x5 / 16) + (m.x6 % 16 + m.x6 / 16) + (m.x7 % 16 + m.x7 / 16))
def reachL (m : D8) : List Nat := [m.x0 % 16, m.x0 / 16, m.x1 % 16, m.x1 / 16, m.x2 % 16, m.x2 / 16, m.x3 % 16, m.x3 / 16, m.x4 % 16, m.x4 / 16, m.x5 % 16, m.x5 / 16, m.x6 % 16, m.x6 / 16, m.x7 % 16, m.x7 / 16, lackN m % 16, lackN m / 16]
theorem reach_le {m : D8} (h : m.ok) : ∀ x ∈ reachL m, x ≤ 15 := by
  obtain ⟨h0, h1, h2, h3, h4, h5, h6, h7⟩ := h
  intro x hx
  have : lackN m ≤ 240 := by unfold lackN; omega
  simp only [reachL, List.mem_cons, List.not_mem_nil, or_false] at hx
  omega
theorem reachD_le {m : D8} (h : m.ok) (c : Nat) : (reachL m).getD c 0 ≤ 15 := by
  rw [List.getD_eq_getElem?_getD]
  rcases hk : (reachL m)[c]? with _ | x
  · simp
  · exact reach_le h x (List.mem_of_getElem? hk)
/-- A signature's 144 bytes. -/
def onceB (s m : D8) : List Nat := (List.range 18).flatMap fun c => (chainD (startD s c) ((reachL m).getD c 0)).bytes
def toldD (m : D8) (b : List Nat) : D8 := keyD fun c => chainD (chunk b c) (15 - (reachL m).getD c 0)
/-- A ring. -/
structure RingM where
  secret : D8
  h : Nat
  led : List D8
def RingM.ok (r : RingM) : Prop := r.secret.ok ∧ r.h ≤ 8 ∧ r.led.Nodup ∧ (∀ d ∈ r.led, d.ok) ∧ r.led.length ≤ 2 ^ r.h
def RingM.new (s : D8) (h : Nat) : RingM := ⟨s, h, []⟩
/-- The place of a digest in a list. -/
def posD (L : List D8) (d : D8) : Option Nat := L.findIdx? (fun x => sameD x d)
theorem posD_none {L : List D8} {e : D8} : posD L e = none ↔ e ∉ L := by
  unfold posD
  rw [List.findIdx?_eq_none_iff]
  constructor
  · intro h hm
    have := h e hm
    rw [show sameD e e = true from sameD_iff.2 rfl] at this
    simp at this
  · intro h x hx
    cases hs : sameD x e with
    | false => rfl
    | true => rw [sameD_iff.1 hs] at hx; exact absurd hx h
theorem posD_at {L : List D8} {e : D8} {j : Nat} (hn : L.Nodup) (h : L[j]? = some e) : posD L e = some j := by
  obtain ⟨hj, hje⟩ := List.getElem?_eq_some_iff.1 h
  unfold posD
  rw [List.findIdx?_eq_some_iff_getElem]
  refine ⟨hj, by rw [hje]; exact sameD_iff.2 rfl, fun i hi => ?_⟩
  intro hs
  have h2 := sameD_iff.1 hs
  exact List.pairwise_iff_getElem.1 hn i j (by omega) hj hi (by rw [h2, hje])
theorem posD_some {L : List D8} {e : D8} {j : Nat} (h : posD L e = some j) : L[j]? = some e := by
  unfold posD at h
  rw [List.findIdx?_eq_some_iff_getElem] at h
  obtain ⟨hj, hs, _⟩ := h
  rw [List.getElem?_eq_getElem hj, sameD_iff.1 hs]
theorem posD_lt {L : List D8} {e : D8} {j : Nat} (h : posD L e = some j) : j < L.length := (List.getElem?_eq_some_iff.1 (posD_some h)).1
/-- What is reserved: the ring, the key, the error's number. -/
def RingM.reserve (r : RingM) (m : D8) : RingM × Nat × Nat :=
  match posD r.led m with
  | some i => (r, i, 0)
  | none => if r.led.length = 2 ^ r.h then (r, 0, 17) else ({ r with led := r.led ++ [m] }, r.led.length, 0)
def RingM.sigB (r : RingM) (i : Nat) (m : D8) : List Nat := encN i ++ onceB (ownD r.secret i) m ++ (pathD (keysD r.secret r.h) i r.h).flatMap D8.bytes
def RingM.sign (r : RingM) (m : D8) : RingM × List Nat × Nat :=
  let x := r.reserve m
  if x.2.2 = 0 then (x.1, x.1.sigB x.2.1 m, 0) else (x.1, [], x.2.2)
theorem RingM.reserve_ok {r : RingM} (h : r.ok) {m : D8} (hm : m.ok) : (r.reserve m).1.ok := by
  obtain ⟨h1, h2, h3, h4, h5⟩ := h
  unfold RingM.reserve
  cases hp : posD r.led m with
  | some i => exact ⟨h1, h2, h3, h4, h5⟩
  | none =>
    simp only
    split
    · exact ⟨h1, h2, h3, h4, h5⟩
    · refine ⟨h1, h2, ?_, ?_, ?_⟩
      · show (r.led ++ [m]).Nodup
        rw [List.nodup_append]
        refine ⟨h3, by simp, fun a ha b hb => ?_⟩
        simp only [List.mem_singleton] at hb
        rintro rfl
        exact posD_none.1 hp (hb ▸ ha)
      · intro d hd
        rcases List.mem_append.1 hd with h | h
        · exact h4 d h
        · simp only [List.mem_singleton] at h; exact h ▸ hm
      · show (r.led ++ [m]).length ≤ _
        simp; omega
theorem RingM.reserve_secret (r : RingM) (m : D8) : (r.reserve m).1.secret = r.secret ∧ (r.reserve m).1.h = r.h := by
  unfold RingM.reserve
  cases posD r.led m with
  | some i => exact ⟨rfl, rfl⟩
  | none => simp only; split <;> exact ⟨rfl, rfl⟩
end Go.Proofs.YtmpklplojfjfbaaGreatDoor
