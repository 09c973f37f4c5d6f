/- Rings of keys, plainly: keys, a ledger, signatures. Nothing of the program stands in it, so there is no condition. What a ring signs verifies, plainly. Nothing of the program stands in it, so there is no condition. -/
import Derived.Test.YthjpaclcoipocaaGreatJoinE
import Derived.Test.YthjpaclcoipocaaGreatJoinO
import Derived.Test.YthjpaclcoipocaaGreatKeS
import Derived.Test.YthjpaclcoipocaaGreatJoinA
namespace Go.Proofs.YthjpaclcoipocaaGreat
open Go.RowKit Go.Lib
def keyW : ByteArray := ⟨#[107, 101, 121]⟩
/-- The secret of a key. -/
def ownD (s : D8) (i : Nat) : D8 := hashTwo (hashWord s (wordB keyW)) (D8.of i)
theorem ownD_ok (s : D8) (i : Nat) : (ownD s i).ok := hs_ok _
def keysD (s : D8) (h : Nat) : List D8 := (List.range (2 ^ h)).map fun i => publicD (ownD s i)
theorem keysD_len (s : D8) (h : Nat) : (keysD s h).length = 2 ^ h := by simp [keysD]
theorem keysD_ok (s : D8) (h : Nat) : ∀ d ∈ keysD s h, d.ok := by
  intro d hd
  obtain ⟨i, _, rfl⟩ := List.mem_map.1 hd
  exact publicD_ok _
def rootW (h : Nat) : ByteArray := ⟨#[114, 111, 111, 116, UInt8.ofNat (48 + h)]⟩
def topD (d : D8) (h : Nat) : D8 := hashWord d (wordB (rootW h))
def rootD (l : List D8) (h : Nat) : D8 := topD ((lvl l h).getD 0 D8.zero) h
theorem topD_ok (d : D8) (h : Nat) : (topD d h).ok := hs_ok _
/-- How far along its chains a message's signature stands. -/
def lackN (m : D8) : Nat := 240 - (m.x0 % 16 + m.x0 / 16 + (m.x1 % 16 + m.x1 / 16) + (m.x2 % 16 + m.x2 / 16) + (m.x3 % 16 + m.x3 / 16) + (m.x4 % 16 + m.x4 / 16) + (m.x5 % 16 + m.x5 / 16) + (m.x6 % 16 + m.x6 / 16) + (m.x7 % 16 + m.x7 / 16))
def reachL (m : D8) : List Nat := [m.x0 % 16, m.x0 / 16, m.x1 % 16, m.x1 / 16, m.x2 % 16, m.x2 / 16, m.x3 % 16, m.x3 / 16, m.x4 % 16, m.x4 / 16, m.x5 % 16, m.x5 / 16, m.x6 % 16, m.x6 / 16, m.x7 % 16, m.x7 / 16, lackN m % 16, lackN m / 16]
theorem reach_le {m : D8} (h : m.ok) : ∀ x ∈ reachL m, x ≤ 15 := by
  obtain ⟨h0, h1, h2, h3, h4, h5, h6, h7⟩ := h
  intro x hx
  have : lackN m ≤ 240 := by unfold lackN; omega
  simp only [reachL, List.mem_cons, List.not_mem_nil, or_false] at hx
  omega
theorem reachD_le {m : D8} (h : m.ok) (c : Nat) : (reachL m).getD c 0 ≤ 15 := by
  rw [List.getD_eq_getElem?_getD]
  rcases hk : (reachL m)[c]? with _ | x
  · simp
  · exact reach_le h x (List.mem_of_getElem? hk)
/-- A signature's 144 bytes. -/
def onceB (s m : D8) : List Nat := (List.range 18).flatMap fun c => (chainD (startD s c) ((reachL m).getD c 0)).bytes
def toldD (m : D8) (b : List Nat) : D8 := keyD fun c => chainD (chunk b c) (15 - (reachL m).getD c 0)
/-- A ring. -/
structure RingM where
  secret : D8
  h : Nat
  led : List D8
def RingM.ok (r : RingM) : Prop := r.secret.ok ∧ r.h ≤ 8 ∧ r.led.Nodup ∧ (∀ d ∈ r.led, d.ok) ∧ r.led.length ≤ 2 ^ r.h
def RingM.new (s : D8) (h : Nat) : RingM := ⟨s, h, []⟩
/-- The place of a digest in a list. -/
def posD (L : List D8) (d : D8) : Option Nat := L.findIdx? (fun x => sameD x d)
theorem posD_none {L : List D8} {e : D8} : posD L e = none ↔ e ∉ L := by
  unfold posD
  rw [List.findIdx?_eq_none_iff]
  constructor
  · intro h hm
    have := h e hm
    rw [show sameD e e = true from sameD_iff.2 rfl] at this
    simp at this
  · intro h x hx
    cases hs : sameD x e with
    | false => rfl
    | true => rw [sameD_iff.1 hs] at hx; exact absurd hx h
theorem posD_at {L : List D8} {e : D8} {j : Nat} (hn : L.Nodup) (h : L[j]? = some e) : posD L e = some j := by
  obtain ⟨hj, hje⟩ := List.getElem?_eq_some_iff.1 h
  unfold posD
  rw [List.findIdx?_eq_some_iff_getElem]
  refine ⟨hj, by rw [hje]; exact sameD_iff.2 rfl, fun i hi => ?_⟩
  intro hs
  have h2 := sameD_iff.1 hs
  exact List.pairwise_iff_getElem.1 hn i j (by omega) hj hi (by rw [h2, hje])
theorem posD_some {L : List D8} {e : D8} {j : Nat} (h : posD L e = some j) : L[j]? = some e := by
  unfold posD at h
  rw [List.findIdx?_eq_some_iff_getElem] at h
  obtain ⟨hj, hs, _⟩ := h
  rw [List.getElem?_eq_getElem hj, sameD_iff.1 hs]
theorem posD_lt {L : List D8} {e : D8} {j : Nat} (h : posD L e = some j) : j < L.length := (List.getElem?_eq_some_iff.1 (posD_some h)).1
/-- What is reserved: the ring, the key, the error's number. -/
def RingM.reserve (r : RingM) (m : D8) : RingM × Nat × Nat :=
  match posD r.led m with
  | some i => (r, i, 0)
  | none => if r.led.length = 2 ^ r.h then (r, 0, 17) else ({ r with led := r.led ++ [m] }, r.led.length, 0)
def RingM.sigB (r : RingM) (i : Nat) (m : D8) : List Nat := encN i ++ onceB (ownD r.secret i) m ++ (pathD (keysD r.secret r.h) i r.h).flatMap D8.bytes
def RingM.sign (r : RingM) (m : D8) : RingM × List Nat × Nat :=
  let x := r.reserve m
  if x.2.2 = 0 then (x.1, x.1.sigB x.2.1 m, 0) else (x.1, [], x.2.2)
theorem RingM.reserve_ok {r : RingM} (h : r.ok) {m : D8} (hm : m.ok) : (r.reserve m).1.ok := by
  obtain ⟨h1, h2, h3, h4, h5⟩ := h
  unfold RingM.reserve
  cases hp : posD r.led m with
  | some i => exact ⟨h1, h2, h3, h4, h5⟩
  | none =>
    simp only
    split
    · exact ⟨h1, h2, h3, h4, h5⟩
    · refine ⟨h1, h2, ?_, ?_, ?_⟩
      · show (r.led ++ [m]).Nodup
        rw [List.nodup_append]
        refine ⟨h3, by simp, fun a ha b hb => ?_⟩
        simp only [List.mem_singleton] at hb
        rintro rfl
        exact posD_none.1 hp (hb ▸ ha)
      · intro d hd
        rcases List.mem_append.1 hd with h | h
        · exact h4 d h
        · simp only [List.mem_singleton] at h; exact h ▸ hm
      · show (r.led ++ [m]).length ≤ _
        simp; omega
theorem RingM.reserve_secret (r : RingM) (m : D8) : (r.reserve m).1.secret = r.secret ∧ (r.reserve m).1.h = r.h := by
  unfold RingM.reserve
  cases posD r.led m with
  | some i => exact ⟨rfl, rfl⟩
  | none => simp only; split <;> exact ⟨rfl, rfl⟩
end Go.Proofs.YthjpaclcoipocaaGreat
namespace Go.Proofs.YthjpaclcoipocaaGreat
open Go.RowKit Go.Lib
theorem chainD_add (d : D8) (a : Nat) : ∀ b, chainD (chainD d a) b = chainD d (a + b)
  | 0 => rfl
  | b + 1 => by show hashOne _ = hashOne (chainD d (a + b)); rw [chainD_add d a b]
theorem bytes_len (d : D8) : d.bytes.length = 8 := rfl
theorem flatB_len (f : Nat → D8) : ∀ n, ((List.range n).flatMap fun c => (f c).bytes).length = 8 * n
  | 0 => rfl
  | n + 1 => by rw [List.range_succ, List.flatMap_append, List.length_append, flatB_len f n]; simp [bytes_len]; omega
theorem chunk_bytes (d : D8) (t : List Nat) : chunk (d.bytes ++ t) 0 = d := rfl
theorem chunk_skip (l m : List Nat) (k c : Nat) (h : l.length = 8 * k) (hk : k ≤ c) : chunk (l ++ m) c = chunk m (c - k) := by
  have hg : ∀ j, (l ++ m).getD (8 * c + j) 0 = m.getD (8 * (c - k) + j) 0 := fun j => by
    rw [List.getD_eq_getElem?_getD, List.getD_eq_getElem?_getD, List.getElem?_append_right (by omega), h, show 8 * c + j - 8 * k = 8 * (c - k) + j by omega]
  unfold chunk
  rw [hg 1, hg 2, hg 3, hg 4, hg 5, hg 6, hg 7]
  have := hg 0
  simp only [Nat.add_zero] at this
  rw [this]
theorem flatB_chunk (f : Nat → D8) (m : List Nat) : ∀ n c, c < n → chunk (((List.range n).flatMap fun c => (f c).bytes) ++ m) c = f c := by
  intro n
  induction n generalizing m with
  | zero => intro c h; omega
  | succ n ih =>
    intro c h
    rw [List.range_succ, List.flatMap_append, List.append_assoc]
    rcases Nat.lt_or_ge c n with h1 | h1
    · exact ih _ c h1
    · obtain rfl : c = n := by omega
      rw [chunk_skip _ _ c c (flatB_len f c) (Nat.le_refl _), Nat.sub_self]
      show chunk (((f c).bytes ++ []) ++ m) 0 = _
      rw [List.append_assoc]
      exact chunk_bytes _ _
theorem onceB_len (s m : D8) : (onceB s m).length = 144 := flatB_len _ 18
theorem keyD_congr {E F : Nat → D8} (h : ∀ c, c < 18 → E c = F c) : keyD E = keyD F := by
  unfold keyD
  congr 1
  apply List.map_congr_left
  intro c hc
  exact h c (List.mem_range.1 hc)
/-- The key that a message's own signature tells. -/
theorem told_once (s : D8) {m : D8} (hm : m.ok) (t : List Nat) : toldD m (onceB s m ++ t) = publicD s := by
  refine keyD_congr fun c hc => ?_
  unfold onceB
  rw [flatB_chunk (fun c => chainD (startD s c) ((reachL m).getD c 0)) t 18 c hc, chainD_add, show (reachL m).getD c 0 + (15 - (reachL m).getD c 0) = 15 by have := reachD_le hm c; omega]
  rfl
/-- The way up from a node. -/
def upD (d : D8) (i : Nat) : List D8 → D8
  | [] => d
  | o :: p => upD (if i % 2 = 0 then hashTwo d o else hashTwo o d) (i / 2) p
theorem upD_ok {d : D8} (h : d.ok) : ∀ (p : List D8) (i : Nat), (upD d i p).ok
  | [], _ => h
  | o :: p, i => by
    show (upD _ _ p).ok
    refine upD_ok ?_ p _
    split <;> exact hs_ok _
theorem upD_snoc : ∀ (p : List D8) (d : D8) (i : Nat) (o : D8), upD d i (p ++ [o]) = if i / 2 ^ p.length % 2 = 0 then hashTwo (upD d i p) o else hashTwo o (upD d i p)
  | [], d, i, o => by simp [upD]
  | x :: p, d, i, o => by
    show upD _ _ (p ++ [o]) = _
    rw [upD_snoc p, List.length_cons, Nat.div_div_eq_div_mul, Nat.pow_succ, Nat.mul_comm 2]
    rfl
theorem lvl_getD (l : List D8) (k j : Nat) (h : j < (lvl l k).length / 2) : (lvl l (k + 1)).getD j D8.zero = hashTwo ((lvl l k).getD (2 * j) D8.zero) ((lvl l k).getD (2 * j + 1) D8.zero) := by
  show ((List.range ((lvl l k).length / 2)).map _).getD j _ = _
  rw [List.getD_eq_getElem?_getD, List.getElem?_map, List.getElem?_range h]
  rfl
theorem up_path {l : List D8} {h : Nat} (hl : l.length = 2 ^ h) {i : Nat} (hi : i < 2 ^ h) : ∀ k, k ≤ h → upD ((lvl l 0).getD i D8.zero) i (pathD l i k) = (lvl l k).getD (i / 2 ^ k) D8.zero
  | 0, _ => by simp [pathD, upD]
  | k + 1, hk => by
    rw [pathD_succ, upD_snoc, pathD_len, up_path hl hi k (by omega)]
    have hlen := lvl_len hl k (by omega)
    have hd := div_lt hi (show k < h by omega)
    have he : i / 2 ^ (k + 1) = i / 2 ^ k / 2 := by rw [Nat.div_div_eq_div_mul, Nat.pow_succ]
    have h2 : 2 ^ (h - k) = 2 * 2 ^ (h - (k + 1)) := by rw [show h - k = (h - (k + 1)) + 1 by omega, Nat.pow_succ, Nat.mul_comm]
    rw [he, lvl_getD l k (i / 2 ^ k / 2) (by rw [hlen, h2]; omega)]
    generalize i / 2 ^ k = x at *
    unfold other
    by_cases hx : x % 2 = 0
    · rw [if_pos hx, if_pos hx, show 2 * (x / 2) = x by omega]
    · rw [if_neg hx, if_neg hx, show x - 1 = 2 * (x / 2) by omega, show 2 * (x / 2) + 1 = x by omega]
theorem lvl0 (l : List D8) {i : Nat} (hi : i < l.length) : (lvl l 0).getD i D8.zero = lowD (l.getD i D8.zero) := by
  show (l.map lowD).getD i _ = _
  simp [List.getD_eq_getElem?_getD, List.getElem?_map, List.getElem?_eq_getElem hi]
/-- A leaf's path leads to the root. -/
theorem up_root {l : List D8} {h : Nat} (hl : l.length = 2 ^ h) {i : Nat} (hi : i < 2 ^ h) : topD (upD (lowD (l.getD i D8.zero)) i (pathD l i h)) h = rootD l h := by
  rw [← lvl0 l (by omega), up_path hl hi h (Nat.le_refl _), Nat.div_eq_of_lt hi]
  rfl
end Go.Proofs.YthjpaclcoipocaaGreat
