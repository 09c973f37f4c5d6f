/- What a ring signs verifies, plainly. Nothing of the program stands in it, so there is no condition. -/
import Derived.Test.YtmpklplojfjfbaaGreatDoorKeP
namespace Go.Proofs.YtmpklplojfjfbaaGreatDoor
open Go.RowKit Go.Lib
theorem chainD_add (d : D8) (a : Nat) : ∀ b, chainD (chainD d a) b = chainD d (a + b)
  | 0 => rfl
  | b + 1 => by show hashOne _ = hashOne (chainD d (a + b)); rw [chainD_add d a b]
theorem bytes_len (d : D8) : d.bytes.length = 8 := rfl
theorem flatB_len (f : Nat → D8) : ∀ n, ((List.range n).flatMap fun c => (f c).bytes).length = 8 * n
  | 0 => rfl
  | n + 1 => by rw [List.range_succ, List.flatMap_append, List.length_append, flatB_len f n]; simp [bytes_len]; omega
theorem chunk_bytes (d : D8) (t : List Nat) : chunk (d.bytes ++ t) 0 = d := rfl
theorem chunk_skip (l m : List Nat) (k c : Nat) (h : l.length = 8 * k) (hk : k ≤ c) : chunk (l ++ m) c = chunk m (c - k) := by
  have hg : ∀ j, (l ++ m).getD (8 * c + j) 0 = m.getD (8 * (c - k) + j) 0 := fun j => by
    rw [List.getD_eq_getElem?_getD, List.getD_eq_getElem?_getD, List.getElem?_append_right (by omega), h, show 8 * c + j - 8 * k = 8 * (c - k) + j by omega]
  unfold chunk
  rw [hg 1, hg 2, hg 3, hg 4, hg 5, hg 6, hg 7]
  have := hg 0
  simp only [Nat.add_zero] at this
  rw [this]
theorem flatB_chunk (f : Nat → D8) (m : List Nat) : ∀ n c, c < n → chunk (((List.range n).flatMap fun c => (f c).bytes) ++ m) c = f c := by
  intro n
  induction n generalizing m with
  | zero => intro c h; omega
  | succ n ih =>
    intro c h
    rw [List.range_succ, List.flatMap_append, List.append_assoc]
    rcases Nat.lt_or_ge c n with h1 | h1
    · exact ih _ c h1
    · obtain rfl : c = n := by omega
      rw [chunk_skip _ _ c c (flatB_len f c) (Nat.le_refl _), Nat.sub_self]
      show chunk (((f c).bytes ++ []) ++ m) 0 = _
      rw [List.append_assoc]
      exact chunk_bytes _ _
theorem onceB_len (s m : D8) : (onceB s m).length = 144 := flatB_len _ 18
theorem keyD_congr {E F : Nat → D8} (h : ∀ c, c < 18 → E c = F c) : keyD E = keyD F := by
  unfold keyD
  congr 1
  apply List.map_congr_left
  intro c hc
  exact h c (List.mem_range.1 hc)
/-- The key that a message's own signature tells. -/
theorem told_once (s : D8) {m : D8} (hm : m.ok) (t : List Nat) : toldD m (onceB s m ++ t) = publicD s := by
  refine keyD_congr fun c hc => ?_
  unfold onceB
  rw [flatB_chunk (fun c => chainD (startD s c) ((reachL m).getD c 0)) t 18 c hc, chainD_add, show (reachL m).getD c 0 + (15 - (reachL m).getD c 0) = 15 by have := reachD_le hm c; omega]
  rfl
/-- The way up from a node. -/
def upD (d : D8) (i : Nat) : List D8 → D8
  | [] => d
  | o :: p => upD (if i % 2 = 0 then hashTwo d o else hashTwo o d) (i / 2) p
theorem upD_ok {d : D8} (h : d.ok) : ∀ (p : List D8) (i : Nat), (upD d i p).ok
  | [], _ => h
  | o :: p, i => by
    show (upD _ _ p).ok
    refine upD_ok ?_ p _
    split <;> exact hs_ok _
theorem upD_snoc : ∀ (p : List D8) (d : D8) (i : Nat) (o : D8), upD d i (p ++ [o]) = if i / 2 ^ p.length % 2 = 0 then hashTwo (upD d i p) o else hashTwo o (upD d i p)
  | [], d, i, o => by simp [upD]
  | x :: p, d, i, o => by
    show upD _ _ (p ++ [o]) = _
    rw [upD_snoc p, List.length_cons, Nat.div_div_eq_div_mul, Nat.pow_succ, Nat.mul_comm 2]
    rfl
theorem lvl_getD (l : List D8) (k j : Nat) (h : j < (lvl l k).length / 2) : (lvl l (k + 1)).getD j D8.zero = hashTwo ((lvl l k).getD (2 * j) D8.zero) ((lvl l k).getD (2 * j + 1) D8.zero) := by
  show ((List.range ((lvl l k).length / 2)).map _).getD j _ = _
  rw [List.getD_eq_getElem?_getD, List.getElem?_map, List.getElem?_range h]
  rfl
theorem up_path {l : List D8} {h : Nat} (hl : l.length = 2 ^ h) {i : Nat} (hi : i < 2 ^ h) : ∀ k, k ≤ h → upD ((lvl l 0).getD i D8.zero) i (pathD l i k) = (lvl l k).getD (i / 2 ^ k) D8.zero
  | 0, _ => by simp [pathD, upD]
  | k + 1, hk => by
    rw [pathD_succ, upD_snoc, pathD_len, up_path hl hi k (by omega)]
    have hlen := lvl_len hl k (by omega)
    have hd := div_lt hi (show k < h by omega)
    have he : i / 2 ^ (k + 1) = i / 2 ^ k / 2 := by rw [Nat.div_div_eq_div_mul, Nat.pow_succ]
    have h2 : 2 ^ (h - k) = 2 * 2 ^ (h - (k + 1)) := by rw [show h - k = (h - (k + 1)) + 1 by omega, Nat.pow_succ, Nat.mul_comm]
    rw [he, lvl_getD l k (i / 2 ^ k / 2) (by rw [hlen, h2]; omega)]
    generalize i / 2 ^ k = x at *
    unfold other
    by_cases hx : x % 2 = 0
    · rw [if_pos hx, if_pos hx, show 2 * (x / 2) = x by omega]
    · rw [if_neg hx, if_neg hx, show x - 1 = 2 * (x / 2) by omega, show 2 * (x / 2) + 1 = x by omega]
theorem lvl0 (l : List D8) {i : Nat} (hi : i < l.length) : (lvl l 0).getD i D8.zero = lowD (l.getD i D8.zero) := by
  show (l.map lowD).getD i _ = _
  simp [List.getD_eq_getElem?_getD, List.getElem?_map, List.getElem?_eq_getElem hi]
/-- A leaf's path leads to the root. -/
theorem up_root {l : List D8} {h : Nat} (hl : l.length = 2 ^ h) {i : Nat} (hi : i < 2 ^ h) : topD (upD (lowD (l.getD i D8.zero)) i (pathD l i h)) h = rootD l h := by
  rw [← lvl0 l (by omega), up_path hl hi h (Nat.le_refl _), Nat.div_eq_of_lt hi]
  rfl
end Go.Proofs.YtmpklplojfjfbaaGreatDoor
