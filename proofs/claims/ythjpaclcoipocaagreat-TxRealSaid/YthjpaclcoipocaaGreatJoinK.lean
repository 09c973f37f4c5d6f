/- What a signature is split into, plainly. Nothing of the program stands in it, so there is no condition. What a ring has signed, plainly: no key signs two messages. Nothing of the program stands in it, so there is no condition. What a ring signs is verified, and each of its keys signs in turn, plainly. Nothing of the program stands in it but its digests, so there is no condition. -/
import Derived.Test.YthjpaclcoipocaaGreatKgI
import Derived.Test.YthjpaclcoipocaaGreatJoinS
import Derived.Test.YthjpaclcoipocaaGreatJoinI
namespace Go.Proofs.YthjpaclcoipocaaGreat
open Go.RowKit Go.Lib
theorem chunks_of (l : List D8) : (List.range l.length).map (fun i => chunk (l.flatMap D8.bytes) i) = l := by
  have hl : l.flatMap D8.bytes = (List.range l.length).flatMap fun c => (l.getD c D8.zero).bytes := by
    have : l = (List.range l.length).map fun c => l.getD c D8.zero := by
      apply List.ext_getElem
      · simp
      · intro i h1 h2
        simp [List.getD_eq_getElem?_getD, List.getElem?_eq_getElem h1]
    conv => lhs; rw [this]
    rw [List.flatMap_map]
  apply List.ext_getElem
  · simp
  · intro i h1 h2
    rw [List.getElem_map, List.getElem_range, hl]
    have := flatB_chunk (fun c => l.getD c D8.zero) [] l.length i h2
    rw [List.append_nil] at this
    rw [this, List.getD_eq_getElem?_getD, List.getElem?_eq_getElem h2]
    rfl
/-- A signature of the form is split into what it was made of. -/
theorem split_made {i h : Nat} {o : List Nat} {pl : List D8} (hh : h ≤ 8) (hi : i < 2 ^ h) (ho : o.length = 144) (hp : pl.length = h) : splitN (encN i ++ o ++ pl.flatMap D8.bytes) = some (i, o, pl) := by
  obtain ⟨l, hl⟩ : ∃ l, l = encN i ++ o ++ pl.flatMap D8.bytes := ⟨_, rfl⟩
  rw [← hl]
  have hp8 := (pow_le8 hh).2
  have hi255 : i ≤ 255 := by generalize 2 ^ h = q at *; omega
  have hd0 : l.drop 0 = encN i ++ (o ++ pl.flatMap D8.bytes) := by rw [hl]; simp
  obtain ⟨e1, e2⟩ := numRS_step (most := 255) hd0 (by omega) hi255
  have hlen : (o ++ pl.flatMap D8.bytes).length = 144 + 8 * h := by rw [List.length_append, flatB_take_len, ho, hp]
  have hq : (144 + 8 * h - 144) / 8 = h := by omega
  unfold splitN splitS
  rw [e1]
  simp only
  rw [if_neg (by simp), e2]
  unfold splitR
  rw [hlen, hq, if_neg (by omega), if_neg (by omega), if_neg (by omega), if_neg (by omega), ← ho, List.take_left, List.drop_left, ← hp, chunks_of]
theorem index_sign {r : RingM} (hr : r.ok) {m : D8} (he : (r.sign m).2.2 = 0) : indexN (r.sign m).2.1 = ((r.reserve m).2.1, true) := by
  have he2 : (r.reserve m).2.2 = 0 := by
    unfold RingM.sign at he
    simp only at he
    split at he
    · rename_i h; exact h
    · exact he
  have hi := reserve_lt hr he2
  have hh := (RingM.reserve_secret r m).2
  have e : (r.sign m).2.1 = (r.reserve m).1.sigB (r.reserve m).2.1 m := by
    unfold RingM.sign
    simp only
    rw [if_pos he2]
  rw [e]
  unfold RingM.sigB indexN
  rw [split_made (h := (r.reserve m).1.h) (by rw [hh]; exact hr.2.1) (by rw [hh]; exact hi) (onceB_len _ _) (pathD_len _ _ _)]
end Go.Proofs.YthjpaclcoipocaaGreat
namespace Go.Proofs.YthjpaclcoipocaaGreat
open Go.RowKit Go.Lib
theorem reserve_err (r : RingM) (m : D8) : (r.reserve m).2.2 = 0 ∨ ((r.reserve m).2.2 = 17 ∧ (r.reserve m).1 = r) := by
  unfold RingM.reserve
  cases posD r.led m with
  | some i => exact .inl rfl
  | none =>
    simp only
    split
    · exact .inr ⟨rfl, rfl⟩
    · exact .inl rfl
theorem sign_err (r : RingM) (m : D8) : (r.sign m).2.2 = (r.reserve m).2.2 := by
  unfold RingM.sign
  simp only
  split
  · rename_i h; exact h.symm
  · rfl
theorem sign_spent {r : RingM} {m : D8} (h : (r.sign m).2.2 ≠ 0) : (r.sign m).2.2 = 17 ∧ (r.sign m).1 = r := by
  rw [sign_err, sign_ring] at *
  rcases reserve_err r m with h1 | h1
  · exact absurd h1 h
  · exact h1
theorem reserve_at {r : RingM} {m : D8} (h : (r.reserve m).2.2 = 0) : (r.reserve m).1.led[(r.reserve m).2.1]? = some m := by
  revert h
  unfold RingM.reserve
  cases hp : posD r.led m with
  | some i => intro _; exact posD_some hp
  | none =>
    simp only
    split
    · intro h; cases h
    · intro _
      show (r.led ++ [m])[r.led.length]? = some m
      simp
theorem sign_bytes {r : RingM} {m : D8} (h : (r.sign m).2.2 = 0) : (r.sign m).2.1 = r.sigB (r.reserve m).2.1 m := by
  have he : (r.reserve m).2.2 = 0 := by rw [← sign_err]; exact h
  have hs := RingM.reserve_secret r m
  unfold RingM.sign
  simp only
  rw [if_pos he]
  show (r.reserve m).1.sigB _ m = _
  unfold RingM.sigB
  rw [hs.1, hs.2]
theorem sign_ok {r : RingM} (h : r.ok) {m : D8} (hm : m.ok) : (r.sign m).1.ok := by rw [sign_ring]; exact RingM.reserve_ok h hm
/-- What was signed: each signature's key, bytes and message. -/
structure RecN (r : RingM) (n : Nat) (bs : List Nat) (ss : List (List Nat)) (ms : List D8) : Prop where
  lb : bs.length = n
  ls : ss.length = n
  lm : ms.length = n
  at_ : ∀ j, j < n → r.led[bs.getD j 0]? = some (ms.getD j D8.zero) ∧ ss.getD j [] = r.sigB (bs.getD j 0) (ms.getD j D8.zero)
theorem RecN.nil (r : RingM) : RecN r 0 [] [] [] := ⟨rfl, rfl, rfl, fun j h => absurd h (by omega)⟩
theorem RecN.later {r : RingM} {n : Nat} {bs : List Nat} {ss : List (List Nat)} {ms : List D8} (h : RecN r n bs ss ms) (m : D8) : RecN (r.sign m).1 n bs ss ms := by
  refine ⟨h.lb, h.ls, h.lm, fun j hj => ?_⟩
  obtain ⟨h1, h2⟩ := h.at_ j hj
  have hs := RingM.reserve_secret r m
  rw [sign_ring]
  obtain ⟨t, ht⟩ := reserve_pre r m
  refine ⟨?_, ?_⟩
  · rw [← ht, List.getElem?_append_left (List.getElem?_eq_some_iff.1 h1).1]; exact h1
  · rw [h2]; unfold RingM.sigB; rw [hs.1, hs.2]
theorem getD_last {α : Type _} {l : List α} {n j : Nat} {x d : α} (hl : l.length = n) (hj : j < n + 1) : (l ++ [x]).getD j d = if j = n then x else l.getD j d := by
  subst hl
  rw [List.getD_eq_getElem?_getD, List.getD_eq_getElem?_getD]
  by_cases h : j = l.length
  · subst h; simp
  · rw [if_neg h, List.getElem?_append_left (by omega)]
theorem RecN.sign {r : RingM} {n : Nat} {bs : List Nat} {ss : List (List Nat)} {ms : List D8} (h : RecN r n bs ss ms) {m : D8} (he : (r.sign m).2.2 = 0) : RecN (r.sign m).1 (n + 1) (bs ++ [(r.reserve m).2.1]) (ss ++ [(r.sign m).2.1]) (ms ++ [m]) := by
  have hl := h.later m
  refine ⟨by simp [h.lb], by simp [h.ls], by simp [h.lm], fun j hj => ?_⟩
  rw [getD_last h.lb hj, getD_last h.ls hj, getD_last h.lm hj]
  by_cases hn : j = n
  · rw [if_pos hn, if_pos hn, if_pos hn]
    refine ⟨?_, ?_⟩
    · rw [sign_ring]; exact reserve_at (by rw [← sign_err]; exact he)
    · have hs := RingM.reserve_secret r m
      rw [sign_bytes he, sign_ring]
      unfold RingM.sigB
      rw [hs.1, hs.2]
  · rw [if_neg hn, if_neg hn, if_neg hn]
    exact hl.at_ j (by omega)
/-- Two signatures of one key are of one message, and the same bytes. -/
theorem RecN.once {r : RingM} {n : Nat} {bs : List Nat} {ss : List (List Nat)} {ms : List D8} (h : RecN r n bs ss ms) (hr : r.ok) {m : D8} (hm : m.ok) (he : (r.sign m).2.2 = 0) {j : Nat} (hj : j < n) :
    (bs.getD j 0 = (r.reserve m).2.1 → ms.getD j D8.zero = m ∧ ss.getD j [] = (r.sign m).2.1) ∧ (ms.getD j D8.zero = m → bs.getD j 0 = (r.reserve m).2.1) := by
  obtain ⟨h1, h2⟩ := (h.later m).at_ j hj
  have h3 : (r.sign m).1.led[(r.reserve m).2.1]? = some m := by rw [sign_ring]; exact reserve_at (by rw [← sign_err]; exact he)
  have hs := RingM.reserve_secret r m
  refine ⟨fun e => ?_, fun e => ?_⟩
  · rw [e, h3] at h1
    injection h1 with h1
    refine ⟨h1.symm, ?_⟩
    rw [h2, e, ← h1, sign_bytes he, sign_ring]
    unfold RingM.sigB
    rw [hs.1, hs.2]
  · rw [e] at h1
    have hn := (sign_ok hr hm).2.2.1
    exact Option.some.inj ((posD_at hn h1).symm.trans (posD_at hn h3))
end Go.Proofs.YthjpaclcoipocaaGreat
namespace Go.Proofs.YthjpaclcoipocaaGreat
open Go.RowKit Go.Lib
theorem verify_sign {r : RingM} (hr : r.ok) {m : D8} (hm : m.ok) (he : (r.sign m).2.2 = 0) : verifyN (rootD (keysD r.secret r.h) r.h) m (r.sign m).2.1 = true := by
  have he2 : (r.reserve m).2.2 = 0 := by rw [← sign_err]; exact he
  have hi := reserve_lt hr he2
  rw [sign_bytes he]
  generalize (r.reserve m).2.1 = i at *
  unfold RingM.sigB verifyN
  rw [split_made (h := r.h) hr.2.1 hi (onceB_len _ _) (pathD_len _ _ _)]
  show sameD (wayD i (toldD m (onceB (ownD r.secret i) m)) (pathD (keysD r.secret r.h) i r.h)) _ = true
  have ht := told_once (ownD r.secret i) hm []
  rw [List.append_nil] at ht
  rw [sameD_iff, ht]
  unfold wayD
  rw [pathD_len]
  have hk : publicD (ownD r.secret i) = (keysD r.secret r.h).getD i D8.zero := by
    unfold keysD
    simp [List.getD_eq_getElem?_getD, List.getElem?_range hi]
  rw [hk]
  exact up_root (keysD_len _ _) hi
def msgN (st i : Nat) : D8 := D8.of ((st + i) % 18446744073709551616)
theorem msgN_ok (st i : Nat) : (msgN st i).ok := D8.of_ok _
theorem msgN_inj {st i j : Nat} (hi : i ≤ 1000) (hj : j ≤ 1000) (h : msgN st i = msgN st j) : i = j := by
  have := congrArg D8.num h
  unfold msgN at this
  rw [D8.num_of (by omega), D8.num_of (by omega)] at this
  omega
def ringI (s : D8) (h st i : Nat) : RingM := ⟨s, h, (List.range i).map (msgN st)⟩
theorem posI {st i : Nat} (hi : i ≤ 1000) : posD ((List.range i).map (msgN st)) (msgN st i) = none := by
  rw [posD_none]
  intro hm
  obtain ⟨j, hj, he⟩ := List.mem_map.1 hm
  have hj := List.mem_range.1 hj
  have := msgN_inj (by omega) hi he
  omega
theorem ringI_res {s : D8} {h st i : Nat} (hh : h ≤ 8) (hi : i < 2 ^ h) : (ringI s h st i).reserve (msgN st i) = (ringI s h st (i + 1), i, 0) := by
  have hp := (pow_le8 hh).2
  unfold RingM.reserve ringI
  simp only
  rw [posI (by omega)]
  simp only [List.length_map, List.length_range]
  rw [if_neg (by omega)]
  simp [List.range_succ]
theorem ringI_full {s : D8} {h st : Nat} (hh : h ≤ 8) : (ringI s h st (2 ^ h)).reserve (msgN st (2 ^ h)) = (ringI s h st (2 ^ h), 0, 17) := by
  have hp := (pow_le8 hh).2
  unfold RingM.reserve ringI
  simp only
  rw [posI (by omega)]
  simp only [List.length_map, List.length_range, if_true]
theorem ringI_ok {s : D8} {h st i : Nat} (hs : s.ok) (hh : h ≤ 8) (hi : i ≤ 2 ^ h) : (ringI s h st i).ok := by
  have hp := (pow_le8 hh).2
  refine ⟨hs, hh, ?_, fun d hd => ?_, by simpa [ringI] using hi⟩
  · show ((List.range i).map (msgN st)).Nodup
    rw [List.Nodup, List.pairwise_map]
    refine List.Pairwise.imp_of_mem ?_ List.nodup_range
    intro a b ha hb hne e
    exact hne (msgN_inj (by have := List.mem_range.1 ha; omega) (by have := List.mem_range.1 hb; omega) e)
  · obtain ⟨j, _, rfl⟩ := List.mem_map.1 hd
    exact msgN_ok _ _
theorem ringI_sign {s : D8} {h st i : Nat} (hh : h ≤ 8) (hi : i < 2 ^ h) : ((ringI s h st i).sign (msgN st i)).1 = ringI s h st (i + 1) ∧ ((ringI s h st i).sign (msgN st i)).2.2 = 0 := by
  rw [sign_ring, sign_err, ringI_res hh hi]
  exact ⟨rfl, rfl⟩
theorem ringI_spent {s : D8} {h st : Nat} (hh : h ≤ 8) : (ringI s h st (2 ^ h)).sign (msgN st (2 ^ h)) = (ringI s h st (2 ^ h), [], 17) := by
  unfold RingM.sign
  simp only [ringI_full hh]
  rw [if_neg (by decide)]
end Go.Proofs.YthjpaclcoipocaaGreat
