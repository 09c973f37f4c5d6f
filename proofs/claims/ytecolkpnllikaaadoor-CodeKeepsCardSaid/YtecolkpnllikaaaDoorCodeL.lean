/- Plain: the instructions that bytes are, as layer 14 reads them. No program in it, so there is no condition. -/
import Derived.Test.YtecolkpnllikaaaDoorEnc
import Derived.Test.YtecolkpnllikaaaDoorReadEnd
namespace Go.Proofs.YtecolkpnllikaaaDoor
theorem numRS_le (s : RS) (m : Nat) : (numRS s m).2 ≤ m := by
  unfold numRS
  split
  · simp
  · split
    · simp
    · rename_i h1 h2
      simp only
      unfold take1 at h2 ⊢
      split
      · simp
      · split
        · simp
        · simp only; omega
theorem numRS_l (s : RS) (m : Nat) : (numRS s m).1.l = s.l := by
  unfold numRS
  split
  · rfl
  · split <;> rfl
theorem numRS_at (s : RS) (m : Nat) (h : s.at_ ≤ s.l.length) : (numRS s m).1.at_ ≤ s.l.length := by
  unfold numRS
  split
  · exact h
  · split
    · exact h
    · have := take1_len (s.l.drop s.at_) m
      rw [List.length_drop] at this
      simp only; omega
theorem numRS_ge (s : RS) (m : Nat) : s.at_ ≤ (numRS s m).1.at_ := by
  unfold numRS
  split
  · exact Nat.le_refl _
  · split
    · exact Nat.le_refl _
    · simp
theorem numRS_err {s : RS} {m : Nat} (h : s.err ≠ 0) : numRS s m = (s, 0) := by unfold numRS; rw [if_pos h]
theorem numRS_zero {s : RS} {m : Nat} (h : (numRS s m).1.err ≠ 0) : (numRS s m).2 = 0 := by
  unfold numRS at h ⊢
  split
  · rfl
  · split
    · rfl
    · rename_i h1 h2
      rw [if_neg h1, if_neg h2] at h
      exact absurd rfl h
/-- The number with a sign that one tells. -/
def unfoldN (n : Nat) : Int := if n % 2 = 1 then -((n / 2 : Nat) : Int) - 1 else ((n / 2 : Nat) : Int)
theorem unfoldN_bound {n : Nat} (h : n < 18446744073709551616) : -9223372036854775808 ≤ unfoldN n ∧ unfoldN n ≤ 9223372036854775807 := by unfold unfoldN; split <;> omega
theorem fold_unfold (n : Nat) : foldN (unfoldN n) = n := by unfold foldN unfoldN; split <;> split <;> omega
theorem unfold_fold (x : Int) : unfoldN (foldN x) = x := by unfold foldN unfoldN; split <;> split <;> omega
def intRS (s : RS) : RS × Int := ((numRS s 18446744073709551615).1, unfoldN (numRS s 18446744073709551615).2)
def putI (i : Ins) (j : Nat) (n : Int) : Ins := if j = 0 then ⟨i.op, n, i.b, i.c⟩ else if j = 1 then ⟨i.op, i.a, n, i.c⟩ else ⟨i.op, i.a, i.b, n⟩
def argS (s : RS) (j : Nat) (i : Ins) : RS × Ins :=
  if s.err ≠ 0 then (s, i)
  else (if (intRS s).1.err = 0 ∧ inR (intRS s).2 = false then ⟨(intRS s).1.l, (intRS s).1.at_, 2⟩ else (intRS s).1, putI i j (intRS s).2)
def argsS (s : RS) (i : Ins) : Nat → RS × Ins
  | 0 => (s, i)
  | j + 1 => argS (argsS s i j).1 j (argsS s i j).2
def insS (s : RS) : RS × Ins := argsS (numRS s 21).1 ⟨((numRS s 21).2 : Int), 0, 0, 0⟩ (hasOf ((numRS s 21).2 : Int)).size
def allS (s : RS) : Nat → RS × List Ins
  | 0 => (s, [])
  | k + 1 => if (allS s k).1.err ≠ 0 then allS s k else ((insS (allS s k).1).1, (allS s k).2 ++ [(insS (allS s k).1).2])
def decS (b : List Nat) : RS × List Ins := allS (numRS ⟨b, 0, 0⟩ 2048).1 (numRS ⟨b, 0, 0⟩ 2048).2
/-- Decode's error, and its answer. -/
def decE (b : List Nat) : Int := if endRS (decS b).1 ≠ 0 then endRS (decS b).1 else (checkI (decS b).2 256).2
def decL (b : List Nat) : List Ins := if decE b = 0 then (decS b).2 else []

theorem argS_err {s : RS} {j : Nat} {i : Ins} (h : s.err ≠ 0) : argS s j i = (s, i) := by unfold argS; rw [if_pos h]
theorem argsS_err {s : RS} {i : Ins} {j : Nat} (h : (argsS s i j).1.err ≠ 0) : ∀ m, j ≤ m → argsS s i m = argsS s i j := by
  intro m hm
  induction m with
  | zero => obtain rfl : j = 0 := by omega
            rfl
  | succ m ih =>
    rcases Nat.lt_or_ge j (m + 1) with h1 | h1
    · have h2 := ih (by omega)
      rw [argsS, h2, argS_err h]
    · obtain rfl : j = m + 1 := by omega
      rfl
theorem allS_err {s : RS} {j : Nat} (h : (allS s j).1.err ≠ 0) : ∀ m, j ≤ m → allS s m = allS s j := by
  intro m hm
  induction m with
  | zero => obtain rfl : j = 0 := by omega
            rfl
  | succ m ih =>
    rcases Nat.lt_or_ge j (m + 1) with h1 | h1
    · have h2 := ih (by omega)
      rw [allS, h2, if_pos h]
    · obtain rfl : j = m + 1 := by omega
      rfl
theorem allS_ok {s : RS} {j : Nat} (h : (allS s j).1.err = 0) : allS s (j + 1) = ((insS (allS s j).1).1, (allS s j).2 ++ [(insS (allS s j).1).2]) := by
  rw [allS, if_neg (by simpa using h)]
theorem argS_l (s : RS) (j : Nat) (i : Ins) : (argS s j i).1.l = s.l := by
  unfold argS
  split
  · rfl
  · simp only; split <;> exact numRS_l _ _
theorem argS_at (s : RS) (j : Nat) (i : Ins) (h : s.at_ ≤ s.l.length) : (argS s j i).1.at_ ≤ s.l.length := by
  unfold argS
  split
  · exact h
  · simp only; split <;> exact numRS_at _ _ h
theorem argS_ge (s : RS) (j : Nat) (i : Ins) : s.at_ ≤ (argS s j i).1.at_ := by
  unfold argS
  split
  · exact Nat.le_refl _
  · simp only; split <;> exact numRS_ge _ _
theorem argsS_l (s : RS) (i : Ins) (j : Nat) : (argsS s i j).1.l = s.l := by
  induction j with
  | zero => rfl
  | succ j ih => rw [argsS, argS_l, ih]
theorem argsS_at (s : RS) (i : Ins) (j : Nat) (h : s.at_ ≤ s.l.length) : (argsS s i j).1.at_ ≤ s.l.length := by
  induction j with
  | zero => exact h
  | succ j ih =>
    have := argS_at (argsS s i j).1 j (argsS s i j).2 (by rw [argsS_l]; exact ih)
    rw [argsS_l] at this; exact this
theorem argsS_ge (s : RS) (i : Ins) (j : Nat) : s.at_ ≤ (argsS s i j).1.at_ := by
  induction j with
  | zero => exact Nat.le_refl _
  | succ j ih => exact Nat.le_trans ih (argS_ge _ _ _)
theorem insS_l (s : RS) : (insS s).1.l = s.l := by unfold insS; rw [argsS_l, numRS_l]
theorem insS_at (s : RS) (h : s.at_ ≤ s.l.length) : (insS s).1.at_ ≤ s.l.length := by
  have := argsS_at (numRS s 21).1 ⟨((numRS s 21).2 : Int), 0, 0, 0⟩ (hasOf ((numRS s 21).2 : Int)).size (by rw [numRS_l]; exact numRS_at _ _ h)
  rw [numRS_l] at this; exact this
theorem insS_ge (s : RS) : s.at_ ≤ (insS s).1.at_ := Nat.le_trans (numRS_ge s 21) (argsS_ge _ _ _)
theorem allS_l (s : RS) (k : Nat) : (allS s k).1.l = s.l := by
  induction k with
  | zero => rfl
  | succ k ih =>
    rw [allS]
    split
    · exact ih
    · rw [insS_l, ih]
theorem allS_at (s : RS) (k : Nat) (h : s.at_ ≤ s.l.length) : (allS s k).1.at_ ≤ s.l.length := by
  induction k with
  | zero => exact h
  | succ k ih =>
    rw [allS]
    split
    · exact ih
    · have := insS_at (allS s k).1 (by rw [allS_l]; exact ih)
      rw [allS_l] at this; exact this
theorem allS_ge (s : RS) (k : Nat) : s.at_ ≤ (allS s k).1.at_ := by
  induction k with
  | zero => exact Nat.le_refl _
  | succ k ih =>
    rw [allS]
    split
    · exact ih
    · exact Nat.le_trans ih (insS_ge _)
theorem allS_len {s : RS} {k : Nat} (h : (allS s k).1.err = 0) : (allS s k).2.length = k := by
  induction k with
  | zero => rfl
  | succ k ih =>
    by_cases h1 : (allS s k).1.err = 0
    · rw [allS_ok h1]; simp [ih h1]
    · rw [allS, if_pos (by simpa using h1)] at h
      exact absurd h h1
theorem allS_le (s : RS) (k : Nat) : (allS s k).2.length ≤ k := by
  induction k with
  | zero => exact Nat.le_refl _
  | succ k ih =>
    rw [allS]
    split
    · omega
    · simp; omega
theorem decL_len (b : List Nat) : (decL b).length ≤ 2048 := by
  unfold decL
  split
  · have h1 := allS_le (numRS ⟨b, 0, 0⟩ 2048).1 (numRS ⟨b, 0, 0⟩ 2048).2
    have h2 := numRS_le ⟨b, 0, 0⟩ 2048
    unfold decS; omega
  · simp
theorem insS_err {s : RS} (h : (numRS s 21).1.err ≠ 0) : insS s = argsS (numRS s 21).1 ⟨((numRS s 21).2 : Int), 0, 0, 0⟩ 0 := argsS_err (j := 0) h _ (Nat.zero_le _)
end Go.Proofs.YtecolkpnllikaaaDoor
