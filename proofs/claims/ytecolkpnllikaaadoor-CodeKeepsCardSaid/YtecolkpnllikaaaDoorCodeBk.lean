/- Plain laws of layer 14's bytes: what is encoded is decoded as it was, each front of it is refused; what is decoded is encoded as just these bytes. No program in it, so there is no condition. -/
import Derived.Test.YtecolkpnllikaaaDoorCodeL
import Derived.Test.YtecolkpnllikaaaDoorOctLn
namespace Go.Proofs.YtecolkpnllikaaaDoor
/-- An instruction with its first numbers alone. -/
def upTo (op a b c : Int) (j : Nat) : Ins := ⟨op, if 0 < j then a else 0, if 1 < j then b else 0, if 2 < j then c else 0⟩
theorem putI_upTo (op a b c : Int) {j : Nat} (h : j < 3) : putI (upTo op a b c j) j (three a b c j) = upTo op a b c (j + 1) := by
  match j, h with
  | 0, _ => simp [putI, upTo, three]
  | 1, _ => simp [putI, upTo, three]
  | 2, _ => simp [putI, upTo, three]
theorem upTo_all {i : Ins} {size words : Int} (h : i.right size words = true) : upTo i.op i.a i.b i.c (hasOf i.op).size = i := by
  have hs := hasOf_size i.op
  have hz : ∀ k, k < 3 → ¬ k < (hasOf i.op).size → three i.a i.b i.c k = 0 := by
    intro k hk hn
    have h1 : okN i.op size words k (three i.a i.b i.c k) = true := by
      unfold Ins.right rightB at h
      simp only [Bool.and_eq_true] at h
      match k, hk with
      | 0, _ => exact h.1.2.1.1
      | 1, _ => exact h.1.2.1.2
      | 2, _ => exact h.1.2.2
    unfold okN at h1
    rw [if_neg hn] at h1
    simpa using h1
  obtain ⟨op, a, b, c⟩ := i
  simp only at hs hz ⊢
  have z0 := hz 0 (by omega); have z1 := hz 1 (by omega); have z2 := hz 2 (by omega)
  simp only [three] at z0 z1 z2
  unfold upTo
  simp only [Ins.mk.injEq, true_and]
  refine ⟨?_, ?_, ?_⟩
  · split
    · rfl
    · rename_i h1; exact (z0 h1).symm
  · split
    · rfl
    · rename_i h1; exact (z1 h1).symm
  · split
    · rfl
    · rename_i h1; exact (z2 h1).symm
theorem args_step {l : List Nat} {at_ : Nat} {op a b c : Int} (hr : ∀ j, j < 3 → -2147483648 ≤ three a b c j ∧ three a b c j ≤ 2147483647) :
    ∀ (j : Nat) (r : List Nat), j ≤ 3 → l.drop at_ = oneB op a b c j ++ r →
      argsS ⟨l, at_ + (encN op.toNat).length, 0⟩ ⟨op, 0, 0, 0⟩ j = (⟨l, at_ + (oneB op a b c j).length, 0⟩, upTo op a b c j) ∧ l.drop (at_ + (oneB op a b c j).length) = r := by
  intro j
  induction j with
  | zero =>
    intro r _ hd
    refine ⟨?_, by rw [← List.drop_drop, hd, List.drop_left]⟩
    simp [argsS, oneB, upTo]
  | succ j ih =>
    intro r hj hd
    rw [oneB, List.append_assoc] at hd
    obtain ⟨h1, h2⟩ := ih _ (by omega) hd
    have hb := hr j (by omega)
    have hlt := foldN_lt (x := three a b c j) (by omega) (by omega)
    obtain ⟨h3, h4⟩ := numRS_step h2 hlt (by omega : foldN (three a b c j) ≤ 18446744073709551615)
    refine ⟨?_, by rw [oneB, List.length_append, ← Nat.add_assoc]; exact h4⟩
    rw [argsS, h1]
    have h5 : intRS ⟨l, at_ + (oneB op a b c j).length, 0⟩ = (⟨l, at_ + (oneB op a b c j).length + (encN (foldN (three a b c j))).length, 0⟩, three a b c j) := by
      unfold intRS; rw [h3]; simp [unfold_fold]
    unfold argS
    simp only
    rw [if_neg (by simp), h5]
    simp only
    rw [if_neg (by rw [inR_yes hb.1 hb.2]; simp), putI_upTo op a b c (by omega), oneB, List.length_append, Nat.add_assoc]
theorem ins_step {l : List Nat} {at_ : Nat} {i : Ins} {size : Int} {r : List Nat} (hs : size ≤ 1000000) (hi : i.right size 256 = true) (hd : l.drop at_ = i.bytes ++ r) :
    insS ⟨l, at_, 0⟩ = (⟨l, at_ + i.bytes.length, 0⟩, i) ∧ l.drop (at_ + i.bytes.length) = r := by
  have hop := right_op hi
  have hsz := hasOf_size i.op
  have hu := upTo_all hi
  have hrange := right_range hs (by omega) hi
  obtain ⟨op, a, b, c⟩ := i
  simp only at hop hsz hu hrange
  obtain ⟨p, rfl⟩ := Int.eq_ofNat_of_zero_le hop.1
  have hsplit : ∀ j, ∃ r', oneB (p : Int) a b c j = encN p ++ r' := by
    intro j
    induction j with
    | zero => exact ⟨[], by simp [oneB]⟩
    | succ j ih => obtain ⟨r', e⟩ := ih; exact ⟨r' ++ encN (foldN (three a b c j)), by rw [oneB, e, List.append_assoc]⟩
  obtain ⟨r', e⟩ := hsplit (hasOf (p : Int)).size
  have h1 := args_step hrange (hasOf (p : Int)).size r hsz hd
  have h2 : l.drop at_ = encN p ++ (r' ++ r) := by rw [hd, Ins.bytes, e, List.append_assoc]
  obtain ⟨h3, _⟩ := numRS_step h2 (by omega) (by omega : p ≤ 21)
  refine ⟨?_, h1.2⟩
  unfold insS
  rw [h3]
  simp only
  have h4 := h1.1
  rw [Int.toNat_natCast] at h4
  rw [h4, hu]
  rfl
theorem all_step {l : List Nat} {at_ : Nat} {L : List Ins} {size : Int} (hs : size ≤ 1000000) (hL : ∀ j, j < L.length → (L.getD j default).right size 256 = true) :
    ∀ (k : Nat) (r : List Nat), k ≤ L.length → l.drop at_ = (L.take k).flatMap Ins.bytes ++ r →
      allS ⟨l, at_, 0⟩ k = (⟨l, at_ + ((L.take k).flatMap Ins.bytes).length, 0⟩, L.take k) ∧ l.drop (at_ + ((L.take k).flatMap Ins.bytes).length) = r := by
  intro k
  induction k with
  | zero => intro r _ hd; simp [allS]; simpa using hd
  | succ k ih =>
    intro r hk hd
    have ht := take_ins (l := L) (k := k) (by omega)
    rw [ht, List.flatMap_append, List.append_assoc] at hd
    obtain ⟨h1, h2⟩ := ih _ (by omega) hd
    have h3 : l.drop (at_ + ((L.take k).flatMap Ins.bytes).length) = (L.getD k default).bytes ++ r := by rw [h2]; simp
    obtain ⟨h4, h5⟩ := ins_step hs (hL k (by omega)) h3
    rw [allS_ok (by rw [h1]), h1]
    simp only
    rw [h4, ht, List.flatMap_append, List.length_append]
    have e : ([L.getD k default].flatMap Ins.bytes).length = (L.getD k default).bytes.length := by simp
    rw [e, ← Nat.add_assoc]
    exact ⟨rfl, h5⟩
theorem dec_enc {L : List Ins} (h : (checkI L 256).2 = 0) (t : List Nat) : decS (encL L ++ t) = (⟨encL L ++ t, (encL L).length, 0⟩, L) := by
  obtain ⟨h1, h2, h3⟩ := checked h
  have he : encL L = encN L.length ++ L.flatMap Ins.bytes := by unfold encL allB; rw [if_pos h, List.take_length]
  have hd : (encL L ++ t).drop 0 = encN L.length ++ (L.flatMap Ins.bytes ++ t) := by rw [List.drop_zero, he, List.append_assoc]
  obtain ⟨g1, g2⟩ := numRS_step hd (by omega) (by omega : L.length ≤ 2048)
  unfold decS
  rw [g1]
  simp only
  have g3 := (all_step (l := encL L ++ t) (by omega : (L.length : Int) ≤ 1000000) h3 L.length t (Nat.le_refl _) (by rw [List.take_length]; exact g2)).1
  rw [g3, List.take_length, he, List.length_append]
  simp
theorem decE_enc {L : List Ins} (h : (checkI L 256).2 = 0) : decE (encL L) = 0 ∧ decL (encL L) = L := by
  have h1 := dec_enc h []
  rw [List.append_nil] at h1
  have h2 : decE (encL L) = 0 := by unfold decE endRS; rw [h1]; simp [h]
  exact ⟨h2, by unfold decL; rw [if_pos h2, h1]⟩
theorem decE_long {L : List Ins} (h : (checkI L 256).2 = 0) : decE (encL L ++ [0]) = 5 := by
  have h1 := dec_enc h [0]
  unfold decE endRS; rw [h1]; simp

/-- A reader of a front alone. -/
def RS.cut (m : Nat) (s : RS) : RS := ⟨s.l.take m, s.at_, s.err⟩
theorem goOn_take : ∀ (f m : Nat) (l : List Nat), goOn f (l.take m) = min (goOn f l) m := by
  intro f
  induction f with
  | zero => intro m l; simp [goOn]
  | succ f ih =>
    intro m l
    cases l with
    | nil => simp [goOn]
    | cons b l =>
      cases m with
      | zero => simp [goOn]
      | succ m =>
        rw [List.take_succ_cons]
        unfold goOn
        split
        · rw [ih]; omega
        · simp
theorem look_take {l : List Nat} (h : (lookN l).2.2 = 0) (m : Nat) : ((lookN l).2.1 ≤ m → lookN (l.take m) = lookN l) ∧ (m < (lookN l).2.1 → lookN (l.take m) = (0, 0, 4)) := by
  have hle := goOn_le 10 l
  have ht := goOn_take 10 m l
  have hlen : (l.take m).length = min m l.length := List.length_take
  unfold lookN at h ⊢
  simp only at h ⊢
  rw [ht, hlen]
  generalize goOn 10 l = g at *
  by_cases h1 : g = min l.length 10
  · rw [if_pos h1] at h; simp only at h; split at h <;> simp at h
  · rw [if_neg h1] at h ⊢
    by_cases h2 : (0 < g ∧ l.getD g 0 = 0) ∨ (g = 9 ∧ 1 < l.getD g 0)
    · rw [if_pos h2] at h; simp at h
    · rw [if_neg h2]
      simp only
      refine ⟨fun hm => ?_, fun hm => ?_⟩
      · have e1 : min g m = g := by omega
        have e2 : (l.take m).getD g 0 = l.getD g 0 := by
          rw [List.getD_eq_getElem?_getD, List.getElem?_take_of_lt (by omega), ← List.getD_eq_getElem?_getD]
        rw [e1, e2, if_neg (by omega), if_neg h2, List.take_take, show min (g + 1) m = g + 1 by omega]
      · rw [if_pos (by omega), if_pos (by omega)]
theorem take1_take {l : List Nat} {most : Nat} (h : (take1 l most).2.1 = 0) (m : Nat) : ((take1 l most).1 ≤ m → take1 (l.take m) most = take1 l most) ∧ (m < (take1 l most).1 → (take1 (l.take m) most).2.1 = 4) := by
  have h1 : (lookN l).2.2 = 0 := by
    unfold take1 at h
    split at h
    · exact h
    · rename_i h2; simpa using h2
  obtain ⟨g1, g2⟩ := look_take h1 m
  have h3 : ¬ most < (lookN l).1 := by
    unfold take1 at h
    rw [if_neg (by simp [h1])] at h
    split at h
    · simp at h
    · assumption
  have e : take1 l most = ((lookN l).2.1, 0, (lookN l).1) := by unfold take1; rw [if_neg (by simp [h1]), if_neg h3]
  rw [e]
  simp only
  refine ⟨fun hm => ?_, fun hm => ?_⟩
  · unfold take1; rw [g1 hm, if_neg (by simp [h1]), if_neg h3]
  · unfold take1; rw [g2 hm]; simp
theorem take_drop (l : List Nat) (m k : Nat) : (l.take m).drop k = (l.drop k).take (m - k) := by rw [List.drop_take]
theorem numRS0 (l : List Nat) (at_ most : Nat) : numRS ⟨l, at_, 0⟩ most = if (take1 (l.drop at_) most).2.1 = 0 then (⟨l, at_ + (take1 (l.drop at_) most).1, 0⟩, (take1 (l.drop at_) most).2.2) else (⟨l, at_, (take1 (l.drop at_) most).2.1⟩, 0) := by
  unfold numRS
  by_cases h : (take1 (l.drop at_) most).2.1 = 0
  · simp [h]
  · simp [h]
theorem argS_ok {s : RS} {j : Nat} {i : Ins} (h : s.err = 0) : argS s j i = (if (intRS s).1.err = 0 ∧ inR (intRS s).2 = false then ⟨(intRS s).1.l, (intRS s).1.at_, 2⟩ else (intRS s).1, putI i j (intRS s).2) := by unfold argS; rw [if_neg (by simpa using h)]
theorem numRS_cut {s : RS} {most m : Nat} (h : (numRS s most).1.err = 0) (hm : s.at_ ≤ m) :
    ((numRS s most).1.at_ ≤ m → numRS (s.cut m) most = ((numRS s most).1.cut m, (numRS s most).2)) ∧ (m < (numRS s most).1.at_ → (numRS (s.cut m) most).1.err = 4) := by
  obtain ⟨l, at_, err⟩ := s
  by_cases he : err = 0
  · subst he
    simp only at hm
    have e0 := numRS0 l at_ most
    have e1 := numRS0 (l.take m) at_ most
    rw [take_drop] at e1
    have hc : RS.cut m ⟨l, at_, 0⟩ = ⟨l.take m, at_, 0⟩ := rfl
    rw [hc, e1]
    rw [e0] at h ⊢
    by_cases ht : (take1 (l.drop at_) most).2.1 = 0
    · obtain ⟨g1, g2⟩ := take1_take ht (m - at_)
      rw [if_pos ht]
      simp only
      refine ⟨fun hm2 => ?_, fun hm2 => ?_⟩
      · rw [g1 (by omega), if_pos ht]; rfl
      · have := g2 (by omega)
        rw [if_neg (by rw [this]; simp)]
        exact this
    · rw [if_neg ht] at h
      exact absurd h ht
  · rw [numRS_err (by simpa using he)] at h
    exact absurd h he
theorem argS_cut {s : RS} {j m : Nat} {i : Ins} (h : (argS s j i).1.err = 0) (hm : s.at_ ≤ m) :
    ((argS s j i).1.at_ ≤ m → argS (s.cut m) j i = ((argS s j i).1.cut m, (argS s j i).2)) ∧ (m < (argS s j i).1.at_ → (argS (s.cut m) j i).1.err = 4) := by
  by_cases he : s.err = 0
  · have hc : (s.cut m).err = 0 := he
    rw [argS_ok he] at h ⊢
    rw [argS_ok hc]
    by_cases hb : (intRS s).1.err = 0 ∧ inR (intRS s).2 = false
    · rw [if_pos hb] at h; simp at h
    · rw [if_neg hb] at h ⊢
      obtain ⟨g1, g2⟩ := numRS_cut (most := 18446744073709551615) (m := m) (show (numRS s 18446744073709551615).1.err = 0 from h) hm
      refine ⟨fun hm2 => ?_, fun hm2 => ?_⟩
      · have e : intRS (s.cut m) = ((intRS s).1.cut m, (intRS s).2) := by unfold intRS; rw [g1 hm2]
        rw [e]
        simp only
        rw [if_neg (by exact hb)]
      · have e : (intRS (s.cut m)).1.err = 4 := g2 hm2
        rw [if_neg (by rw [e]; simp)]
        exact e
  · rw [argS_err he] at h
    exact absurd h he
theorem argsS_cut {s : RS} {i : Ins} {m : Nat} (hm : s.at_ ≤ m) : ∀ j, (argsS s i j).1.err = 0 →
    ((argsS s i j).1.at_ ≤ m → argsS (s.cut m) i j = ((argsS s i j).1.cut m, (argsS s i j).2)) ∧ (m < (argsS s i j).1.at_ → (argsS (s.cut m) i j).1.err = 4) := by
  intro j
  induction j with
  | zero => intro _; exact ⟨fun _ => rfl, fun h => absurd h (by show ¬ m < s.at_; omega)⟩
  | succ j ih =>
    intro h
    have h0 : (argsS s i j).1.err = 0 := by
      by_cases h1 : (argsS s i j).1.err = 0
      · exact h1
      · rw [argsS, argS_err h1] at h; exact h
    obtain ⟨g1, g2⟩ := ih h0
    have hge := argS_ge (argsS s i j).1 j (argsS s i j).2
    rw [argsS] at h
    rw [argsS, argsS]
    rcases Nat.lt_or_ge m (argsS s i j).1.at_ with h1 | h1
    · have h2 := g2 h1
      refine ⟨fun h3 => absurd h3 (by omega), fun _ => ?_⟩
      rw [argS_err (by rw [h2]; simp)]
      exact h2
    · rw [g1 h1]
      exact argS_cut h h1
theorem insS_cut {s : RS} {m : Nat} (h : (insS s).1.err = 0) (hm : s.at_ ≤ m) :
    ((insS s).1.at_ ≤ m → insS (s.cut m) = ((insS s).1.cut m, (insS s).2)) ∧ (m < (insS s).1.at_ → (insS (s.cut m)).1.err = 4) := by
  have h0 : (numRS s 21).1.err = 0 := by
    by_cases h1 : (numRS s 21).1.err = 0
    · exact h1
    · rw [insS_err h1] at h; exact h
  obtain ⟨g1, g2⟩ := numRS_cut h0 hm
  have hge := argsS_ge (numRS s 21).1 ⟨((numRS s 21).2 : Int), 0, 0, 0⟩ (hasOf ((numRS s 21).2 : Int)).size
  rcases Nat.lt_or_ge m (numRS s 21).1.at_ with h1 | h1
  · have h2 := g2 h1
    refine ⟨fun h3 => ?_, fun _ => ?_⟩
    · unfold insS at h3; omega
    · rw [insS_err (by rw [h2]; simp)]; exact h2
  · have h2 := argsS_cut h1 (hasOf ((numRS s 21).2 : Int)).size h
    have e : insS (s.cut m) = argsS ((numRS s 21).1.cut m) ⟨((numRS s 21).2 : Int), 0, 0, 0⟩ (hasOf ((numRS s 21).2 : Int)).size := by unfold insS; rw [g1 h1]
    rw [e]
    exact h2
theorem allS_cut {s : RS} {m : Nat} (hm : s.at_ ≤ m) : ∀ k, (allS s k).1.err = 0 →
    ((allS s k).1.at_ ≤ m → allS (s.cut m) k = ((allS s k).1.cut m, (allS s k).2)) ∧ (m < (allS s k).1.at_ → (allS (s.cut m) k).1.err = 4) := by
  intro k
  induction k with
  | zero => intro _; exact ⟨fun _ => rfl, fun h => absurd h (by show ¬ m < s.at_; omega)⟩
  | succ k ih =>
    intro h
    have h0 : (allS s k).1.err = 0 := by
      by_cases h1 : (allS s k).1.err = 0
      · exact h1
      · rw [allS, if_pos (by simpa using h1)] at h; exact h
    obtain ⟨g1, g2⟩ := ih h0
    rw [allS_ok h0] at h ⊢
    simp only at h ⊢
    have hge := insS_ge (allS s k).1
    rcases Nat.lt_or_ge m (allS s k).1.at_ with h1 | h1
    · have h2 := g2 h1
      refine ⟨fun h3 => absurd h3 (by omega), fun _ => ?_⟩
      rw [allS, if_pos (by rw [h2]; simp)]
      exact h2
    · have h2 := g1 h1
      obtain ⟨g3, g4⟩ := insS_cut h h1
      have h5 : (allS (s.cut m) k).1.err = 0 := by rw [h2]; exact h0
      rw [allS_ok h5, h2]
      exact ⟨fun h3 => by simp only; rw [g3 h3], fun h3 => g4 h3⟩
theorem decE_short {L : List Ins} (h : (checkI L 256).2 = 0) {m : Nat} (hm : m < (encL L).length) : decE ((encL L).take m) = 4 ∧ decL ((encL L).take m) = [] := by
  have h1 := dec_enc h []
  rw [List.append_nil] at h1
  have hn0 : (numRS ⟨encL L, 0, 0⟩ 2048).1.err = 0 := by
    by_cases h2 : (numRS ⟨encL L, 0, 0⟩ 2048).1.err = 0
    · exact h2
    · have h3 := allS_err (s := (numRS ⟨encL L, 0, 0⟩ 2048).1) (j := 0) h2 (numRS ⟨encL L, 0, 0⟩ 2048).2 (Nat.zero_le _)
      have h4 : decS (encL L) = _ := h3
      rw [h1] at h4
      have h5 := congrArg (fun p => p.1.err) h4
      simp only at h5
      exact h5.symm
  have e4 : (decS ((encL L).take m)).1.err = 4 := by
    obtain ⟨g1, g2⟩ := numRS_cut (s := ⟨encL L, 0, 0⟩) (m := m) hn0 (Nat.zero_le _)
    have hcut : (⟨(encL L).take m, 0, 0⟩ : RS) = RS.cut m ⟨encL L, 0, 0⟩ := rfl
    unfold decS
    rw [hcut]
    rcases Nat.lt_or_ge m (numRS ⟨encL L, 0, 0⟩ 2048).1.at_ with h2 | h2
    · have h3 := g2 h2
      rw [allS_err (j := 0) (by show (numRS _ _).1.err ≠ 0; rw [h3]; simp) _ (Nat.zero_le _)]
      exact h3
    · rw [g1 h2]
      have h3 : allS (numRS ⟨encL L, 0, 0⟩ 2048).1 (numRS ⟨encL L, 0, 0⟩ 2048).2 = (⟨encL L, (encL L).length, 0⟩, L) := h1
      exact (allS_cut h2 _ (by rw [h3])).2 (by rw [h3]; exact hm)
  have e5 : decE ((encL L).take m) = 4 := by unfold decE endRS; rw [e4]; simp
  exact ⟨e5, by unfold decL; rw [e5]; simp⟩

theorem oneB_put (op : Int) (i : Ins) (n : Int) {j : Nat} : ∀ k, k ≤ j → j < 3 → oneB op (putI i j n).a (putI i j n).b (putI i j n).c k = oneB op i.a i.b i.c k := by
  intro k
  induction k with
  | zero => intro _ _; rfl
  | succ k ih =>
    intro hk hj
    rw [oneB, oneB, ih (by omega) hj]
    congr 3
    match j, hj with
    | 0, _ => omega
    | 1, _ => obtain rfl : k = 0 := by omega
              rfl
    | 2, _ =>
      rcases (by omega : k = 0 ∨ k = 1) with rfl | rfl <;> rfl
theorem three_put (i : Ins) (n : Int) {j : Nat} (h : j < 3) : three (putI i j n).a (putI i j n).b (putI i j n).c j = n := by
  match j, h with
  | 0, _ => rfl
  | 1, _ => rfl
  | 2, _ => rfl
theorem putI_op (i : Ins) (j : Nat) (n : Int) : (putI i j n).op = i.op := by unfold putI; split; rfl; split <;> rfl
theorem argsS_one {s : RS} {op : Nat} {q : List Nat} (hb : ∀ x ∈ s.l, x < 256) (hq : q = encN op ++ s.l.drop s.at_) : ∀ j, j ≤ 3 → (argsS s ⟨(op : Int), 0, 0, 0⟩ j).1.err = 0 →
    s.err = 0 ∧ (argsS s ⟨(op : Int), 0, 0, 0⟩ j).2.op = (op : Int) ∧ q = oneB (op : Int) (argsS s ⟨(op : Int), 0, 0, 0⟩ j).2.a (argsS s ⟨(op : Int), 0, 0, 0⟩ j).2.b (argsS s ⟨(op : Int), 0, 0, 0⟩ j).2.c j ++ s.l.drop (argsS s ⟨(op : Int), 0, 0, 0⟩ j).1.at_ := by
  intro j
  induction j with
  | zero => intro _ h; exact ⟨h, rfl, by simpa [argsS, oneB] using hq⟩
  | succ j ih =>
    intro hj h
    have h0 : (argsS s ⟨(op : Int), 0, 0, 0⟩ j).1.err = 0 := by
      by_cases h1 : (argsS s ⟨(op : Int), 0, 0, 0⟩ j).1.err = 0
      · exact h1
      · rw [argsS, argS_err h1] at h; exact h
    obtain ⟨g1, g2, g3⟩ := ih (by omega) h0
    have hl := argsS_l s ⟨(op : Int), 0, 0, 0⟩ j
    rw [argsS] at h ⊢
    generalize argsS s ⟨(op : Int), 0, 0, 0⟩ j = p at *
    obtain ⟨t, i⟩ := p
    simp only at h h0 g2 g3 hl ⊢
    unfold argS at h ⊢
    rw [if_neg (by simpa using h0)] at h ⊢
    simp only at h ⊢
    by_cases hbad : (intRS t).1.err = 0 ∧ inR (intRS t).2 = false
    · rw [if_pos hbad] at h; simp at h
    · rw [if_neg hbad] at h ⊢
      obtain ⟨_, h2⟩ := numRS_one (s := t) (m := 18446744073709551615) (by rw [hl]; exact hb) h
      refine ⟨g1, by rw [putI_op]; exact g2, ?_⟩
      rw [hl] at h2
      have e1 : foldN (intRS t).2 = (numRS t 18446744073709551615).2 := fold_unfold _
      rw [oneB, oneB_put (op : Int) i _ j (Nat.le_refl _) (by omega), three_put i _ (by omega), e1, List.append_assoc]
      rw [g3, h2]
      rfl
theorem insS_one {s : RS} (hb : ∀ x ∈ s.l, x < 256) (h : (insS s).1.err = 0) : s.err = 0 ∧ s.l.drop s.at_ = (insS s).2.bytes ++ s.l.drop (insS s).1.at_ := by
  have h0 : (numRS s 21).1.err = 0 := by
    by_cases h1 : (numRS s 21).1.err = 0
    · exact h1
    · rw [insS_err h1] at h; exact h
  obtain ⟨g1, g2⟩ := numRS_one hb h0
  have hl := numRS_l s 21
  have g3 := argsS_one (s := (numRS s 21).1) (op := (numRS s 21).2) (q := s.l.drop s.at_) (by rw [hl]; exact hb) (by rw [hl]; exact g2) (hasOf ((numRS s 21).2 : Int)).size (hasOf_size _) h
  refine ⟨g1, ?_⟩
  rw [hl] at g3
  unfold Ins.bytes
  change _ = oneB (argsS (numRS s 21).1 ⟨((numRS s 21).2 : Int), 0, 0, 0⟩ (hasOf ((numRS s 21).2 : Int)).size).2.op _ _ _ (hasOf (argsS (numRS s 21).1 ⟨((numRS s 21).2 : Int), 0, 0, 0⟩ (hasOf ((numRS s 21).2 : Int)).size).2.op).size ++ _
  rw [g3.2.1]
  exact g3.2.2
theorem allS_one {s : RS} (hb : ∀ x ∈ s.l, x < 256) : ∀ k, (allS s k).1.err = 0 → s.err = 0 ∧ s.l.drop s.at_ = (allS s k).2.flatMap Ins.bytes ++ s.l.drop (allS s k).1.at_ := by
  intro k
  induction k with
  | zero => intro h; exact ⟨h, by simp [allS]⟩
  | succ k ih =>
    intro h
    have h0 : (allS s k).1.err = 0 := by
      by_cases h1 : (allS s k).1.err = 0
      · exact h1
      · rw [allS, if_pos (by simpa using h1)] at h; exact h
    obtain ⟨g1, g2⟩ := ih h0
    have hl := allS_l s k
    rw [allS_ok h0] at h ⊢
    simp only at h ⊢
    obtain ⟨_, g3⟩ := insS_one (s := (allS s k).1) (by rw [hl]; exact hb) h
    rw [hl] at g3
    refine ⟨g1, ?_⟩
    rw [g2, g3, List.flatMap_append, List.append_assoc]
    simp
theorem enc_dec {b : List Nat} (hb : ∀ x ∈ b, x < 256) (h : decE b = 0) : (checkI (decL b) 256).2 = 0 ∧ encL (decL b) = b := by
  have hd : decL b = (decS b).2 := by unfold decL; rw [if_pos h]
  unfold decE at h
  by_cases he : endRS (decS b).1 = 0
  · rw [if_neg (by simpa using he)] at h
    rw [hd]
    refine ⟨h, ?_⟩
    have e0 : (decS b).1.err = 0 ∧ b.length ≤ (decS b).1.at_ := by
      have hl : (decS b).1.l = b := by unfold decS; rw [allS_l, numRS_l]
      unfold endRS at he
      by_cases h1 : (decS b).1.err = 0
      · rw [if_neg (by simpa using h1)] at he
        refine ⟨h1, ?_⟩
        rw [hl] at he
        by_cases h2 : (decS b).1.at_ < b.length
        · rw [if_pos h2] at he; simp at he
        · omega
      · rw [if_pos (by simpa using h1)] at he; exact absurd he h1
    unfold encL
    rw [if_pos h]
    unfold allB
    rw [List.take_length]
    have hl := numRS_l ⟨b, 0, 0⟩ 2048
    obtain ⟨g1, g2⟩ := allS_one (s := (numRS ⟨b, 0, 0⟩ 2048).1) (by rw [hl]; exact hb) (numRS ⟨b, 0, 0⟩ 2048).2 e0.1
    obtain ⟨_, g3⟩ := numRS_one (s := ⟨b, 0, 0⟩) (m := 2048) hb g1
    have hlen := allS_len (s := (numRS ⟨b, 0, 0⟩ 2048).1) (k := (numRS ⟨b, 0, 0⟩ 2048).2) e0.1
    rw [hl] at g2
    simp only [List.drop_zero] at g3
    have g4 : b.drop (decS b).1.at_ = [] := List.drop_eq_nil_of_le e0.2
    change b.drop _ = _ ++ b.drop (decS b).1.at_ at g2
    rw [g4, List.append_nil] at g2
    change encN (allS (numRS ⟨b, 0, 0⟩ 2048).1 (numRS ⟨b, 0, 0⟩ 2048).2).2.length ++ _ = b
    rw [hlen]
    conv => rhs; rw [g3, g2]
    rfl
  · rw [if_pos (by simpa using he)] at h
    exact absurd h he
end Go.Proofs.YtecolkpnllikaaaDoor
