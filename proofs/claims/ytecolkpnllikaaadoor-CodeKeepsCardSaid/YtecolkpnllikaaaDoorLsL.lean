/- Plain listing and parsing of instructions: what is listed is parsed as it was, and the other way round. No program in sight. -/
import Derived.Test.YtecolkpnllikaaaDoorLsS
import Derived.Test.YtecolkpnllikaaaDoorCodeK
namespace Go.Proofs.YtecolkpnllikaaaDoor
open Go.Lib

/-! ### A line -/
def nums (i : Ins) : List Int := [i.a, i.b, i.c].take (hasB i.op).length
def lineW (i : Ins) : List UInt8 := nameB i.op ++ (nums i).flatMap (fun n => 32 :: itoa n)
def listW (l : List Ins) : List UInt8 := l.flatMap (fun i => lineW i ++ [10])
def opOf (s : List UInt8) : Option Nat := nameL.findIdx? (fun x => decide (x = s))
/-- The first error of the first k pieces behind a name; and the numbers that those are. -/
def errA (ps : List (List UInt8)) : Nat → Int
  | 0 => 0
  | k + 1 => if errA ps k ≠ 0 then errA ps k else (numberE (ps.getD k [])).2
def valA (ps : List (List UInt8)) (j k : Nat) : Int := if k < j then (numberE (ps.getD k [])).1 else 0
def zeroI : Ins := ⟨0, 0, 0, 0⟩
def argsE (op : Nat) (ps : List (List UInt8)) : Ins × Int :=
  if errA ps (min ps.length (hasB op).length) ≠ 0 then (zeroI, errA ps (min ps.length (hasB op).length))
  else if ps.length ≠ (hasB op).length then (zeroI, 3)
  else (⟨op, valA ps ps.length 0, valA ps ps.length 1, valA ps ps.length 2⟩, 0)
def lineE (t : List UInt8) : Ins × Int :=
  if t = [] then (zeroI, 3)
  else match opOf ((pieces 32 t).headD []) with
    | none => (zeroI, 6)
    | some op => argsE op (pieces 32 t).tail

theorem op_facts : ∀ op : Fin 22, opOf (nameB (op.val : Int)) = some op.val ∧ (32 : UInt8) ∉ nameB (op.val : Int) ∧ (10 : UInt8) ∉ nameB (op.val : Int) ∧ nameB (op.val : Int) ≠ [] ∧ (hasB (op.val : Int)).length ≤ 3 ∧ nameL.getD op.val [] = nameB (op.val : Int) := by decide +kernel
theorem op_name {s : List UInt8} {k : Nat} (h : opOf s = some k) : k < 22 ∧ nameB (k : Int) = s := by
  unfold opOf at h
  rw [List.findIdx?_eq_some_iff_getElem] at h
  obtain ⟨hk, h1, _⟩ := h
  have hk22 : k < 22 := hk
  refine ⟨hk22, ?_⟩
  have h2 := (op_facts ⟨k, hk22⟩).2.2.2.2.2
  simp only at h2
  rw [← h2, List.getD_eq_getElem?_getD, List.getElem?_eq_getElem hk]
  simpa using h1
theorem itoa_sign (n : Int) : ∀ c ∈ itoa n, isDig c = true ∨ c = 45 := by
  intro c hc
  unfold itoa at hc
  split at hc
  · rcases List.mem_cons.1 hc with rfl | hc
    · exact .inr rfl
    · exact .inl (dec_digs _ c hc)
  · exact .inl (dec_digs _ c hc)
theorem itoa_none (n : Int) : (32 : UInt8) ∉ itoa n ∧ (10 : UInt8) ∉ itoa n := by
  constructor <;> intro h <;> rcases itoa_sign n _ h with h1 | h1 <;> exact absurd h1 (by decide)
theorem lineW_glue (i : Ins) : lineW i = glue 32 (nameB i.op :: (nums i).map itoa) := by
  rw [glue_cons]
  unfold lineW
  rw [List.flatMap_map]
theorem op_fin {i : Ins} {size words : Int} (h : i.right size words = true) : ∃ op : Nat, op < 22 ∧ i.op = (op : Int) := by
  have h1 : isB i.op = true := by
    unfold Ins.right rightB at h
    simp only [Bool.and_eq_true] at h
    exact h.1.1
  obtain ⟨h2, h3⟩ := isB_iff.1 h1
  exact ⟨i.op.toNat, by omega, by omega⟩
theorem right_nums {i : Ins} {size : Int} (hs : size ≤ 1000000) (h : i.right size 256 = true) : ∀ k, k < (nums i).length → rightN ((nums i).getD k 0) = true := by
  intro k hk
  unfold Ins.right rightB at h
  simp only [Bool.and_eq_true] at h
  obtain ⟨⟨_, ⟨⟨h0, h1⟩, h2⟩⟩, _⟩ := h
  have hl : k < (hasB i.op).length ∧ k < 3 := by
    unfold nums at hk
    simp only [List.length_take, List.length_cons, List.length_nil] at hk
    omega
  have key : ∀ (j : Nat) (n : Int), okN i.op size 256 j n = true → j < (hasB i.op).length → rightN n = true := by
    intro j n hok hj
    unfold okN at hok
    have hsz : (hasOf i.op).size = (hasB i.op).length := by unfold hasOf; simp [ByteArray.size]
    rw [if_pos (by omega)] at hok
    unfold rightN
    split at hok
    · simp only [Bool.and_eq_true, decide_eq_true_eq] at hok ⊢; omega
    split at hok
    · simp only [Bool.and_eq_true, decide_eq_true_eq] at hok ⊢; omega
    · unfold inR at hok; exact hok
  have hg : (nums i).getD k 0 = [i.a, i.b, i.c].getD k 0 := by
    unfold nums
    rw [List.getD_eq_getElem?_getD, List.getElem?_take_of_lt hl.1, List.getD_eq_getElem?_getD]
  rw [hg]
  rcases (by omega : k = 0 ∨ k = 1 ∨ k = 2) with rfl | rfl | rfl
  · exact key 0 _ h0 hl.1
  · exact key 1 _ h1 hl.1
  · exact key 2 _ h2 hl.1
theorem right_rest {i : Ins} {size words : Int} (h : i.right size words = true) : ((hasB i.op).length ≤ 0 → i.a = 0) ∧ ((hasB i.op).length ≤ 1 → i.b = 0) ∧ ((hasB i.op).length ≤ 2 → i.c = 0) := by
  unfold Ins.right rightB at h
  simp only [Bool.and_eq_true] at h
  obtain ⟨⟨_, ⟨⟨h0, h1⟩, h2⟩⟩, _⟩ := h
  have hsz : (hasOf i.op).size = (hasB i.op).length := by unfold hasOf; simp [ByteArray.size]
  have key : ∀ (j : Nat) (n : Int), okN i.op size words j n = true → (hasB i.op).length ≤ j → n = 0 := by
    intro j n hok hj
    unfold okN at hok
    rw [if_neg (by omega)] at hok
    simpa using hok
  exact ⟨key 0 _ h0, key 1 _ h1, key 2 _ h2⟩
theorem map_getD {l : List Int} {k : Nat} (h : k < l.length) : (l.map itoa).getD k [] = itoa (l.getD k 0) := by
  rw [List.getD_eq_getElem?_getD, List.getElem?_map, List.getD_eq_getElem?_getD, List.getElem?_eq_getElem h]
  rfl
theorem errA_none {l : List Int} (h : ∀ k, k < l.length → rightN (l.getD k 0) = true) : ∀ k, k ≤ l.length → errA (l.map itoa) k = 0
  | 0, _ => rfl
  | k + 1, hk => by
    unfold errA
    rw [if_neg (by rw [errA_none h k (by omega)]; simp), map_getD (by omega), number_itoa (h k (by omega))]
theorem line_back {i : Ins} {size : Int} (hs : size ≤ 1000000) (h : i.right size 256 = true) : lineE (lineW i) = (i, 0) := by
  obtain ⟨op, hop, e⟩ := op_fin h
  obtain ⟨f1, f2, f3, f4, f5, _⟩ := op_facts ⟨op, hop⟩
  simp only at f1 f2 f3 f4 f5
  have hp : pieces 32 (lineW i) = nameB i.op :: (nums i).map itoa := by
    rw [lineW_glue]
    refine pieces_glue (by simp) fun p hp => ?_
    rcases List.mem_cons.1 hp with rfl | hp
    · rw [e]; exact f2
    · obtain ⟨n, _, rfl⟩ := List.mem_map.1 hp
      exact (itoa_none n).1
  have hne : lineW i ≠ [] := by
    unfold lineW
    rw [e]
    simp [f4]
  have hr := right_nums hs h
  have hln : (nums i).length = (hasB i.op).length := by
    unfold nums
    simp only [List.length_take, List.length_cons, List.length_nil]
    rw [e]
    omega
  unfold lineE
  rw [if_neg hne, hp]
  simp only [List.headD_cons, List.tail_cons]
  rw [e, f1]
  simp only
  unfold argsE
  rw [← e]
  have hle : ((nums i).map itoa).length = (nums i).length := by simp
  rw [hle, hln, Nat.min_self, errA_none hr _ (by omega), if_neg (by simp), if_neg (by simp)]
  obtain ⟨z0, z1, z2⟩ := right_rest h
  have hv : ∀ k, valA ((nums i).map itoa) (hasB i.op).length k = if k < (hasB i.op).length then [i.a, i.b, i.c].getD k 0 else 0 := by
    intro k
    unfold valA
    by_cases hk : k < (hasB i.op).length
    · rw [if_pos hk, if_pos hk, map_getD (by omega), number_itoa (hr k (by omega))]
      unfold nums
      rw [List.getD_eq_getElem?_getD, List.getElem?_take_of_lt hk, List.getD_eq_getElem?_getD]
    · rw [if_neg hk, if_neg hk]
  rw [hv, hv, hv]
  obtain ⟨io, ia, ib, ic⟩ := i
  simp only at e z0 z1 z2 ⊢
  congr 1
  congr 1
  · split
    · rfl
    · exact (z0 (by omega)).symm
  · split
    · rfl
    · exact (z1 (by omega)).symm
  · split
    · rfl
    · exact (z2 (by omega)).symm
theorem errA_zero {ps : List (List UInt8)} : ∀ {m : Nat}, errA ps m = 0 → ∀ k, k < m → (numberE (ps.getD k [])).2 = 0
  | 0, _, k, hk => absurd hk (by omega)
  | m + 1, h, k, hk => by
    unfold errA at h
    split at h
    · rename_i h1; exact absurd h h1
    · rename_i h1
      rcases Nat.lt_or_ge k m with h2 | h2
      · exact errA_zero (by simpa using h1) k h2
      · obtain rfl : k = m := by omega
        exact h
theorem line_of {t : List UInt8} {i : Ins} (h : lineE t = (i, 0)) : lineW i = t := by
  unfold lineE at h
  split at h
  · simp at h
  rename_i hne
  have hg := glue_pieces 32 t
  cases hp : pieces 32 t with
  | nil => exact absurd hp (pieces_ne _ _)
  | cons p ps =>
    rw [hp] at h hg
    simp only [List.headD_cons, List.tail_cons] at h
    split at h
    · simp at h
    rename_i op hop
    obtain ⟨hop22, hname⟩ := op_name hop
    unfold argsE at h
    split at h
    · rename_i h1; simp only [Prod.mk.injEq] at h; exact absurd h.2 h1
    rename_i h1
    split at h
    · simp at h
    rename_i h2
    have h1' : errA ps (min ps.length (hasB op).length) = 0 := by simpa using h1
    have h2' : ps.length = (hasB op).length := by simpa using h2
    rw [h2', Nat.min_self] at h1'
    have hall := errA_zero h1'
    have hi : i = ⟨(op : Int), valA ps ps.length 0, valA ps ps.length 1, valA ps ps.length 2⟩ := by simp only [Prod.mk.injEq] at h; exact h.1.symm
    have hl3 := (op_facts ⟨op, hop22⟩).2.2.2.2.1
    simp only at hl3
    have hv : ∀ k, k < ps.length → itoa (valA ps ps.length k) = ps.getD k [] := by
      intro k hk
      unfold valA
      rw [if_pos hk]
      exact (number_back (Prod.ext rfl (hall k (by omega)))).2
    have hm : (nums i).map itoa = ps := by
      apply List.ext_getElem
      · rw [hi]; simp only [nums, List.length_map, List.length_take, List.length_cons, List.length_nil]; omega
      · intro k hk1 hk2
        have e1 : ((nums i).map itoa).getD k [] = itoa ((nums i).getD k 0) := map_getD (by simpa using hk1)
        have e2 : (nums i).getD k 0 = valA ps ps.length k := by
          rw [hi]
          unfold nums
          rw [List.getD_eq_getElem?_getD, List.getElem?_take_of_lt (by show k < (hasB (op : Int)).length; omega)]
          rcases (by omega : k = 0 ∨ k = 1 ∨ k = 2) with rfl | rfl | rfl <;> rfl
        rw [e2, hv k hk2] at e1
        simp only [List.getD_eq_getElem?_getD, List.getElem?_eq_getElem hk1, List.getElem?_eq_getElem hk2] at e1
        exact e1
    rw [lineW_glue, hm, hi]
    simp only
    rw [hname]
    exact hg
theorem line_none {i : Ins} {size words : Int} (h : i.right size words = true) : (10 : UInt8) ∉ lineW i := by
  obtain ⟨op, hop, e⟩ := op_fin h
  obtain ⟨f1, f2, f3, f4, f5, _⟩ := op_facts ⟨op, hop⟩
  simp only at f3
  unfold lineW
  rw [e]
  intro hm
  rcases List.mem_append.1 hm with h1 | h1
  · exact f3 h1
  · obtain ⟨n, _, hn⟩ := List.mem_flatMap.1 h1
    rcases List.mem_cons.1 hn with h2 | h2
    · exact absurd h2 (by decide)
    · exact (itoa_none n).2 h2

/-! ### A text -/
def stepE (s : List UInt8) : Ins × Int := ((lineE (cut s [10]).1).1, if (lineE (cut s [10]).1).2 = 0 ∧ (cut s [10]).2.2 = false then 4 else (lineE (cut s [10]).1).2)
def goT (s : List UInt8) (line : Nat) (acc : List Ins) : List Ins × Int × Int :=
  if _h : s = [] then (if (checkI acc 256).2 ≠ 0 then ([], 0, (checkI acc 256).2) else (acc, 0, 0))
  else if (stepE s).2 ≠ 0 then ([], (line : Int), (stepE s).2) else goT (cut s [10]).2.1 (line + 1) (acc ++ [(stepE s).1])
termination_by s.length
decreasing_by exact cut_shorter s 10 _h
/-- The instructions that a text lists; else the line where it doesn't, and the error. -/
def parseT (s : List UInt8) : List Ins × Int × Int := if 131072 < s.length then ([], 0, 2) else goT s 1 []
theorem goT_nil (line : Nat) (acc : List Ins) : goT [] line acc = if (checkI acc 256).2 ≠ 0 then ([], 0, (checkI acc 256).2) else (acc, 0, 0) := by
  rw [goT, dif_pos rfl]
theorem goT_bad {s : List UInt8} {line : Nat} {acc : List Ins} (h : s ≠ []) (he : (stepE s).2 ≠ 0) : goT s line acc = ([], (line : Int), (stepE s).2) := by
  rw [goT, dif_neg h, if_pos he]
theorem goT_good {s : List UInt8} {line : Nat} {acc : List Ins} (h : s ≠ []) (he : (stepE s).2 = 0) : goT s line acc = goT (cut s [10]).2.1 (line + 1) (acc ++ [(stepE s).1]) := by
  rw [goT, dif_neg h, if_neg (by simpa using he)]
theorem go_line {i : Ins} {size : Int} (hs : size ≤ 1000000) (h : i.right size 256 = true) (r : List UInt8) (line : Nat) (acc : List Ins) :
    goT (lineW i ++ 10 :: r) line acc = goT r (line + 1) (acc ++ [i]) := by
  have hc := cut_line r (line_none h)
  have hb := line_back hs h
  have hstep : stepE (lineW i ++ 10 :: r) = (i, 0) := by
    unfold stepE
    rw [hc]
    simp only
    rw [hb]
    simp
  rw [goT_good (by simp) (by rw [hstep]), hstep, hc]
theorem go_lines {size : Int} (hs : size ≤ 1000000) : ∀ (l : List Ins), (∀ i ∈ l, i.right size 256 = true) → ∀ (r : List UInt8) (line : Nat) (acc : List Ins),
    goT (listW l ++ r) line acc = goT r (line + l.length) (acc ++ l)
  | [], _, r, line, acc => by simp [listW]
  | i :: l, h, r, line, acc => by
    have e : listW (i :: l) ++ r = lineW i ++ 10 :: (listW l ++ r) := by simp [listW]
    rw [e, go_line hs (h i (by simp)), go_lines hs l (fun j hj => h j (by simp [hj]))]
    simp only [List.length_cons, List.append_assoc, List.singleton_append]
    congr 1
    omega
theorem check_all {l : List Ins} (h : (checkI l 256).2 = 0) : (l.length : Int) ≤ 1000000 ∧ l ≠ [] ∧ ∀ i ∈ l, i.right l.length 256 = true := by
  unfold checkI at h
  split at h
  · simp at h
  rename_i hr
  split at h
  · simp at h
  rename_i hn
  refine ⟨by omega, fun e => hr (by rw [e]; simp), fun i hi => ?_⟩
  rw [List.findIdx?_eq_none_iff] at hn
  have := hn i hi
  simpa using this
theorem parse_list {l : List Ins} (h : (checkI l 256).2 = 0) (hs : (listW l).length ≤ 131072) : parseT (listW l) = (l, 0, 0) := by
  obtain ⟨h1, _, h2⟩ := check_all h
  have hg := go_lines h1 l h2 [] 1 []
  rw [List.append_nil, List.nil_append] at hg
  unfold parseT
  rw [if_neg (by omega), hg, goT_nil, if_neg (by simpa using h)]
def flyL : List UInt8 := [102, 108, 121, 32, 49, 10]
theorem parse_fly {l : List Ins} (h : (checkI l 256).2 = 0) (hs : (listW l ++ flyL).length ≤ 131072) : parseT (listW l ++ flyL) = ([], (l.length : Int) + 1, 6) := by
  obtain ⟨h1, _, h2⟩ := check_all h
  have hg := go_lines h1 l h2 flyL 1 []
  rw [List.nil_append] at hg
  have hf : (stepE flyL).2 = 6 := by decide +kernel
  unfold parseT
  rw [if_neg (by omega), hg, goT_bad (by decide) (by rw [hf]; decide), hf]
  simp only [Prod.mk.injEq, true_and, and_true]
  omega
theorem go_back : ∀ (n : Nat) (s : List UInt8) (line : Nat) (acc y : List Ins) (ln : Int), s.length = n → goT s line acc = (y, ln, 0) → ln = 0 ∧ (checkI y 256).2 = 0 ∧ ∃ m, y = acc ++ m ∧ listW m = s := by
  intro n
  induction n using Nat.strongRecOn with
  | ind n ih =>
    intro s line acc y ln hn h
    by_cases hs : s = []
    · subst hs
      rw [goT_nil] at h
      split at h
      · rename_i h1
        simp only [Prod.mk.injEq] at h
        exact absurd h.2.2 h1
      · rename_i h1
        simp only [Prod.mk.injEq] at h
        refine ⟨h.2.1.symm, ?_, [], ?_, rfl⟩
        · rw [← h.1]; simpa using h1
        · simp [h.1]
    · by_cases he : (stepE s).2 = 0
      · rw [goT_good hs he] at h
        obtain ⟨a, b, m, c, d⟩ := ih _ (by rw [← hn]; exact cut_shorter s 10 hs) _ _ _ _ _ rfl h
        refine ⟨a, b, (stepE s).1 :: m, by rw [c]; simp, ?_⟩
        rcases cut_cases 10 s with ⟨t, r, e, _, h2⟩ | ⟨_, h2⟩
        · unfold stepE at he ⊢
          rw [h2] at he d ⊢
          simp only [Bool.true_eq_false, and_false, if_false] at he d ⊢
          have hl : lineW (lineE t).1 = t := line_of (Prod.ext rfl he)
          have e2 : listW ((lineE t).1 :: m) = lineW (lineE t).1 ++ 10 :: listW m := by simp [listW]
          rw [e2, hl, d, e]
        · unfold stepE at he
          rw [h2] at he
          simp only [and_true] at he
          split at he
          · exact absurd he (by decide)
          · rename_i h3; exact absurd he h3
      · rw [goT_bad hs he] at h
        simp only [Prod.mk.injEq] at h
        exact absurd h.2.2 he
theorem parse_back {s : List UInt8} {y : List Ins} {ln : Int} (h : parseT s = (y, ln, 0)) : ln = 0 ∧ (checkI y 256).2 = 0 ∧ listW y = s := by
  unfold parseT at h
  split at h
  · simp at h
  · obtain ⟨a, b, m, c, d⟩ := go_back _ _ _ _ _ _ rfl h
    rw [List.nil_append] at c
    exact ⟨a, b, by rw [c]; exact d⟩
theorem go_none : ∀ (n : Nat) (s : List UInt8) (line : Nat) (acc : List Ins), s.length = n → (goT s line acc).2.2 ≠ 0 → (goT s line acc).1 = [] := by
  intro n
  induction n using Nat.strongRecOn with
  | ind n ih =>
    intro s line acc hn h
    by_cases hs : s = []
    · subst hs
      rw [goT_nil] at h ⊢
      split
      · rfl
      · rename_i h1; rw [if_neg h1] at h; exact absurd rfl h
    · by_cases he : (stepE s).2 = 0
      · rw [goT_good hs he] at h ⊢
        exact ih _ (by rw [← hn]; exact cut_shorter s 10 hs) _ _ _ rfl h
      · rw [goT_bad hs he]
theorem parse_none {s : List UInt8} (h : (parseT s).2.2 ≠ 0) : (parseT s).1 = [] := by
  unfold parseT at h ⊢
  split
  · rfl
  · rename_i h1; rw [if_neg h1] at h; exact go_none _ _ _ _ rfl h
theorem line_len {i : Ins} {size : Int} (hs : size ≤ 1000000) (h : i.right size 256 = true) : (lineW i ++ [10]).length ≤ 60 := by
  obtain ⟨op, hop, e⟩ := op_fin h
  have hnm : ∀ o : Fin 22, (nameB (o.val : Int)).length ≤ 6 := by decide +kernel
  have h1 := hnm ⟨op, hop⟩
  simp only at h1
  have h3 : (nums i).length ≤ 3 := by unfold nums; simp only [List.length_take, List.length_cons, List.length_nil]; omega
  have hr := right_nums hs h
  have key : ∀ (l : List Int), (∀ k, k < l.length → rightN (l.getD k 0) = true) → (l.flatMap (fun n => 32 :: itoa n)).length ≤ l.length * 12 := by
    intro l
    induction l with
    | nil => intro _; simp
    | cons n l ih =>
      intro hl
      have hn := hl 0 (by simp)
      simp only [List.getD_cons_zero] at hn
      have hn' := ih (fun k hk => by have := hl (k + 1) (by simp; omega); simpa using this)
      have hlen : (itoa n).length ≤ 11 := by
        unfold rightN at hn
        simp only [Bool.and_eq_true, decide_eq_true_eq] at hn
        unfold itoa
        split
        · have := dec_len (u := n.natAbs) (by omega); simp; omega
        · have := dec_len (u := n.toNat) (by omega); omega
      simp only [List.flatMap_cons, List.length_append, List.length_cons]
      omega
  have := key _ hr
  unfold lineW
  rw [e]
  simp only [List.length_append, List.length_cons, List.length_nil]
  omega
theorem list_len {size : Int} (hs : size ≤ 1000000) : ∀ (l : List Ins), (∀ i ∈ l, i.right size 256 = true) → (listW l).length ≤ 60 * l.length
  | [], _ => by simp [listW]
  | i :: l, h => by
    have h1 := line_len hs (h i (by simp))
    have h2 := list_len hs l (fun j hj => h j (by simp [hj]))
    have e : listW (i :: l) = (lineW i ++ [10]) ++ listW l := by simp [listW]
    rw [e, List.length_append, List.length_cons]
    omega
end Go.Proofs.YtecolkpnllikaaaDoor
