/- The walk of layer 14's Right: whether an instruction may be. Condition: the table of operations reads as laid. -/
import Derived.Test.YtecolkpnllikaaaDoorCodeE
namespace Go.Proofs.YtecolkpnllikaaaDoor
open Go.RowKit Go.Lib

def inR (n : Int) : Bool := decide (-2147483648 ≤ n) && decide (n ≤ 2147483647)
theorem inR_yes {n : Int} (h0 : -2147483648 ≤ n) (h1 : n ≤ 2147483647) : inR n = true := by simp [inR, h0, h1]
theorem inR_no {n : Int} (h : n < -2147483648 ∨ 2147483647 < n) : inR n = false := by simp [inR]; omega
theorem right1_any (n : Int) (w : World) : Calls Tryd.prog 40 #[.int .i64 n] w fun e w' => e = .returned (.bool (inR n)) ∧ w = w' := by
  by_cases h0 : -2147483648 ≤ n
  · by_cases h1 : n ≤ 2147483647
    · have H := Lib.hid (inR_yes h0 h1)
      go_enter Tryd.func40, Tryd.ntmps40
      go_wp2
      go_ret
      exact ⟨ret_bool H.out.symm, rfl⟩
    · have H := Lib.hid (inR_no (.inr (by omega : 2147483647 < n)))
      have hd : decide (n ≤ 2147483647) = false := decide_eq_false h1
      clear h1
      go_enter Tryd.func40, Tryd.ntmps40
      go_wp2
      go_ret
      exact ⟨ret_bool H.out.symm, rfl⟩
  · have H := Lib.hid (inR_no (.inl (by omega : n < -2147483648)))
    have hd : decide (-2147483648 ≤ n) = false := decide_eq_false h0
    clear h0
    go_enter Tryd.func40, Tryd.ntmps40
    go_wp2
    go_ret
    exact ⟨ret_bool H.out.symm, rfl⟩

/-- May n be the number at place k? -/
def okN (op size words : Int) (k : Nat) (n : Int) : Bool :=
  if k < (hasOf op).size then (if chr op k = 119 then decide (0 ≤ n) && decide (n < words) else if chr op k = 112 then decide (0 ≤ n) && decide (n < size) else inR n) else decide (n = 0)
def lastB (op a b c : Int) : Bool := if op = 0 then decide (a = 0) || decide (a = 1) else if op = 17 then decide (b ≤ c) else if op = 18 then decide (0 ≤ c) else true
def rightB (op a b c size words : Int) : Bool :=
  isB op && (okN op size words 0 a && okN op size words 1 b && okN op size words 2 c) && lastB op a b c
theorem rightB_no {op a b c size words : Int} {k : Nat} (hk : k < 3) (h : okN op size words k (three a b c k) = false) : rightB op a b c size words = false := by
  match k, hk with
  | 0, _ => simp [rightB, show okN op size words 0 a = false from h]
  | 1, _ => simp [rightB, show okN op size words 1 b = false from h]
  | 2, _ => simp [rightB, show okN op size words 2 c = false from h]
theorem rightB_yes {op a b c size words : Int} (h0 : isB op = true) (h : ∀ j, j < 3 → okN op size words j (three a b c j) = true) : rightB op a b c size words = lastB op a b c := by
  simp [rightB, h0, show okN op size words 0 a = true from h 0 (by omega), show okN op size words 1 b = true from h 1 (by omega), show okN op size words 2 c = true from h 2 (by omega)]
theorem snoc_ok {op size words a b c : Int} {k : Nat} (h : ∀ j, j < k → okN op size words j (three a b c j) = true) (hk : okN op size words k (three a b c k) = true) : ∀ j, j < k + 1 → okN op size words j (three a b c j) = true := by
  intro j hj
  rcases Nat.lt_or_ge j k with h1 | h1
  · exact h j h1
  · obtain rfl : j = k := by omega
    exact hk
theorem chr_get {op : Int} {k : Nat} (h : k < (hasOf op).size) : (hasOf op)[k]'h = chr op k := by
  have := chr_at h
  have h2 := (List.getElem?_eq_some_iff.1 this).2
  rw [← h2]; rfl
theorem chr_is {op : Int} {k : Nat} (h : k < (hasOf op).size) (n : UInt8) : (((((hasOf op)[k]'h).toNat : Nat) : Int) == ((n.toNat : Nat) : Int)) = (chr op k == n) := by
  rw [chr_get h, Bool.eq_iff_iff]
  simp only [beq_iff_eq]
  constructor
  · intro e; exact UInt8.toNat_inj.1 (by omega)
  · intro e; rw [e]
theorem ix3_0 (a b c : Int) (w : World) : (Instr.index 67 (.agg #[.int .i64 a, .int .i64 b, .int .i64 c]) (.int .i64 0)).run Tryd.prog w = .ok (.int .i64 a) w := by kernel_rfl
theorem ix3_1 (a b c : Int) (w : World) : (Instr.index 67 (.agg #[.int .i64 a, .int .i64 b, .int .i64 c]) (.int .i64 1)).run Tryd.prog w = .ok (.int .i64 b) w := by kernel_rfl
theorem ix3_2 (a b c : Int) (w : World) : (Instr.index 67 (.agg #[.int .i64 a, .int .i64 b, .int .i64 c]) (.int .i64 2)).run Tryd.prog w = .ok (.int .i64 c) w := by kernel_rfl
theorem hix3 (a b c : Int) (k : Nat) (hk : k < 3) (w : World) : (Instr.index 67 (.agg #[.int .i64 a, .int .i64 b, .int .i64 c]) (.int .i64 (k : Int))).run Tryd.prog w = .ok (.int .i64 (three a b c k)) w := by
  rcases (by omega : k = 0 ∨ k = 1 ∨ k = 2) with rfl | rfl | rfl
  · exact ix3_0 a b c w
  · exact ix3_1 a b c w
  · exact ix3_2 a b c w

set_option maxRecDepth 100000 in
set_option maxHeartbeats 2000000 in
theorem right_yes (op a b c size words : Int) (w : World) (hT : OpTab w) (h0 : 0 ≤ op) (h1 : op < 22) :
    Calls Tryd.prog 23 #[.agg #[.int .i64 op, .int .i64 a, .int .i64 b, .int .i64 c], .int .i64 size, .int .i64 words] w fun e w' => e = .returned (.bool (rightB op a b c size words)) ∧ Below w.heap.size w w' := by
  have hB := isB_yes h0 h1
  have HB := Lib.hid hB
  have HT := Lib.hid (hT.alloc (.cells #[.int .i64 op, .int .i64 a, .int .i64 b, .int .i64 c] 24))
  have hsz := hasOf_size op
  clear hT hB
  go_enter Tryd.func23, Tryd.ntmps23
  go_wp2_with (first
    | (go_at_call 38; refine (is_yes _ _ h0 h1).mono ?_; rintro e w' ⟨rfl, rfl⟩)
    | (go_at_call 34; refine (has_any _ _ _ _ _ HT.out).mono ?_; rintro e w1 ⟨rfl, hb⟩; have hB1 := block_below (heap_alloc_new w _) hb (by simp); have HB1 := Lib.hid hB1; have c0 := block_cell hB1 0; have c1 := block_cell hB1 1; have c2 := block_cell hB1 2; have c3 := block_cell hB1 3; have Hb1 := Lib.hid hb; clear hb hB1)
    | (go_at_call 33; refine (three_any _ _ _ _ _).mono ?_; rintro e w2 ⟨rfl, hb⟩; have HB2 := Lib.hid (block_below HB1.out hb (block_lt HB1.out)); have Hb2 := Lib.hid ((((Below.refl _ _).alloc (Nat.le_refl _) _).trans (Hb1.out.mono (by simp))).trans (hb.mono (by have := Hb1.out.size; simp at this; omega))); clear hb))
  clear c0 c1 c2 c3
  go_loopw [19] (fun i wr => ∃ k : Nat, k ≤ 3 ∧ i = .int .i64 k ∧ (∀ j, j < k → okN op size words j (three a b c j) = true) ∧ wr.heap[w.heap.size]? = some (.cells #[.int .i64 op, .int .i64 a, .int .i64 b, .int .i64 c] 24) ∧ Below w.heap.size w wr) (fun i _ => 3 - (intOf i).toNat)
  case atStart => exact ⟨0, by omega, rfl, fun j hj => absurd hj (by omega), HB2.out, Hb2.out⟩
  case round =>
    obtain ⟨k, hk, rfl, hok, hbx, hbel⟩ := hrel
    have Hok := Lib.hid hok; clear hok
    have c0 := block_cell hbx 0
    have c1 := block_cell hbx 1
    have c2 := block_cell hbx 2
    have c3 := block_cell hbx 3
    simp at c0 c1 c2 c3
    by_cases hlt : k < 3
    · have hix := fun w => hix3 a b c k hlt w
      generalize hn : three a b c k = n at *
      have hi0 : (0 : Int) ≤ (k : Int) := by omega
      by_cases hs : k < (hasOf op).size
      · have hi1 : (k : Int) < ((hasOf op).size : Int) := by omega
        have e1 := chr_is hs 119
        have e2 := chr_is hs 112
        by_cases hw : chr op k = 119
        · rw [hw] at e1 e2
          have t1 : (((((hasOf op)[k]'hs).toNat : Nat) : Int) == 119) = true := e1
          clear e1 e2
          by_cases q0 : 0 ≤ n
          · by_cases q1 : n < words
            ·
              have hk1 : okN op size words k (three a b c k) = true := by simp [okN, hs, hw, hn, q0, q1]
              have Hk := Lib.hid hk1; clear hk1
              clear hw hn
              go_wp2
              go_roundw
              case rel => exact ⟨k + 1, by omega, by go_num, snoc_ok Hok.out Hk.out, hbx, hbel⟩
              case measure => simp [intOf]; omega
            ·
              have hk1 : okN op size words k (three a b c k) = false := by simp [okN, hs, hw, hn, q0, q1]
              have Hk := Lib.hid hk1; clear hk1
              have qd : decide (n < words) = false := decide_eq_false q1
              clear hw hn q1
              go_wp2
              go_ret
              exact ⟨ret_bool (rightB_no hlt Hk.out).symm, hbel⟩
          ·
            have hk1 : okN op size words k (three a b c k) = false := by simp [okN, hs, hw, hn, q0]
            have Hk := Lib.hid hk1; clear hk1
            have qd : decide (0 ≤ n) = false := decide_eq_false q0
            clear hw hn q0
            go_wp2
            go_ret
            exact ⟨ret_bool (rightB_no hlt Hk.out).symm, hbel⟩
        · have t1 : (((((hasOf op)[k]'hs).toNat : Nat) : Int) == 119) = false := by
            have : (chr op k == 119) = false := by simpa using hw
            rw [this] at e1; exact e1
          by_cases hp : chr op k = 112
          · rw [hp] at e2
            have t2 : (((((hasOf op)[k]'hs).toNat : Nat) : Int) == 112) = true := e2
            clear e1 e2
            by_cases q0 : 0 ≤ n
            · by_cases q1 : n < size
              ·
                have hk1 : okN op size words k (three a b c k) = true := by simp [okN, hs, hp, hn, q0, q1]
                have Hk := Lib.hid hk1; clear hk1
                clear hw hp hn
                go_wp2
                go_roundw
                case rel => exact ⟨k + 1, by omega, by go_num, snoc_ok Hok.out Hk.out, hbx, hbel⟩
                case measure => simp [intOf]; omega
              ·
                have hk1 : okN op size words k (three a b c k) = false := by simp [okN, hs, hp, hn, q0, q1]
                have Hk := Lib.hid hk1; clear hk1
                have qd : decide (n < size) = false := decide_eq_false q1
                clear hw hp hn q1
                go_wp2
                go_ret
                exact ⟨ret_bool (rightB_no hlt Hk.out).symm, hbel⟩
            ·
              have hk1 : okN op size words k (three a b c k) = false := by simp [okN, hs, hp, hn, q0]
              have Hk := Lib.hid hk1; clear hk1
              have qd : decide (0 ≤ n) = false := decide_eq_false q0
              clear hw hp hn q0
              go_wp2
              go_ret
              exact ⟨ret_bool (rightB_no hlt Hk.out).symm, hbel⟩
          · have t2 : (((((hasOf op)[k]'hs).toNat : Nat) : Int) == 112) = false := by
              have : (chr op k == 112) = false := by simpa using hp
              rw [this] at e2; exact e2
            clear e1 e2
            by_cases q0 : inR n = true
            ·
              have hk1 : okN op size words k (three a b c k) = true := by simp [okN, hs, hw, hp, hn, q0]
              have Hk := Lib.hid hk1; clear hk1
              have Hq := Lib.hid q0
              clear hw hp hn q0
              go_wp2_with (go_at_call 40; refine (right1_any _ _).mono ?_; rintro e w4 ⟨rfl, rfl⟩; rw [Hq.out])
              go_roundw
              case rel => exact ⟨k + 1, by omega, by go_num, snoc_ok Hok.out Hk.out, hbx, hbel⟩
              case measure => simp [intOf]; omega
            · have q1 : inR n = false := by simpa using q0
              have hk1 : okN op size words k (three a b c k) = false := by simp [okN, hs, hw, hp, hn, q1]
              have Hk := Lib.hid hk1; clear hk1
              have Hq := Lib.hid q1
              clear hw hp hn q0 q1
              go_wp2_with (go_at_call 40; refine (right1_any _ _).mono ?_; rintro e w4 ⟨rfl, rfl⟩; rw [Hq.out])
              go_ret
              exact ⟨ret_bool (rightB_no hlt Hk.out).symm, hbel⟩
      · have hge : (hasOf op).size ≤ k := by omega
        by_cases hz : n = 0
        ·
          have hk1 : okN op size words k (three a b c k) = true := by simp [okN, hs, hn, hz]
          have Hk := Lib.hid hk1; clear hk1
          have hz' : (n == 0) = true := by simpa using hz
          clear hz hs hn
          go_wp2
          go_roundw
          case rel => exact ⟨k + 1, by omega, by go_num, snoc_ok Hok.out Hk.out, hbx, hbel⟩
          case measure => simp [intOf]; omega
        ·
          have hk1 : okN op size words k (three a b c k) = false := by simp [okN, hs, hn, hz]
          have Hk := Lib.hid hk1; clear hk1
          have hz' : (n == 0) = false := by simpa using hz
          clear hz hs hn
          go_wp2
          go_ret
          exact ⟨ret_bool (rightB_no hlt Hk.out).symm, hbel⟩
    · have hkn : k = 3 := by omega
      have Hr : Hid (rightB op a b c size words = lastB op a b c) := rightB_yes HB.out (fun j hj => Hok.out j (by omega))
      clear hlt
      by_cases o0 : op = 0
      · subst o0
        by_cases q0 : a = 0
        · have Hl : Hid (lastB 0 a b c = true) := by show lastB 0 a b c = true; simp [lastB, q0]
          have q0' : (a == 0) = true := by simpa using q0
          clear q0
          go_wp2
          go_ret
          exact ⟨ret_bool (by rw [Hr.out, Hl.out]), hbel⟩
        · have q0' : (a == 0) = false := by simpa using q0
          by_cases q1 : a = 1
          · have Hl : Hid (lastB 0 a b c = true) := by show lastB 0 a b c = true; simp [lastB, q1]
            have q1' : (a == 1) = true := by simpa using q1
            clear q0 q1
            go_wp2
            go_ret
            exact ⟨ret_bool (by rw [Hr.out, Hl.out]), hbel⟩
          · have Hl : Hid (lastB 0 a b c = false) := by show lastB 0 a b c = false; simp [lastB, q0, q1]
            have q1' : (a == 1) = false := by simpa using q1
            clear q0 q1
            go_wp2
            go_ret
            exact ⟨ret_bool (by rw [Hr.out, Hl.out]), hbel⟩
      · have o0' : (op == 0) = false := by simpa using o0
        by_cases o1 : op = 17
        · subst o1
          have Hl : Hid (lastB 17 a b c = decide (b ≤ c)) := by show lastB 17 a b c = _; simp [lastB]
          go_wp2
          go_ret
          exact ⟨ret_bool (by rw [Hr.out, Hl.out]), hbel⟩
        · have o1' : (op == 17) = false := by simpa using o1
          by_cases o2 : op = 18
          · subst o2
            have Hl : Hid (lastB 18 a b c = decide (0 ≤ c)) := by show lastB 18 a b c = _; simp [lastB]
            go_wp2
            go_ret
            exact ⟨ret_bool (by rw [Hr.out, Hl.out]), hbel⟩
          · have o2' : (op == 18) = false := by simpa using o2
            have Hl : Hid (lastB op a b c = true) := by show lastB op a b c = true; simp [lastB, o0, o1, o2]
            clear o0 o1 o2
            go_wp2
            go_ret
            exact ⟨ret_bool (by rw [Hr.out, Hl.out]), hbel⟩

theorem right_no (op a b c size words : Int) (w : World) (h : op < 0 ∨ 22 ≤ op) :
    Calls Tryd.prog 23 #[.agg #[.int .i64 op, .int .i64 a, .int .i64 b, .int .i64 c], .int .i64 size, .int .i64 words] w fun e w' => e = .returned (.bool false) ∧ Below w.heap.size w w' := by
  have H := Lib.hid h; clear h
  go_enter Tryd.func23, Tryd.ntmps23
  go_wp2_with (go_at_call 38; refine (is_no _ _ H.out).mono ?_; rintro e w' ⟨rfl, rfl⟩)
  go_ret
  exact ⟨rfl, (Below.refl _ _).alloc (Nat.le_refl _) _⟩
theorem right_any (op a b c size words : Int) (w : World) (hT : OpTab w) :
    Calls Tryd.prog 23 #[.agg #[.int .i64 op, .int .i64 a, .int .i64 b, .int .i64 c], .int .i64 size, .int .i64 words] w fun e w' => e = .returned (.bool (rightB op a b c size words)) ∧ Below w.heap.size w w' := by
  by_cases h : 0 ≤ op ∧ op < 22
  · exact right_yes op a b c size words w hT h.1 h.2
  · refine (right_no op a b c size words w (by omega)).mono fun e w' ⟨he, hw⟩ => ⟨?_, hw⟩
    rw [he, show rightB op a b c size words = false by simp [rightB, isB_no (by omega : op < 0 ∨ 22 ≤ op)]]
end Go.Proofs.YtecolkpnllikaaaDoor
