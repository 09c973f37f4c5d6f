/- The walk of number: the number that a text is. Condition: a bound on its length. -/
import Derived.Test.YtecolkpnllikaaaDoorLsL
import Derived.Test.YtecolkpnllikaaaDoorLsK
import Derived.Test.YtecolkpnllikaaaDoorCodeL
namespace Go.Proofs.YtecolkpnllikaaaDoor
open Go.RowKit Go.Lib
def byt (l : List UInt8) : ByteArray := ⟨l.toArray⟩
theorem byt_data (l : List UInt8) : (byt l).data.toList = l := rfl
theorem byt_self (s : ByteArray) : byt s.data.toList = s := by cases s; simp [byt]
theorem byt_size (l : List UInt8) : (byt l).size = l.length := by simp [byt, ByteArray.size]
theorem byt_inj {a b : List UInt8} (h : byt a = byt b) : a = b := by
  have := congrArg (fun s => s.data.toList) h
  simpa [byt] using this
theorem byt_eq (a b : List UInt8) : ((byt a).toList == (byt b).toList) = decide (a = b) := by
  rw [ByteArray.toList_eq, ByteArray.toList_eq, byt_data, byt_data]
  by_cases h : a = b
  · subst h; simp
  · rw [decide_eq_false h]; simpa using h
theorem byt_list (a b : List UInt8) : ((byt a).toList == b) = decide (a = b) := by
  rw [ByteArray.toList_eq, byt_data]
  by_cases h : a = b
  · subst h; simp
  · rw [decide_eq_false h]; simpa using h
theorem byt_empty (a : List UInt8) : (byt a).toList.isEmpty = decide (a = []) := by
  rw [ByteArray.toList_eq, byt_data]
  cases a <;> simp
theorem byt_byt (a b : List UInt8) : byt a ++ byt b = byt (a ++ b) := by
  unfold byt
  apply ByteArray.ext
  simp
theorem byt_at (l : List UInt8) (k : Nat) (h : k < l.length) (h2 : k < (byt l).size) : (byt l)[k]'h2 = l[k] := by
  have h3 : k < l.toArray.size := by simpa using h
  show l.toArray[k]'h3 = _
  exact List.getElem_toArray h3
theorem byt_first {d : List UInt8} {x : UInt8} (h : 0 < (byt d).size) (h2 : d.head? = some x) : (byt d)[0]'h = x := by
  cases d with
  | nil => simp at h2
  | cons y l =>
    obtain rfl : y = x := by simpa using h2
    rfl
theorem ret_two {a b c d : Int} (h1 : a = c) (h2 : b = d) : Ending.returned (.tuple #[.int .i64 a, .int .i64 b]) = .returned (.tuple #[.int .i64 c, .int .i64 d]) := by rw [h1, h2]
theorem take_valD {d : List UInt8} {k : Nat} (h : k < d.length) : valD (d.take (k + 1)) = 10 * valD (d.take k) + (d[k].toNat - 48) := by
  rw [List.take_succ_eq_append_getElem h, valD_snoc]
set_option maxRecDepth 100000 in
set_option maxHeartbeats 2000000 in
theorem cnum_any (s : List UInt8) (w : World) (hs : s.length ≤ 1000000) :
    Calls Tryd.prog 76 #[.string (byt s)] w fun e w' => e = .returned (.tuple #[.int .i64 (numberE s).1, .int .i64 (numberE s).2]) ∧ Below w.heap.size w w' := by
  have Htp := Lib.hid (fun (u : World) => Tryd.strings_TrimPrefix (byt s) (byt [45]) u)
  have Htr := Lib.hid (fun (l : List UInt8) (u : World) (h : l.length ≤ 1000000) => Tryd.strings_Trim (byt l) (byt tens) u (by rw [byt_size]; omega) (by decide) (ascii_of_all (by decide)))
  have Hdef : Hid (numberE s = _) := Lib.hid (by unfold numberE; rfl)
  have hdl : (Lib.trimPrefix s [45]).length ≤ s.length := by
    unfold Lib.trimPrefix; split
    · rw [List.length_drop]; omega
    · omega
  go_enter Tryd.func76, Tryd.ntmps76
  go_wp2_with fail
  refine (Htp.out _).mono ?_
  rintro e w1 ⟨rfl, rfl⟩
  rw [byt_data, byt_data, show (⟨(Lib.trimPrefix s [45]).toArray⟩ : ByteArray) = byt (Lib.trimPrefix s [45]) from rfl]
  generalize Lib.trimPrefix s [45] = d at *
  have hsz : (byt d).size = d.length := byt_size d
  have hszs : (byt s).size = s.length := byt_size s
  have e1 : (byt d).toList.isEmpty = decide (d = []) := byt_empty d
  have e2 : ((byt s).toList == [45, 48]) = decide (s = [45, 48]) := byt_list s [45, 48]
  have e3 : (byt (Lib.trimS d tens)).toList.isEmpty = decide (Lib.trimS d tens = []) := byt_empty _
  have Hb2 : Hid (Below w1.heap.size w1 w1) := Lib.hid (Below.refl _ _)
  by_cases c1 : d = []
  · have Hres : Hid (numberE s = (0, 3)) := Lib.hid (by rw [Hdef.out, c1]; simp [formN])
    rw [decide_eq_true c1] at e1
    clear e2 e3 c1 hsz hszs
    go_wp2
    go_ret2
    exact ⟨ret_two (by rw [Hres.out]) (by rw [Hres.out]), Hb2.out⟩
  rw [decide_eq_false c1] at e1
  have hpos : 0 < d.length := by cases d with | nil => exact absurd rfl c1 | cons _ _ => simp
  clear Hb2
  go_wp2_with fail
  refine (Htr.out d w1 (by omega)).mono ?_
  rintro e w2 ⟨rfl, hb⟩
  rw [byt_data, byt_data, show (⟨(Lib.trimS d tens).toArray⟩ : ByteArray) = byt (Lib.trimS d tens) from rfl]
  have Hb2 := Lib.hid hb
  clear hb
  by_cases c2 : Lib.trimS d tens = []
  rotate_left
  · have Hres : Hid (numberE s = (0, 3)) := Lib.hid (by rw [Hdef.out]; simp [formN, c2])
    rw [decide_eq_false c2] at e3
    clear e2 c2 hsz hszs
    go_wp2
    go_ret2
    exact ⟨ret_two (by rw [Hres.out]) (by rw [Hres.out]), Hb2.out⟩
  rw [decide_eq_true c2] at e3
  have hdig := (trim_none d).1 c2
  clear c2
  generalize Lib.trimS d tens = tr at *
  by_cases c3 : 1 < d.length ∧ d.head? = some 48
  · have Hres : Hid (numberE s = (0, 3)) := Lib.hid (by rw [Hdef.out]; simp [formN, c3])
    have c5 : decide ((1 : Int) < (d.length : Int)) = true := decide_eq_true (by omega)
    have c6 := fun h => byt_first h c3.2
    clear e2 c3
    go_wp2
    go_ret2
    exact ⟨ret_two (by rw [Hres.out]) (by rw [Hres.out]), Hb2.out⟩
  have hd48 : 1 < d.length → ∀ h : 0 < (byt d).size, ((((byt d)[0]'h).toNat : Int) == 48) = false := by
    intro h1 h
    rw [byt_at d 0 hpos]
    have h2 : d[0] ≠ 48 := by
      intro e
      exact c3 ⟨h1, by rw [List.head?_eq_getElem?, List.getElem?_eq_getElem hpos]; exact congrArg some e⟩
    have h3 : d[0].toNat ≠ 48 := fun e => h2 (UInt8.toNat_inj.1 (by rw [e]; rfl))
    simp only [beq_eq_false_iff_ne, ne_eq]
    omega
  by_cases c4 : s = [45, 48]
  · have Hres : Hid (numberE s = (0, 3)) := Lib.hid (by rw [Hdef.out]; simp [formN, c4])
    rw [decide_eq_true c4] at e2
    clear c4
    by_cases c5 : 1 < d.length
    · have c6 : decide ((1 : Int) < (d.length : Int)) = true := decide_eq_true (by omega)
      have hh := hd48 c5
      have Hres' := Hres
      clear c3
      go_wp2
      go_ret2
      exact ⟨ret_two (by rw [Hres.out]) (by rw [Hres.out]), Hb2.out⟩
    · have c6 : decide ((1 : Int) < (d.length : Int)) = false := decide_eq_false (by omega)
      clear c3 c5
      go_wp2
      go_ret2
      exact ⟨ret_two (by rw [Hres.out]) (by rw [Hres.out]), Hb2.out⟩
  rw [decide_eq_false c4] at e2
  have hform : formN s d = false := by
    unfold formN
    rw [decide_eq_false c1, decide_eq_false c4]
    simp only [Bool.or_false, Bool.false_or, Bool.or_eq_false_iff, decide_eq_false_iff_not, Bool.and_eq_false_iff]
    refine ⟨fun h => h ((trim_none d).2 hdig), ?_⟩
    by_cases h : 1 < d.length
    · exact .inr fun h2 => c3 ⟨h, h2⟩
    · exact .inl h
  have Hres2 : Hid (numberE s = if 10 < d.length then (0, 2) else if rightN (signN s d) = true then (signN s d, 0) else (0, 2)) := Lib.hid (by rw [Hdef.out, hform]; simp)
  clear c3 c4 Hdef hform Htp Htr
  by_cases c7 : 10 < d.length
  · have Hres : Hid (numberE s = (0, 2)) := Lib.hid (by rw [Hres2.out, if_pos c7])
    have c6 : decide ((1 : Int) < (d.length : Int)) = true := decide_eq_true (by omega)
    have c8 : decide ((10 : Int) < (d.length : Int)) = true := decide_eq_true (by omega)
    have hh := hd48 (by omega)
    clear c7 hd48 Hres2
    go_wp2
    go_ret2
    exact ⟨ret_two (by rw [Hres.out]) (by rw [Hres.out]), Hb2.out⟩
  have c8 : decide ((10 : Int) < (d.length : Int)) = false := decide_eq_false (by omega)
  have Hres3 : Hid (numberE s = if rightN (signN s d) = true then (signN s d, 0) else (0, 2)) := Lib.hid (by rw [Hres2.out, if_neg c7])
  clear Hres2
  have key : ∀ k, k ≤ d.length → valD (d.take k) < 10 ^ k := by
    intro k hk
    have h1 := valD_lt (d.take k) (fun c hc => hdig c (List.mem_of_mem_take hc))
    rwa [List.length_take, Nat.min_eq_left hk] at h1
  have Hkey := Lib.hid key
  have Hdig := Lib.hid hdig
  clear key hdig
  by_cases c5 : 1 < d.length
  · have c6 : decide ((1 : Int) < (d.length : Int)) = true := decide_eq_true (by omega)
    have hh := hd48 c5
    clear hd48
    go_wp2
    go_loopw [5, 35] (fun v i wr => ∃ k : Nat, k ≤ d.length ∧ v = .int .i64 ((valD (d.take k) : Nat) : Int) ∧ i = .int .i64 k ∧ wr = w2) (fun _ i _ => d.length - (RowKit.intOf i).toNat)
    case atStart => exact ⟨0, Nat.zero_le _, rfl, rfl, rfl⟩
    case round =>
      obtain ⟨k, hk, rfl, rfl, rfl⟩ := hrel
      have hV := Hkey.out k hk
      have hp : (10 : Nat) ^ k ≤ 10 ^ 10 := Nat.pow_le_pow_right (by decide) (by omega)
      have hp2 : (10 : Nat) ^ 10 = 10000000000 := by decide
      by_cases hlt : k < d.length
      · obtain ⟨c, hc⟩ : ∃ c, d[k] = c := ⟨_, rfl⟩
        have hx : ∀ h, (byt d)[k]'h = c := fun h => (byt_at d k hlt h).trans hc
        have hdg := Hdig.out d[k] (List.getElem_mem hlt)
        have hval := take_valD hlt
        rw [hc] at hdg hval
        have Hval := Lib.hid hval
        simp only [isDig, Bool.and_eq_true, decide_eq_true_eq] at hdg
        clear hval hc
        generalize valD (d.take k) = V at *
        have hc0 := hdg.1
        have hc1 := hdg.2
        clear hdg
        have hw1 : IntKind.u8.wrap ((c.toNat : Int) - 48) = (c.toNat : Int) - 48 := by rw [IntKind.wrap_u8]; omega
        have hw2 : IntKind.i64.wrap ((c.toNat : Int) - 48) = (c.toNat : Int) - 48 := by rw [IntKind.wrap_i64]; omega
        have hV2 : V < 10000000000 := by omega
        clear hV hp hp2
        go_wp2
        go_roundw
        case rel => exact ⟨k + 1, by omega, by rw [Hval.out]; congr 1; omega, by go_num, trivial⟩
        case measure => simp [RowKit.intOf]; omega
      · have hkd : k = d.length := by omega
        rw [hkd, List.take_length] at hV ⊢
        have hV2 : valD d < 10000000000 := by rw [hkd] at hp; omega
        clear hlt hk hV hp hp2 hkd
        have hsg : signN s d = if d.length < s.length then -(valD d : Int) else valD d := rfl
        by_cases hn : d.length < s.length
        · have hn2 : decide ((d.length : Int) < (s.length : Int)) = true := decide_eq_true (by omega)
          rw [if_pos hn] at hsg
          have Hsg := Lib.hid hsg
          clear hsg
          by_cases hr : rightN (-(valD d : Int)) = true
          · have Hres : Hid (numberE s = ((-(valD d : Int)), 0)) := Lib.hid (by rw [Hres3.out, Hsg.out, if_pos hr])
            have Hr := Lib.hid hr
            clear hr
            go_wp2_with (go_at_call 40; refine (right1_any _ _).mono ?_; rintro e w3 ⟨rfl, rfl⟩; rw [show inR (-(valD d : Int)) = true from Hr.out])
            go_ret2
            exact ⟨ret_two (by rw [Hres.out]) (by rw [Hres.out]), Hb2.out⟩
          · have hr' : rightN (-(valD d : Int)) = false := by simpa using hr
            have Hres : Hid (numberE s = (0, 2)) := Lib.hid (by rw [Hres3.out, Hsg.out, if_neg hr])
            have Hr := Lib.hid hr'
            clear hr hr'
            go_wp2_with (go_at_call 40; refine (right1_any _ _).mono ?_; rintro e w3 ⟨rfl, rfl⟩; rw [show inR (-(valD d : Int)) = false from Hr.out])
            go_ret2
            exact ⟨ret_two (by rw [Hres.out]) (by rw [Hres.out]), Hb2.out⟩
        · have hn2 : decide ((d.length : Int) < (s.length : Int)) = false := decide_eq_false (by omega)
          rw [if_neg hn] at hsg
          have Hsg := Lib.hid hsg
          clear hsg
          by_cases hr : rightN (valD d : Int) = true
          · have Hres : Hid (numberE s = ((valD d : Int), 0)) := Lib.hid (by rw [Hres3.out, Hsg.out, if_pos hr])
            have Hr := Lib.hid hr
            clear hr
            go_wp2_with (go_at_call 40; refine (right1_any _ _).mono ?_; rintro e w3 ⟨rfl, rfl⟩; rw [show inR (valD d : Int) = true from Hr.out])
            go_ret2
            exact ⟨ret_two (by rw [Hres.out]) (by rw [Hres.out]), Hb2.out⟩
          · have hr' : rightN (valD d : Int) = false := by simpa using hr
            have Hres : Hid (numberE s = (0, 2)) := Lib.hid (by rw [Hres3.out, Hsg.out, if_neg hr])
            have Hr := Lib.hid hr'
            clear hr hr'
            go_wp2_with (go_at_call 40; refine (right1_any _ _).mono ?_; rintro e w3 ⟨rfl, rfl⟩; rw [show inR (valD d : Int) = false from Hr.out])
            go_ret2
            exact ⟨ret_two (by rw [Hres.out]) (by rw [Hres.out]), Hb2.out⟩
  · have c6 : decide ((1 : Int) < (d.length : Int)) = false := decide_eq_false (by omega)
    clear hd48
    go_wp2
    go_loopw [5, 35] (fun v i wr => ∃ k : Nat, k ≤ d.length ∧ v = .int .i64 ((valD (d.take k) : Nat) : Int) ∧ i = .int .i64 k ∧ wr = w2) (fun _ i _ => d.length - (RowKit.intOf i).toNat)
    case atStart => exact ⟨0, Nat.zero_le _, rfl, rfl, rfl⟩
    case round =>
      obtain ⟨k, hk, rfl, rfl, rfl⟩ := hrel
      have hV := Hkey.out k hk
      have hp : (10 : Nat) ^ k ≤ 10 ^ 10 := Nat.pow_le_pow_right (by decide) (by omega)
      have hp2 : (10 : Nat) ^ 10 = 10000000000 := by decide
      by_cases hlt : k < d.length
      · obtain ⟨c, hc⟩ : ∃ c, d[k] = c := ⟨_, rfl⟩
        have hx : ∀ h, (byt d)[k]'h = c := fun h => (byt_at d k hlt h).trans hc
        have hdg := Hdig.out d[k] (List.getElem_mem hlt)
        have hval := take_valD hlt
        rw [hc] at hdg hval
        have Hval := Lib.hid hval
        simp only [isDig, Bool.and_eq_true, decide_eq_true_eq] at hdg
        clear hval hc
        generalize valD (d.take k) = V at *
        have hc0 := hdg.1
        have hc1 := hdg.2
        clear hdg
        have hw1 : IntKind.u8.wrap ((c.toNat : Int) - 48) = (c.toNat : Int) - 48 := by rw [IntKind.wrap_u8]; omega
        have hw2 : IntKind.i64.wrap ((c.toNat : Int) - 48) = (c.toNat : Int) - 48 := by rw [IntKind.wrap_i64]; omega
        have hV2 : V < 10000000000 := by omega
        clear hV hp hp2
        go_wp2
        go_roundw
        case rel => exact ⟨k + 1, by omega, by rw [Hval.out]; congr 1; omega, by go_num, trivial⟩
        case measure => simp [RowKit.intOf]; omega
      · have hkd : k = d.length := by omega
        rw [hkd, List.take_length] at hV ⊢
        have hV2 : valD d < 10000000000 := by rw [hkd] at hp; omega
        clear hlt hk hV hp hp2 hkd
        have hsg : signN s d = if d.length < s.length then -(valD d : Int) else valD d := rfl
        by_cases hn : d.length < s.length
        · have hn2 : decide ((d.length : Int) < (s.length : Int)) = true := decide_eq_true (by omega)
          rw [if_pos hn] at hsg
          have Hsg := Lib.hid hsg
          clear hsg
          by_cases hr : rightN (-(valD d : Int)) = true
          · have Hres : Hid (numberE s = ((-(valD d : Int)), 0)) := Lib.hid (by rw [Hres3.out, Hsg.out, if_pos hr])
            have Hr := Lib.hid hr
            clear hr
            go_wp2_with (go_at_call 40; refine (right1_any _ _).mono ?_; rintro e w3 ⟨rfl, rfl⟩; rw [show inR (-(valD d : Int)) = true from Hr.out])
            go_ret2
            exact ⟨ret_two (by rw [Hres.out]) (by rw [Hres.out]), Hb2.out⟩
          · have hr' : rightN (-(valD d : Int)) = false := by simpa using hr
            have Hres : Hid (numberE s = (0, 2)) := Lib.hid (by rw [Hres3.out, Hsg.out, if_neg hr])
            have Hr := Lib.hid hr'
            clear hr hr'
            go_wp2_with (go_at_call 40; refine (right1_any _ _).mono ?_; rintro e w3 ⟨rfl, rfl⟩; rw [show inR (-(valD d : Int)) = false from Hr.out])
            go_ret2
            exact ⟨ret_two (by rw [Hres.out]) (by rw [Hres.out]), Hb2.out⟩
        · have hn2 : decide ((d.length : Int) < (s.length : Int)) = false := decide_eq_false (by omega)
          rw [if_neg hn] at hsg
          have Hsg := Lib.hid hsg
          clear hsg
          by_cases hr : rightN (valD d : Int) = true
          · have Hres : Hid (numberE s = ((valD d : Int), 0)) := Lib.hid (by rw [Hres3.out, Hsg.out, if_pos hr])
            have Hr := Lib.hid hr
            clear hr
            go_wp2_with (go_at_call 40; refine (right1_any _ _).mono ?_; rintro e w3 ⟨rfl, rfl⟩; rw [show inR (valD d : Int) = true from Hr.out])
            go_ret2
            exact ⟨ret_two (by rw [Hres.out]) (by rw [Hres.out]), Hb2.out⟩
          · have hr' : rightN (valD d : Int) = false := by simpa using hr
            have Hres : Hid (numberE s = (0, 2)) := Lib.hid (by rw [Hres3.out, Hsg.out, if_neg hr])
            have Hr := Lib.hid hr'
            clear hr hr'
            go_wp2_with (go_at_call 40; refine (right1_any _ _).mono ?_; rintro e w3 ⟨rfl, rfl⟩; rw [show inR (valD d : Int) = false from Hr.out])
            go_ret2
            exact ⟨ret_two (by rw [Hres.out]) (by rw [Hres.out]), Hb2.out⟩
end Go.Proofs.YtecolkpnllikaaaDoor
