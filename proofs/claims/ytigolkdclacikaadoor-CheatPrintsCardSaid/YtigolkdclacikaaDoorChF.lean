/- The walk of the statement CheatChecks: whether any plan may be, and the word of any kind, are as the document says. Condition: internal/bytealg.MaxLen holds a number. -/
import Derived.Test.YtigolkdclacikaaDoorChD
import Derived.Test.YtigolkdclacikaaDoorChU
namespace Go.Proofs.YtigolkdclacikaaDoor
open Go.RowKit Go.Lib
set_option maxRecDepth 100000 in
set_option maxHeartbeats 2000000 in
theorem checks_any (A : Option Addr) (n c : Nat) (l : List De) (p kind : Int) (w : World) (hM : MaxAt w) (hr : Rd w w.heap.size 5 A n (flat l)) (hn : n ≤ 9223372036854775807) :
    Calls Tryd.prog 3 #[.slice A n c, .int .i64 p, .int .i64 kind] w fun e w' => e = .returned (.bool true) ∧ Below w.heap.size w w' := by
  have Hl := Lib.hid hr.dlen
  have Hr := Lib.hid hr
  clear hr
  by_cases h3 : 300 < n
  · have hd : decide ((300 : Int) < (n : Int)) = true := decide_eq_true (by omega)
    clear h3
    go_enter Tryd.func3, Tryd.ntmps3
    go_wp2_with (go_at_call 10; refine (told_any w hM).mono ?_; rintro e w1 ⟨rfl, hb1⟩; have Hb1 := Lib.hid hb1; clear hb1)
    go_ret
    exact ⟨rfl, Hb1.out⟩
  have hd : decide ((300 : Int) < (n : Int)) = false := decide_eq_false (by omega)
  have hn3 : n ≤ 300 := by omega
  clear h3 hn
  have Hb0 : Hid (Below w.heap.size w w) := Lib.hid (Below.refl _ _)
  cases hin : inD kind 14 with
  | true =>
    obtain ⟨h0, h1⟩ := inD_iff.1 hin
    obtain ⟨k, rfl⟩ := Int.eq_ofNat_of_zero_le h0
    have hk : k < 15 := by omega
    have hwd : wordOf (k : Int) = wordN k := by unfold wordOf; rw [hin]; simp
    have hd2 : decide ((k : Int) < 15) = true := decide_eq_true (by omega)
    have hki : (k : Int) < 15 := by omega
    clear hin h0 h1
    have hcell : ∀ w : World, (w.alloc (.cells #[.string ⟨#[110, 111, 116, 104, 105, 110, 103]⟩, .string ⟨#[108, 111, 115, 101]⟩, .string ⟨#[100, 111, 117, 98, 108, 101]⟩, .string ⟨#[100, 101, 108, 97, 121]⟩, .string ⟨#[113, 117, 105, 101, 116]⟩, .string ⟨#[115, 116, 97, 108, 101]⟩, .string ⟨#[117, 110, 108, 105, 107, 101]⟩, .string ⟨#[97, 115, 115, 101, 114, 116]⟩, .string ⟨#[100, 111, 117, 98, 116]⟩, .string ⟨#[102, 108, 111, 111, 100]⟩, .string ⟨#[108, 101, 97, 118, 101]⟩, .string ⟨#[116, 97, 107, 101]⟩, .string ⟨#[99, 114, 97, 115, 104]⟩, .string ⟨#[115, 108, 101, 101, 112]⟩, .string ⟨#[119, 105, 116, 104, 104, 111, 108, 100]⟩] 9)).cell? ⟨w.heap.size, k, none⟩ = some (.string (wordN k)) := fun w => by
      rw [block_cell (heap_alloc_new w _) k]
      exact words_at k hk
    have hc0 := hcell w
    have Hb1 := Lib.hid (below_one w (.cells #[.string ⟨#[110, 111, 116, 104, 105, 110, 103]⟩, .string ⟨#[108, 111, 115, 101]⟩, .string ⟨#[100, 111, 117, 98, 108, 101]⟩, .string ⟨#[100, 101, 108, 97, 121]⟩, .string ⟨#[113, 117, 105, 101, 116]⟩, .string ⟨#[115, 116, 97, 108, 101]⟩, .string ⟨#[117, 110, 108, 105, 107, 101]⟩, .string ⟨#[97, 115, 115, 101, 114, 116]⟩, .string ⟨#[100, 111, 117, 98, 116]⟩, .string ⟨#[102, 108, 111, 111, 100]⟩, .string ⟨#[108, 101, 97, 118, 101]⟩, .string ⟨#[116, 97, 107, 101]⟩, .string ⟨#[99, 114, 97, 115, 104]⟩, .string ⟨#[115, 108, 101, 101, 112]⟩, .string ⟨#[119, 105, 116, 104, 104, 111, 108, 100]⟩] 9))
    clear hcell
    go_enter Tryd.func3, Tryd.ntmps3
    go_wp2_with fail
    refine (wordsr_any w).mono ?_
    rintro e w1 ⟨rfl, hw1⟩
    rw [← hw1] at hc0 Hb1
    clear hw1
    have hs1 : w.heap.size < w1.heap.size := by
      have := World.block_lt_of_cell? w1 _ hc0
      exact this
    go_wp2_with fail
    refine (own_any A n c l _ ((Hr.out.below Hb1.out (Nat.le_refl _)).more Hb1.out.size) (by omega)).mono ?_
    rintro e v1 ⟨A1, n1, c1, rfl, hr1, hn1, hb1⟩
    have Hb1 := Lib.hid (Hb1.out.trans (hb1.mono Hb1.out.size))
    have Hr1 := Lib.hid hr1
    have hn1b : n1 ≤ 300 := by rw [hn1, Hl.out]; omega
    clear hb1 hr1 hn1
    go_wp2_with fail
    refine (check_any A1 n1 c1 l p v1 Hr1.out (by omega)).mono ?_
    rintro e v2 ⟨rfl, hb2⟩
    have Hb2 := Lib.hid (Hb1.out.trans (hb2.mono Hb1.out.size))
    clear hb2
    go_wp2_with fail
    refine (checkr_any A n c l p v2 ((Hr.out.below Hb2.out (Nat.le_refl _)).more Hb2.out.size) (by omega)).mono ?_
    rintro e v3 ⟨rfl, hb3⟩
    have Hb3 := Lib.hid (Hb2.out.trans (hb3.mono Hb2.out.size))
    clear hb3
    have hqq : (checkD l p == checkD l p) = true := by simp
    go_wp2_with fail
    refine (word_any _ v3).mono ?_
    rintro e v4 ⟨rfl, hb4⟩
    rw [hwd]
    have Hb4 := Lib.hid (Hb3.out.trans (hb4.mono Hb3.out.size))
    have hM4 := hM.below Hb4.out hM.1
    have hss : ((wordN k).toList == (wordN k).toList) = true := by simp
    clear hb4
    go_wp2_with fail
    refine (told_any v4 hM4).mono ?_
    rintro e v5 ⟨rfl, hb5⟩
    have Hb5 := Lib.hid (Hb4.out.trans (hb5.mono Hb4.out.size))
    clear hb5
    go_wp2
    go_ret
    exact ⟨rfl, Hb5.out⟩
  | false =>
    have hwd : wordOf kind = ⟨#[]⟩ := by unfold wordOf; rw [hin]; rfl
    rcases inD_bad hin with hA | ⟨hA, hB⟩
    · have d1 : decide (0 ≤ kind) = false := decide_eq_false (by omega)
      clear hin hA
      go_enter Tryd.func3, Tryd.ntmps3
      go_wp2_with fail
      refine (own_any A n c l _ Hr.out (by omega)).mono ?_
      rintro e v1 ⟨A1, n1, c1, rfl, hr1, hn1, hb1⟩
      have Hb1 := Lib.hid (Hb0.out.trans (hb1.mono Hb0.out.size))
      have Hr1 := Lib.hid hr1
      have hn1b : n1 ≤ 300 := by rw [hn1, Hl.out]; omega
      clear hb1 hr1 hn1
      go_wp2_with fail
      refine (check_any A1 n1 c1 l p v1 Hr1.out (by omega)).mono ?_
      rintro e v2 ⟨rfl, hb2⟩
      have Hb2 := Lib.hid (Hb1.out.trans (hb2.mono Hb1.out.size))
      clear hb2
      go_wp2_with fail
      refine (checkr_any A n c l p v2 ((Hr.out.below Hb2.out (Nat.le_refl _)).more Hb2.out.size) (by omega)).mono ?_
      rintro e v3 ⟨rfl, hb3⟩
      have Hb3 := Lib.hid (Hb2.out.trans (hb3.mono Hb2.out.size))
      clear hb3
      have hqq : (checkD l p == checkD l p) = true := by simp
      go_wp2_with fail
      refine (word_any _ v3).mono ?_
      rintro e v4 ⟨rfl, hb4⟩
      rw [hwd]
      have Hb4 := Lib.hid (Hb3.out.trans (hb4.mono Hb3.out.size))
      have hM4 := hM.below Hb4.out hM.1
      have hss : (((⟨#[]⟩ : ByteArray)).toList == ((⟨#[]⟩ : ByteArray)).toList) = true := by simp
      clear hb4
      go_wp2_with fail
      refine (told_any v4 hM4).mono ?_
      rintro e v5 ⟨rfl, hb5⟩
      have Hb5 := Lib.hid (Hb4.out.trans (hb5.mono Hb4.out.size))
      clear hb5
      go_wp2
      go_ret
      exact ⟨rfl, Hb5.out⟩
    · have d1 : decide (0 ≤ kind) = true := decide_eq_true hA
      have d2 : decide (kind < 15) = false := decide_eq_false (by omega)
      clear hin hB
      go_enter Tryd.func3, Tryd.ntmps3
      go_wp2_with fail
      refine (own_any A n c l _ Hr.out (by omega)).mono ?_
      rintro e v1 ⟨A1, n1, c1, rfl, hr1, hn1, hb1⟩
      have Hb1 := Lib.hid (Hb0.out.trans (hb1.mono Hb0.out.size))
      have Hr1 := Lib.hid hr1
      have hn1b : n1 ≤ 300 := by rw [hn1, Hl.out]; omega
      clear hb1 hr1 hn1
      go_wp2_with fail
      refine (check_any A1 n1 c1 l p v1 Hr1.out (by omega)).mono ?_
      rintro e v2 ⟨rfl, hb2⟩
      have Hb2 := Lib.hid (Hb1.out.trans (hb2.mono Hb1.out.size))
      clear hb2
      go_wp2_with fail
      refine (checkr_any A n c l p v2 ((Hr.out.below Hb2.out (Nat.le_refl _)).more Hb2.out.size) (by omega)).mono ?_
      rintro e v3 ⟨rfl, hb3⟩
      have Hb3 := Lib.hid (Hb2.out.trans (hb3.mono Hb2.out.size))
      clear hb3
      have hqq : (checkD l p == checkD l p) = true := by simp
      go_wp2_with fail
      refine (word_any _ v3).mono ?_
      rintro e v4 ⟨rfl, hb4⟩
      rw [hwd]
      have Hb4 := Lib.hid (Hb3.out.trans (hb4.mono Hb3.out.size))
      have hM4 := hM.below Hb4.out hM.1
      have hss : (((⟨#[]⟩ : ByteArray)).toList == ((⟨#[]⟩ : ByteArray)).toList) = true := by simp
      clear hb4
      go_wp2_with fail
      refine (told_any v4 hM4).mono ?_
      rintro e v5 ⟨rfl, hb5⟩
      have Hb5 := Lib.hid (Hb4.out.trans (hb5.mono Hb4.out.size))
      clear hb5
      go_wp2
      go_ret
      exact ⟨rfl, Hb5.out⟩
end Go.Proofs.YtigolkdclacikaaDoor
