/- The walk of the reference's Check of a transaction. Conditions: bounds on how many bytes. -/
import Derived.Test.YtebepgoaofhelaaTxE
namespace Go.Proofs.Ytebepgoaofhelaa
open Go.RowKit Go.Lib

set_option maxRecDepth 100000 in
set_option maxHeartbeats 2000000 in
theorem checkr_any (t : TxV) (w : World) (h : t.At w) : Calls Try.prog 25 #[.agg #[.int .u8 (t.d.x0 : Int), .int .u8 (t.d.x1 : Int), .int .u8 (t.d.x2 : Int), .int .u8 (t.d.x3 : Int), .int .u8 (t.d.x4 : Int), .int .u8 (t.d.x5 : Int), .int .u8 (t.d.x6 : Int), .int .u8 (t.d.x7 : Int), .int .i64 t.no, .int .i64 t.fe, .int .i64 t.ki, .slice t.A t.n t.c, .slice t.A' t.n' t.c']] w fun e w' => e = .returned (.int .i64 (checkT t.no t.fe t.ki t.bo t.si)) ∧ Below w.heap.size w w' := by
  have H := Lib.hid h
  clear h
  by_cases q : t.no < 0
  · have b1 : decide (t.no < 0) = true := decide_eq_true q
    have Hr : Hid (checkT t.no t.fe t.ki t.bo t.si = 2) := check_out (by rw [H.out.len1, H.out.len2]; simp only [inT, upB]; simp; omega)
    clear q
    go_enter Try.func25, Try.ntmps25
    go_wp2
    go_ret
    exact ⟨by rw [Hr.out]; rfl, below_one _ _⟩
  have b1 : decide (t.no < 0) = false := decide_eq_false q
  have n1 : 0 ≤ t.no := by omega
  clear q
  by_cases q : 1099511627776 < t.no
  · have b2 : decide (1099511627776 < t.no) = true := decide_eq_true q
    have Hr : Hid (checkT t.no t.fe t.ki t.bo t.si = 2) := check_out (by rw [H.out.len1, H.out.len2]; simp only [inT, upB]; simp; omega)
    clear q
    go_enter Try.func25, Try.ntmps25
    go_wp2
    go_ret
    exact ⟨by rw [Hr.out]; rfl, below_one _ _⟩
  have b2 : decide (1099511627776 < t.no) = false := decide_eq_false q
  have n2 : t.no ≤ 1099511627776 := by omega
  clear q
  by_cases q : t.fe < 0
  · have b3 : decide (t.fe < 0) = true := decide_eq_true q
    have Hr : Hid (checkT t.no t.fe t.ki t.bo t.si = 2) := check_out (by rw [H.out.len1, H.out.len2]; simp only [inT, upB]; simp; omega)
    clear q
    go_enter Try.func25, Try.ntmps25
    go_wp2
    go_ret
    exact ⟨by rw [Hr.out]; rfl, below_one _ _⟩
  have b3 : decide (t.fe < 0) = false := decide_eq_false q
  have n3 : 0 ≤ t.fe := by omega
  clear q
  by_cases q : 1125899906842624 < t.fe
  · have b4 : decide (1125899906842624 < t.fe) = true := decide_eq_true q
    have Hr : Hid (checkT t.no t.fe t.ki t.bo t.si = 2) := check_out (by rw [H.out.len1, H.out.len2]; simp only [inT, upB]; simp; omega)
    clear q
    go_enter Try.func25, Try.ntmps25
    go_wp2
    go_ret
    exact ⟨by rw [Hr.out]; rfl, below_one _ _⟩
  have b4 : decide (1125899906842624 < t.fe) = false := decide_eq_false q
  have n4 : t.fe ≤ 1125899906842624 := by omega
  clear q
  by_cases q : t.ki < 0
  · have b5 : decide (t.ki < 0) = true := decide_eq_true q
    have Hr : Hid (checkT t.no t.fe t.ki t.bo t.si = 2) := check_out (by rw [H.out.len1, H.out.len2]; simp only [inT, upB]; simp; omega)
    clear q
    go_enter Try.func25, Try.ntmps25
    go_wp2
    go_ret
    exact ⟨by rw [Hr.out]; rfl, below_one _ _⟩
  have b5 : decide (t.ki < 0) = false := decide_eq_false q
  have n5 : 0 ≤ t.ki := by omega
  clear q
  by_cases q : 2 < t.ki
  · have b6 : decide (2 < t.ki) = true := decide_eq_true q
    have Hr : Hid (checkT t.no t.fe t.ki t.bo t.si = 2) := check_out (by rw [H.out.len1, H.out.len2]; simp only [inT, upB]; simp; omega)
    clear q
    go_enter Try.func25, Try.ntmps25
    go_wp2
    go_ret
    exact ⟨by rw [Hr.out]; rfl, below_one _ _⟩
  have b6 : decide (2 < t.ki) = false := decide_eq_false q
  have n6 : t.ki ≤ 2 := by omega
  clear q
  by_cases q : 32768 < t.n
  · have b7 : decide ((32768 : Int) < (t.n : Int)) = true := decide_eq_true (by omega)
    have Hr : Hid (checkT t.no t.fe t.ki t.bo t.si = 2) := check_out (by rw [H.out.len1, H.out.len2]; simp only [inT, upB]; simp; omega)
    clear q
    go_enter Try.func25, Try.ntmps25
    go_wp2
    go_ret
    exact ⟨by rw [Hr.out]; rfl, below_one _ _⟩
  have b7 : decide ((32768 : Int) < (t.n : Int)) = false := decide_eq_false (by omega)
  have n7 : t.n ≤ 32768 := by omega
  clear q
  by_cases q : 1024 < t.n'
  · have b8 : decide ((1024 : Int) < (t.n' : Int)) = true := decide_eq_true (by omega)
    have Hr : Hid (checkT t.no t.fe t.ki t.bo t.si = 2) := check_out (by rw [H.out.len1, H.out.len2]; simp only [inT, upB]; simp; omega)
    clear q
    go_enter Try.func25, Try.ntmps25
    go_wp2
    go_ret
    exact ⟨by rw [Hr.out]; rfl, below_one _ _⟩
  have b8 : decide ((1024 : Int) < (t.n' : Int)) = false := decide_eq_false (by omega)
  have n8 : t.n' ≤ 1024 := by omega
  clear q
  have hin : inT t.no t.fe t.ki t.bo.length t.si.length = true := by rw [H.out.len1, H.out.len2]; simp only [inT, upB]; simp; omega
  by_cases hk : t.ki = 0
  · have Hr : Hid (checkT t.no t.fe t.ki t.bo t.si = (paidT t.ki t.bo).2.2) := by show _ = _; unfold checkT; rw [hin, if_pos rfl, if_pos hk]
    have c1 : (t.ki == 0) = true := by simpa using hk
    clear hk hin
    go_enter Try.func25, Try.ntmps25
    go_wp2_with fail
    refine (paidr_any t _ (H.out.up (below_one _ _))).mono ?_
    rintro e w1 ⟨rfl, hb1⟩
    have Hb1 := Lib.hid ((below_one w _).trans (hb1.mono (by simp)))
    clear hb1
    go_wp2
    go_ret
    exact ⟨by rw [Hr.out]; rfl, Hb1.out.alloc Hb1.out.size _⟩
  · have Hr : Hid (checkT t.no t.fe t.ki t.bo t.si = 0) := by show _ = _; unfold checkT; rw [hin, if_pos rfl, if_neg hk]
    have c1 : (t.ki == 0) = false := by simpa using hk
    clear hk hin
    go_enter Try.func25, Try.ntmps25
    go_wp2
    go_ret
    exact ⟨by rw [Hr.out]; rfl, below_one _ _⟩
end Go.Proofs.Ytebepgoaofhelaa
