/- The walks of transactions: Encode, PayTo, the chapter's example. Conditions: bounds on how many bytes. -/
import Derived.Test.YtebepgoaofhelaaTxB
namespace Go.Proofs.Ytebepgoaofhelaa
open Go.RowKit Go.Lib


def encT (no fe ki : Int) (d : D8) (bo si : List Nat) : List Nat := if checkT no fe ki bo si = 0 then bytesT d no fe ki bo si else []
/-- Bytes handed back, and an error. -/
def GivesE (w : World) (l : List Nat) (err : Int) (e : Ending) (w' : World) : Prop :=
  ∃ A n c, e = .returned (.tuple #[.slice A n c, .int .i64 err]) ∧ Rd w' w'.heap.size 1 A n (bv l) ∧ n = l.length ∧ n ≤ c ∧ Below w.heap.size w w'
set_option maxRecDepth 100000 in
set_option maxHeartbeats 2000000 in
theorem encode_any (t : TxV) (w : World) (h : t.At w) : Calls Try.prog 20 #[.agg #[.int .u8 (t.d.x0 : Int), .int .u8 (t.d.x1 : Int), .int .u8 (t.d.x2 : Int), .int .u8 (t.d.x3 : Int), .int .u8 (t.d.x4 : Int), .int .u8 (t.d.x5 : Int), .int .u8 (t.d.x6 : Int), .int .u8 (t.d.x7 : Int), .int .i64 t.no, .int .i64 t.fe, .int .i64 t.ki, .slice t.A t.n t.c, .slice t.A' t.n' t.c']] w (GivesE w (encT t.no t.fe t.ki t.d t.bo t.si) (checkT t.no t.fe t.ki t.bo t.si)) := by
  have H := Lib.hid (h.up (below_one w (.cells #[.int .u8 (t.d.x0 : Int), .int .u8 (t.d.x1 : Int), .int .u8 (t.d.x2 : Int), .int .u8 (t.d.x3 : Int), .int .u8 (t.d.x4 : Int), .int .u8 (t.d.x5 : Int), .int .u8 (t.d.x6 : Int), .int .u8 (t.d.x7 : Int), .int .i64 t.no, .int .i64 t.fe, .int .i64 t.ki, .slice t.A t.n t.c, .slice t.A' t.n' t.c'] 26)))
  have HB := Lib.hid (Box.new t w)
  clear h
  by_cases hc : checkT t.no t.fe t.ki t.bo t.si = 0
  · have b1 : (checkT t.no t.fe t.ki t.bo t.si != 0) = false := by simpa using hc
    have He : Hid (encT t.no t.fe t.ki t.d t.bo t.si = bytesT t.d t.no t.fe t.ki t.bo t.si) := by show _ = _; unfold encT; rw [if_pos hc]
    have Hc := Lib.hid hc
    clear hc
    go_enter Try.func20, Try.ntmps20
    go_wp2_with fail
    refine (check_any t _ H.out).mono ?_
    rintro e w1 ⟨rfl, hb1⟩
    have HB1 := Lib.hid (HB.out.below hb1)
    have H1 := Lib.hid (H.out.up hb1)
    have Hw1 := Lib.hid ((below_one w _).trans (hb1.mono (by simp)))
    clear hb1
    obtain ⟨y0, y1, y2, y3, y4, y5, y6, y7, y8, y9, y10, y11, y12⟩ := HB1.out.all
    go_wp2_with fail
    refine (tbytes_any t _ H1.out).mono ?_
    rintro e w2 ⟨A2, n2, c2, rfl, ho2, hn2, hb2⟩
    have Ho2 := Lib.hid ho2
    have Hn2 := Lib.hid hn2
    have Hw2 := Lib.hid (Hw1.out.trans (hb2.mono Hw1.out.size))
    clear ho2 hn2 hb2
    go_wp2
    go_ret2
    exact ⟨A2, n2, c2, by rw [Hc.out]; rfl, by rw [He.out]; exact Rd.of_own Ho2.out, by rw [He.out]; exact Hn2.out, own_cap Ho2.out, Hw2.out⟩
  · have b1 : (checkT t.no t.fe t.ki t.bo t.si != 0) = true := by simpa using hc
    have He : Hid (encT t.no t.fe t.ki t.d t.bo t.si = []) := by show _ = _; unfold encT; rw [if_neg hc]
    clear hc
    go_enter Try.func20, Try.ntmps20
    go_wp2_with fail
    refine (check_any t _ H.out).mono ?_
    rintro e w1 ⟨rfl, hb1⟩
    have Hw1 := Lib.hid ((below_one w _).trans (hb1.mono (by simp)))
    clear hb1
    go_wp2
    go_ret2
    exact ⟨none, 0, 0, rfl, by rw [He.out]; exact Rd.empty, by rw [He.out]; rfl, by omega, Hw1.out⟩
def payL (d : D8) (am : Int) : List Nat := encN d.num ++ encN (u64N am)
theorem payL_len (d : D8) (am : Int) : (payL d am).length ≤ 22 := by unfold payL; rw [List.length_append]; have := encN_len d.num; have := encN_len (u64N am); omega
set_option maxRecDepth 100000 in
set_option maxHeartbeats 2000000 in
theorem payTo_any (d : D8) (am : Int) (w : World) (h : d.ok) : Calls Try.prog 15 #[.agg #[.int .u8 (d.x0 : Int), .int .u8 (d.x1 : Int), .int .u8 (d.x2 : Int), .int .u8 (d.x3 : Int), .int .u8 (d.x4 : Int), .int .u8 (d.x5 : Int), .int .u8 (d.x6 : Int), .int .u8 (d.x7 : Int)], .int .i64 am] w (GivesB w (payL d am)) := by
  have H := Lib.hid h
  clear h
  go_enter Try.func15, Try.ntmps15
  go_wp2_with fail
  refine (hnum_any d _ H.out).mono ?_
  rintro e w2 ⟨rfl, hb2⟩
  have Hw2 := Lib.hid ((below_one w _).trans (hb2.mono (by simp)))
  clear hb2
  go_wp2_with fail
  refine (putNum_at none 0 0 _ [] _ Rd.empty (by omega) (by omega) (by have := D8.num_lt H.out; omega)).mono ?_
  rintro e w3 ⟨A3, n3, c3, rfl, ho3, hn3, hb3⟩
  have Hw3 := Lib.hid (Hw2.out.trans (hb3.mono Hw2.out.size))
  have Hr3 := Lib.hid (Rd.of_own ho3)
  rw [Int.toNat_natCast] at Hr3 hn3
  have hl3 : n3 ≤ 11 := by rw [hn3]; exact encN_len d.num
  clear hb3 ho3 hn3
  go_wp2_with fail
  refine (putNum_at A3 n3 c3 _ _ _ Hr3.out (by omega) (wrapU _).1 (wrapU _).2).mono ?_
  rintro e w4 ⟨A4, n4, c4, rfl, ho4, hn4, hb4⟩
  have Hw4 := Lib.hid (Hw3.out.trans (hb4.mono Hw3.out.size))
  have Ho4 := Lib.hid (own_down ho4 Hw3.out.size)
  have Hn4 := Lib.hid hn4
  clear hb4 ho4 hn4
  go_wp2
  go_ret
  exact ⟨A4, n4, c4, rfl, by simpa [payL, u64N] using Ho4.out, by simpa [payL, u64N] using Hn4.out, Hw4.out⟩
def kd : D8 := ⟨5, 0, 0, 0, 0, 0, 0, 0⟩
theorem known_chk : checkT 1 2 2 [7] [9] = 0 := by decide +kernel
theorem known_enc : encT 1 2 2 kd [7] [9] = [2, 5, 1, 2, 1, 7, 1, 9] := by decide +kernel
theorem known_pay : payL kd 300 = [5, 172, 2] := by decide +kernel
set_option maxRecDepth 100000 in
set_option maxHeartbeats 2000000 in
theorem known_any (w : World) : Calls Try.prog 17 #[] w fun e w' => e = .returned (.bool true) ∧ Below w.heap.size w w' := by
  go_enter Try.func17, Try.ntmps17
  go_wp2_with fail
  refine (encode_any ⟨kd, 1, 2, 2, some ⟨w.heap.size, 0, none⟩, 1, 1, some ⟨w.heap.size + 1, 0, none⟩, 1, 1, [7], [9]⟩ _ ⟨by unfold D8.ok kd; simp, ?_, ?_, by simp, by simp, by simp, by simp, by simp, by simp⟩).mono ?_
  · exact ((Rd.newA (n := 1) (sz := 1) (xs := bv [7]) w 5 #[.int .u8 7] rfl rfl).alloc (by simp) _).more (by simp)
  · have := Rd.newA (n := 1) (sz := 1) (xs := bv [9]) (w.alloc (.cells #[.int .u8 7] 5)) 5 #[.int .u8 9] rfl rfl
    simpa using this
  rintro e w1 ⟨A1, n1, c1, rfl, hr1, hn1, hc1, hb1⟩
  simp only [known_chk, known_enc] at hr1 hn1 ⊢
  have Hw1 := Lib.hid ((below_two w _ _).trans (hb1.mono (by simp; omega)))
  have Hr1 := Lib.hid hr1
  have hl1 : n1 ≤ 8 := by rw [hn1]; simp
  clear hb1 hr1 hc1 hn1
  go_wp2_with fail
  refine (payTo_any kd 300 _ (by unfold D8.ok kd; simp)).mono ?_
  rintro e w2 ⟨A2, n2, c2, rfl, ho2, hn2, hb2⟩
  have Hw2 := Lib.hid (Hw1.out.trans (hb2.mono Hw1.out.size))
  have Hr2 := Lib.hid (Rd.of_own ho2)
  have Hr1b := Lib.hid (Hr1.out.up hb2 (Nat.le_refl _))
  rw [known_pay] at Hr2 hn2
  have hl2 : n2 ≤ 3 := by rw [hn2]; simp
  clear ho2 hb2 hn2
  go_wp2_with fail
  refine (samer_any A2 _ n2 c2 _ _ [5, 172, 2] [5, 172, 2] _ ?_ ?_ (by omega) (by omega)).mono ?_
  · exact Hr2.out.up (below_one _ _) (Nat.le_refl _)
  · exact Rd.newA (n := 3) (sz := 1) (xs := bv [5, 172, 2]) w2 5 #[.int .u8 5, .int .u8 172, .int .u8 2] rfl rfl
  rintro e w3 ⟨rfl, hb3⟩
  rw [sameB_yes rfl]
  have Hw3 := Lib.hid (Hw2.out.trans (((below_one w2 _).trans (hb3.mono (by simp))).mono Hw2.out.size))
  have Hr1c := Lib.hid ((Hr1b.out.up (below_one w2 (.cells #[.int .u8 5, .int .u8 172, .int .u8 2] 5)) (Nat.le_refl _)).up hb3 (Nat.le_refl _))
  clear hb3
  go_wp2_with fail
  refine (samer_any A1 _ n1 c1 _ _ [2, 5, 1, 2, 1, 7, 1, 9] [2, 5, 1, 2, 1, 7, 1, 9] _ ?_ ?_ (by omega) (by omega)).mono ?_
  · exact Hr1c.out.up (below_one _ _) (Nat.le_refl _)
  · exact Rd.newA (n := 8) (sz := 1) (xs := bv [2, 5, 1, 2, 1, 7, 1, 9]) w3 5 #[.int .u8 2, .int .u8 5, .int .u8 1, .int .u8 2, .int .u8 1, .int .u8 7, .int .u8 1, .int .u8 9] rfl rfl
  rintro e w4 ⟨rfl, hb4⟩
  rw [sameB_yes rfl]
  have Hw4 := Lib.hid (Hw3.out.trans (((below_one w3 _).trans (hb4.mono (by simp))).mono Hw3.out.size))
  clear hb4
  go_wp2
  go_ret
  exact ⟨rfl, Hw4.out⟩
end Go.Proofs.Ytebepgoaofhelaa
