/- The walks of Same of transactions, the program's and the reference's. Conditions: bounds on how many bytes. -/
import Derived.Test.YtebepgoaofhelaaTxF
namespace Go.Proofs.Ytebepgoaofhelaa
open Go.RowKit Go.Lib


def sameT (a b : TxV) : Bool := eqI [(a.d.x0 : Int), (a.d.x1 : Int), (a.d.x2 : Int), (a.d.x3 : Int), (a.d.x4 : Int), (a.d.x5 : Int), (a.d.x6 : Int), (a.d.x7 : Int)] [(b.d.x0 : Int), (b.d.x1 : Int), (b.d.x2 : Int), (b.d.x3 : Int), (b.d.x4 : Int), (b.d.x5 : Int), (b.d.x6 : Int), (b.d.x7 : Int)] && (a.no == b.no) && (a.fe == b.fe) && (a.ki == b.ki) && sameB a.bo b.bo && sameB a.si b.si
theorem d8_ext {a b : D8} (h : [(a.x0 : Int), (a.x1 : Int), (a.x2 : Int), (a.x3 : Int), (a.x4 : Int), (a.x5 : Int), (a.x6 : Int), (a.x7 : Int)] = [(b.x0 : Int), (b.x1 : Int), (b.x2 : Int), (b.x3 : Int), (b.x4 : Int), (b.x5 : Int), (b.x6 : Int), (b.x7 : Int)]) : a = b := by
  obtain ⟨a0, a1, a2, a3, a4, a5, a6, a7⟩ := a
  obtain ⟨b0, b1, b2, b3, b4, b5, b6, b7⟩ := b
  simp at h
  simp only [D8.mk.injEq]
  omega
theorem sameT_iff {a b : TxV} : sameT a b = true ↔ a.d = b.d ∧ a.no = b.no ∧ a.fe = b.fe ∧ a.ki = b.ki ∧ a.bo = b.bo ∧ a.si = b.si := by
  unfold sameT
  simp only [Bool.and_eq_true, eqI_iff, beq_iff_eq, sameB_iff]
  constructor
  · rintro ⟨⟨⟨⟨⟨h1, h2⟩, h3⟩, h4⟩, h5⟩, h6⟩
    exact ⟨d8_ext h1, h2, h3, h4, h5, h6⟩
  · rintro ⟨h1, h2, h3, h4, h5, h6⟩
    rw [h1]
    exact ⟨⟨⟨⟨⟨rfl, h2⟩, h3⟩, h4⟩, h5⟩, h6⟩
set_option maxRecDepth 100000 in
set_option maxHeartbeats 2000000 in
theorem tsame_any (a b : TxV) (w : World) (ha : a.At w) (hb : b.At w) : Calls Try.prog 21 #[.agg #[.int .u8 (a.d.x0 : Int), .int .u8 (a.d.x1 : Int), .int .u8 (a.d.x2 : Int), .int .u8 (a.d.x3 : Int), .int .u8 (a.d.x4 : Int), .int .u8 (a.d.x5 : Int), .int .u8 (a.d.x6 : Int), .int .u8 (a.d.x7 : Int), .int .i64 a.no, .int .i64 a.fe, .int .i64 a.ki, .slice a.A a.n a.c, .slice a.A' a.n' a.c'], .agg #[.int .u8 (b.d.x0 : Int), .int .u8 (b.d.x1 : Int), .int .u8 (b.d.x2 : Int), .int .u8 (b.d.x3 : Int), .int .u8 (b.d.x4 : Int), .int .u8 (b.d.x5 : Int), .int .u8 (b.d.x6 : Int), .int .u8 (b.d.x7 : Int), .int .i64 b.no, .int .i64 b.fe, .int .i64 b.ki, .slice b.A b.n b.c, .slice b.A' b.n' b.c']] w fun e w' => e = .returned (.bool (sameT a b)) ∧ Below w.heap.size w w' := by
  have Ha := Lib.hid (ha.up (below_two w (.cells #[.int .u8 (a.d.x0 : Int), .int .u8 (a.d.x1 : Int), .int .u8 (a.d.x2 : Int), .int .u8 (a.d.x3 : Int), .int .u8 (a.d.x4 : Int), .int .u8 (a.d.x5 : Int), .int .u8 (a.d.x6 : Int), .int .u8 (a.d.x7 : Int), .int .i64 a.no, .int .i64 a.fe, .int .i64 a.ki, .slice a.A a.n a.c, .slice a.A' a.n' a.c'] 26) (.cells #[.int .u8 (b.d.x0 : Int), .int .u8 (b.d.x1 : Int), .int .u8 (b.d.x2 : Int), .int .u8 (b.d.x3 : Int), .int .u8 (b.d.x4 : Int), .int .u8 (b.d.x5 : Int), .int .u8 (b.d.x6 : Int), .int .u8 (b.d.x7 : Int), .int .i64 b.no, .int .i64 b.fe, .int .i64 b.ki, .slice b.A b.n b.c, .slice b.A' b.n' b.c'] 26)))
  have Hb := Lib.hid (hb.up (below_two w (.cells #[.int .u8 (a.d.x0 : Int), .int .u8 (a.d.x1 : Int), .int .u8 (a.d.x2 : Int), .int .u8 (a.d.x3 : Int), .int .u8 (a.d.x4 : Int), .int .u8 (a.d.x5 : Int), .int .u8 (a.d.x6 : Int), .int .u8 (a.d.x7 : Int), .int .i64 a.no, .int .i64 a.fe, .int .i64 a.ki, .slice a.A a.n a.c, .slice a.A' a.n' a.c'] 26) (.cells #[.int .u8 (b.d.x0 : Int), .int .u8 (b.d.x1 : Int), .int .u8 (b.d.x2 : Int), .int .u8 (b.d.x3 : Int), .int .u8 (b.d.x4 : Int), .int .u8 (b.d.x5 : Int), .int .u8 (b.d.x6 : Int), .int .u8 (b.d.x7 : Int), .int .i64 b.no, .int .i64 b.fe, .int .i64 b.ki, .slice b.A b.n b.c, .slice b.A' b.n' b.c'] 26)))
  have HA := Lib.hid (block_alloc (heap_alloc_new w (.cells #[.int .u8 (a.d.x0 : Int), .int .u8 (a.d.x1 : Int), .int .u8 (a.d.x2 : Int), .int .u8 (a.d.x3 : Int), .int .u8 (a.d.x4 : Int), .int .u8 (a.d.x5 : Int), .int .u8 (a.d.x6 : Int), .int .u8 (a.d.x7 : Int), .int .i64 a.no, .int .i64 a.fe, .int .i64 a.ki, .slice a.A a.n a.c, .slice a.A' a.n' a.c'] 26)) (.cells #[.int .u8 (b.d.x0 : Int), .int .u8 (b.d.x1 : Int), .int .u8 (b.d.x2 : Int), .int .u8 (b.d.x3 : Int), .int .u8 (b.d.x4 : Int), .int .u8 (b.d.x5 : Int), .int .u8 (b.d.x6 : Int), .int .u8 (b.d.x7 : Int), .int .i64 b.no, .int .i64 b.fe, .int .i64 b.ki, .slice b.A b.n b.c, .slice b.A' b.n' b.c'] 26))
  have HB : Hid (((w.alloc (.cells #[.int .u8 (a.d.x0 : Int), .int .u8 (a.d.x1 : Int), .int .u8 (a.d.x2 : Int), .int .u8 (a.d.x3 : Int), .int .u8 (a.d.x4 : Int), .int .u8 (a.d.x5 : Int), .int .u8 (a.d.x6 : Int), .int .u8 (a.d.x7 : Int), .int .i64 a.no, .int .i64 a.fe, .int .i64 a.ki, .slice a.A a.n a.c, .slice a.A' a.n' a.c'] 26)).alloc (.cells #[.int .u8 (b.d.x0 : Int), .int .u8 (b.d.x1 : Int), .int .u8 (b.d.x2 : Int), .int .u8 (b.d.x3 : Int), .int .u8 (b.d.x4 : Int), .int .u8 (b.d.x5 : Int), .int .u8 (b.d.x6 : Int), .int .u8 (b.d.x7 : Int), .int .i64 b.no, .int .i64 b.fe, .int .i64 b.ki, .slice b.A b.n b.c, .slice b.A' b.n' b.c'] 26)).heap[w.heap.size + 1]? = some (.cells #[.int .u8 (b.d.x0 : Int), .int .u8 (b.d.x1 : Int), .int .u8 (b.d.x2 : Int), .int .u8 (b.d.x3 : Int), .int .u8 (b.d.x4 : Int), .int .u8 (b.d.x5 : Int), .int .u8 (b.d.x6 : Int), .int .u8 (b.d.x7 : Int), .int .i64 b.no, .int .i64 b.fe, .int .i64 b.ki, .slice b.A b.n b.c, .slice b.A' b.n' b.c'] 26 (0, 0))) := by
    have := heap_alloc_new (w.alloc (.cells #[.int .u8 (a.d.x0 : Int), .int .u8 (a.d.x1 : Int), .int .u8 (a.d.x2 : Int), .int .u8 (a.d.x3 : Int), .int .u8 (a.d.x4 : Int), .int .u8 (a.d.x5 : Int), .int .u8 (a.d.x6 : Int), .int .u8 (a.d.x7 : Int), .int .i64 a.no, .int .i64 a.fe, .int .i64 a.ki, .slice a.A a.n a.c, .slice a.A' a.n' a.c'] 26)) (.cells #[.int .u8 (b.d.x0 : Int), .int .u8 (b.d.x1 : Int), .int .u8 (b.d.x2 : Int), .int .u8 (b.d.x3 : Int), .int .u8 (b.d.x4 : Int), .int .u8 (b.d.x5 : Int), .int .u8 (b.d.x6 : Int), .int .u8 (b.d.x7 : Int), .int .i64 b.no, .int .i64 b.fe, .int .i64 b.ki, .slice b.A b.n b.c, .slice b.A' b.n' b.c'] 26)
    rw [World.size_alloc] at this; exact this
  clear ha hb
  have heq := eql_dig
  by_cases q : eqI [(a.d.x0 : Int), (a.d.x1 : Int), (a.d.x2 : Int), (a.d.x3 : Int), (a.d.x4 : Int), (a.d.x5 : Int), (a.d.x6 : Int), (a.d.x7 : Int)] [(b.d.x0 : Int), (b.d.x1 : Int), (b.d.x2 : Int), (b.d.x3 : Int), (b.d.x4 : Int), (b.d.x5 : Int), (b.d.x6 : Int), (b.d.x7 : Int)] = false
  ·
    have Hr : Hid (sameT a b = false) := by show _ = _; simp only [sameT, q]; simp
    go_enter Try.func21, Try.ntmps21
    go_wp2
    go_ret
    exact ⟨ret_bool Hr.out.symm, below_two _ _ _⟩
  have q1 : eqI [(a.d.x0 : Int), (a.d.x1 : Int), (a.d.x2 : Int), (a.d.x3 : Int), (a.d.x4 : Int), (a.d.x5 : Int), (a.d.x6 : Int), (a.d.x7 : Int)] [(b.d.x0 : Int), (b.d.x1 : Int), (b.d.x2 : Int), (b.d.x3 : Int), (b.d.x4 : Int), (b.d.x5 : Int), (b.d.x6 : Int), (b.d.x7 : Int)] = true := by simpa using q
  clear q
  by_cases q : (a.no == b.no) = false
  ·
    have Hr : Hid (sameT a b = false) := by show _ = _; simp only [sameT, q]; simp
    go_enter Try.func21, Try.ntmps21
    go_wp2
    go_ret
    exact ⟨ret_bool Hr.out.symm, below_two _ _ _⟩
  have q2 : (a.no == b.no) = true := by simpa using q
  clear q
  by_cases q : (a.fe == b.fe) = false
  ·
    have Hr : Hid (sameT a b = false) := by show _ = _; simp only [sameT, q]; simp
    go_enter Try.func21, Try.ntmps21
    go_wp2
    go_ret
    exact ⟨ret_bool Hr.out.symm, below_two _ _ _⟩
  have q3 : (a.fe == b.fe) = true := by simpa using q
  clear q
  by_cases q : (a.ki == b.ki) = false
  ·
    have Hr : Hid (sameT a b = false) := by show _ = _; simp only [sameT, q]; simp
    go_enter Try.func21, Try.ntmps21
    go_wp2
    go_ret
    exact ⟨ret_bool Hr.out.symm, below_two _ _ _⟩
  have q4 : (a.ki == b.ki) = true := by simpa using q
  clear q
  have Hr : Hid (sameT a b = (sameB a.bo b.bo && sameB a.si b.si)) := by show _ = _; simp only [sameT, q1, q2, q3, q4]; simp
  go_enter Try.func21, Try.ntmps21
  go_wp2_with fail
  refine (equal_any a.A b.A a.n a.c b.n b.c a.bo b.bo _ Ha.out.r1 Hb.out.r1 Ha.out.b1 Hb.out.b1).mono ?_
  rintro e w' ⟨rfl, rfl⟩
  cases q5 : sameB a.bo b.bo with
  | false =>
    rw [q5] at Hr
    go_wp2
    go_ret
    exact ⟨ret_bool Hr.out.symm, below_two _ _ _⟩
  | true =>
    rw [q5] at Hr
    go_wp2_with fail
    refine (equal_any a.A' b.A' a.n' a.c' b.n' b.c' a.si b.si _ Ha.out.r2 Hb.out.r2 Ha.out.b2 Hb.out.b2).mono ?_
    rintro e w' ⟨rfl, rfl⟩
    go_wp2
    go_ret
    exact ⟨ret_bool (by rw [Hr.out]; rfl), below_two _ _ _⟩
set_option maxRecDepth 100000 in
set_option maxHeartbeats 2000000 in
theorem rsame_any (a b : TxV) (w : World) (ha : a.At w) (hb : b.At w) : Calls Try.prog 19 #[.agg #[.int .u8 (a.d.x0 : Int), .int .u8 (a.d.x1 : Int), .int .u8 (a.d.x2 : Int), .int .u8 (a.d.x3 : Int), .int .u8 (a.d.x4 : Int), .int .u8 (a.d.x5 : Int), .int .u8 (a.d.x6 : Int), .int .u8 (a.d.x7 : Int), .int .i64 a.no, .int .i64 a.fe, .int .i64 a.ki, .slice a.A a.n a.c, .slice a.A' a.n' a.c'], .agg #[.int .u8 (b.d.x0 : Int), .int .u8 (b.d.x1 : Int), .int .u8 (b.d.x2 : Int), .int .u8 (b.d.x3 : Int), .int .u8 (b.d.x4 : Int), .int .u8 (b.d.x5 : Int), .int .u8 (b.d.x6 : Int), .int .u8 (b.d.x7 : Int), .int .i64 b.no, .int .i64 b.fe, .int .i64 b.ki, .slice b.A b.n b.c, .slice b.A' b.n' b.c']] w fun e w' => e = .returned (.bool (sameT a b)) ∧ Below w.heap.size w w' := by
  have Ha := Lib.hid (ha.up (below_two w (.cells #[.int .u8 (a.d.x0 : Int), .int .u8 (a.d.x1 : Int), .int .u8 (a.d.x2 : Int), .int .u8 (a.d.x3 : Int), .int .u8 (a.d.x4 : Int), .int .u8 (a.d.x5 : Int), .int .u8 (a.d.x6 : Int), .int .u8 (a.d.x7 : Int), .int .i64 a.no, .int .i64 a.fe, .int .i64 a.ki, .slice a.A a.n a.c, .slice a.A' a.n' a.c'] 34) (.cells #[.int .u8 (b.d.x0 : Int), .int .u8 (b.d.x1 : Int), .int .u8 (b.d.x2 : Int), .int .u8 (b.d.x3 : Int), .int .u8 (b.d.x4 : Int), .int .u8 (b.d.x5 : Int), .int .u8 (b.d.x6 : Int), .int .u8 (b.d.x7 : Int), .int .i64 b.no, .int .i64 b.fe, .int .i64 b.ki, .slice b.A b.n b.c, .slice b.A' b.n' b.c'] 34)))
  have Hb := Lib.hid (hb.up (below_two w (.cells #[.int .u8 (a.d.x0 : Int), .int .u8 (a.d.x1 : Int), .int .u8 (a.d.x2 : Int), .int .u8 (a.d.x3 : Int), .int .u8 (a.d.x4 : Int), .int .u8 (a.d.x5 : Int), .int .u8 (a.d.x6 : Int), .int .u8 (a.d.x7 : Int), .int .i64 a.no, .int .i64 a.fe, .int .i64 a.ki, .slice a.A a.n a.c, .slice a.A' a.n' a.c'] 34) (.cells #[.int .u8 (b.d.x0 : Int), .int .u8 (b.d.x1 : Int), .int .u8 (b.d.x2 : Int), .int .u8 (b.d.x3 : Int), .int .u8 (b.d.x4 : Int), .int .u8 (b.d.x5 : Int), .int .u8 (b.d.x6 : Int), .int .u8 (b.d.x7 : Int), .int .i64 b.no, .int .i64 b.fe, .int .i64 b.ki, .slice b.A b.n b.c, .slice b.A' b.n' b.c'] 34)))
  have HA := Lib.hid (block_alloc (heap_alloc_new w (.cells #[.int .u8 (a.d.x0 : Int), .int .u8 (a.d.x1 : Int), .int .u8 (a.d.x2 : Int), .int .u8 (a.d.x3 : Int), .int .u8 (a.d.x4 : Int), .int .u8 (a.d.x5 : Int), .int .u8 (a.d.x6 : Int), .int .u8 (a.d.x7 : Int), .int .i64 a.no, .int .i64 a.fe, .int .i64 a.ki, .slice a.A a.n a.c, .slice a.A' a.n' a.c'] 34)) (.cells #[.int .u8 (b.d.x0 : Int), .int .u8 (b.d.x1 : Int), .int .u8 (b.d.x2 : Int), .int .u8 (b.d.x3 : Int), .int .u8 (b.d.x4 : Int), .int .u8 (b.d.x5 : Int), .int .u8 (b.d.x6 : Int), .int .u8 (b.d.x7 : Int), .int .i64 b.no, .int .i64 b.fe, .int .i64 b.ki, .slice b.A b.n b.c, .slice b.A' b.n' b.c'] 34))
  have HB : Hid (((w.alloc (.cells #[.int .u8 (a.d.x0 : Int), .int .u8 (a.d.x1 : Int), .int .u8 (a.d.x2 : Int), .int .u8 (a.d.x3 : Int), .int .u8 (a.d.x4 : Int), .int .u8 (a.d.x5 : Int), .int .u8 (a.d.x6 : Int), .int .u8 (a.d.x7 : Int), .int .i64 a.no, .int .i64 a.fe, .int .i64 a.ki, .slice a.A a.n a.c, .slice a.A' a.n' a.c'] 34)).alloc (.cells #[.int .u8 (b.d.x0 : Int), .int .u8 (b.d.x1 : Int), .int .u8 (b.d.x2 : Int), .int .u8 (b.d.x3 : Int), .int .u8 (b.d.x4 : Int), .int .u8 (b.d.x5 : Int), .int .u8 (b.d.x6 : Int), .int .u8 (b.d.x7 : Int), .int .i64 b.no, .int .i64 b.fe, .int .i64 b.ki, .slice b.A b.n b.c, .slice b.A' b.n' b.c'] 34)).heap[w.heap.size + 1]? = some (.cells #[.int .u8 (b.d.x0 : Int), .int .u8 (b.d.x1 : Int), .int .u8 (b.d.x2 : Int), .int .u8 (b.d.x3 : Int), .int .u8 (b.d.x4 : Int), .int .u8 (b.d.x5 : Int), .int .u8 (b.d.x6 : Int), .int .u8 (b.d.x7 : Int), .int .i64 b.no, .int .i64 b.fe, .int .i64 b.ki, .slice b.A b.n b.c, .slice b.A' b.n' b.c'] 34 (0, 0))) := by
    have := heap_alloc_new (w.alloc (.cells #[.int .u8 (a.d.x0 : Int), .int .u8 (a.d.x1 : Int), .int .u8 (a.d.x2 : Int), .int .u8 (a.d.x3 : Int), .int .u8 (a.d.x4 : Int), .int .u8 (a.d.x5 : Int), .int .u8 (a.d.x6 : Int), .int .u8 (a.d.x7 : Int), .int .i64 a.no, .int .i64 a.fe, .int .i64 a.ki, .slice a.A a.n a.c, .slice a.A' a.n' a.c'] 34)) (.cells #[.int .u8 (b.d.x0 : Int), .int .u8 (b.d.x1 : Int), .int .u8 (b.d.x2 : Int), .int .u8 (b.d.x3 : Int), .int .u8 (b.d.x4 : Int), .int .u8 (b.d.x5 : Int), .int .u8 (b.d.x6 : Int), .int .u8 (b.d.x7 : Int), .int .i64 b.no, .int .i64 b.fe, .int .i64 b.ki, .slice b.A b.n b.c, .slice b.A' b.n' b.c'] 34)
    rw [World.size_alloc] at this; exact this
  clear ha hb
  have heq := eql_digR
  by_cases q : eqI [(a.d.x0 : Int), (a.d.x1 : Int), (a.d.x2 : Int), (a.d.x3 : Int), (a.d.x4 : Int), (a.d.x5 : Int), (a.d.x6 : Int), (a.d.x7 : Int)] [(b.d.x0 : Int), (b.d.x1 : Int), (b.d.x2 : Int), (b.d.x3 : Int), (b.d.x4 : Int), (b.d.x5 : Int), (b.d.x6 : Int), (b.d.x7 : Int)] = false
  ·
    have Hr : Hid (sameT a b = false) := by show _ = _; simp only [sameT, q]; simp
    go_enter Try.func19, Try.ntmps19
    go_wp2
    go_ret
    exact ⟨ret_bool Hr.out.symm, below_two _ _ _⟩
  have q1 : eqI [(a.d.x0 : Int), (a.d.x1 : Int), (a.d.x2 : Int), (a.d.x3 : Int), (a.d.x4 : Int), (a.d.x5 : Int), (a.d.x6 : Int), (a.d.x7 : Int)] [(b.d.x0 : Int), (b.d.x1 : Int), (b.d.x2 : Int), (b.d.x3 : Int), (b.d.x4 : Int), (b.d.x5 : Int), (b.d.x6 : Int), (b.d.x7 : Int)] = true := by simpa using q
  clear q
  by_cases q : (a.no == b.no) = false
  ·
    have Hr : Hid (sameT a b = false) := by show _ = _; simp only [sameT, q]; simp
    go_enter Try.func19, Try.ntmps19
    go_wp2
    go_ret
    exact ⟨ret_bool Hr.out.symm, below_two _ _ _⟩
  have q2 : (a.no == b.no) = true := by simpa using q
  clear q
  by_cases q : (a.fe == b.fe) = false
  ·
    have Hr : Hid (sameT a b = false) := by show _ = _; simp only [sameT, q]; simp
    go_enter Try.func19, Try.ntmps19
    go_wp2
    go_ret
    exact ⟨ret_bool Hr.out.symm, below_two _ _ _⟩
  have q3 : (a.fe == b.fe) = true := by simpa using q
  clear q
  by_cases q : (a.ki == b.ki) = false
  ·
    have Hr : Hid (sameT a b = false) := by show _ = _; simp only [sameT, q]; simp
    go_enter Try.func19, Try.ntmps19
    go_wp2
    go_ret
    exact ⟨ret_bool Hr.out.symm, below_two _ _ _⟩
  have q4 : (a.ki == b.ki) = true := by simpa using q
  clear q
  have Hr : Hid (sameT a b = (sameB a.bo b.bo && sameB a.si b.si)) := by show _ = _; simp only [sameT, q1, q2, q3, q4]; simp
  go_enter Try.func19, Try.ntmps19
  go_wp2_with fail
  refine (samer_any a.A b.A a.n a.c b.n b.c a.bo b.bo _ Ha.out.r1 Hb.out.r1 (by have := Ha.out.m1; omega) (by have := Hb.out.m1; omega)).mono ?_
  rintro e w1 ⟨rfl, hb1⟩
  have HA1 := Lib.hid (block_below HA.out hb1 (by simp; omega))
  have HB1 := Lib.hid (block_below HB.out hb1 (by simp))
  have Ha1 := Lib.hid (Ha.out.up hb1)
  have Hb1 := Lib.hid (Hb.out.up hb1)
  have Hw1 := Lib.hid ((below_two w _ _).trans (hb1.mono (by simp; omega)))
  have za := block_cell HA1.out 12
  have zb := block_cell HB1.out 12
  simp at za zb
  clear hb1
  cases q5 : sameB a.bo b.bo with
  | false =>
    rw [q5] at Hr
    go_wp2
    go_ret
    exact ⟨ret_bool Hr.out.symm, Hw1.out⟩
  | true =>
    rw [q5] at Hr
    go_wp2_with fail
    refine (samer_any a.A' b.A' a.n' a.c' b.n' b.c' a.si b.si _ Ha1.out.r2 Hb1.out.r2 (by have := Ha1.out.m2; omega) (by have := Hb1.out.m2; omega)).mono ?_
    rintro e w2 ⟨rfl, hb2⟩
    have Hw2 := Lib.hid (Hw1.out.trans (hb2.mono Hw1.out.size))
    clear hb2
    go_wp2
    go_ret
    exact ⟨ret_bool (by rw [Hr.out]; rfl), Hw2.out⟩
end Go.Proofs.Ytebepgoaofhelaa
