/- A signature of any bytes: Verify, and the reference's. Conditions: room in the book. -/
import Derived.Test.YtepdinfopcohiaaNoD
import Derived.Test.YtepdinfopcohiaaNoJ
import Derived.Test.YtepdinfopcohiaaInv
import Derived.Test.YtepdinfopcohiaaNoS
namespace Go.Proofs.Ytepdinfopcohiaa
open Go.RowKit Go.Lib


/-- Are bytes the signature of an entry? -/
def verS (L : List En) (e : En) (s : List Nat) : Bool := match posE L e with
  | some i => decide (s = sigL i)
  | none => false
theorem verS_two {L : List En} {e : En} {x0 x1 : Nat} (hl : L.length < 60000) (h0 : x0 < 256) (h1 : x1 < 256) : verS L e [x0, x1] = verE L e (x0 + x1 * 256) := by
  unfold verS verE
  cases hp : posE L e with
  | none => rfl
  | some i =>
    have hi := posE_lt hp
    simp only [sigL, List.cons.injEq, and_true, Option.some_beq_some]
    rw [Bool.eq_iff_iff]
    simp only [decide_eq_true_eq, beq_iff_eq]
    omega
theorem verS_bad {L : List En} {e : En} {s : List Nat} (h : s.length ≠ 2) : verS L e s = false := by
  unfold verS
  cases posE L e with
  | none => rfl
  | some i =>
    refine decide_eq_false ?_
    rintro rfl
    exact h rfl
set_option maxRecDepth 100000 in
theorem verify_any (B bk mb : Nat) (L : List En) (e : En) (A : Option Addr) (m c : Nat) (s : List Nat) (w : World) (h : BookAt w B bk mb L) (he : e.ok) (hlen : L.length < 60000) (hr : Rd w w.heap.size 1 A m (bvN s)) (hs : ∀ x ∈ s, x < 256) :
    Calls Try.prog 14 #[.pointer (some ⟨bk, 0, none⟩), .agg #[.int .u8 (e.key.x0 : Int), .int .u8 (e.key.x1 : Int), .int .u8 (e.key.x2 : Int), .int .u8 (e.key.x3 : Int), .int .u8 (e.key.x4 : Int), .int .u8 (e.key.x5 : Int), .int .u8 (e.key.x6 : Int), .int .u8 (e.key.x7 : Int)], .agg #[.int .u8 (e.msg.x0 : Int), .int .u8 (e.msg.x1 : Int), .int .u8 (e.msg.x2 : Int), .int .u8 (e.msg.x3 : Int), .int .u8 (e.msg.x4 : Int), .int .u8 (e.msg.x5 : Int), .int .u8 (e.msg.x6 : Int), .int .u8 (e.msg.x7 : Int)], .slice A m c] w fun r w' => r = .returned (.bool (verS L e s)) ∧ Below w.heap.size w w' := by
  have hl := hr.blenN
  by_cases hm : m = 2
  · subst hm
    obtain ⟨b, o, rfl, hb, x0⟩ := hr.byteN (k := 0) (by omega)
    obtain ⟨b', o', e', _, x1⟩ := hr.byteN (k := 1) (by omega)
    simp only [Option.some.injEq, Addr.mk.injEq, and_true] at e'
    obtain ⟨rfl, rfl⟩ := e'
    match s, hl with
    | [y0, y1], _ =>
      have h0 := hs y0 (by simp)
      have h1 := hs y1 (by simp)
      rw [verS_two hlen h0 h1]
      exact verify_two B bk mb L e b o c y0 y1 w h he hlen h0 h1 hb x0 x1
  · rw [verS_bad (by omega)]
    exact verify_bad B bk mb L e A m c w h hm
def verN (W : List Nu) (e : Nu) (s : List Nat) : Bool := match posN W e with
  | some i => decide (s = sigL i)
  | none => false
theorem verN_en {W : List Nu} {e : Nu} {s : List Nat} (hW : ∀ x ∈ W, x.ok) (he : e.ok) : verS (W.map Nu.en) e.en s = verN W e s := by
  unfold verS verN; rw [posN_en hW he]
set_option maxRecDepth 100000 in
set_option maxHeartbeats 2000000 in
theorem verifyr_any (W : List Nu) (e : Nu) (s : List Nat) (A : Option Addr) (n c : Nat) (w : World) (hr : Rd w w.heap.size 2 A n (flatN W)) (hn : n ≤ 60000) (hs : ∀ x ∈ s, x < 256) :
    Calls Try.prog 17 #[.slice A n c, .agg #[.int .u64 (e.k : Int), .int .u64 (e.m : Int)], .string (strNo s)] w fun r w' => r = .returned (.bool (verN W e s)) ∧ Below w.heap.size w w' := by
  have Hl := Lib.hid hr.nlen
  have hb0 := below_one w (.cells #[.int .u64 (e.k : Int), .int .u64 (e.m : Int)] 53)
  have Hb0 := Lib.hid hb0
  have Hr := Lib.hid ((hr.below hb0 (Nat.le_refl _)).more (B' := (w.alloc (.cells #[.int .u64 (e.k : Int), .int .u64 (e.m : Int)] 53)).heap.size) (by simp))
  clear hr hb0
  cases hp : posN W e with
  | none =>
    have Hf : Hid (findN W e = -1) := by show _ = _; unfold findN; rw [hp]
    have Hv : Hid (verN W e s = false) := by show _ = _; unfold verN; rw [hp]
    clear hp
    go_enter Try.func17, Try.ntmps17
    go_wp2_with fail
    refine (findr_any W e A n c _ Hr.out (by omega)).mono ?_
    rintro r w1 ⟨rfl, hb1⟩
    rw [Hf.out]
    have Hb1 := Lib.hid (Hb0.out.trans (hb1.mono (by simp)))
    clear hb1
    go_wp2
    go_ret
    exact ⟨by rw [Hv.out]; rfl, Hb1.out⟩
  | some i =>
    have hi := (posN_lt hp).1
    have hil : i < 60000 := by have := Hl.out; omega
    have Hf : Hid (findN W e = (i : Int)) := by show _ = _; unfold findN; rw [hp]
    have Hv : Hid (verN W e s = decide (s = sigL i)) := by show _ = _; unfold verN; rw [hp]
    have hd : decide ((0 : Int) ≤ (i : Int)) = true := decide_eq_true (by omega)
    have Hse := Lib.hid (strNo_eq hs (sigL_lt i))
    clear hp hi
    go_enter Try.func17, Try.ntmps17
    go_wp2_with fail
    refine (findr_any W e A n c _ Hr.out (by omega)).mono ?_
    rintro r w1 ⟨rfl, hb1⟩
    rw [Hf.out]
    have Hb1 := Lib.hid (Hb0.out.trans (hb1.mono (by simp)))
    clear hb1
    by_cases hx : s = sigL i
    · have hse : ((strNo s).toList == (strNo (sigL i)).toList) = true := by rw [Hse.out, decide_eq_true hx]
      have Hv2 : Hid (verN W e s = true) := by show _ = _; rw [Hv.out, decide_eq_true hx]
      have hse2 : (strNo s).toList = (strNo (sigL i)).toList := by simpa using hse
      clear hx
      go_wp2_with (go_at_call 23; refine (bytesr_any i w1 (by omega)).mono ?_; rintro r w2 ⟨rfl, hb2⟩; have Hb2 := Lib.hid (Hb1.out.trans (hb2.mono Hb1.out.size)); clear hb2)
      go_ret
      exact ⟨by rw [Hv2.out]; rfl, Hb2.out⟩
    · have hse : ((strNo s).toList == (strNo (sigL i)).toList) = false := by rw [Hse.out, decide_eq_false hx]
      have Hv2 : Hid (verN W e s = false) := by show _ = _; rw [Hv.out, decide_eq_false hx]
      have hse2 : ¬ (strNo s).toList = (strNo (sigL i)).toList := by simpa using hse
      clear hx
      go_wp2_with (go_at_call 23; refine (bytesr_any i w1 (by omega)).mono ?_; rintro r w2 ⟨rfl, hb2⟩; have Hb2 := Lib.hid (Hb1.out.trans (hb2.mono Hb1.out.size)); clear hb2)
      go_ret
      exact ⟨by rw [Hv2.out]; rfl, Hb2.out⟩
end Go.Proofs.Ytepdinfopcohiaa
