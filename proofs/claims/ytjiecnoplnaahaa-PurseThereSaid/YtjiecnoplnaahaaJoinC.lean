/- The bytes of a purse, plainly; a name as bytes in memory. No condition. The purse of bytes, plainly. No condition. The walk of a purse's Encode. Condition: a bound on how many are held. The walks of PutText and of a purse's Digest. Conditions: bounds. The walk of the reference's Bytes of a purse. Condition: a bound on how many are held. The walks of a purse's source: num, name. Conditions: bounds. The walk of the reference's name of a purse. Conditions: bounds. -/
import Derived.Test.YtjiecnoplnaahaaPuC
import Derived.Test.YtjiecnoplnaahaaPuF
import Derived.Test.YtjiecnoplnaahaaJoinA
import Derived.Test.YtjiecnoplnaahaaJoinB
import Derived.Lib.AppendStr
import Derived.Test.YtjiecnoplnaahaaStepApp
import Derived.Deep.RegionHeld3
import Derived.Deep.DeepCutAuto
import Derived.Test.YtjiecnoplnaahaaPuT0
import Derived.Test.YtjiecnoplnaahaaInv
namespace Go.Proofs.Ytjiecnoplnaahaa
open Go.RowKit Go.Lib

def encHd (h : Hd) : List Nat := encB h.nm.bytes ++ encN h.am.toNat ++ encN h.fr.toNat ++ encN h.un.toNat
def encHds (l : List Hd) : List Nat := l.flatMap encHd
def encHead (p : Pu) : List Nat := encB p.nm.bytes ++ encN p.no.toNat ++ encN p.h0.toNat ++ encN p.h1.toNat ++ encN p.held.length
def encPu (p : Pu) : List Nat := encHead p ++ encHds p.held
theorem encB8_len (d : D8) : (encB d.bytes).length ≤ 19 := by
  unfold encB
  rw [List.length_append]
  have := encN_len d.bytes.length
  have h8 : d.bytes.length = 8 := rfl
  omega
theorem encHd_len (h : Hd) : (encHd h).length ≤ 52 := by
  unfold encHd
  simp only [List.length_append]
  have := encB8_len h.nm; have := encN_len h.am.toNat; have := encN_len h.fr.toNat; have := encN_len h.un.toNat
  omega
theorem encHds_len (l : List Hd) : (encHds l).length ≤ 52 * l.length := by
  induction l with
  | nil => simp [encHds]
  | cons h l ih => unfold encHds at ih ⊢; rw [List.flatMap_cons, List.length_append, List.length_cons]; have := encHd_len h; omega
theorem encHead_len (p : Pu) : (encHead p).length ≤ 63 := by
  unfold encHead
  simp only [List.length_append]
  have := encB8_len p.nm; have := encN_len p.no.toNat; have := encN_len p.h0.toNat; have := encN_len p.h1.toNat; have := encN_len p.held.length
  omega
theorem encPu_len (p : Pu) : (encPu p).length ≤ 63 + 52 * p.held.length := by
  unfold encPu
  rw [List.length_append]
  have := encHead_len p; have := encHds_len p.held
  omega
theorem encHds_take {l : List Hd} {k : Nat} (h : k < l.length) : encHds (l.take (k + 1)) = encHds (l.take k) ++ encHd (l.getD k default) := by
  unfold encHds
  rw [take_hd h, List.flatMap_append]
  simp
theorem rd_name {w : World} {g : Nat} {T : TypeId} {fz : Nat × Nat} {cs : Array Value} (d : D8) (h : w.heap[g]? = some (.cells cs T fz)) (hcs : cs.toList.take 8 = bv d.bytes) : Rd w w.heap.size 1 (some ⟨g, 0, none⟩) 8 (bv d.bytes) := by
  refine ⟨by rw [bv_len]; rfl, fun _ => ⟨g, 0, rfl, block_lt h, fun j u hu => ?_⟩⟩
  rw [block_cell h]
  rw [← hcs, List.getElem?_take] at hu
  split at hu
  · rw [Nat.zero_add, ← Array.getElem?_toList]; exact hu
  · cases hu
/-- What a purse that may be has. -/
theorem check_parts {p : Pu} (h : p.check = 0) : (0 ≤ p.no ∧ p.no ≤ 1099511627776) ∧ (0 ≤ p.h0 ∧ p.h0 ≤ 1125899906842624) ∧ (0 ≤ p.h1 ∧ p.h1 ≤ 1125899906842624) ∧ p.held.length ≤ 16 ∧ (∀ k, k < p.held.length → (p.held.getD k default).ok) := by
  unfold Pu.check at h
  by_cases h1 : (far p.no && rgt p.h0 && rgt p.h1) = true
  · rw [if_pos h1] at h
    simp only [Bool.and_eq_true, far_iff, rgt_iff] at h1
    by_cases h2 : 16 < p.held.length
    · rw [if_pos h2] at h; cases h
    · rw [if_neg h2] at h
      by_cases h3 : checkL p.held = 0
      · exact ⟨h1.1.1, h1.1.2, h1.2, by omega, fun k hk => (codeAt_ok.1 (checkL_all h3 k hk)).1⟩
      · rw [if_neg h3] at h; exact absurd h h3
  · rw [if_neg h1] at h; cases h
theorem enc7_lt : ∀ (f m : Nat), m < 128 ^ (f + 1) → ∀ x ∈ enc7 f m, x < 256
  | 0, m, h, x, hx => by simp [enc7] at hx; omega
  | f + 1, m, h, x, hx => by
    unfold enc7 at hx
    split at hx
    · simp at hx; omega
    · rcases List.mem_cons.1 hx with h1 | h1
      · omega
      · exact enc7_lt f (m / 128) (by rw [Nat.pow_succ] at h; exact Nat.div_lt_of_lt_mul (by rw [Nat.mul_comm]; exact h)) x h1
theorem encN_lt {n : Nat} (h : n < 18446744073709551616) : ∀ x ∈ encN n, x < 256 := enc7_lt 10 n (Nat.lt_of_lt_of_le h (by decide))
theorem encB_lt {l : List Nat} (h : ∀ x ∈ l, x < 256) (hl : l.length < 18446744073709551616) : ∀ x ∈ encB l, x < 256 := by
  intro x hx
  unfold encB at hx
  rcases List.mem_append.1 hx with h1 | h1
  · exact encN_lt hl x h1
  · exact h x h1
theorem encHd_lt {h : Hd} (ho : h.ok) (hn : h.nm.ok) : ∀ x ∈ encHd h, x < 256 := by
  obtain ⟨⟨a1, a2⟩, ⟨b1, b2⟩, ⟨c1, c2⟩⟩ := ho
  intro x hx
  unfold encHd at hx
  rcases List.mem_append.1 hx with h1 | h1
  · rcases List.mem_append.1 h1 with h1 | h1
    · rcases List.mem_append.1 h1 with h1 | h1
      · exact encB_lt (D8.bytes_lt hn) (by show 8 < _; omega) x h1
      · exact encN_lt (by omega) x h1
    · exact encN_lt (by omega) x h1
  · exact encN_lt (by omega) x h1
/-- A purse whose names are bytes. -/
def Pu.bytesOk (p : Pu) : Prop := p.nm.ok ∧ ∀ k, k < p.held.length → (p.held.getD k default).nm.ok
theorem encPu_lt {p : Pu} (hp : p.check = 0) (hb : p.bytesOk) : ∀ x ∈ encPu p, x < 256 := by
  obtain ⟨⟨h1, h2⟩, ⟨h3, h4⟩, ⟨h5, h6⟩, h7, h8⟩ := check_parts hp
  intro x hx
  unfold encPu at hx
  rcases List.mem_append.1 hx with hx | hx
  · unfold encHead at hx
    rcases List.mem_append.1 hx with hx | hx
    · rcases List.mem_append.1 hx with hx | hx
      · rcases List.mem_append.1 hx with hx | hx
        · rcases List.mem_append.1 hx with hx | hx
          · exact encB_lt (D8.bytes_lt hb.1) (by show 8 < _; omega) x hx
          · exact encN_lt (by omega) x hx
        · exact encN_lt (by omega) x hx
      · exact encN_lt (by omega) x hx
    · exact encN_lt (by omega) x hx
  · unfold encHds at hx
    obtain ⟨h, hm, hx⟩ := List.mem_flatMap.1 hx
    obtain ⟨k, hk, rfl⟩ := List.getElem_of_mem hm
    have e : p.held.getD k default = p.held[k] := by rw [List.getD_eq_getElem?_getD, List.getElem?_eq_getElem hk]; rfl
    exact encHd_lt (by rw [← e]; exact h8 k hk) (by rw [← e]; exact hb.2 k hk) x hx
end Go.Proofs.Ytjiecnoplnaahaa
namespace Go.Proofs.Ytjiecnoplnaahaa
open Go.RowKit Go.Lib
def nameRS (s : RS) : RS × D8 :=
  if (bytesRS s 8).1.err ≠ 0 then ((bytesRS s 8).1, nm0)
  else if (bytesRS s 8).2.length ≠ 8 then (⟨s.l, s.at_, 3⟩, nm0)
  else ((bytesRS s 8).1, chunk (bytesRS s 8).2 0)
def mostN : Nat := 1125899906842624
def farN : Nat := 1099511627776
def hdRS (s : RS) : RS × Hd :=
  ((numRS (numRS (numRS (nameRS s).1 mostN).1 1).1 farN).1, ⟨(nameRS s).2, ((numRS (nameRS s).1 mostN).2 : Int), ((numRS (numRS (nameRS s).1 mostN).1 1).2 : Int), ((numRS (numRS (numRS (nameRS s).1 mostN).1 1).1 farN).2 : Int)⟩)
def hRS (s : RS) : Nat → RS × List Hd
  | 0 => (s, [])
  | k + 1 => if (hRS s k).1.err ≠ 0 then hRS s k else ((hdRS (hRS s k).1).1, (hRS s k).2 ++ [(hdRS (hRS s k).1).2])
def p1 (l : List Nat) : RS := (nameRS ⟨l, 0, 0⟩).1
def p2 (l : List Nat) : RS := (numRS (p1 l) farN).1
def p3 (l : List Nat) : RS := (numRS (p2 l) mostN).1
def p4 (l : List Nat) : RS := (numRS (p3 l) mostN).1
def p5 (l : List Nat) : RS := (numRS (p4 l) 16).1
def manyRS (l : List Nat) : Nat := (numRS (p4 l) 16).2
def puRS (l : List Nat) : RS × Pu :=
  ((hRS (p5 l) (manyRS l)).1, ⟨(nameRS ⟨l, 0, 0⟩).2, ((numRS (p1 l) farN).2 : Int), ((numRS (p2 l) mostN).2 : Int), ((numRS (p3 l) mostN).2 : Int), (hRS (p5 l) (manyRS l)).2⟩)
def decPu (l : List Nat) : Int × Pu :=
  if endRS (puRS l).1 ≠ 0 then (endRS (puRS l).1, pu0) else if (puRS l).2.check ≠ 0 then ((puRS l).2.check, pu0) else (0, (puRS l).2)
theorem numRS_le (s : RS) (m : Nat) : (numRS s m).2 ≤ m := by
  unfold numRS
  split
  · exact Nat.zero_le _
  · split
    · exact Nat.zero_le _
    · rename_i h1 h2
      unfold take1 at h2 ⊢
      split at h2
      · rename_i h3; exact absurd h3 (by simpa using h2)
      · split at h2
        · simp at h2
        · rename_i h3 h4; simp only [h3, h4, if_false]; omega
theorem hRS_stop {s : RS} {k : Nat} (h : (hRS s k).1.err ≠ 0) : ∀ j, hRS s (k + j) = hRS s k
  | 0 => rfl
  | j + 1 => by
    show (if (hRS s (k + j)).1.err ≠ 0 then hRS s (k + j) else _) = _
    rw [hRS_stop h j, if_pos h]
theorem hRS_len (s : RS) : ∀ k, (hRS s k).2.length ≤ k
  | 0 => Nat.le_refl _
  | k + 1 => by
    have := hRS_len s k
    unfold hRS
    split
    · omega
    · simp; omega
theorem hRS_go {s : RS} {k : Nat} (h : (hRS s k).1.err = 0) : hRS s (k + 1) = ((hdRS (hRS s k).1).1, (hRS s k).2 ++ [(hdRS (hRS s k).1).2]) := by
  show (if (hRS s k).1.err ≠ 0 then _ else _) = _
  rw [if_neg (by simpa using h)]
/-- What two blocks hold may be other, what there was else is as it was. -/
structure Two (w w' : World) (g b : Nat) : Prop where
  os : w'.os = w.os
  tape : w'.tape = w.tape
  output : w'.output = w.output
  size : w.heap.size ≤ w'.heap.size
  block : ∀ k, k < w.heap.size → k ≠ g → k ≠ b → w'.heap[k]? = w.heap[k]?
theorem Two.refl (w : World) (g b : Nat) : Two w w g b := ⟨rfl, rfl, rfl, Nat.le_refl _, fun _ _ _ _ => rfl⟩
theorem Two.trans {w w1 w2 : World} {g b : Nat} (h : Two w w1 g b) (h2 : Two w1 w2 g b) : Two w w2 g b :=
  ⟨h2.os.trans h.os, h2.tape.trans h.tape, h2.output.trans h.output, Nat.le_trans h.size h2.size, fun k hk h3 h4 => (h2.block k (Nat.lt_of_lt_of_le hk h.size) h3 h4).trans (h.block k hk h3 h4)⟩
theorem Two.grown {w w1 w2 : World} {g b r : Nat} (h : Two w w1 g b) (h2 : w1.grownBy w2 (some r)) (hr : r = g ∨ r = b ∨ w.heap.size ≤ r) : Two w w2 g b :=
  ⟨h2.os.trans h.os, h2.tape.trans h.tape, h2.output.trans h.output, Nat.le_trans h.size h2.size, fun k hk h3 h4 => (h2.block k (Nat.lt_of_lt_of_le hk h.size) (fun e => by injection e with e; omega)).trans (h.block k hk h3 h4)⟩
theorem Two.below {w w1 w2 : World} {g b : Nat} (h : Two w w1 g b) (h2 : Below w1.heap.size w1 w2) : Two w w2 g b :=
  ⟨h2.os.trans h.os, h2.tape.trans h.tape, h2.output.trans h.output, Nat.le_trans h.size h2.size, fun k hk h3 h4 => (h2.block k (Nat.lt_of_lt_of_le hk h.size)).trans (h.block k hk h3 h4)⟩
theorem Two.drew {w w1 : World} {g b : Nat} (h : Two w w1 g b) : Two w w1.drew g b := ⟨h.os, h.tape, h.output, h.size, h.block⟩
theorem Two.alloc {w : World} {g b : Nat} (o : Obj) : Two w (w.alloc o) g b := (Two.refl w g b).below ((Below.refl _ _).alloc (Nat.le_refl _) _)
theorem Two.toBelow {w w1 : World} {g b B : Nat} (h : Two w w1 g b) (hB : B ≤ w.heap.size) (hg : B ≤ g) (hb : B ≤ b) : Below B w w1 :=
  ⟨h.os, h.tape, h.output, h.size, fun k hk => h.block k (by omega) (by omega) (by omega)⟩
/-- A source: a reader, and the first error. -/
def Src (w : World) (g b : Nat) (t : RS) : Prop :=
  b < g ∧ w.heap[g]? = some (.cells #[.pointer (some ⟨b, 0, none⟩), .int .i64 t.err] 110 (0, 0)) ∧ ∃ sr, RdAt w b sr ∧ (t.err = 0 → sr = t)
theorem Src.below {w w' : World} {g b : Nat} {t : RS} (h : Src w g b t) (hb : Below w.heap.size w w') : Src w' g b t := by
  obtain ⟨h1, h2, sr, h3, h4⟩ := h
  exact ⟨h1, block_below h2 hb (block_lt h2), sr, h3.below hb h3.lt, h4⟩
theorem Src.block {w : World} {g b : Nat} {t : RS} (h : Src w g b t) : w.heap[g]? = some (.cells #[.pointer (some ⟨b, 0, none⟩), .int .i64 t.err] 110 (0, 0)) := h.2.1
theorem src_set {w : World} {b g : Nat} {x e' : Int} (h : w.heap[g]? = some (.cells #[.pointer (some ⟨b, 0, none⟩), .int .i64 x] 110 (0, 0))) :
    (w.setCell ⟨g, 1, none⟩ (.int .i64 e')).heap[g]? = some (.cells #[.pointer (some ⟨b, 0, none⟩), .int .i64 e'] 110 (0, 0)) := by
  simpa using Joins.block_setCell (i := 1) h (.int .i64 e')
theorem RdAt.keepGrown {w w' : World} {b r : Nat} {s : RS} (h : RdAt w b s) (hg : w.grownBy w' (some r)) (hne : b < r) : RdAt w' b s := h.grown hg hne
end Go.Proofs.Ytjiecnoplnaahaa
namespace Go.Proofs.Ytjiecnoplnaahaa
open Go.RowKit Go.Lib


theorem putNum_at (A : Option Addr) (n c : Nat) (x : Int) (l : List Nat) (w : World) (hr : Rd w w.heap.size 1 A n (bv l)) (hn : n ≤ 900000000) (h0 : 0 ≤ x) (h1 : x ≤ 18446744073709551615) :
    Calls Try.prog 59 #[.slice A n c, .int .u64 x] w (GivesB w (l ++ encN x.toNat)) := by
  obtain ⟨m, rfl⟩ := Int.eq_ofNat_of_zero_le h0
  rw [Int.toNat_natCast]
  exact putNum_any A n c m l w hr hn (by omega)
set_option maxRecDepth 100000 in
set_option maxHeartbeats 2000000 in
theorem encode_good (p : Pu) (A : Option Addr) (n c : Nat) (w : World) (h : PuV.At p A n c w) (hp : p.check = 0) :
    Calls Try.prog 30 #[.agg #[.int .u8 (p.nm.x0 : Int), .int .u8 (p.nm.x1 : Int), .int .u8 (p.nm.x2 : Int), .int .u8 (p.nm.x3 : Int), .int .u8 (p.nm.x4 : Int), .int .u8 (p.nm.x5 : Int), .int .u8 (p.nm.x6 : Int), .int .u8 (p.nm.x7 : Int), .int .i64 p.no, .int .i64 p.h0, .int .i64 p.h1, .slice A n c]] w fun e w' => ∃ A' n' c', e = .returned (.tuple #[.slice A' n' c', .int .i64 0]) ∧ w'.ownsRow w.heap.size 5 1 (.slice A' n' c') n' (bv (encPu p)) ∧ n' = (encPu p).length ∧ Below w.heap.size w w' := by
  obtain ⟨⟨h1, h2⟩, ⟨h3, h4⟩, ⟨h5, h6⟩, h7, h8⟩ := check_parts hp
  have hlen : p.held.length = n := h.rd.hlen
  have hn16 : n ≤ 16 := by omega
  have Hp := Lib.hid hp; have Hh := Lib.hid h; have Hok := Lib.hid h8; have Hlen := Lib.hid hlen
  have hX0 : (w.alloc (.cells #[.int .u8 (p.nm.x0 : Int), .int .u8 (p.nm.x1 : Int), .int .u8 (p.nm.x2 : Int), .int .u8 (p.nm.x3 : Int), .int .u8 (p.nm.x4 : Int), .int .u8 (p.nm.x5 : Int), .int .u8 (p.nm.x6 : Int), .int .u8 (p.nm.x7 : Int), .int .i64 p.no, .int .i64 p.h0, .int .i64 p.h1, .slice A n c] 32)).heap[w.heap.size]? = some (.cells #[.int .u8 (p.nm.x0 : Int), .int .u8 (p.nm.x1 : Int), .int .u8 (p.nm.x2 : Int), .int .u8 (p.nm.x3 : Int), .int .u8 (p.nm.x4 : Int), .int .u8 (p.nm.x5 : Int), .int .u8 (p.nm.x6 : Int), .int .u8 (p.nm.x7 : Int), .int .i64 p.no, .int .i64 p.h0, .int .i64 p.h1, .slice A n c] 32 (0, 0)) := heap_alloc_new w _
  have Hb00 := Lib.hid (below_one w (.cells #[.int .u8 (p.nm.x0 : Int), .int .u8 (p.nm.x1 : Int), .int .u8 (p.nm.x2 : Int), .int .u8 (p.nm.x3 : Int), .int .u8 (p.nm.x4 : Int), .int .u8 (p.nm.x5 : Int), .int .u8 (p.nm.x6 : Int), .int .u8 (p.nm.x7 : Int), .int .i64 p.no, .int .i64 p.h0, .int .i64 p.h1, .slice A n c] 32))
  have HX00 := Lib.hid hX0
  have b0 : (p.check != 0) = false := by simpa using hp
  have Hb0' := Lib.hid b0
  clear hp h h8 hlen hX0 b0
  go_enter Try.func30, Try.ntmps30
  go_wp2_with fail
  refine (pcheck_any p A n c _ (Hh.out.up Hb00.out)).mono ?_
  rintro e w0 ⟨rfl, hb⟩
  have HX0 := Lib.hid (block_below HX00.out hb (by simp))
  have Hb0 := Lib.hid (Hb00.out.trans (hb.mono (by simp)))
  clear hb HX00 Hb00
  have r := block_cell HX0.out
  have r0 := r 0; have r1 := r 1; have r2 := r 2; have r3 := r 3; have r4 := r 4; have r5 := r 5; have r6 := r 6; have r7 := r 7; have r8 := r 8; have r9 := r 9; have r10 := r 10; have r11 := r 11
  have rf := block_free HX0.out
  simp at r0 r1 r2 r3 r4 r5 r6 r7 r8 r9 r10 r11
  clear r
  have b0 := Hb0'.out
  have i0 : ∀ w, (Instr.index 99 (.agg #[.int .i64 p.no, .int .i64 p.h0, .int .i64 p.h1, .int .i64 (n : Int)]) (.int .i64 0)).run Try.prog w = .ok (.int .i64 p.no) w := fun _ => by kernel_rfl
  have i1 : ∀ w, (Instr.index 99 (.agg #[.int .i64 p.no, .int .i64 p.h0, .int .i64 p.h1, .int .i64 (n : Int)]) (.int .i64 1)).run Try.prog w = .ok (.int .i64 p.h0) w := fun _ => by kernel_rfl
  have i2 : ∀ w, (Instr.index 99 (.agg #[.int .i64 p.no, .int .i64 p.h0, .int .i64 p.h1, .int .i64 (n : Int)]) (.int .i64 2)).run Try.prog w = .ok (.int .i64 p.h1) w := fun _ => by kernel_rfl
  have i3 : ∀ w, (Instr.index 99 (.agg #[.int .i64 p.no, .int .i64 p.h0, .int .i64 p.h1, .int .i64 (n : Int)]) (.int .i64 3)).run Try.prog w = .ok (.int .i64 (n : Int)) w := fun _ => by kernel_rfl
  have Hrn0 := Lib.hid (rd_name p.nm HX0.out rfl)
  have hni : (n : Int) ≤ 16 := by omega
  go_wp2_with fail
  refine (putBytes_any none (some ⟨w.heap.size, 0, none⟩) 0 0 8 8 [] p.nm.bytes w0 Rd.empty (by omega) Hrn0.out (by omega)).mono ?_
  rintro e w1 ⟨A1, n1, c1, rfl, ho1, hn1, hb1⟩
  have HR1 := Lib.hid (Rd.of_own ho1); have HN1 := Lib.hid hn1; have HX1 := Lib.hid (block_below HX0.out hb1 (block_lt HX0.out)); have HO1 := Lib.hid (pown_down ho1 Hb0.out.size); have Hb1 := Lib.hid (Hb0.out.trans (hb1.mono Hb0.out.size))
  clear ho1 hn1 hb1
  have hl1 : n1 ≤ 19 := by rw [HN1.out]; exact encB8_len _
  clear r0 r1 r2 r3 r4 r5 r6 r7 r8 r9 r10 r11 rf Hrn0
  have r := block_cell HX1.out
  have r0 := r 0; have r1 := r 1; have r2 := r 2; have r3 := r 3; have r4 := r 4; have r5 := r 5; have r6 := r 6; have r7 := r 7; have r8 := r 8; have r9 := r 9; have r10 := r 10; have r11 := r 11
  have rf := block_free HX1.out
  simp at r0 r1 r2 r3 r4 r5 r6 r7 r8 r9 r10 r11
  clear r
  go_wp2
  refine wp_loop_rounds 5 ?_
  rw [rounds_succ]
  go_wp2_with fail
  refine (putNum_at A1 n1 c1 p.no _ w1 HR1.out (by omega) h1 (by omega)).mono ?_
  rintro e w2 ⟨A2, n2, c2, rfl, ho2, hn2, hb2⟩
  have HR2 := Lib.hid (Rd.of_own ho2); have HN2 := Lib.hid hn2; have HX2 := Lib.hid (block_below HX1.out hb2 (block_lt HX1.out)); have HO2 := Lib.hid (pown_down ho2 Hb1.out.size); have Hb2 := Lib.hid (Hb1.out.trans (hb2.mono Hb1.out.size))
  clear ho2 hn2 hb2
  have hl2 : n2 ≤ 30 := by rw [HN2.out, List.length_append, ← HN1.out]; have := encN_len p.no.toNat; omega
  go_wp2
  rw [rounds_succ]
  go_wp2_with fail
  refine (putNum_at A2 n2 c2 p.h0 _ w2 HR2.out (by omega) h3 (by omega)).mono ?_
  rintro e w3 ⟨A3, n3, c3, rfl, ho3, hn3, hb3⟩
  have HR3 := Lib.hid (Rd.of_own ho3); have HN3 := Lib.hid hn3; have HX3 := Lib.hid (block_below HX2.out hb3 (block_lt HX2.out)); have HO3 := Lib.hid (pown_down ho3 Hb2.out.size); have Hb3 := Lib.hid (Hb2.out.trans (hb3.mono Hb2.out.size))
  clear ho3 hn3 hb3
  have hl3 : n3 ≤ 41 := by rw [HN3.out, List.length_append, ← HN2.out]; have := encN_len p.h0.toNat; omega
  go_wp2
  rw [rounds_succ]
  go_wp2_with fail
  refine (putNum_at A3 n3 c3 p.h1 _ w3 HR3.out (by omega) h5 (by omega)).mono ?_
  rintro e w4 ⟨A4, n4, c4, rfl, ho4, hn4, hb4⟩
  have HR4 := Lib.hid (Rd.of_own ho4); have HN4 := Lib.hid hn4; have HX4 := Lib.hid (block_below HX3.out hb4 (block_lt HX3.out)); have HO4 := Lib.hid (pown_down ho4 Hb3.out.size); have Hb4 := Lib.hid (Hb3.out.trans (hb4.mono Hb3.out.size))
  clear ho4 hn4 hb4
  have hl4 : n4 ≤ 52 := by rw [HN4.out, List.length_append, ← HN3.out]; have := encN_len p.h1.toNat; omega
  go_wp2
  rw [rounds_succ]
  go_wp2_with fail
  refine (putNum_at A4 n4 c4 (n : Int) _ w4 HR4.out (by omega) (by omega) (by omega)).mono ?_
  rintro e w5 ⟨A5, n5, c5, rfl, ho5, hn5, hb5⟩
  have HR5 := Lib.hid (Rd.of_own ho5); have HN5 := Lib.hid hn5; have HX5 := Lib.hid (block_below HX4.out hb5 (block_lt HX4.out)); have HO5 := Lib.hid (pown_down ho5 Hb4.out.size); have Hb5 := Lib.hid (Hb4.out.trans (hb5.mono Hb4.out.size))
  clear ho5 hn5 hb5
  have hl5 : n5 ≤ 63 := by rw [HN5.out, List.length_append, ← HN4.out]; have := encN_len (n : Int).toNat; omega
  go_wp2
  rw [rounds_succ]
  have Hhead : Hid ([] ++ encB p.nm.bytes ++ encN p.no.toNat ++ encN p.h0.toNat ++ encN p.h1.toNat ++ encN (n : Int).toNat = encHead p ++ encHds (p.held.take 0)) := Lib.hid (by unfold encHead encHds; rw [Hlen.out]; simp)
  rw [Hhead.out] at HR5 HN5 HO5
  clear r0 r1 r2 r3 r4 r5 r6 r7 r8 r9 r10 r11 rf
  have r := block_cell HX5.out
  have r0 := r 0; have r1 := r 1; have r2 := r 2; have r3 := r 3; have r4 := r 4; have r5 := r 5; have r6 := r 6; have r7 := r 7; have r8 := r 8; have r9 := r 9; have r10 := r 10; have r11 := r 11
  have rf := block_free HX5.out
  simp at r0 r1 r2 r3 r4 r5 r6 r7 r8 r9 r10 r11
  clear r
  go_wp2
  go_loopw [5, 43] (fun v i wr => ∃ (k m : Nat) (A' : Option Addr) (c' : Nat), k ≤ n ∧ i = .int .i64 (k : Int) ∧ v = .slice A' m c' ∧ Hid (m ≤ 63 + 52 * k) ∧ Hid (Rd wr wr.heap.size 1 A' m (bv (encHead p ++ encHds (p.held.take k)))) ∧ Hid (m = (encHead p ++ encHds (p.held.take k)).length) ∧ Hid (wr.ownsRow w.heap.size 5 1 (.slice A' m c') m (bv (encHead p ++ encHds (p.held.take k)))) ∧ Hid (Below w.heap.size w wr)) (fun _ i _ => n - (intOf i).toNat)
  case atStart => exact ⟨0, n5, A5, c5, by omega, rfl, rfl, Lib.hid (by omega), HR5, HN5, HO5, Hb5⟩
  case round =>
    obtain ⟨k, m, A', c', hk, rfl, rfl, Hm, HRk, HNk, HOk, Hbk⟩ := hrel
    by_cases hlt : k < n
    · obtain ⟨b, o, rfl, hbB, x0, x1, x2, x3, x4, x5, x6, x7, x8, x9, x10⟩ := (Hh.out.rd.below Hbk.out (Nat.le_refl _)).hd hlt
      have hok := Hok.out k (by rw [Hlen.out]; exact hlt)
      have Htk := Lib.hid (encHds_take (l := p.held) (k := k) (by rw [Hlen.out]; exact hlt))
      generalize p.held.getD k default = h at *
      obtain ⟨⟨ha1, ha2⟩, ⟨hf1, hf2⟩, ⟨hu1, hu2⟩⟩ := hok
      have hbk := Hbk.out.size
      have hm900 : m ≤ 900 := by have := Hm.out; omega
      have j0 : ∀ w, (Instr.index 34 (.agg #[.int .i64 h.am, .int .i64 h.fr, .int .i64 h.un]) (.int .i64 0)).run Try.prog w = .ok (.int .i64 h.am) w := fun _ => by kernel_rfl
      have j1 : ∀ w, (Instr.index 34 (.agg #[.int .i64 h.am, .int .i64 h.fr, .int .i64 h.un]) (.int .i64 1)).run Try.prog w = .ok (.int .i64 h.fr) w := fun _ => by kernel_rfl
      have j2 : ∀ w, (Instr.index 34 (.agg #[.int .i64 h.am, .int .i64 h.fr, .int .i64 h.un]) (.int .i64 2)).run Try.prog w = .ok (.int .i64 h.un) w := fun _ => by kernel_rfl
      have HX6 := Lib.hid (heap_alloc_new wr (.cells #[.int .u8 (h.nm.x0 : Int), .int .u8 (h.nm.x1 : Int), .int .u8 (h.nm.x2 : Int), .int .u8 (h.nm.x3 : Int), .int .u8 (h.nm.x4 : Int), .int .u8 (h.nm.x5 : Int), .int .u8 (h.nm.x6 : Int), .int .u8 (h.nm.x7 : Int), .int .i64 h.am, .int .i64 h.fr, .int .i64 h.un] 56))
      have Hrn6 := Lib.hid (rd_name h.nm HX6.out rfl)
      have Hb6 := Lib.hid (Hbk.out.alloc hbk (.cells #[.int .u8 (h.nm.x0 : Int), .int .u8 (h.nm.x1 : Int), .int .u8 (h.nm.x2 : Int), .int .u8 (h.nm.x3 : Int), .int .u8 (h.nm.x4 : Int), .int .u8 (h.nm.x5 : Int), .int .u8 (h.nm.x6 : Int), .int .u8 (h.nm.x7 : Int), .int .i64 h.am, .int .i64 h.fr, .int .i64 h.un] 56))
      have HR6 := Lib.hid ((HRk.out.alloc (Nat.le_refl _) (.cells #[.int .u8 (h.nm.x0 : Int), .int .u8 (h.nm.x1 : Int), .int .u8 (h.nm.x2 : Int), .int .u8 (h.nm.x3 : Int), .int .u8 (h.nm.x4 : Int), .int .u8 (h.nm.x5 : Int), .int .u8 (h.nm.x6 : Int), .int .u8 (h.nm.x7 : Int), .int .i64 h.am, .int .i64 h.fr, .int .i64 h.un] 56)).more (show wr.heap.size ≤ (wr.alloc (.cells #[.int .u8 (h.nm.x0 : Int), .int .u8 (h.nm.x1 : Int), .int .u8 (h.nm.x2 : Int), .int .u8 (h.nm.x3 : Int), .int .u8 (h.nm.x4 : Int), .int .u8 (h.nm.x5 : Int), .int .u8 (h.nm.x6 : Int), .int .u8 (h.nm.x7 : Int), .int .i64 h.am, .int .i64 h.fr, .int .i64 h.un] 56)).heap.size by simp))
      go_wp2_with fail
      refine (putBytes_any A' (some ⟨wr.heap.size, 0, none⟩) m c' 8 8 _ h.nm.bytes _ HR6.out (by omega) Hrn6.out (by omega)).mono ?_
      rintro e w7 ⟨A7, n7, c7, rfl, ho7, hn7, hb7⟩
      have HR7 := Lib.hid (Rd.of_own ho7); have HN7 := Lib.hid hn7; have HX7 := Lib.hid (block_below HX6.out hb7 (block_lt HX6.out)); have HO7 := Lib.hid (pown_down ho7 Hb6.out.size); have Hb7 := Lib.hid (Hb6.out.trans (hb7.mono Hb6.out.size))
      clear ho7 hn7 hb7
      have hl7 : n7 ≤ 1000 := by rw [HN7.out, List.length_append, ← HNk.out]; have := encB8_len h.nm; omega
      clear x0 x1 x2 x3 x4 x5 x6 x7 x8 x9 x10 Hrn6
      have z8 := block_cell HX7.out 8; have z9 := block_cell HX7.out 9; have z10 := block_cell HX7.out 10
      simp at z8 z9 z10
      go_wp2
      refine wp_loop_rounds 4 ?_
      rw [rounds_succ]
      go_wp2_with fail
      refine (putNum_at A7 n7 c7 h.am _ w7 HR7.out (by omega) (by omega) (by omega)).mono ?_
      rintro e w8 ⟨A8, n8, c8, rfl, ho8, hn8, hb8⟩
      have HR8 := Lib.hid (Rd.of_own ho8); have HN8 := Lib.hid hn8; have HX8 := Lib.hid (block_below HX7.out hb8 (block_lt HX7.out)); have HO8 := Lib.hid (pown_down ho8 Hb7.out.size); have Hb8 := Lib.hid (Hb7.out.trans (hb8.mono Hb7.out.size))
      clear ho8 hn8 hb8
      have hl8 : n8 ≤ 1011 := by rw [HN8.out, List.length_append, ← HN7.out]; have := encN_len h.am.toNat; omega
      go_wp2
      rw [rounds_succ]
      go_wp2_with fail
      refine (putNum_at A8 n8 c8 h.fr _ w8 HR8.out (by omega) hf1 (by omega)).mono ?_
      rintro e w9 ⟨A9, n9, c9, rfl, ho9, hn9, hb9⟩
      have HR9 := Lib.hid (Rd.of_own ho9); have HN9 := Lib.hid hn9; have HX9 := Lib.hid (block_below HX8.out hb9 (block_lt HX8.out)); have HO9 := Lib.hid (pown_down ho9 Hb8.out.size); have Hb9 := Lib.hid (Hb8.out.trans (hb9.mono Hb8.out.size))
      clear ho9 hn9 hb9
      have hl9 : n9 ≤ 1022 := by rw [HN9.out, List.length_append, ← HN8.out]; have := encN_len h.fr.toNat; omega
      go_wp2
      rw [rounds_succ]
      go_wp2_with fail
      refine (putNum_at A9 n9 c9 h.un _ w9 HR9.out (by omega) hu1 (by omega)).mono ?_
      rintro e w10 ⟨A10, n10, c10, rfl, ho10, hn10, hb10⟩
      have HR10 := Lib.hid (Rd.of_own ho10); have HN10 := Lib.hid hn10; have HX10 := Lib.hid (block_below HX9.out hb10 (block_lt HX9.out)); have HO10 := Lib.hid (pown_down ho10 Hb9.out.size); have Hb10 := Lib.hid (Hb9.out.trans (hb10.mono Hb9.out.size))
      clear ho10 hn10 hb10
      have Hfin : Hid (encHead p ++ encHds (p.held.take k) ++ encB h.nm.bytes ++ encN h.am.toNat ++ encN h.fr.toNat ++ encN h.un.toNat = encHead p ++ encHds (p.held.take (k + 1))) := Lib.hid (by rw [Htk.out]; unfold encHd; simp only [List.append_assoc])
      rw [Hfin.out] at HR10 HN10 HO10
      have Hm10 : Hid (n10 ≤ 63 + 52 * (k + 1)) := Lib.hid (by
        have h1 := encHead_len p; have h2 := encHds_len (p.held.take (k + 1)); have h3 := List.length_take_le (k + 1) p.held
        rw [HN10.out, List.length_append]; omega)
      clear z8 z9 z10
      go_wp2
      rw [rounds_succ]
      go_wp2
      go_roundw
      case rel => exact ⟨k + 1, n10, A10, c10, by omega, by go_num, rfl, Hm10, HR10, HN10, HO10, Hb10⟩
      case measure => simp [intOf]; omega
    · obtain rfl : k = n := by omega
      clear hlt hk
      have Hfin : Hid (encHead p ++ encHds (p.held.take k) = encPu p) := Lib.hid (by rw [List.take_of_length_le (by rw [Hlen.out]; exact Nat.le_refl _)]; rfl)
      rw [Hfin.out] at HNk HOk
      go_wp2
      go_ret2
      exact ⟨A', m, c', rfl, HOk.out, HNk.out, Hbk.out⟩
set_option maxRecDepth 100000 in
set_option maxHeartbeats 2000000 in
theorem encode_bad (p : Pu) (A : Option Addr) (n c : Nat) (w : World) (h : PuV.At p A n c w) (hp : p.check ≠ 0) :
    Calls Try.prog 30 #[.agg #[.int .u8 (p.nm.x0 : Int), .int .u8 (p.nm.x1 : Int), .int .u8 (p.nm.x2 : Int), .int .u8 (p.nm.x3 : Int), .int .u8 (p.nm.x4 : Int), .int .u8 (p.nm.x5 : Int), .int .u8 (p.nm.x6 : Int), .int .u8 (p.nm.x7 : Int), .int .i64 p.no, .int .i64 p.h0, .int .i64 p.h1, .slice A n c]] w fun e w' => e = .returned (.tuple #[.slice none 0 0, .int .i64 p.check]) ∧ Below w.heap.size w w' := by
  have Hh := Lib.hid h
  have Hb00 := Lib.hid (below_one w (.cells #[.int .u8 (p.nm.x0 : Int), .int .u8 (p.nm.x1 : Int), .int .u8 (p.nm.x2 : Int), .int .u8 (p.nm.x3 : Int), .int .u8 (p.nm.x4 : Int), .int .u8 (p.nm.x5 : Int), .int .u8 (p.nm.x6 : Int), .int .u8 (p.nm.x7 : Int), .int .i64 p.no, .int .i64 p.h0, .int .i64 p.h1, .slice A n c] 32))
  have b0 : (p.check != 0) = true := by simpa using hp
  clear hp h
  go_enter Try.func30, Try.ntmps30
  go_wp2_with fail
  refine (pcheck_any p A n c _ (Hh.out.up Hb00.out)).mono ?_
  rintro e w0 ⟨rfl, hb⟩
  have Hb0 := Lib.hid (Hb00.out.trans (hb.mono (by simp)))
  clear hb Hb00
  go_wp2
  go_ret2
  exact ⟨rfl, Hb0.out⟩
end Go.Proofs.Ytjiecnoplnaahaa
namespace Go.Proofs.Ytjiecnoplnaahaa
open Go.RowKit Go.Lib



set_option maxRecDepth 100000 in
set_option maxHeartbeats 1000000 in
theorem putText_any (A : Option Addr) (n c : Nat) (l t : List Nat) (s : ByteArray) (w : World) (hr : Rd w w.heap.size 1 A n (bv l)) (hn : n ≤ 400000000) (hs : strCells s = bv t) (hsz : s.size = t.length) (hn' : s.size ≤ 400000000) :
    Calls Try.prog 63 #[.slice A n c, .string s] w (GivesB w (l ++ encB t)) := by
  obtain ⟨i0, hi, hz0, hz1, hz2⟩ := info_parts info_u8
  have HI := Lib.hid (And.intro hi (And.intro hz0 (And.intro hz1 hz2))); clear hi hz0 hz1 hz2
  have Hr := Lib.hid hr
  have Hl := Lib.hid hr.blen; have HS := Lib.hid hs; have Hsz := Lib.hid hsz
  clear hr hs hsz
  have hni : (s.size : Int) ≤ 400000000 := by omega
  go_enter Try.func63, Try.ntmps63
  go_wp2_with fail
  have ecast : (10 : Int) + (s.size : Int) = ((10 + s.size : Nat) : Int) := by omega
  rw [ecast]
  refine (fresh_any A n c (10 + s.size) l w Hr.out (by omega) (by omega)).mono ?_
  rintro e w1 ⟨A1, n1, c1, rfl, hown1, hn1, hb1⟩
  clear ecast
  have hn1' : n1 ≤ 400000000 := by rw [hn1, Hl.out]; exact hn
  have Hown1 := Lib.hid hown1; have Hn1 := Lib.hid hn1; have Hb1 := Lib.hid hb1; clear hown1 hn1 hb1
  go_wp2_with fail
  refine (number_any w.heap.size n1 c1 A1 s.size (bv l) w1 Hown1.out Hb1.out.size (by omega) (by omega)).mono ?_
  rintro e w2 ⟨A2, c2, rfl, hown2, hb2⟩
  have hen := encN_len s.size
  have Hown2 := Lib.hid hown2; have Hb2 := Lib.hid (Hb1.out.trans hb2); clear hown2 hb2
  have hsz2 := Hb2.out.size
  generalize hq : n1 + (encN s.size).length = q at *
  have Hq := Lib.hid hq; clear hq
  have hq9 : q ≤ 500000000 := by have := Hq.out; omega
  clear hen
  go_wp2_with (at_builtin; go_must (refine wpList_append_own_string (w := w2) (by rfl) _ _ 64 9 (by rfl) w.heap.size 5 i0 Try.underlying64 Try.underlying9 HI.out.1 HI.out.2.1 HI.out.2.2.1 HI.out.2.2.2 _ _ _ (by rfl) Hown2.out s (by rfl) (by simp only [maxLen]; omega) (by omega) (by omega) ?_); intro v3 w3 hown3 hg3 _; have Hown3 := Lib.hid hown3; have Hb3 := Lib.hid (Hb2.out.grown hg3 Hb2.out.size (fun k hk => (Hown2.out.lt k hk).1)); clear hown3 hg3)
  go_ret
  obtain ⟨A3, c3, rfl⟩ := own_form Hown3.out
  refine ⟨A3, q + s.size, c3, rfl, ?_, ?_, Hb3.out⟩
  · have := Hown3.out
    have e : bv (l ++ encB t) = bv l ++ bv (encN s.size) ++ strCells s := by unfold encB; rw [HS.out, Hsz.out, bv_append, bv_append]; simp
    rw [e]; exact this
  · unfold encB
    rw [← Hq.out, Hn1.out, List.length_append, List.length_append, Hsz.out]; omega
def purseT : List Nat := [112, 117, 114, 115, 101]
def Pu.digest (p : Pu) : D8 := if p.check = 0 then hashOf (encB purseT ++ encPu p) else nm0
set_option maxRecDepth 100000 in
set_option maxHeartbeats 2000000 in
theorem digest_any (p : Pu) (A : Option Addr) (n c : Nat) (w : World) (h : PuV.At p A n c w) (hok : p.bytesOk) :
    Calls Try.prog 32 #[.agg #[.int .u8 (p.nm.x0 : Int), .int .u8 (p.nm.x1 : Int), .int .u8 (p.nm.x2 : Int), .int .u8 (p.nm.x3 : Int), .int .u8 (p.nm.x4 : Int), .int .u8 (p.nm.x5 : Int), .int .u8 (p.nm.x6 : Int), .int .u8 (p.nm.x7 : Int), .int .i64 p.no, .int .i64 p.h0, .int .i64 p.h1, .slice A n c]] w fun e w' => e = .returned (.agg #[.int .u8 (p.digest.x0 : Int), .int .u8 (p.digest.x1 : Int), .int .u8 (p.digest.x2 : Int), .int .u8 (p.digest.x3 : Int), .int .u8 (p.digest.x4 : Int), .int .u8 (p.digest.x5 : Int), .int .u8 (p.digest.x6 : Int), .int .u8 (p.digest.x7 : Int)]) ∧ Below w.heap.size w w' := by
  have Hh := Lib.hid h; have Hok := Lib.hid hok
  clear h hok
  have HX00 := Lib.hid (show ((w.alloc (.cells #[.int .u8 (p.nm.x0 : Int), .int .u8 (p.nm.x1 : Int), .int .u8 (p.nm.x2 : Int), .int .u8 (p.nm.x3 : Int), .int .u8 (p.nm.x4 : Int), .int .u8 (p.nm.x5 : Int), .int .u8 (p.nm.x6 : Int), .int .u8 (p.nm.x7 : Int), .int .i64 p.no, .int .i64 p.h0, .int .i64 p.h1, .slice A n c] 32)).alloc (.cells #[.int .u8 0, .int .u8 0, .int .u8 0, .int .u8 0, .int .u8 0, .int .u8 0, .int .u8 0, .int .u8 0] 29)).heap[w.heap.size + 1]? = some (.cells #[.int .u8 0, .int .u8 0, .int .u8 0, .int .u8 0, .int .u8 0, .int .u8 0, .int .u8 0, .int .u8 0] 29 (0, 0)) from h_at (by simp))
  have Hb00 := Lib.hid (below_two w (.cells #[.int .u8 (p.nm.x0 : Int), .int .u8 (p.nm.x1 : Int), .int .u8 (p.nm.x2 : Int), .int .u8 (p.nm.x3 : Int), .int .u8 (p.nm.x4 : Int), .int .u8 (p.nm.x5 : Int), .int .u8 (p.nm.x6 : Int), .int .u8 (p.nm.x7 : Int), .int .i64 p.no, .int .i64 p.h0, .int .i64 p.h1, .slice A n c] 32) (.cells #[.int .u8 0, .int .u8 0, .int .u8 0, .int .u8 0, .int .u8 0, .int .u8 0, .int .u8 0, .int .u8 0] 29))
  by_cases hp : p.check = 0
  · have Hp := Lib.hid hp
    clear hp
    go_enter Try.func32, Try.ntmps32
    go_wp2_with fail
    refine (encode_good p A n c _ (Hh.out.up Hb00.out) Hp.out).mono ?_
    rintro e w1 ⟨A1, n1, c1, rfl, ho1, hn1, hb1⟩
    have HX1 := Lib.hid (block_below HX00.out hb1 (by simp))
    have hl1 : n1 ≤ 1000 := by
      obtain ⟨_, _, _, h7, _⟩ := check_parts Hp.out
      rw [hn1]; have := encPu_len p; omega
    have Hb1 := Lib.hid (Hb00.out.trans (hb1.mono (by simp; omega)))
    have HR1 := Lib.hid (Rd.of_own ho1); have HN1 := Lib.hid hn1
    clear ho1 hn1 hb1 HX00
    go_wp2_with fail
    refine (putText_any none 0 0 [] purseT _ w1 Rd.empty (by omega) (by rfl) (by rfl) (by decide)).mono ?_
    rintro e w2 ⟨A2, n2, c2, rfl, ho2, hn2, hb2⟩
    have HX2 := Lib.hid (block_below HX1.out hb2 (block_lt HX1.out))
    have hl2 : n2 ≤ 20 := by rw [hn2]; decide
    have Hb2 := Lib.hid (Hb1.out.trans (hb2.mono Hb1.out.size))
    have HO2 := Lib.hid ho2; have HN2 := Lib.hid hn2
    have HR2 := Lib.hid (HR1.out.below hb2 (Nat.le_refl _))
    have hs2 := hb2.size
    obtain ⟨i0, hi, hz0, hz1, hz2⟩ := info_parts info_u8
    have HI := Lib.hid (And.intro hi (And.intro hz0 (And.intro hz1 hz2))); clear hi hz0 hz1 hz2 ho2 hn2 hb2
    go_wp2_with (at_builtin; go_must (refine wpList_append_rd w2 (by rfl) _ _ 64 (by rfl) w1.heap.size 5 i0 (.int .u8 0) 1 1 Try.underlying64 HI.out rfl (by decide) _ _ _ (by rfl) HO2.out w1.heap.size A1 n1 c1 _ (by rfl) HR2.out (bv_one _) (by omega) (by omega) hs2 ?_); intro v3 w3 hown3 hb3; have HO3 := Lib.hid hown3; have HX3 := Lib.hid (block_below HX2.out hb3 (block_lt HX1.out)); have Hb3 := Lib.hid (Hb2.out.trans (hb3.mono Hb1.out.size)); clear hown3 hb3)
    obtain ⟨A3, c3, rfl⟩ := own_form HO3.out
    have hcap := own_cap HO3.out
    have HR3 := Lib.hid (Rd.of_own HO3.out)
    have hl3 : n2 + n1 ≤ 1020 := by omega
    have Hlt : Hid (∀ x ∈ [] ++ encB purseT ++ encPu p, x < 256) := Lib.hid (fun x hx => by
      rcases List.mem_append.1 hx with hx | hx
      · exact encB_lt (l := purseT) (by decide) (by decide) x (by simpa using hx)
      · exact encPu_lt Hp.out Hok.out x hx)
    go_wp2_with fail
    refine (of_any A3 _ c3 ([] ++ encB purseT ++ encPu p) w3 (by rw [bv_append]; exact HR3.out) (by omega) hcap Hlt.out).mono ?_
    rintro e w4 ⟨rfl, hb4⟩
    have hbx := block_below HX3.out hb4 (block_lt HX3.out)
    obtain ⟨zf, r0, r1, r2, r3, r4, r5, r6, r7⟩ := free8 hbx
    have Hbx := Lib.hid hbx
    have Hbw := Lib.hid (Hb3.out.trans (hb4.mono Hb3.out.size))
    have Hout : Hid (hashOf ([] ++ encB purseT ++ encPu p) = p.digest) := Lib.hid (by unfold Pu.digest; rw [if_pos Hp.out]; rfl)
    clear hb4 hbx
    generalize hashOf ([] ++ encB purseT ++ encPu p) = d at *
    go_wp2
    clear zf r0 r1 r2 r3 r4 r5 r6 r7
    have h8 := set8 Hbx.out (.int .u8 (d.x0 : Int)) (.int .u8 (d.x1 : Int)) (.int .u8 (d.x2 : Int)) (.int .u8 (d.x3 : Int)) (.int .u8 (d.x4 : Int)) (.int .u8 (d.x5 : Int)) (.int .u8 (d.x6 : Int)) (.int .u8 (d.x7 : Int))
    have hg8 := grown_set8 w4 (w.heap.size + 1) (.int .u8 (d.x0 : Int)) (.int .u8 (d.x1 : Int)) (.int .u8 (d.x2 : Int)) (.int .u8 (d.x3 : Int)) (.int .u8 (d.x4 : Int)) (.int .u8 (d.x5 : Int)) (.int .u8 (d.x6 : Int)) (.int .u8 (d.x7 : Int))
    generalize ((((((((w4.setCell ⟨w.heap.size + 1, 0, none⟩ (.int .u8 (d.x0 : Int))).setCell ⟨w.heap.size + 1, 1, none⟩ (.int .u8 (d.x1 : Int))).setCell ⟨w.heap.size + 1, 2, none⟩ (.int .u8 (d.x2 : Int))).setCell ⟨w.heap.size + 1, 3, none⟩ (.int .u8 (d.x3 : Int))).setCell ⟨w.heap.size + 1, 4, none⟩ (.int .u8 (d.x4 : Int))).setCell ⟨w.heap.size + 1, 5, none⟩ (.int .u8 (d.x5 : Int))).setCell ⟨w.heap.size + 1, 6, none⟩ (.int .u8 (d.x6 : Int))).setCell ⟨w.heap.size + 1, 7, none⟩ (.int .u8 (d.x7 : Int))) = w5 at *
    obtain ⟨zf, r0, r1, r2, r3, r4, r5, r6, r7⟩ := free8 h8
    have Hb2 := Lib.hid (Hbw.out.grown hg8 Hbw.out.size (fun k hk => by injection hk with hk; omega))
    clear h8 hg8
    refine bodyPost_ret (v := .agg #[.int .u8 (d.x0 : Int), .int .u8 (d.x1 : Int), .int .u8 (d.x2 : Int), .int .u8 (d.x3 : Int), .int .u8 (d.x4 : Int), .int .u8 (d.x5 : Int), .int .u8 (d.x6 : Int), .int .u8 (d.x7 : Int)]) (by simp [results, Try.results32, go_sem, r0, r1, r2, r3, r4, r5, r6, r7]) rfl ⟨by rw [Hout.out], Hb2.out⟩
  · have Hp := Lib.hid hp
    clear hp
    go_enter Try.func32, Try.ntmps32
    go_wp2_with fail
    refine (encode_bad p A n c _ (Hh.out.up Hb00.out) Hp.out).mono ?_
    rintro e w1 ⟨rfl, hb1⟩
    have hbx := block_below HX00.out hb1 (by simp)
    obtain ⟨zf, r0, r1, r2, r3, r4, r5, r6, r7⟩ := free8 hbx
    have Hbx := Lib.hid hbx
    have Hbw := Lib.hid (Hb00.out.trans (hb1.mono (by simp; omega)))
    have hsz := hb1.size
    simp at hsz
    have b0 : (p.check != 0) = true := by simpa using Hp.out
    clear hb1 hbx HX00
    go_wp2
    clear zf r0 r1 r2 r3 r4 r5 r6 r7
    have h8 := set8 Hbx.out (.int .u8 0) (.int .u8 0) (.int .u8 0) (.int .u8 0) (.int .u8 0) (.int .u8 0) (.int .u8 0) (.int .u8 0)
    have hg8 := grown_set8 w1 (w.heap.size + 1) (.int .u8 0) (.int .u8 0) (.int .u8 0) (.int .u8 0) (.int .u8 0) (.int .u8 0) (.int .u8 0) (.int .u8 0)
    generalize ((((((((w1.setCell ⟨w.heap.size + 1, 0, none⟩ (.int .u8 0)).setCell ⟨w.heap.size + 1, 1, none⟩ (.int .u8 0)).setCell ⟨w.heap.size + 1, 2, none⟩ (.int .u8 0)).setCell ⟨w.heap.size + 1, 3, none⟩ (.int .u8 0)).setCell ⟨w.heap.size + 1, 4, none⟩ (.int .u8 0)).setCell ⟨w.heap.size + 1, 5, none⟩ (.int .u8 0)).setCell ⟨w.heap.size + 1, 6, none⟩ (.int .u8 0)).setCell ⟨w.heap.size + 1, 7, none⟩ (.int .u8 0)) = w5 at *
    obtain ⟨zf, r0, r1, r2, r3, r4, r5, r6, r7⟩ := free8 h8
    have Hb2 := Lib.hid (Hbw.out.grown hg8 Hbw.out.size (fun k hk => by injection hk with hk; omega))
    clear h8 hg8
    have Hout : Hid (p.digest = nm0) := Lib.hid (by unfold Pu.digest; rw [if_neg Hp.out])
    refine bodyPost_ret (v := .agg #[.int .u8 0, .int .u8 0, .int .u8 0, .int .u8 0, .int .u8 0, .int .u8 0, .int .u8 0, .int .u8 0]) (by simp [results, Try.results32, go_sem, r0, r1, r2, r3, r4, r5, r6, r7]) rfl ⟨by rw [Hout.out]; rfl, Hb2.out⟩
end Go.Proofs.Ytjiecnoplnaahaa
namespace Go.Proofs.Ytjiecnoplnaahaa
open Go.RowKit Go.Lib



theorem bl_d {w w' : World} (h : Below w.drew.heap.size w.drew w') : Below w.heap.size w w' := ⟨h.os, h.tape, h.output, h.size, h.block⟩
theorem numi_any (x : Int) (w : World) (h0 : 0 ≤ x) (h1 : x ≤ 9223372036854775807) : Calls Try.prog 61 #[.int .i64 x] w (GivesB w (encN x.toNat)) := by
  obtain ⟨m, rfl⟩ := Int.eq_ofNat_of_zero_le h0
  rw [Int.toNat_natCast]
  have hm : m < 18446744073709551616 := by omega
  have Hm := Lib.hid hm
  clear hm
  go_enter Try.func61, Try.ntmps61
  go_wp2_with fail
  refine (numr_any m w Hm.out).mono ?_
  rintro e w1 ⟨A1, n1, c1, rfl, ho, hn, hb⟩
  have Ho := Lib.hid ho; have Hn := Lib.hid hn; have Hb := Lib.hid hb
  clear ho hn hb
  go_wp2
  go_ret
  exact ⟨A1, n1, c1, rfl, Ho.out, Hn.out, Hb.out⟩
theorem psg_of {w : World} {g : Nat} {p : Pu} {A : Option Addr} {n c : Nat} {T : TypeId} (h : w.heap[g]? = some (.cells #[.int .u8 (p.nm.x0 : Int), .int .u8 (p.nm.x1 : Int), .int .u8 (p.nm.x2 : Int), .int .u8 (p.nm.x3 : Int), .int .u8 (p.nm.x4 : Int), .int .u8 (p.nm.x5 : Int), .int .u8 (p.nm.x6 : Int), .int .u8 (p.nm.x7 : Int), .int .i64 p.no, .int .i64 p.h0, .int .i64 p.h1, .slice A n c] T (0, 0))) : w.cell? ⟨g, 0, none⟩ = some (.int .u8 (p.nm.x0 : Int)) ∧ w.cell? ⟨g, 1, none⟩ = some (.int .u8 (p.nm.x1 : Int)) ∧ w.cell? ⟨g, 2, none⟩ = some (.int .u8 (p.nm.x2 : Int)) ∧ w.cell? ⟨g, 3, none⟩ = some (.int .u8 (p.nm.x3 : Int)) ∧ w.cell? ⟨g, 4, none⟩ = some (.int .u8 (p.nm.x4 : Int)) ∧ w.cell? ⟨g, 5, none⟩ = some (.int .u8 (p.nm.x5 : Int)) ∧ w.cell? ⟨g, 6, none⟩ = some (.int .u8 (p.nm.x6 : Int)) ∧ w.cell? ⟨g, 7, none⟩ = some (.int .u8 (p.nm.x7 : Int)) ∧ w.cell? ⟨g, 8, none⟩ = some (.int .i64 p.no) ∧ w.cell? ⟨g, 9, none⟩ = some (.int .i64 p.h0) ∧ w.cell? ⟨g, 10, none⟩ = some (.int .i64 p.h1) ∧ w.cell? ⟨g, 11, none⟩ = some (.slice A n c) :=
  ⟨block_cell h 0, block_cell h 1, block_cell h 2, block_cell h 3, block_cell h 4, block_cell h 5, block_cell h 6, block_cell h 7, block_cell h 8, block_cell h 9, block_cell h 10, block_cell h 11⟩
theorem hd3_of {w : World} {g : Nat} {h : Hd} {T : TypeId} (hx : w.heap[g]? = some (.cells #[.int .u8 (h.nm.x0 : Int), .int .u8 (h.nm.x1 : Int), .int .u8 (h.nm.x2 : Int), .int .u8 (h.nm.x3 : Int), .int .u8 (h.nm.x4 : Int), .int .u8 (h.nm.x5 : Int), .int .u8 (h.nm.x6 : Int), .int .u8 (h.nm.x7 : Int), .int .i64 h.am, .int .i64 h.fr, .int .i64 h.un] T (0, 0))) : w.cell? ⟨g, 8, none⟩ = some (.int .i64 h.am) ∧ w.cell? ⟨g, 9, none⟩ = some (.int .i64 h.fr) ∧ w.cell? ⟨g, 10, none⟩ = some (.int .i64 h.un) :=
  ⟨block_cell hx 8, block_cell hx 9, block_cell hx 10⟩
set_option maxRecDepth 100000 in
set_option maxHeartbeats 4000000 in
theorem pbytesr_any (p : Pu) (A : Option Addr) (n c : Nat) (w : World) (h : PuV.At p A n c w) (hp : p.check = 0) :
    Calls Try.prog 31 #[.agg #[.int .u8 (p.nm.x0 : Int), .int .u8 (p.nm.x1 : Int), .int .u8 (p.nm.x2 : Int), .int .u8 (p.nm.x3 : Int), .int .u8 (p.nm.x4 : Int), .int .u8 (p.nm.x5 : Int), .int .u8 (p.nm.x6 : Int), .int .u8 (p.nm.x7 : Int), .int .i64 p.no, .int .i64 p.h0, .int .i64 p.h1, .slice A n c]] w (GivesB w (encPu p)) := by
  obtain ⟨⟨h1, h2⟩, ⟨h3, h4⟩, ⟨h5, h6⟩, h7, h8⟩ := check_parts hp
  have hlen : p.held.length = n := h.rd.hlen
  have hn16 : n ≤ 16 := by omega
  obtain ⟨i0, hi, hz0, hz1, hz2⟩ := info_parts info_u8
  have HI := Lib.hid (And.intro hi (And.intro hz0 (And.intro hz1 hz2))); clear hi hz0 hz1 hz2
  have Hh := Lib.hid h; have Hok := Lib.hid h8; have Hlen := Lib.hid hlen
  have HX0 := Lib.hid (show (w.alloc (.cells #[.int .u8 (p.nm.x0 : Int), .int .u8 (p.nm.x1 : Int), .int .u8 (p.nm.x2 : Int), .int .u8 (p.nm.x3 : Int), .int .u8 (p.nm.x4 : Int), .int .u8 (p.nm.x5 : Int), .int .u8 (p.nm.x6 : Int), .int .u8 (p.nm.x7 : Int), .int .i64 p.no, .int .i64 p.h0, .int .i64 p.h1, .slice A n c] 26)).heap[w.heap.size]? = some (.cells #[.int .u8 (p.nm.x0 : Int), .int .u8 (p.nm.x1 : Int), .int .u8 (p.nm.x2 : Int), .int .u8 (p.nm.x3 : Int), .int .u8 (p.nm.x4 : Int), .int .u8 (p.nm.x5 : Int), .int .u8 (p.nm.x6 : Int), .int .u8 (p.nm.x7 : Int), .int .i64 p.no, .int .i64 p.h0, .int .i64 p.h1, .slice A n c] 26 (0, 0)) from heap_alloc_new w _)
  have Hw0 := Lib.hid (below_one w (.cells #[.int .u8 (p.nm.x0 : Int), .int .u8 (p.nm.x1 : Int), .int .u8 (p.nm.x2 : Int), .int .u8 (p.nm.x3 : Int), .int .u8 (p.nm.x4 : Int), .int .u8 (p.nm.x5 : Int), .int .u8 (p.nm.x6 : Int), .int .u8 (p.nm.x7 : Int), .int .i64 p.no, .int .i64 p.h0, .int .i64 p.h1, .slice A n c] 26))
  have Hrn0 := Lib.hid (rd_name p.nm HX0.out rfl)
  have hni : (n : Int) ≤ 16 := by omega
  clear hp h h8 hlen
  go_enter Try.func31, Try.ntmps31
  go_wp2
  generalize w.alloc (.cells #[.int .u8 (p.nm.x0 : Int), .int .u8 (p.nm.x1 : Int), .int .u8 (p.nm.x2 : Int), .int .u8 (p.nm.x3 : Int), .int .u8 (p.nm.x4 : Int), .int .u8 (p.nm.x5 : Int), .int .u8 (p.nm.x6 : Int), .int .u8 (p.nm.x7 : Int), .int .i64 p.no, .int .i64 p.h0, .int .i64 p.h1, .slice A n c] 26) = w0 at *
  go_region_held3 (fun w' => w'.cell? ⟨w.heap.size, 0, none⟩ = some (.int .u8 (p.nm.x0 : Int)) ∧ w'.cell? ⟨w.heap.size, 1, none⟩ = some (.int .u8 (p.nm.x1 : Int)) ∧ w'.cell? ⟨w.heap.size, 2, none⟩ = some (.int .u8 (p.nm.x2 : Int)) ∧ w'.cell? ⟨w.heap.size, 3, none⟩ = some (.int .u8 (p.nm.x3 : Int)) ∧ w'.cell? ⟨w.heap.size, 4, none⟩ = some (.int .u8 (p.nm.x4 : Int)) ∧ w'.cell? ⟨w.heap.size, 5, none⟩ = some (.int .u8 (p.nm.x5 : Int)) ∧ w'.cell? ⟨w.heap.size, 6, none⟩ = some (.int .u8 (p.nm.x6 : Int)) ∧ w'.cell? ⟨w.heap.size, 7, none⟩ = some (.int .u8 (p.nm.x7 : Int)) ∧ w'.cell? ⟨w.heap.size, 8, none⟩ = some (.int .i64 p.no) ∧ w'.cell? ⟨w.heap.size, 9, none⟩ = some (.int .i64 p.h0) ∧ w'.cell? ⟨w.heap.size, 10, none⟩ = some (.int .i64 p.h1) ∧ w'.cell? ⟨w.heap.size, 11, none⟩ = some (.slice A n c)) (first | exact psg_of HX3.out | exact psg_of HX2.out | exact psg_of HX1.out | exact psg_of HX0.out | go_keep)
    (first
      | (go_at_call 60; refine (bytesr_any (some ⟨w.heap.size, 0, none⟩) 8 8 p.nm.bytes _ (by first | exact Hrn0.out.drew | exact Hrn0.out) (by omega)).mono ?_; rintro e w1 ⟨A1, n1, c1, rfl, ho, hn, hb⟩; have hb2 : Below w0.heap.size w0 w1 := (by first | exact hb | exact bl_d hb); have HX1 := Lib.hid (block_below HX0.out hb2 (block_lt HX0.out)); have Hw1 := Lib.hid (Hw0.out.trans (hb2.mono Hw0.out.size)); have HO1 := Lib.hid (pown_down ho (show w.heap.size ≤ _ from Hw0.out.size)); have HN1 := Lib.hid hn; have hl1 : n1 ≤ 19 := (by rw [hn]; exact encB8_len _); clear ho hn hb hb2)
      | (go_at_call 61; refine (numi_any p.no _ (by omega) (by omega)).mono ?_; rintro e w2 ⟨A2, n2, c2, rfl, ho, hn, hb⟩; have hb2 : Below w1.heap.size w1 w2 := (by first | exact hb | exact bl_d hb); have HX2 := Lib.hid (block_below HX1.out hb2 (block_lt HX1.out)); have Hw2 := Lib.hid (Hw1.out.trans (hb2.mono Hw1.out.size)); have HO2 := Lib.hid (own_below HO1.out hb2); have HR2 := Lib.hid (Rd.of_own ho); have HN2 := Lib.hid hn; have hl2 : n2 ≤ 11 := (by rw [hn]; exact encN_len _); clear ho hn hb hb2)
      | (refine step_append_rdg w2 (by rfl) _ _ 64 (by rfl) w.heap.size 5 i0 (.int .u8 0) 1 1 Try.underlying64 HI.out rfl (by decide) _ _ _ (by rfl) HO2.out w2.heap.size A2 n2 c2 _ (by rfl) HR2.out (bv_one _) (by omega) (by omega) Hw2.out.size ?_; intro v3 w3 ho hb hg; obtain ⟨B3, d3, rfl⟩ := own_form ho; have HX3 := Lib.hid (block_grown HX2.out hg (own_ne HO2.out HX2.out (by decide))); have Hw3 := Lib.hid (Hw2.out.trans hb); have HO3 := Lib.hid ho; clear ho hb hg))
  go_wp2
  go_region_held3 (fun w' => w'.cell? ⟨w.heap.size, 0, none⟩ = some (.int .u8 (p.nm.x0 : Int)) ∧ w'.cell? ⟨w.heap.size, 1, none⟩ = some (.int .u8 (p.nm.x1 : Int)) ∧ w'.cell? ⟨w.heap.size, 2, none⟩ = some (.int .u8 (p.nm.x2 : Int)) ∧ w'.cell? ⟨w.heap.size, 3, none⟩ = some (.int .u8 (p.nm.x3 : Int)) ∧ w'.cell? ⟨w.heap.size, 4, none⟩ = some (.int .u8 (p.nm.x4 : Int)) ∧ w'.cell? ⟨w.heap.size, 5, none⟩ = some (.int .u8 (p.nm.x5 : Int)) ∧ w'.cell? ⟨w.heap.size, 6, none⟩ = some (.int .u8 (p.nm.x6 : Int)) ∧ w'.cell? ⟨w.heap.size, 7, none⟩ = some (.int .u8 (p.nm.x7 : Int)) ∧ w'.cell? ⟨w.heap.size, 8, none⟩ = some (.int .i64 p.no) ∧ w'.cell? ⟨w.heap.size, 9, none⟩ = some (.int .i64 p.h0) ∧ w'.cell? ⟨w.heap.size, 10, none⟩ = some (.int .i64 p.h1) ∧ w'.cell? ⟨w.heap.size, 11, none⟩ = some (.slice A n c)) (first | exact psg_of HX7.out | exact psg_of HX6.out | exact psg_of HX5.out | exact psg_of HX4.out | exact psg_of HX3.out | go_keep)
    (first
      | (have _g := HX5; clear _g; (go_at_call 61; refine (numi_any p.h1 _ (by omega) (by omega)).mono ?_; rintro e w6 ⟨A6, n6, c6, rfl, ho, hn, hb⟩; have hb2 : Below w5.heap.size w5 w6 := (by first | exact hb | exact bl_d hb); have HX6 := Lib.hid (block_below HX5.out hb2 (block_lt HX5.out)); have Hw6 := Lib.hid (Hw5.out.trans (hb2.mono Hw5.out.size)); have HO6 := Lib.hid (own_below HO5.out hb2); have HR6 := Lib.hid (Rd.of_own ho); have HN6 := Lib.hid hn; have hl6 : n6 ≤ 11 := (by rw [hn]; exact encN_len _); clear ho hn hb hb2))
      | (go_at_call 61; refine (numi_any p.h0 _ (by omega) (by omega)).mono ?_; rintro e w4 ⟨A4, n4, c4, rfl, ho, hn, hb⟩; have hb2 : Below w3.heap.size w3 w4 := (by first | exact hb | exact bl_d hb); have HX4 := Lib.hid (block_below HX3.out hb2 (block_lt HX3.out)); have Hw4 := Lib.hid (Hw3.out.trans (hb2.mono Hw3.out.size)); have HO4 := Lib.hid (own_below HO3.out hb2); have HR4 := Lib.hid (Rd.of_own ho); have HN4 := Lib.hid hn; have hl4 : n4 ≤ 11 := (by rw [hn]; exact encN_len _); clear ho hn hb hb2)
      | (have _g := HX6; clear _g; (refine step_append_rdg w6 (by rfl) _ _ 64 (by rfl) w.heap.size 5 i0 (.int .u8 0) 1 1 Try.underlying64 HI.out rfl (by decide) _ _ _ (by rfl) HO6.out w6.heap.size A6 n6 c6 _ (by rfl) HR6.out (bv_one _) (by omega) (by omega) Hw6.out.size ?_; intro v7 w7 ho hb hg; obtain ⟨B7, d7, rfl⟩ := own_form ho; have HX7 := Lib.hid (block_grown HX6.out hg (own_ne HO6.out HX6.out (by decide))); have Hw7 := Lib.hid (Hw6.out.trans hb); have HO7 := Lib.hid ho; clear ho hb hg))
      | (refine step_append_rdg w4 (by rfl) _ _ 64 (by rfl) w.heap.size 5 i0 (.int .u8 0) 1 1 Try.underlying64 HI.out rfl (by decide) _ _ _ (by rfl) HO4.out w4.heap.size A4 n4 c4 _ (by rfl) HR4.out (bv_one _) (by omega) (by omega) Hw4.out.size ?_; intro v5 w5 ho hb hg; obtain ⟨B5, d5, rfl⟩ := own_form ho; have HX5 := Lib.hid (block_grown HX4.out hg (own_ne HO4.out HX4.out (by decide))); have Hw5 := Lib.hid (Hw4.out.trans hb); have HO5 := Lib.hid ho; clear ho hb hg))
  have z11 := block_cell HX7.out 11
  simp at z11
  go_wp2_with fail
  refine (numi_any (n : Int) _ (by omega) (by omega)).mono ?_
  rintro e w8 ⟨A8, n8, c8, rfl, ho, hn, hb2⟩
  have HX8 := Lib.hid (block_below HX7.out hb2 (block_lt HX7.out)); have Hw8 := Lib.hid (Hw7.out.trans (hb2.mono Hw7.out.size)); have HO8 := Lib.hid (own_below HO7.out hb2); have HR8 := Lib.hid (Rd.of_own ho); have HN8 := Lib.hid hn; have hl8 : n8 ≤ 11 := (by rw [hn]; exact encN_len _)
  clear ho hn hb2 z11
  go_wp2_with (at_builtin; go_must (refine wpList_append_rdg w8 (by rfl) _ _ 64 (by rfl) w.heap.size 5 i0 (.int .u8 0) 1 1 Try.underlying64 HI.out rfl (by decide) _ _ _ (by rfl) HO8.out w8.heap.size A8 n8 c8 _ (by rfl) HR8.out (bv_one _) (by omega) (by omega) Hw8.out.size ?_); intro v9 w9 ho hb hg; obtain ⟨B9, d9, rfl⟩ := own_form ho; have HX9 := Lib.hid (block_grown HX8.out hg (own_ne HO8.out HX8.out (by decide))); have Hw9 := Lib.hid (Hw8.out.trans hb); have HO9 := Lib.hid ho; clear ho hb hg)
  have Hhead : Hid (bv (encB p.nm.bytes) ++ bv (encN p.no.toNat) ++ bv (encN p.h0.toNat) ++ bv (encN p.h1.toNat) ++ bv (encN (n : Int).toNat) = bv (encHead p ++ encHds (p.held.take 0))) := Lib.hid (by unfold encHead encHds; rw [Hlen.out]; simp [bv_append])
  rw [Hhead.out] at HO9
  have Hlen9 : Hid (n1 + n2 + n4 + n6 + n8 = (encHead p ++ encHds (p.held.take 0)).length) := Lib.hid (by
    unfold encHead encHds; rw [Hlen.out, HN1.out, HN2.out, HN4.out, HN6.out, HN8.out]; simp; omega)
  go_loopw [3, 4] (fun v i wr => ∃ (k m : Nat) (A' : Option Addr) (c' : Nat), k ≤ n ∧ i = .int .i64 (k : Int) ∧ v = .slice A' m c' ∧ Hid (m ≤ 63 + 52 * k) ∧ Hid (m = (encHead p ++ encHds (p.held.take k)).length) ∧ Hid (wr.ownsRow w.heap.size 5 1 (.slice A' m c') m (bv (encHead p ++ encHds (p.held.take k)))) ∧ Hid (wr.heap[w.heap.size]? = some (.cells #[.int .u8 (p.nm.x0 : Int), .int .u8 (p.nm.x1 : Int), .int .u8 (p.nm.x2 : Int), .int .u8 (p.nm.x3 : Int), .int .u8 (p.nm.x4 : Int), .int .u8 (p.nm.x5 : Int), .int .u8 (p.nm.x6 : Int), .int .u8 (p.nm.x7 : Int), .int .i64 p.no, .int .i64 p.h0, .int .i64 p.h1, .slice A n c] 26 (0, 0))) ∧ Hid (Below w.heap.size w wr)) (fun _ i _ => n - (intOf i).toNat)
  case atStart => exact ⟨0, _, B9, d9, by omega, rfl, rfl, Lib.hid (by omega), Hlen9, HO9, HX9, Hw9⟩
  case round =>
    obtain ⟨k, m, A', c', hk, rfl, rfl, Hm, HNk, HOk, HXk, Hbk⟩ := hrel
    have z11 := block_cell HXk.out 11
    simp at z11
    by_cases hlt : k < n
    · obtain ⟨b, o, rfl, hbB, x0, x1, x2, x3, x4, x5, x6, x7, x8, x9, x10⟩ := (Hh.out.rd.below Hbk.out (Nat.le_refl _)).hd hlt
      have hok := Hok.out k (by rw [Hlen.out]; exact hlt)
      have Htk := Lib.hid (encHds_take (l := p.held) (k := k) (by rw [Hlen.out]; exact hlt))
      generalize p.held.getD k default = h at *
      obtain ⟨⟨ha1, ha2⟩, ⟨hf1, hf2⟩, ⟨hu1, hu2⟩⟩ := hok
      have hbk := Hbk.out.size
      have hm900 : m ≤ 900 := by have := Hm.out; omega
      go_upto_region 8 with fail
      have HX11 := Lib.hid (heap_alloc_new wr (.cells #[.int .u8 (h.nm.x0 : Int), .int .u8 (h.nm.x1 : Int), .int .u8 (h.nm.x2 : Int), .int .u8 (h.nm.x3 : Int), .int .u8 (h.nm.x4 : Int), .int .u8 (h.nm.x5 : Int), .int .u8 (h.nm.x6 : Int), .int .u8 (h.nm.x7 : Int), .int .i64 h.am, .int .i64 h.fr, .int .i64 h.un] 60))
      have HP11 := Lib.hid (block_alloc HXk.out (.cells #[.int .u8 (h.nm.x0 : Int), .int .u8 (h.nm.x1 : Int), .int .u8 (h.nm.x2 : Int), .int .u8 (h.nm.x3 : Int), .int .u8 (h.nm.x4 : Int), .int .u8 (h.nm.x5 : Int), .int .u8 (h.nm.x6 : Int), .int .u8 (h.nm.x7 : Int), .int .i64 h.am, .int .i64 h.fr, .int .i64 h.un] 60))
      have HO11 := Lib.hid (HOk.out.alloc (.cells #[.int .u8 (h.nm.x0 : Int), .int .u8 (h.nm.x1 : Int), .int .u8 (h.nm.x2 : Int), .int .u8 (h.nm.x3 : Int), .int .u8 (h.nm.x4 : Int), .int .u8 (h.nm.x5 : Int), .int .u8 (h.nm.x6 : Int), .int .u8 (h.nm.x7 : Int), .int .i64 h.am, .int .i64 h.fr, .int .i64 h.un] 60))
      have Hw11 := Lib.hid (Hbk.out.alloc hbk (.cells #[.int .u8 (h.nm.x0 : Int), .int .u8 (h.nm.x1 : Int), .int .u8 (h.nm.x2 : Int), .int .u8 (h.nm.x3 : Int), .int .u8 (h.nm.x4 : Int), .int .u8 (h.nm.x5 : Int), .int .u8 (h.nm.x6 : Int), .int .u8 (h.nm.x7 : Int), .int .i64 h.am, .int .i64 h.fr, .int .i64 h.un] 60))
      have Hrn11 := Lib.hid (rd_name h.nm HX11.out rfl)
      clear x0 x1 x2 x3 x4 x5 x6 x7 x8 x9 x10 z11
      generalize wr.alloc (.cells #[.int .u8 (h.nm.x0 : Int), .int .u8 (h.nm.x1 : Int), .int .u8 (h.nm.x2 : Int), .int .u8 (h.nm.x3 : Int), .int .u8 (h.nm.x4 : Int), .int .u8 (h.nm.x5 : Int), .int .u8 (h.nm.x6 : Int), .int .u8 (h.nm.x7 : Int), .int .i64 h.am, .int .i64 h.fr, .int .i64 h.un] 60) = w11 at *
      generalize wr.heap.size = g at *
      go_wp2_with fail
      refine (bytesr_any (some ⟨g, 0, none⟩) 8 8 h.nm.bytes _ Hrn11.out (by omega)).mono ?_
      rintro e w12 ⟨A12, n12, c12, rfl, ho, hn, hb2⟩
      have HX12 := Lib.hid (block_below HX11.out hb2 (block_lt HX11.out)); have HP12 := Lib.hid (block_below HP11.out hb2 (block_lt HP11.out)); have Hw12 := Lib.hid (Hw11.out.trans (hb2.mono Hw11.out.size)); have HO12 := Lib.hid (own_below HO11.out hb2); have HR12 := Lib.hid (Rd.of_own ho); have HN12 := Lib.hid hn; have hl12 : n12 ≤ 19 := (by rw [hn]; exact encB8_len _)
      clear ho hn hb2
      go_wp2_with (at_builtin; go_must (refine wpList_append_rdg w12 (by rfl) _ _ 64 (by rfl) w.heap.size 5 i0 (.int .u8 0) 1 1 Try.underlying64 HI.out rfl (by decide) _ _ _ (by rfl) HO12.out w12.heap.size A12 n12 c12 _ (by rfl) HR12.out (bv_one _) (by omega) (by omega) Hw12.out.size ?_); intro v13 w13 ho hb hg; obtain ⟨B13, d13, rfl⟩ := own_form ho; have HX13 := Lib.hid (block_grown HX12.out hg (own_ne HO12.out HX12.out (by decide))); have HP13 := Lib.hid (block_grown HP12.out hg (own_ne HO12.out HP12.out (by decide))); have Hw13 := Lib.hid (Hw12.out.trans hb); have HO13 := Lib.hid ho; clear ho hb hg)
      go_region_held3 (fun w' => w'.cell? ⟨g, 8, none⟩ = some (.int .i64 h.am) ∧ w'.cell? ⟨g, 9, none⟩ = some (.int .i64 h.fr) ∧ w'.cell? ⟨g, 10, none⟩ = some (.int .i64 h.un)) (first | exact hd3_of HX19.out | exact hd3_of HX18.out | exact hd3_of HX17.out | exact hd3_of HX16.out | exact hd3_of HX15.out | exact hd3_of HX14.out | exact hd3_of HX13.out | go_keep)
        (first
          | (have _g := HX17; clear _g; (go_at_call 61; refine (numi_any h.un _ (by omega) (by omega)).mono ?_; rintro e w18 ⟨A18, n18, c18, rfl, ho, hn, hb⟩; have hb2 : Below w17.heap.size w17 w18 := (by first | exact hb | exact bl_d hb); have HX18 := Lib.hid (block_below HX17.out hb2 (block_lt HX17.out)); have HP18 := Lib.hid (block_below HP17.out hb2 (block_lt HP17.out)); have Hw18 := Lib.hid (Hw17.out.trans (hb2.mono Hw17.out.size)); have HO18 := Lib.hid (own_below HO17.out hb2); have HR18 := Lib.hid (Rd.of_own ho); have HN18 := Lib.hid hn; have hl18 : n18 ≤ 11 := (by rw [hn]; exact encN_len _); clear ho hn hb hb2))
          | (have _g := HX15; clear _g; (go_at_call 61; refine (numi_any h.fr _ (by omega) (by omega)).mono ?_; rintro e w16 ⟨A16, n16, c16, rfl, ho, hn, hb⟩; have hb2 : Below w15.heap.size w15 w16 := (by first | exact hb | exact bl_d hb); have HX16 := Lib.hid (block_below HX15.out hb2 (block_lt HX15.out)); have HP16 := Lib.hid (block_below HP15.out hb2 (block_lt HP15.out)); have Hw16 := Lib.hid (Hw15.out.trans (hb2.mono Hw15.out.size)); have HO16 := Lib.hid (own_below HO15.out hb2); have HR16 := Lib.hid (Rd.of_own ho); have HN16 := Lib.hid hn; have hl16 : n16 ≤ 11 := (by rw [hn]; exact encN_len _); clear ho hn hb hb2))
          | (go_at_call 61; refine (numi_any h.am _ (by omega) (by omega)).mono ?_; rintro e w14 ⟨A14, n14, c14, rfl, ho, hn, hb⟩; have hb2 : Below w13.heap.size w13 w14 := (by first | exact hb | exact bl_d hb); have HX14 := Lib.hid (block_below HX13.out hb2 (block_lt HX13.out)); have HP14 := Lib.hid (block_below HP13.out hb2 (block_lt HP13.out)); have Hw14 := Lib.hid (Hw13.out.trans (hb2.mono Hw13.out.size)); have HO14 := Lib.hid (own_below HO13.out hb2); have HR14 := Lib.hid (Rd.of_own ho); have HN14 := Lib.hid hn; have hl14 : n14 ≤ 11 := (by rw [hn]; exact encN_len _); clear ho hn hb hb2)
          | (have _g := HX18; clear _g; (refine step_append_rdg w18 (by rfl) _ _ 64 (by rfl) w.heap.size 5 i0 (.int .u8 0) 1 1 Try.underlying64 HI.out rfl (by decide) _ _ _ (by rfl) HO18.out w18.heap.size A18 n18 c18 _ (by rfl) HR18.out (bv_one _) (by omega) (by omega) Hw18.out.size ?_; intro v19 w19 ho hb hg; obtain ⟨B19, d19, rfl⟩ := own_form ho; have HX19 := Lib.hid (block_grown HX18.out hg (own_ne HO18.out HX18.out (by decide))); have HP19 := Lib.hid (block_grown HP18.out hg (own_ne HO18.out HP18.out (by decide))); have Hw19 := Lib.hid (Hw18.out.trans hb); have HO19 := Lib.hid ho; clear ho hb hg))
          | (have _g := HX16; clear _g; (refine step_append_rdg w16 (by rfl) _ _ 64 (by rfl) w.heap.size 5 i0 (.int .u8 0) 1 1 Try.underlying64 HI.out rfl (by decide) _ _ _ (by rfl) HO16.out w16.heap.size A16 n16 c16 _ (by rfl) HR16.out (bv_one _) (by omega) (by omega) Hw16.out.size ?_; intro v17 w17 ho hb hg; obtain ⟨B17, d17, rfl⟩ := own_form ho; have HX17 := Lib.hid (block_grown HX16.out hg (own_ne HO16.out HX16.out (by decide))); have HP17 := Lib.hid (block_grown HP16.out hg (own_ne HO16.out HP16.out (by decide))); have Hw17 := Lib.hid (Hw16.out.trans hb); have HO17 := Lib.hid ho; clear ho hb hg))
          | (refine step_append_rdg w14 (by rfl) _ _ 64 (by rfl) w.heap.size 5 i0 (.int .u8 0) 1 1 Try.underlying64 HI.out rfl (by decide) _ _ _ (by rfl) HO14.out w14.heap.size A14 n14 c14 _ (by rfl) HR14.out (bv_one _) (by omega) (by omega) Hw14.out.size ?_; intro v15 w15 ho hb hg; obtain ⟨B15, d15, rfl⟩ := own_form ho; have HX15 := Lib.hid (block_grown HX14.out hg (own_ne HO14.out HX14.out (by decide))); have HP15 := Lib.hid (block_grown HP14.out hg (own_ne HO14.out HP14.out (by decide))); have Hw15 := Lib.hid (Hw14.out.trans hb); have HO15 := Lib.hid ho; clear ho hb hg))
      have Hfin : Hid (bv (encHead p ++ encHds (p.held.take k)) ++ bv (encB h.nm.bytes) ++ bv (encN h.am.toNat) ++ bv (encN h.fr.toNat) ++ bv (encN h.un.toNat) = bv (encHead p ++ encHds (p.held.take (k + 1)))) := Lib.hid (by rw [Htk.out]; unfold encHd; simp only [bv_append, List.append_assoc])
      rw [Hfin.out] at HO19
      have HN19 : Hid (m + n12 + n14 + n16 + n18 = (encHead p ++ encHds (p.held.take (k + 1))).length) := Lib.hid (by
        rw [Htk.out, HNk.out, HN12.out, HN14.out, HN16.out, HN18.out]; unfold encHd; simp only [List.length_append]; omega)
      have Hm19 : Hid (m + n12 + n14 + n16 + n18 ≤ 63 + 52 * (k + 1)) := Lib.hid (by have := Hm.out; omega)
      go_wp2
      go_roundw
      case rel => exact ⟨k + 1, _, B19, d19, by omega, by go_num, rfl, Hm19, HN19, HO19, HP19, Hw19⟩
      case measure => simp [intOf]; omega
    · obtain rfl : k = n := by omega
      clear hlt hk
      have Hfin : Hid (encHead p ++ encHds (p.held.take k) = encPu p) := Lib.hid (by rw [List.take_of_length_le (by rw [Hlen.out]; exact Nat.le_refl _)]; rfl)
      rw [Hfin.out] at HNk HOk
      go_wp2
      go_ret
      exact ⟨A', m, c', rfl, HOk.out, HNk.out, Hbk.out⟩
end Go.Proofs.Ytjiecnoplnaahaa
namespace Go.Proofs.Ytjiecnoplnaahaa
open Go.RowKit Go.Lib


set_option maxRecDepth 100000 in
set_option maxHeartbeats 2000000 in
theorem srcnum_any (g b : Nat) (t : RS) (mo : Int) (w : World) (h : Src w g b t) (h0 : 0 ≤ mo) (h1 : mo ≤ 1125899906842624) :
    Calls Try.prog 67 #[.pointer (some ⟨g, 0, none⟩), .int .i64 mo] w fun e w' => e = .returned (.int .i64 ((numRS t mo.toNat).2 : Int)) ∧ Src w' g b (numRS t mo.toNat).1 ∧ Two w w' g b := by
  have H := Lib.hid h
  have s0 := block_cell h.block 0; have s1 := block_cell h.block 1
  have sf := block_free h.block
  simp at s0 s1
  have hbg : b < g := h.1
  have hgl := block_lt h.block
  clear h
  by_cases he : t.err = 0
  · have hd : (t.err != 0) = false := by simp [he]
    have hr : RdAt w b t := by
      obtain ⟨_, _, sr, h3, h4⟩ := H.out
      rw [← h4 he]; exact h3
    have Hr := Lib.hid hr
    have Hle := Lib.hid (numRS_le t mo.toNat)
    clear hr he
    go_enter Try.func67, Try.ntmps67
    go_wp2_with fail
    refine (num_at b mo t w Hr.out h0).mono ?_
    rintro e w1 ⟨rfl, hr1, hg1⟩
    have HS1 := Lib.hid (block_grown H.out.block hg1 (by intro e; injection e with e; omega))
    have Hr1 := Lib.hid hr1; have H1 := Lib.hid ((Two.refl w g b).grown hg1 (Or.inr (Or.inl rfl)))
    clear s0 s1 sf hr1 hg1
    have s0 := block_cell HS1.out 0; have s1 := block_cell HS1.out 1
    have sf := block_free HS1.out
    simp at s0 s1
    go_wp2_with fail
    refine (err_any b _ w1 Hr1.out).mono ?_
    rintro e w2 ⟨rfl, rfl⟩
    have hm1 : ((numRS t mo.toNat).2 : Int) ≤ 1125899906842624 := by have := Hle.out; omega
    generalize hq : numRS t mo.toNat = q at *
    have hB := src_set (e' := q.1.err) HS1.out
    have hG := grown_set1 w1 g 1 (.int .i64 q.1.err)
    have Hend : Hid (Src (w1.setCell ⟨g, 1, none⟩ (.int .i64 q.1.err)) g b q.1 ∧ Two w (w1.setCell ⟨g, 1, none⟩ (.int .i64 q.1.err)) g b) := Lib.hid ⟨⟨hbg, hB, q.1, Hr1.out.grown hG hbg, fun _ => rfl⟩, H1.out.grown hG (Or.inl rfl)⟩
    have Hq := Lib.hid hq
    clear hB hG hq
    go_wp2
    go_ret
    refine ⟨?_, ?_, Hend.out.2⟩
    · rw [Hq.out]; rfl
    · rw [Hq.out]; exact Hend.out.1
  · have hd : (t.err != 0) = true := by simp [he]
    have hq : numRS t mo.toNat = (t, 0) := by unfold numRS; rw [if_pos he]
    have Hq := Lib.hid hq
    clear hq he
    go_enter Try.func67, Try.ntmps67
    go_wp2
    go_ret
    exact ⟨by rw [Hq.out]; rfl, by rw [Hq.out]; exact H.out, Two.refl _ _ _⟩
theorem bytes8_lt {s : RS} (h : ∀ x ∈ s.l, x < 256) : ∀ x ∈ (bytesRS s 8).2, x < 256 := by
  intro x hx
  unfold bytesRS at hx
  split at hx
  · cases hx
  · split at hx
    · cases hx
    · unfold takeB at hx
      split at hx
      · cases hx
      · split at hx
        · cases hx
        · split at hx
          · cases hx
          · exact h x (List.mem_of_mem_drop (List.mem_of_mem_drop (List.mem_of_mem_take hx)))
theorem rd8_cells {w : World} {B : Nat} {A : Option Addr} {l : List Nat} (hr : Rd w B 1 A 8 (bv l)) :
    ∃ b o, A = some ⟨b, o, none⟩ ∧ w.cell? ⟨b, o, none⟩ = some (.int .u8 ((chunk l 0).x0 : Int)) ∧ w.cell? ⟨b, o + 1, none⟩ = some (.int .u8 ((chunk l 0).x1 : Int)) ∧ w.cell? ⟨b, o + 2, none⟩ = some (.int .u8 ((chunk l 0).x2 : Int)) ∧ w.cell? ⟨b, o + 3, none⟩ = some (.int .u8 ((chunk l 0).x3 : Int)) ∧
      w.cell? ⟨b, o + 4, none⟩ = some (.int .u8 ((chunk l 0).x4 : Int)) ∧ w.cell? ⟨b, o + 5, none⟩ = some (.int .u8 ((chunk l 0).x5 : Int)) ∧ w.cell? ⟨b, o + 6, none⟩ = some (.int .u8 ((chunk l 0).x6 : Int)) ∧ w.cell? ⟨b, o + 7, none⟩ = some (.int .u8 ((chunk l 0).x7 : Int)) := by
  have hl : l.length = 8 := by have := hr.1; rw [bv_len] at this; omega
  obtain ⟨b, o, rfl, _, hc⟩ := hr.2 (by omega)
  exact ⟨b, o, rfl, hc 0 _ (bv_getD (by omega)), hc 1 _ (bv_getD (by omega)), hc 2 _ (bv_getD (by omega)), hc 3 _ (bv_getD (by omega)), hc 4 _ (bv_getD (by omega)), hc 5 _ (bv_getD (by omega)), hc 6 _ (bv_getD (by omega)), hc 7 _ (bv_getD (by omega))⟩
theorem src_grown {w w' : World} {g b r : Nat} {t : RS} (h : Src w g b t) (hg : w.grownBy w' (some r)) (hr : g < r) : Src w' g b t := by
  obtain ⟨h1, h2, sr, h3, h4⟩ := h
  exact ⟨h1, block_grown h2 hg (by intro e; injection e with e; omega), sr, h3.grown hg (by omega), h4⟩
set_option maxRecDepth 100000 in
set_option maxHeartbeats 2000000 in
theorem srcname_any (g b : Nat) (t : RS) (w : World) (h : Src w g b t) :
    Calls Try.prog 66 #[.pointer (some ⟨g, 0, none⟩)] w fun e w' => e = .returned (.agg #[.int .u8 ((nameRS t).2.x0 : Int), .int .u8 ((nameRS t).2.x1 : Int), .int .u8 ((nameRS t).2.x2 : Int), .int .u8 ((nameRS t).2.x3 : Int), .int .u8 ((nameRS t).2.x4 : Int), .int .u8 ((nameRS t).2.x5 : Int), .int .u8 ((nameRS t).2.x6 : Int), .int .u8 ((nameRS t).2.x7 : Int)]) ∧ Src w' g b (nameRS t).1 ∧ Two w w' g b := by
  have hgl := block_lt h.block
  have H := Lib.hid (h.below (h_one w (.cells #[.int .u8 0, .int .u8 0, .int .u8 0, .int .u8 0, .int .u8 0, .int .u8 0, .int .u8 0, .int .u8 0] 29)))
  have HX0 := Lib.hid (heap_alloc_new w (.cells #[.int .u8 0, .int .u8 0, .int .u8 0, .int .u8 0, .int .u8 0, .int .u8 0, .int .u8 0, .int .u8 0] 29))
  have H0 := Lib.hid (Two.alloc (w := w) (g := g) (b := b) (.cells #[.int .u8 0, .int .u8 0, .int .u8 0, .int .u8 0, .int .u8 0, .int .u8 0, .int .u8 0, .int .u8 0] 29))
  have s0 := block_cell h.block 0; have s1 := block_cell h.block 1
  have sf := block_free h.block
  simp at s0 s1
  have hbg : b < g := h.1
  by_cases he : t.err = 0
  · have hd : (t.err != 0) = false := by simp [he]
    have hr : RdAt w b t := by
      obtain ⟨_, _, sr, h3, h4⟩ := h
      rw [← h4 he]; exact h3
    have Hr := Lib.hid (hr.below (h_one w (.cells #[.int .u8 0, .int .u8 0, .int .u8 0, .int .u8 0, .int .u8 0, .int .u8 0, .int .u8 0, .int .u8 0] 29)) (by omega))
    clear hr h
    go_enter Try.func66, Try.ntmps66
    go_wp2_with fail
    refine (bytes_at b 8 t _ Hr.out (by omega) (by omega)).mono ?_
    rintro e w1 ⟨A1, n1, c1, rfl, ho1, hn1, hr1, hg1⟩
    have HS1 := Lib.hid (block_grown H.out.block hg1 (by intro e; injection e with e; omega))
    have HX1 := Lib.hid (block_grown HX0.out hg1 (by intro e; injection e with e; omega))
    have Hr1 := Lib.hid hr1; have H1 := Lib.hid (H0.out.grown hg1 (Or.inr (Or.inl rfl)))
    have HR1 := Lib.hid (Rd.of_own ho1); have HO1 := Lib.hid ho1; have HN1 := Lib.hid hn1
    clear s0 s1 sf hr1 hg1 hn1 ho1
    have s0 := block_cell HS1.out 0; have s1 := block_cell HS1.out 1
    have sf := block_free HS1.out
    simp at s0 s1
    go_wp2_with fail
    refine (err_any b _ w1 Hr1.out).mono ?_
    rintro e w2 ⟨rfl, rfl⟩
    rw [show Int.toNat 8 = 8 from rfl] at *
    have Hlt8 : Hid (∀ x ∈ (bytesRS t 8).2, x < 256) := Lib.hid (bytes8_lt (by obtain ⟨_, _, _, _, _, _, _, _, h9⟩ := Hr.out; exact h9))
    have Hnm : Hid (nameRS t = if (bytesRS t 8).1.err ≠ 0 then ((bytesRS t 8).1, nm0) else if (bytesRS t 8).2.length ≠ 8 then (⟨t.l, t.at_, 3⟩, nm0) else ((bytesRS t 8).1, chunk (bytesRS t 8).2 0)) := Lib.hid rfl
    generalize bytesRS t 8 = q at *
    have hB := src_set (e' := q.1.err) HS1.out
    have hG := grown_set1 w1 g 1 (.int .i64 q.1.err)
    go_upto_region 5 with fail
    have HS2 := Lib.hid hB
    have HX2 := Lib.hid (block_grown HX1.out hG (by intro e; injection e with e; omega))
    have Hr2 := Lib.hid (Hr1.out.grown hG hbg)
    have H2 := Lib.hid (H1.out.grown hG (Or.inl rfl))
    have HR2 : Hid (Rd (w1.setCell ⟨g, 1, none⟩ (.int .i64 q.1.err)) w1.heap.size 1 A1 n1 (bv q.2)) := Lib.hid (by
      refine HR1.out.grownNe hG (Nat.le_refl _) (fun h0 b0 o0 e => ?_)
      obtain ⟨g0, cap, hv, hb0, _⟩ := HO1.out.form h0
      injection hv with hv
      rw [hv] at e; injection e with e; injection e with e1 _
      simp at hb0; omega)
    have hs2 : (w1.setCell ⟨g, 1, none⟩ (.int .i64 q.1.err)).heap.size = w1.heap.size := by simp
    clear hB hG s0 s1 sf
    generalize w1.setCell ⟨g, 1, none⟩ (.int .i64 q.1.err) = w2 at *
    have Hs2 := Lib.hid hs2
    clear hs2
    have s0 := block_cell HS2.out 0; have s1 := block_cell HS2.out 1
    have sf := block_free HS2.out
    simp at s0 s1
    obtain ⟨zf, r0, r1, r2, r3, r4, r5, r6, r7⟩ := free8 HX2.out
    have hsz : w.heap.size < w2.heap.size := block_lt HX2.out
    by_cases he1 : q.1.err = 0
    · have hd1 : (q.1.err == 0) = true := by simp [he1]
      have hd2 : (q.1.err != 0) = false := by simp [he1]
      by_cases h8 : n1 = 8
      · subst h8
        have Hnm2 : Hid (nameRS t = (q.1, chunk q.2 0)) := Lib.hid (by rw [Hnm.out, if_neg (by simpa using he1), if_neg (by rw [← HN1.out]; simp)])
        obtain ⟨b2, o2, rfl, c0, c1', c2, c3, c4, c5, c6, c7⟩ := rd8_cells HR2.out
        have hra := run_arr
        have He1 := Lib.hid he1
        clear he1
        have Hend : Hid (Src w2 g b q.1) := Lib.hid ⟨hbg, HS2.out, q.1, Hr2.out, fun _ => rfl⟩
        generalize chunk q.2 0 = d at *
        go_wp2
        clear zf r0 r1 r2 r3 r4 r5 r6 r7
        have h8 := set8 HX2.out (.int .u8 (d.x0 : Int)) (.int .u8 (d.x1 : Int)) (.int .u8 (d.x2 : Int)) (.int .u8 (d.x3 : Int)) (.int .u8 (d.x4 : Int)) (.int .u8 (d.x5 : Int)) (.int .u8 (d.x6 : Int)) (.int .u8 (d.x7 : Int))
        have hg8 := grown_set8 w2 (w.heap.size) (.int .u8 (d.x0 : Int)) (.int .u8 (d.x1 : Int)) (.int .u8 (d.x2 : Int)) (.int .u8 (d.x3 : Int)) (.int .u8 (d.x4 : Int)) (.int .u8 (d.x5 : Int)) (.int .u8 (d.x6 : Int)) (.int .u8 (d.x7 : Int))
        generalize ((((((((w2.setCell ⟨w.heap.size, 0, none⟩ (.int .u8 (d.x0 : Int))).setCell ⟨w.heap.size, 1, none⟩ (.int .u8 (d.x1 : Int))).setCell ⟨w.heap.size, 2, none⟩ (.int .u8 (d.x2 : Int))).setCell ⟨w.heap.size, 3, none⟩ (.int .u8 (d.x3 : Int))).setCell ⟨w.heap.size, 4, none⟩ (.int .u8 (d.x4 : Int))).setCell ⟨w.heap.size, 5, none⟩ (.int .u8 (d.x5 : Int))).setCell ⟨w.heap.size, 6, none⟩ (.int .u8 (d.x6 : Int))).setCell ⟨w.heap.size, 7, none⟩ (.int .u8 (d.x7 : Int))) = w9 at *
        obtain ⟨zf, r0, r1, r2, r3, r4, r5, r6, r7⟩ := free8 h8
        have HG8 := Lib.hid hg8
        clear h8 hg8
        refine bodyPost_ret (v := .agg #[.int .u8 (d.x0 : Int), .int .u8 (d.x1 : Int), .int .u8 (d.x2 : Int), .int .u8 (d.x3 : Int), .int .u8 (d.x4 : Int), .int .u8 (d.x5 : Int), .int .u8 (d.x6 : Int), .int .u8 (d.x7 : Int)]) (by simp [results, Try.results66, go_sem, r0, r1, r2, r3, r4, r5, r6, r7]) rfl ⟨by rw [Hnm2.out], ?_, ?_⟩
        · rw [Hnm2.out]; exact src_grown Hend.out HG8.out hgl
        · exact H2.out.grown HG8.out (Or.inr (Or.inr (Nat.le_refl _)))
      · have hd3 : ((n1 : Int) != 8) = true := by simp; omega
        have Hnm2 : Hid (nameRS t = (⟨t.l, t.at_, 3⟩, nm0)) := Lib.hid (by rw [Hnm.out, if_neg (by simpa using he1), if_pos (by rw [← HN1.out]; exact h8)])
        have He1 := Lib.hid he1
        clear he1 h8
        have hB := src_set (e' := 3) HS2.out
        have hG := grown_set1 w2 g 1 (.int .i64 3)
        go_upto_region 7 with fail
        have HX3 := Lib.hid (block_grown HX2.out hG (by intro e; injection e with e; omega))
        have Hend : Hid (Src (w2.setCell ⟨g, 1, none⟩ (.int .i64 3)) g b ⟨t.l, t.at_, 3⟩) := Lib.hid ⟨hbg, hB, q.1, Hr2.out.grown hG hbg, fun e => absurd e (by show ¬ (3 : Int) = 0; decide)⟩
        have H3 := Lib.hid (H2.out.grown hG (Or.inl rfl))
        clear hG s0 s1 sf HX2 H2 HR2 Hr2 HS2 zf r0 r1 r2 r3 r4 r5 r6 r7
        have HS3 := Lib.hid hB
        clear hB
        generalize w2.setCell ⟨g, 1, none⟩ (.int .i64 3) = w3 at *
        have HX2 := Lib.hid HX3.out
        have s1 := block_cell HS3.out 1
        simp at s1
        obtain ⟨zf, r0, r1, r2, r3, r4, r5, r6, r7⟩ := free8 HX3.out
        go_wp2
        clear zf r0 r1 r2 r3 r4 r5 r6 r7
        have h8 := set8 HX2.out (.int .u8 0) (.int .u8 0) (.int .u8 0) (.int .u8 0) (.int .u8 0) (.int .u8 0) (.int .u8 0) (.int .u8 0)
        have hg8 := grown_set8 w3 (w.heap.size) (.int .u8 0) (.int .u8 0) (.int .u8 0) (.int .u8 0) (.int .u8 0) (.int .u8 0) (.int .u8 0) (.int .u8 0)
        generalize ((((((((w3.setCell ⟨w.heap.size, 0, none⟩ (.int .u8 0)).setCell ⟨w.heap.size, 1, none⟩ (.int .u8 0)).setCell ⟨w.heap.size, 2, none⟩ (.int .u8 0)).setCell ⟨w.heap.size, 3, none⟩ (.int .u8 0)).setCell ⟨w.heap.size, 4, none⟩ (.int .u8 0)).setCell ⟨w.heap.size, 5, none⟩ (.int .u8 0)).setCell ⟨w.heap.size, 6, none⟩ (.int .u8 0)).setCell ⟨w.heap.size, 7, none⟩ (.int .u8 0)) = w9 at *
        obtain ⟨zf, r0, r1, r2, r3, r4, r5, r6, r7⟩ := free8 h8
        have HG8 := Lib.hid hg8
        clear h8 hg8
        refine bodyPost_ret (v := .agg #[.int .u8 0, .int .u8 0, .int .u8 0, .int .u8 0, .int .u8 0, .int .u8 0, .int .u8 0, .int .u8 0]) (by simp [results, Try.results66, go_sem, r0, r1, r2, r3, r4, r5, r6, r7]) rfl ⟨by rw [Hnm2.out]; rfl, ?_, ?_⟩
        · rw [Hnm2.out]; exact src_grown Hend.out HG8.out hgl
        · exact H3.out.grown HG8.out (Or.inr (Or.inr (Nat.le_refl _)))
    · have hd1 : (q.1.err == 0) = false := by simp [he1]
      have hd2 : (q.1.err != 0) = true := by simp [he1]
      have Hnm2 : Hid (nameRS t = (q.1, nm0)) := Lib.hid (by rw [Hnm.out, if_pos he1])
      have He1 := Lib.hid he1
      clear he1
      have Hend : Hid (Src w2 g b q.1) := Lib.hid ⟨hbg, HS2.out, q.1, Hr2.out, fun _ => rfl⟩
      go_wp2
      clear zf r0 r1 r2 r3 r4 r5 r6 r7
      have h8 := set8 HX2.out (.int .u8 0) (.int .u8 0) (.int .u8 0) (.int .u8 0) (.int .u8 0) (.int .u8 0) (.int .u8 0) (.int .u8 0)
      have hg8 := grown_set8 w2 (w.heap.size) (.int .u8 0) (.int .u8 0) (.int .u8 0) (.int .u8 0) (.int .u8 0) (.int .u8 0) (.int .u8 0) (.int .u8 0)
      generalize ((((((((w2.setCell ⟨w.heap.size, 0, none⟩ (.int .u8 0)).setCell ⟨w.heap.size, 1, none⟩ (.int .u8 0)).setCell ⟨w.heap.size, 2, none⟩ (.int .u8 0)).setCell ⟨w.heap.size, 3, none⟩ (.int .u8 0)).setCell ⟨w.heap.size, 4, none⟩ (.int .u8 0)).setCell ⟨w.heap.size, 5, none⟩ (.int .u8 0)).setCell ⟨w.heap.size, 6, none⟩ (.int .u8 0)).setCell ⟨w.heap.size, 7, none⟩ (.int .u8 0)) = w9 at *
      obtain ⟨zf, r0, r1, r2, r3, r4, r5, r6, r7⟩ := free8 h8
      have HG8 := Lib.hid hg8
      clear h8 hg8
      refine bodyPost_ret (v := .agg #[.int .u8 0, .int .u8 0, .int .u8 0, .int .u8 0, .int .u8 0, .int .u8 0, .int .u8 0, .int .u8 0]) (by simp [results, Try.results66, go_sem, r0, r1, r2, r3, r4, r5, r6, r7]) rfl ⟨by rw [Hnm2.out]; rfl, ?_, ?_⟩
      · rw [Hnm2.out]; exact src_grown Hend.out HG8.out hgl
      · exact H2.out.grown HG8.out (Or.inr (Or.inr (Nat.le_refl _)))
  · have hd : (t.err != 0) = true := by simp [he]
    have hq : nameRS t = (t, nm0) := by
      have : bytesRS t 8 = (t, []) := by unfold bytesRS; rw [if_pos he]
      unfold nameRS; rw [this, if_pos he]
    have Hq := Lib.hid hq
    clear hq he h
    go_enter Try.func66, Try.ntmps66
    go_wp2
    refine bodyPost_ret (v := .agg #[.int .u8 0, .int .u8 0, .int .u8 0, .int .u8 0, .int .u8 0, .int .u8 0, .int .u8 0, .int .u8 0]) (by simp [results, Try.results66, go_sem]) rfl ⟨by rw [Hq.out]; rfl, by rw [Hq.out]; exact H.out, H0.out⟩
end Go.Proofs.Ytjiecnoplnaahaa
namespace Go.Proofs.Ytjiecnoplnaahaa
open Go.RowKit Go.Lib


theorem free3 {w : World} {g : Nat} {T : TypeId} {c0 c1 c2 : Value} (h : w.heap[g]? = some (.cells #[c0, c1, c2] T (0, 0))) :
    (∀ j, w.frozen? ⟨g, j, none⟩ = false) ∧ w.cell? ⟨g, 0, none⟩ = some c0 ∧ w.cell? ⟨g, 1, none⟩ = some c1 ∧ w.cell? ⟨g, 2, none⟩ = some c2 :=
  ⟨block_free h, by simpa using block_cell h 0, by simpa using block_cell h 1, by simpa using block_cell h 2⟩
theorem set3 {w : World} {g : Nat} {T : TypeId} {c0 c1 c2 : Value} (h : w.heap[g]? = some (.cells #[c0, c1, c2] T (0, 0))) (v0 v1 v2 : Value) :
    (((w.setCell ⟨g, 0, none⟩ v0).setCell ⟨g, 1, none⟩ v1).setCell ⟨g, 2, none⟩ v2).heap[g]? = some (.cells #[v0, v1, v2] T (0, 0)) ∧ w.grownBy (((w.setCell ⟨g, 0, none⟩ v0).setCell ⟨g, 1, none⟩ v1).setCell ⟨g, 2, none⟩ v2) (some g) := by
  have h1 := Joins.block_setCell (i := 0) h v0
  have h2 := Joins.block_setCell (i := 1) h1 v1
  have h3 := Joins.block_setCell (i := 2) h2 v2
  exact ⟨by simpa using h3, ((grown_set1 w g 0 v0).trans (grown_set1 _ g 1 v1)).trans (grown_set1 _ g 2 v2)⟩
theorem s38_of {w : World} {a b : Nat} {T T' : TypeId} {u0 u1 u2 v0 v1 v2 v3 v4 v5 v6 v7 : Value} (h : w.heap[a]? = some (.cells #[u0, u1, u2] T (0, 0))) (h' : w.heap[b]? = some (.cells #[v0, v1, v2, v3, v4, v5, v6, v7] T' (0, 0))) :
    (w.cell? ⟨a, 0, none⟩ = some u0 ∧ w.cell? ⟨a, 1, none⟩ = some u1 ∧ w.cell? ⟨a, 2, none⟩ = some u2) ∧ w.cell? ⟨b, 0, none⟩ = some v0 ∧ w.cell? ⟨b, 1, none⟩ = some v1 ∧ w.cell? ⟨b, 2, none⟩ = some v2 ∧ w.cell? ⟨b, 3, none⟩ = some v3 ∧ w.cell? ⟨b, 4, none⟩ = some v4 ∧ w.cell? ⟨b, 5, none⟩ = some v5 ∧ w.cell? ⟨b, 6, none⟩ = some v6 ∧ w.cell? ⟨b, 7, none⟩ = some v7 := by
  obtain ⟨_, a0⟩ := free3 h
  obtain ⟨_, r⟩ := free8 h'
  exact ⟨a0, r⟩
set_option maxRecDepth 100000 in
set_option maxHeartbeats 2000000 in
theorem rname_any (A : Option Addr) (n c : Nat) (s : RS) (w : World) (hr : Rd w w.heap.size 1 A n (bv s.l)) (hnc : n ≤ c) (hn : n ≤ 1000000000) (hat : s.at_ ≤ n) (hb : ∀ x ∈ s.l, x < 256) :
    Calls Try.prog 69 #[.agg #[.slice A n c, .int .i64 (s.at_ : Int), .int .i64 s.err]] w fun e w' => e = .returned (.tuple #[.agg #[.slice A n c, .int .i64 ((nameRS s).1.at_ : Int), .int .i64 (nameRS s).1.err], .agg #[.int .u8 ((nameRS s).2.x0 : Int), .int .u8 ((nameRS s).2.x1 : Int), .int .u8 ((nameRS s).2.x2 : Int), .int .u8 ((nameRS s).2.x3 : Int), .int .u8 ((nameRS s).2.x4 : Int), .int .u8 ((nameRS s).2.x5 : Int), .int .u8 ((nameRS s).2.x6 : Int), .int .u8 ((nameRS s).2.x7 : Int)]]) ∧ Below w.heap.size w w' := by
  have HA0 := Lib.hid (show ((((w.alloc (.cells #[.slice A n c, .int .i64 (s.at_ : Int), .int .i64 s.err] 113)).alloc (.cells #[.slice none 0 0, .int .i64 0, .int .i64 0] 113)).alloc (.cells #[.int .u8 0, .int .u8 0, .int .u8 0, .int .u8 0, .int .u8 0, .int .u8 0, .int .u8 0, .int .u8 0] 22)).alloc (.cells #[.int .u8 0, .int .u8 0, .int .u8 0, .int .u8 0, .int .u8 0, .int .u8 0, .int .u8 0, .int .u8 0] 22)).heap[w.heap.size]? = some (.cells #[.slice A n c, .int .i64 (s.at_ : Int), .int .i64 s.err] 113 (0, 0)) from block_alloc (block_alloc (block_alloc (heap_alloc_new w _) _) _) _)
  have HB0 := Lib.hid (show ((((w.alloc (.cells #[.slice A n c, .int .i64 (s.at_ : Int), .int .i64 s.err] 113)).alloc (.cells #[.slice none 0 0, .int .i64 0, .int .i64 0] 113)).alloc (.cells #[.int .u8 0, .int .u8 0, .int .u8 0, .int .u8 0, .int .u8 0, .int .u8 0, .int .u8 0, .int .u8 0] 22)).alloc (.cells #[.int .u8 0, .int .u8 0, .int .u8 0, .int .u8 0, .int .u8 0, .int .u8 0, .int .u8 0, .int .u8 0] 22)).heap[w.heap.size + 1]? = some (.cells #[.slice none 0 0, .int .i64 0, .int .i64 0] 113 (0, 0)) from block_alloc (block_alloc (h_at (by simp)) _) _)
  have HC0 := Lib.hid (show ((((w.alloc (.cells #[.slice A n c, .int .i64 (s.at_ : Int), .int .i64 s.err] 113)).alloc (.cells #[.slice none 0 0, .int .i64 0, .int .i64 0] 113)).alloc (.cells #[.int .u8 0, .int .u8 0, .int .u8 0, .int .u8 0, .int .u8 0, .int .u8 0, .int .u8 0, .int .u8 0] 22)).alloc (.cells #[.int .u8 0, .int .u8 0, .int .u8 0, .int .u8 0, .int .u8 0, .int .u8 0, .int .u8 0, .int .u8 0] 22)).heap[w.heap.size + 1 + 1]? = some (.cells #[.int .u8 0, .int .u8 0, .int .u8 0, .int .u8 0, .int .u8 0, .int .u8 0, .int .u8 0, .int .u8 0] 22 (0, 0)) from block_alloc (h_at (by simp)) _)
  have HD0 := Lib.hid (show ((((w.alloc (.cells #[.slice A n c, .int .i64 (s.at_ : Int), .int .i64 s.err] 113)).alloc (.cells #[.slice none 0 0, .int .i64 0, .int .i64 0] 113)).alloc (.cells #[.int .u8 0, .int .u8 0, .int .u8 0, .int .u8 0, .int .u8 0, .int .u8 0, .int .u8 0, .int .u8 0] 22)).alloc (.cells #[.int .u8 0, .int .u8 0, .int .u8 0, .int .u8 0, .int .u8 0, .int .u8 0, .int .u8 0, .int .u8 0] 22)).heap[w.heap.size + 1 + 1 + 1]? = some (.cells #[.int .u8 0, .int .u8 0, .int .u8 0, .int .u8 0, .int .u8 0, .int .u8 0, .int .u8 0, .int .u8 0] 22 (0, 0)) from h_at (by simp))
  have Hw0 := Lib.hid (((h_two w (.cells #[.slice A n c, .int .i64 (s.at_ : Int), .int .i64 s.err] 113) (.cells #[.slice none 0 0, .int .i64 0, .int .i64 0] 113)).alloc (by simp; omega) (.cells #[.int .u8 0, .int .u8 0, .int .u8 0, .int .u8 0, .int .u8 0, .int .u8 0, .int .u8 0, .int .u8 0] 22)).alloc (by simp; omega) (.cells #[.int .u8 0, .int .u8 0, .int .u8 0, .int .u8 0, .int .u8 0, .int .u8 0, .int .u8 0, .int .u8 0] 22))
  have Hr := Lib.hid hr; have Hb := Lib.hid hb
  clear hr hb
  go_enter Try.func69, Try.ntmps69
  go_wp2_with fail
  generalize ((((w.alloc (.cells #[.slice A n c, .int .i64 (s.at_ : Int), .int .i64 s.err] 113)).alloc (.cells #[.slice none 0 0, .int .i64 0, .int .i64 0] 113)).alloc (.cells #[.int .u8 0, .int .u8 0, .int .u8 0, .int .u8 0, .int .u8 0, .int .u8 0, .int .u8 0, .int .u8 0] 22)).alloc (.cells #[.int .u8 0, .int .u8 0, .int .u8 0, .int .u8 0, .int .u8 0, .int .u8 0, .int .u8 0, .int .u8 0] 22)) = w0 at *
  refine (some_at A n c 8 s w0 ((Hr.out.below Hw0.out (Nat.le_refl _)).more Hw0.out.size) hnc hn hat Hb.out (by omega) (by omega)).mono ?_
  rintro e w1 ⟨A2, n2, c2, rfl, ho, hn2, hb1⟩
  have HA1 := Lib.hid (block_below HA0.out hb1 (block_lt HA0.out)); have HB1 := Lib.hid (block_below HB0.out hb1 (block_lt HB0.out)); have HC1 := Lib.hid (block_below HC0.out hb1 (block_lt HC0.out)); have HD1 := Lib.hid (block_below HD0.out hb1 (block_lt HD0.out)); have Hw1 := Lib.hid (Hw0.out.trans (hb1.mono Hw0.out.size))
  have HR1 := Lib.hid (Rd.of_own ho); have HN2 := Lib.hid hn2
  have Hbig : Hid (∀ b o, A2 = some ⟨b, o, none⟩ → w.heap.size + 1 + 1 + 1 < b ∨ n2 = 0) := Lib.hid (fun b o e => by
    rcases Nat.eq_zero_or_pos n2 with h0 | h0
    · exact .inr h0
    · obtain ⟨g, cap, hv, hg, _⟩ := ho.form h0
      injection hv with hv; rw [hv] at e; injection e with e; injection e with e1 _
      have := block_lt HD0.out
      omega)
  clear ho hn2 hb1 HA0 HB0 HC0 HD0 Hw0
  rw [show Int.toNat 8 = 8 from rfl] at *
  have Hlt8 : Hid (∀ x ∈ (bytesRS s 8).2, x < 256) := Lib.hid (bytes8_lt Hb.out)
  have Hnm : Hid (nameRS s = if (bytesRS s 8).1.err ≠ 0 then ((bytesRS s 8).1, nm0) else if (bytesRS s 8).2.length ≠ 8 then (⟨s.l, s.at_, 3⟩, nm0) else ((bytesRS s 8).1, chunk (bytesRS s 8).2 0)) := Lib.hid rfl
  generalize bytesRS s 8 = q at *
  go_upto_region 3 with fail
  have H52 := Lib.hid (heap_alloc_new w1 (.cells #[.slice A n c, .int .i64 (q.1.at_ : Int), .int .i64 q.1.err] 113))
  have HA2 := Lib.hid (block_alloc HA1.out (.cells #[.slice A n c, .int .i64 (q.1.at_ : Int), .int .i64 q.1.err] 113)); have HB2 := Lib.hid (block_alloc HB1.out (.cells #[.slice A n c, .int .i64 (q.1.at_ : Int), .int .i64 q.1.err] 113)); have HC2 := Lib.hid (block_alloc HC1.out (.cells #[.slice A n c, .int .i64 (q.1.at_ : Int), .int .i64 q.1.err] 113)); have HD2 := Lib.hid (block_alloc HD1.out (.cells #[.slice A n c, .int .i64 (q.1.at_ : Int), .int .i64 q.1.err] 113)); have Hw2 := Lib.hid (Hw1.out.alloc Hw1.out.size (.cells #[.slice A n c, .int .i64 (q.1.at_ : Int), .int .i64 q.1.err] 113))
  have HR2 := Lib.hid (HR1.out.alloc (Nat.le_refl _) (.cells #[.slice A n c, .int .i64 (q.1.at_ : Int), .int .i64 q.1.err] 113))
  have hg5 : w.heap.size + 1 + 1 + 1 < w1.heap.size := block_lt HD1.out
  generalize w1.alloc (.cells #[.slice A n c, .int .i64 (q.1.at_ : Int), .int .i64 q.1.err] 113) = w2 at *
  generalize w1.heap.size = g5 at *
  clear HA1 HB1 HC1 HD1 Hw1 HR1
  obtain ⟨ef, e0, e1, e2⟩ := free3 H52.out
  by_cases he : q.1.err = 0
  · have hd1 : (q.1.err != 0) = false := by simp [he]
    by_cases h8 : n2 = 8
    · subst h8
      have Hnm2 : Hid (nameRS s = (q.1, chunk q.2 0)) := Lib.hid (by rw [Hnm.out, if_neg (by simpa using he), if_neg (by rw [← HN2.out]; simp)])
      obtain ⟨b2, o2, rfl, c0, c1', c2', c3, c4, c5, c6, c7⟩ := rd8_cells HR2.out
      have hbne : b2 ≠ w.heap.size + 1 + 1 + 1 := by have := Hbig.out b2 o2 rfl; omega
      have He1 := Lib.hid he
      clear he
      generalize chunk q.2 0 = d at *
      have Hd8 := Lib.hid (set8 HD2.out (.int .u8 (d.x0 : Int)) (.int .u8 (d.x1 : Int)) (.int .u8 (d.x2 : Int)) (.int .u8 (d.x3 : Int)) (.int .u8 (d.x4 : Int)) (.int .u8 (d.x5 : Int)) (.int .u8 (d.x6 : Int)) (.int .u8 (d.x7 : Int)))
      have Hg8 := Lib.hid (grown_set8 w2 (w.heap.size + 1 + 1 + 1) (.int .u8 (d.x0 : Int)) (.int .u8 (d.x1 : Int)) (.int .u8 (d.x2 : Int)) (.int .u8 (d.x3 : Int)) (.int .u8 (d.x4 : Int)) (.int .u8 (d.x5 : Int)) (.int .u8 (d.x6 : Int)) (.int .u8 (d.x7 : Int)))
      obtain ⟨zf, r0, r1, r2, r3, r4, r5, r6, r7⟩ := free8 HD2.out
      go_wp2
      refine wp_loop_rounds 9 ?_
      iterate 9 (rw [rounds_succ]; go_wp2)
      clear zf r0 r1 r2 r3 r4 r5 r6 r7 c0 c1' c2' c3 c4 c5 c6 c7
      have hd8 := Hd8.out
      have hg8 := Hg8.out
      clear Hd8 Hg8
      generalize (((((((w2.setCell ⟨w.heap.size + 1 + 1 + 1, 0, none⟩ (.int .u8 (d.x0 : Int))).setCell ⟨w.heap.size + 1 + 1 + 1, 1, none⟩ (.int .u8 (d.x1 : Int))).setCell ⟨w.heap.size + 1 + 1 + 1, 2, none⟩ (.int .u8 (d.x2 : Int))).setCell ⟨w.heap.size + 1 + 1 + 1, 3, none⟩ (.int .u8 (d.x3 : Int))).setCell ⟨w.heap.size + 1 + 1 + 1, 4, none⟩ (.int .u8 (d.x4 : Int))).setCell ⟨w.heap.size + 1 + 1 + 1, 5, none⟩ (.int .u8 (d.x5 : Int))).setCell ⟨w.heap.size + 1 + 1 + 1, 6, none⟩ (.int .u8 (d.x6 : Int))).setCell ⟨w.heap.size + 1 + 1 + 1, 7, none⟩ (.int .u8 (d.x7 : Int)) = w3 at *
      have HB3 := Lib.hid (block_grown HB2.out hg8 (by intro e; injection e with e; omega)); have HC3 := Lib.hid (block_grown HC2.out hg8 (by intro e; injection e with e; omega)); have HD3 := Lib.hid hd8; have H53 := Lib.hid (block_grown H52.out hg8 (by intro e; injection e with e; omega)); have Hw3 := Lib.hid (Hw2.out.grown hg8 Hw2.out.size (fun k hk => by injection hk with hk; omega))
      clear hd8 hg8 ef e0 e1 e2
      refine wp_region_held_drew (S := (fun w' : World => (w'.cell? ⟨g5, 0, none⟩ = some (.slice A n c) ∧ w'.cell? ⟨g5, 1, none⟩ = some (.int .i64 (q.1.at_ : Int)) ∧ w'.cell? ⟨g5, 2, none⟩ = some (.int .i64 q.1.err)) ∧ w'.cell? ⟨(w.heap.size + 1 + 1 + 1), 0, none⟩ = some (.int .u8 (d.x0 : Int)) ∧ w'.cell? ⟨(w.heap.size + 1 + 1 + 1), 1, none⟩ = some (.int .u8 (d.x1 : Int)) ∧ w'.cell? ⟨(w.heap.size + 1 + 1 + 1), 2, none⟩ = some (.int .u8 (d.x2 : Int)) ∧ w'.cell? ⟨(w.heap.size + 1 + 1 + 1), 3, none⟩ = some (.int .u8 (d.x3 : Int)) ∧ w'.cell? ⟨(w.heap.size + 1 + 1 + 1), 4, none⟩ = some (.int .u8 (d.x4 : Int)) ∧ w'.cell? ⟨(w.heap.size + 1 + 1 + 1), 5, none⟩ = some (.int .u8 (d.x5 : Int)) ∧ w'.cell? ⟨(w.heap.size + 1 + 1 + 1), 6, none⟩ = some (.int .u8 (d.x6 : Int)) ∧ w'.cell? ⟨(w.heap.size + 1 + 1 + 1), 7, none⟩ = some (.int .u8 (d.x7 : Int)))) (by kernel_rfl) (s38_of (w := w3.drew) H53.out HD3.out) (fun hHeld => ?_)
      refine takeH 0 (some 34) (v := ?_) rfl (by kernel_rfl) (by kernel_rfl) (by kernel_rfl) (by kernel_rfl) (fun _ _ _ h => h) (Or.inl ⟨by kernel_rfl, ?hy⟩) (by assumption) ?_
      case hy =>
        intro w' hSw
        try dsimp only at hSw
        first
          | (go_simp; done)
          | (go_simp; with_reducible rfl)
      simp only [Act.put, List.setIfInBounds_toArray, List.set_cons_zero, List.set_cons_succ]
      refine takeH 1 (some 35) (v := ?_) rfl (by kernel_rfl) (by kernel_rfl) (by kernel_rfl) (by kernel_rfl) (fun _ _ _ h => h) (Or.inl ⟨by kernel_rfl, ?hy⟩) (by assumption) ?_
      case hy =>
        intro w' hSw
        try dsimp only at hSw
        first
          | (go_simp; done)
          | (go_simp; with_reducible rfl)
      simp only [Act.put, List.setIfInBounds_toArray, List.set_cons_zero, List.set_cons_succ]
      refine wpAnyH_ready (rs := [2]) (by kernel_rfl) (by simp) ?_
      refine AllReadyH.cons rfl (fun K hK => ?_) AllReadyH.nil
      obtain ⟨bf, b0, b1, b2⟩ := free3 HB3.out
      rw [if_pos (by kernel_rfl)]
      go_simp
      clear bf b0 b1 b2
      have h3 := set3 HB3.out (.slice A n c) (.int .i64 (q.1.at_ : Int)) (.int .i64 q.1.err)
      have hs3 := h3.1
      have hg3 := h3.2
      clear h3
      generalize ((w3.setCell ⟨w.heap.size + 1, 0, none⟩ (.slice A n c)).setCell ⟨w.heap.size + 1, 1, none⟩ (.int .i64 (q.1.at_ : Int))).setCell ⟨w.heap.size + 1, 2, none⟩ (.int .i64 q.1.err) = w4 at *
      have HB4 := Lib.hid hs3; have HC4 := Lib.hid (block_grown HC3.out hg3 (by intro e; injection e with e; omega)); have HD4 := Lib.hid (block_grown HD3.out hg3 (by intro e; injection e with e; omega)); have H54 := Lib.hid (block_grown H53.out hg3 (by intro e; injection e with e; omega)); have Hw4 := Lib.hid (Hw3.out.grown hg3 Hw3.out.size (fun k hk => by injection hk with hk; omega))
      clear hs3 hg3
      refine hK.out _ _ (s38_of H54.out HD4.out) (fun hHeld => ?_)
      clear hK K
      refine wpAnyH_ready (rs := [3]) (by kernel_rfl) (by simp) ?_
      refine AllReadyH.cons rfl (fun K hK => ?_) AllReadyH.nil
      obtain ⟨bf, b0, b1, b2, b3, b4, b5, b6, b7⟩ := free8 HC4.out
      rw [if_pos (by kernel_rfl)]
      go_simp
      clear bf b0 b1 b2 b3 b4 b5 b6 b7
      have hs8 := set8 HC4.out (.int .u8 (d.x0 : Int)) (.int .u8 (d.x1 : Int)) (.int .u8 (d.x2 : Int)) (.int .u8 (d.x3 : Int)) (.int .u8 (d.x4 : Int)) (.int .u8 (d.x5 : Int)) (.int .u8 (d.x6 : Int)) (.int .u8 (d.x7 : Int))
      have hg8 := grown_set8 w4 (w.heap.size + 1 + 1) (.int .u8 (d.x0 : Int)) (.int .u8 (d.x1 : Int)) (.int .u8 (d.x2 : Int)) (.int .u8 (d.x3 : Int)) (.int .u8 (d.x4 : Int)) (.int .u8 (d.x5 : Int)) (.int .u8 (d.x6 : Int)) (.int .u8 (d.x7 : Int))
      generalize (((((((w4.setCell ⟨w.heap.size + 1 + 1, 0, none⟩ (.int .u8 (d.x0 : Int))).setCell ⟨w.heap.size + 1 + 1, 1, none⟩ (.int .u8 (d.x1 : Int))).setCell ⟨w.heap.size + 1 + 1, 2, none⟩ (.int .u8 (d.x2 : Int))).setCell ⟨w.heap.size + 1 + 1, 3, none⟩ (.int .u8 (d.x3 : Int))).setCell ⟨w.heap.size + 1 + 1, 4, none⟩ (.int .u8 (d.x4 : Int))).setCell ⟨w.heap.size + 1 + 1, 5, none⟩ (.int .u8 (d.x5 : Int))).setCell ⟨w.heap.size + 1 + 1, 6, none⟩ (.int .u8 (d.x6 : Int))).setCell ⟨w.heap.size + 1 + 1, 7, none⟩ (.int .u8 (d.x7 : Int)) = w5 at *
      have HC5 := Lib.hid hs8; have HB5 := Lib.hid (block_grown HB4.out hg8 (by intro e; injection e with e; omega)); have HD5 := Lib.hid (block_grown HD4.out hg8 (by intro e; injection e with e; omega)); have H55 := Lib.hid (block_grown H54.out hg8 (by intro e; injection e with e; omega)); have Hw5 := Lib.hid (Hw4.out.grown hg8 Hw4.out.size (fun k hk => by injection hk with hk; omega))
      clear hs8 hg8
      refine hK.out _ _ (s38_of H55.out HD5.out) (fun hHeld => ?_)
      clear hK K
      refine wpAnyH_done (by kernel_rfl) ?_ _
      obtain ⟨bf, b0, b1, b2⟩ := free3 HB5.out
      obtain ⟨cf, r0, r1, r2, r3, r4, r5, r6, r7⟩ := free8 HC5.out
      go_wp2
      refine bodyPost_ret (v := .tuple #[.agg #[.slice A n c, .int .i64 (q.1.at_ : Int), .int .i64 q.1.err], .agg #[.int .u8 (d.x0 : Int), .int .u8 (d.x1 : Int), .int .u8 (d.x2 : Int), .int .u8 (d.x3 : Int), .int .u8 (d.x4 : Int), .int .u8 (d.x5 : Int), .int .u8 (d.x6 : Int), .int .u8 (d.x7 : Int)]]) (by simp [results, Try.results69, go_sem, b0, b1, b2, r0, r1, r2, r3, r4, r5, r6, r7]) rfl ⟨?_, (by first | exact Hw5.out.drew | exact Hw5.out)⟩
      rw [Hnm2.out]
    · have hd2 : ((n2 : Int) != 8) = true := by simp; omega
      have Hnm2 : Hid (nameRS s = (⟨s.l, s.at_, 3⟩, nm0)) := Lib.hid (by rw [Hnm.out, if_neg (by simpa using he), if_pos (by rw [← HN2.out]; exact h8)])
      clear he h8
      have H5k := H52
      go_wp2
      clear H52 ef e0 e1 e2
      have H52 := HA2
      refine wp_region_held_drew (S := (fun w' : World => (w'.cell? ⟨w.heap.size, 0, none⟩ = some (.slice A n c) ∧ w'.cell? ⟨w.heap.size, 1, none⟩ = some (.int .i64 (s.at_ : Int)) ∧ w'.cell? ⟨w.heap.size, 2, none⟩ = some (.int .i64 s.err)) ∧ w'.cell? ⟨(w.heap.size + 1 + 1 + 1), 0, none⟩ = some (.int .u8 0) ∧ w'.cell? ⟨(w.heap.size + 1 + 1 + 1), 1, none⟩ = some (.int .u8 0) ∧ w'.cell? ⟨(w.heap.size + 1 + 1 + 1), 2, none⟩ = some (.int .u8 0) ∧ w'.cell? ⟨(w.heap.size + 1 + 1 + 1), 3, none⟩ = some (.int .u8 0) ∧ w'.cell? ⟨(w.heap.size + 1 + 1 + 1), 4, none⟩ = some (.int .u8 0) ∧ w'.cell? ⟨(w.heap.size + 1 + 1 + 1), 5, none⟩ = some (.int .u8 0) ∧ w'.cell? ⟨(w.heap.size + 1 + 1 + 1), 6, none⟩ = some (.int .u8 0) ∧ w'.cell? ⟨(w.heap.size + 1 + 1 + 1), 7, none⟩ = some (.int .u8 0))) (by kernel_rfl) (s38_of (w := w2.drew) H52.out HD2.out) (fun hHeld => ?_)
      refine takeH 0 (some 21) (v := ?_) rfl (by kernel_rfl) (by kernel_rfl) (by kernel_rfl) (by kernel_rfl) (fun _ _ _ h => h) (Or.inl ⟨by kernel_rfl, ?hy⟩) (by assumption) ?_
      case hy =>
        intro w' hSw
        try dsimp only at hSw
        first
          | (go_simp; done)
          | (go_simp; with_reducible rfl)
      simp only [Act.put, List.setIfInBounds_toArray, List.set_cons_zero, List.set_cons_succ]
      refine takeH 2 (some 23) (v := ?_) rfl (by kernel_rfl) (by kernel_rfl) (by kernel_rfl) (by kernel_rfl) (fun _ _ _ h => h) (Or.inl ⟨by kernel_rfl, ?hy⟩) (by assumption) ?_
      case hy =>
        intro w' hSw
        try dsimp only at hSw
        first
          | (go_simp; done)
          | (go_simp; with_reducible rfl)
      simp only [Act.put, List.setIfInBounds_toArray, List.set_cons_zero, List.set_cons_succ]
      refine wpAnyH_ready (rs := [1]) (by kernel_rfl) (by simp) ?_
      refine AllReadyH.cons rfl (fun K hK => ?_) AllReadyH.nil
      rw [if_pos (by kernel_rfl)]
      go_simp
      refine (fail_any A n c (s.at_ : Int) s.err 3 _).mono ?_
      rintro e w3 ⟨rfl, hb3d⟩
      have hb3 : Below w2.heap.size w2 w3 := ⟨hb3d.os, hb3d.tape, hb3d.output, hb3d.size, hb3d.block⟩
      have H53 := Lib.hid (block_below H52.out hb3 (block_lt H52.out)); have HB3 := Lib.hid (block_below HB2.out hb3 (block_lt HB2.out)); have HC3 := Lib.hid (block_below HC2.out hb3 (block_lt HC2.out)); have HD3 := Lib.hid (block_below HD2.out hb3 (block_lt HD2.out)); have Hw3 := Lib.hid (Hw2.out.trans (hb3.mono Hw2.out.size))
      clear hb3 hb3d
      refine hK.out _ _ (s38_of H53.out HD3.out) (fun hHeld => ?_)
      clear hK K
      refine wpAnyH_ready (rs := [3]) (by kernel_rfl) (by simp) ?_
      refine AllReadyH.cons rfl (fun K hK => ?_) AllReadyH.nil
      obtain ⟨bf, b0, b1, b2⟩ := free3 HB3.out
      rw [if_pos (by kernel_rfl)]
      go_simp
      clear bf b0 b1 b2
      have h3 := set3 HB3.out (.slice A n c) (.int .i64 (s.at_ : Int)) (.int .i64 3)
      have hs3 := h3.1
      have hg3 := h3.2
      clear h3
      generalize ((w3.setCell ⟨w.heap.size + 1, 0, none⟩ (.slice A n c)).setCell ⟨w.heap.size + 1, 1, none⟩ (.int .i64 (s.at_ : Int))).setCell ⟨w.heap.size + 1, 2, none⟩ (.int .i64 3) = w4 at *
      have HB4 := Lib.hid hs3; have HC4 := Lib.hid (block_grown HC3.out hg3 (by intro e; injection e with e; omega)); have HD4 := Lib.hid (block_grown HD3.out hg3 (by intro e; injection e with e; omega)); have H54 := Lib.hid (block_grown H53.out hg3 (by intro e; injection e with e; omega)); have Hw4 := Lib.hid (Hw3.out.grown hg3 Hw3.out.size (fun k hk => by injection hk with hk; omega))
      clear hs3 hg3
      refine hK.out _ _ (s38_of H54.out HD4.out) (fun hHeld => ?_)
      clear hK K
      refine wpAnyH_ready (rs := [4]) (by kernel_rfl) (by simp) ?_
      refine AllReadyH.cons rfl (fun K hK => ?_) AllReadyH.nil
      obtain ⟨bf, b0, b1, b2, b3, b4, b5, b6, b7⟩ := free8 HC4.out
      rw [if_pos (by kernel_rfl)]
      go_simp
      clear bf b0 b1 b2 b3 b4 b5 b6 b7
      have hs8 := set8 HC4.out (.int .u8 0) (.int .u8 0) (.int .u8 0) (.int .u8 0) (.int .u8 0) (.int .u8 0) (.int .u8 0) (.int .u8 0)
      have hg8 := grown_set8 w4 (w.heap.size + 1 + 1) (.int .u8 0) (.int .u8 0) (.int .u8 0) (.int .u8 0) (.int .u8 0) (.int .u8 0) (.int .u8 0) (.int .u8 0)
      generalize (((((((w4.setCell ⟨w.heap.size + 1 + 1, 0, none⟩ (.int .u8 0)).setCell ⟨w.heap.size + 1 + 1, 1, none⟩ (.int .u8 0)).setCell ⟨w.heap.size + 1 + 1, 2, none⟩ (.int .u8 0)).setCell ⟨w.heap.size + 1 + 1, 3, none⟩ (.int .u8 0)).setCell ⟨w.heap.size + 1 + 1, 4, none⟩ (.int .u8 0)).setCell ⟨w.heap.size + 1 + 1, 5, none⟩ (.int .u8 0)).setCell ⟨w.heap.size + 1 + 1, 6, none⟩ (.int .u8 0)).setCell ⟨w.heap.size + 1 + 1, 7, none⟩ (.int .u8 0) = w5 at *
      have HC5 := Lib.hid hs8; have HB5 := Lib.hid (block_grown HB4.out hg8 (by intro e; injection e with e; omega)); have HD5 := Lib.hid (block_grown HD4.out hg8 (by intro e; injection e with e; omega)); have H55 := Lib.hid (block_grown H54.out hg8 (by intro e; injection e with e; omega)); have Hw5 := Lib.hid (Hw4.out.grown hg8 Hw4.out.size (fun k hk => by injection hk with hk; omega))
      clear hs8 hg8
      refine hK.out _ _ (s38_of H55.out HD5.out) (fun hHeld => ?_)
      clear hK K
      refine wpAnyH_done (by kernel_rfl) ?_ _
      obtain ⟨bf, b0, b1, b2⟩ := free3 HB5.out
      obtain ⟨cf, r0, r1, r2, r3, r4, r5, r6, r7⟩ := free8 HC5.out
      go_wp2
      refine bodyPost_ret (v := .tuple #[.agg #[.slice A n c, .int .i64 (s.at_ : Int), .int .i64 3], .agg #[.int .u8 0, .int .u8 0, .int .u8 0, .int .u8 0, .int .u8 0, .int .u8 0, .int .u8 0, .int .u8 0]]) (by simp [results, Try.results69, go_sem, b0, b1, b2, r0, r1, r2, r3, r4, r5, r6, r7]) rfl ⟨?_, (by first | exact Hw5.out.drew | exact Hw5.out)⟩
      rw [Hnm2.out]; rfl
  · have hd1 : (q.1.err != 0) = true := by simp [he]
    have Hnm2 : Hid (nameRS s = (q.1, nm0)) := Lib.hid (by rw [Hnm.out, if_pos he])
    clear he
    go_wp2
    refine wp_region_held_drew (S := (fun w' : World => (w'.cell? ⟨g5, 0, none⟩ = some (.slice A n c) ∧ w'.cell? ⟨g5, 1, none⟩ = some (.int .i64 (q.1.at_ : Int)) ∧ w'.cell? ⟨g5, 2, none⟩ = some (.int .i64 q.1.err)) ∧ w'.cell? ⟨(w.heap.size + 1 + 1 + 1), 0, none⟩ = some (.int .u8 0) ∧ w'.cell? ⟨(w.heap.size + 1 + 1 + 1), 1, none⟩ = some (.int .u8 0) ∧ w'.cell? ⟨(w.heap.size + 1 + 1 + 1), 2, none⟩ = some (.int .u8 0) ∧ w'.cell? ⟨(w.heap.size + 1 + 1 + 1), 3, none⟩ = some (.int .u8 0) ∧ w'.cell? ⟨(w.heap.size + 1 + 1 + 1), 4, none⟩ = some (.int .u8 0) ∧ w'.cell? ⟨(w.heap.size + 1 + 1 + 1), 5, none⟩ = some (.int .u8 0) ∧ w'.cell? ⟨(w.heap.size + 1 + 1 + 1), 6, none⟩ = some (.int .u8 0) ∧ w'.cell? ⟨(w.heap.size + 1 + 1 + 1), 7, none⟩ = some (.int .u8 0))) (by kernel_rfl) (s38_of (w := w2.drew) H52.out HD2.out) (fun hHeld => ?_)
    refine takeH 0 (some 16) (v := ?_) rfl (by kernel_rfl) (by kernel_rfl) (by kernel_rfl) (by kernel_rfl) (fun _ _ _ h => h) (Or.inl ⟨by kernel_rfl, ?hy⟩) (by assumption) ?_
    case hy =>
      intro w' hSw
      try dsimp only at hSw
      first
        | (go_simp; done)
        | (go_simp; with_reducible rfl)
    simp only [Act.put, List.setIfInBounds_toArray, List.set_cons_zero, List.set_cons_succ]
    refine takeH 1 (some 17) (v := ?_) rfl (by kernel_rfl) (by kernel_rfl) (by kernel_rfl) (by kernel_rfl) (fun _ _ _ h => h) (Or.inl ⟨by kernel_rfl, ?hy⟩) (by assumption) ?_
    case hy =>
      intro w' hSw
      try dsimp only at hSw
      first
        | (go_simp; done)
        | (go_simp; with_reducible rfl)
    simp only [Act.put, List.setIfInBounds_toArray, List.set_cons_zero, List.set_cons_succ]
    refine wpAnyH_ready (rs := [2]) (by kernel_rfl) (by simp) ?_
    refine AllReadyH.cons rfl (fun K hK => ?_) AllReadyH.nil
    obtain ⟨bf, b0, b1, b2⟩ := free3 HB2.out
    rw [if_pos (by kernel_rfl)]
    go_simp
    clear bf b0 b1 b2
    have h3 := set3 HB2.out (.slice A n c) (.int .i64 (q.1.at_ : Int)) (.int .i64 q.1.err)
    have hs3 := h3.1
    have hg3 := h3.2
    clear h3
    generalize ((w2.setCell ⟨w.heap.size + 1, 0, none⟩ (.slice A n c)).setCell ⟨w.heap.size + 1, 1, none⟩ (.int .i64 (q.1.at_ : Int))).setCell ⟨w.heap.size + 1, 2, none⟩ (.int .i64 q.1.err) = w3 at *
    have HB3 := Lib.hid hs3; have HC3 := Lib.hid (block_grown HC2.out hg3 (by intro e; injection e with e; omega)); have HD3 := Lib.hid (block_grown HD2.out hg3 (by intro e; injection e with e; omega)); have H53 := Lib.hid (block_grown H52.out hg3 (by intro e; injection e with e; omega)); have Hw3 := Lib.hid (Hw2.out.grown hg3 Hw2.out.size (fun k hk => by injection hk with hk; omega))
    clear hs3 hg3
    refine hK.out _ _ (s38_of H53.out HD3.out) (fun hHeld => ?_)
    clear hK K
    refine wpAnyH_ready (rs := [3]) (by kernel_rfl) (by simp) ?_
    refine AllReadyH.cons rfl (fun K hK => ?_) AllReadyH.nil
    obtain ⟨bf, b0, b1, b2, b3, b4, b5, b6, b7⟩ := free8 HC3.out
    rw [if_pos (by kernel_rfl)]
    go_simp
    clear bf b0 b1 b2 b3 b4 b5 b6 b7
    have hs8 := set8 HC3.out (.int .u8 0) (.int .u8 0) (.int .u8 0) (.int .u8 0) (.int .u8 0) (.int .u8 0) (.int .u8 0) (.int .u8 0)
    have hg8 := grown_set8 w3 (w.heap.size + 1 + 1) (.int .u8 0) (.int .u8 0) (.int .u8 0) (.int .u8 0) (.int .u8 0) (.int .u8 0) (.int .u8 0) (.int .u8 0)
    generalize (((((((w3.setCell ⟨w.heap.size + 1 + 1, 0, none⟩ (.int .u8 0)).setCell ⟨w.heap.size + 1 + 1, 1, none⟩ (.int .u8 0)).setCell ⟨w.heap.size + 1 + 1, 2, none⟩ (.int .u8 0)).setCell ⟨w.heap.size + 1 + 1, 3, none⟩ (.int .u8 0)).setCell ⟨w.heap.size + 1 + 1, 4, none⟩ (.int .u8 0)).setCell ⟨w.heap.size + 1 + 1, 5, none⟩ (.int .u8 0)).setCell ⟨w.heap.size + 1 + 1, 6, none⟩ (.int .u8 0)).setCell ⟨w.heap.size + 1 + 1, 7, none⟩ (.int .u8 0) = w4 at *
    have HC4 := Lib.hid hs8; have HB4 := Lib.hid (block_grown HB3.out hg8 (by intro e; injection e with e; omega)); have HD4 := Lib.hid (block_grown HD3.out hg8 (by intro e; injection e with e; omega)); have H54 := Lib.hid (block_grown H53.out hg8 (by intro e; injection e with e; omega)); have Hw4 := Lib.hid (Hw3.out.grown hg8 Hw3.out.size (fun k hk => by injection hk with hk; omega))
    clear hs8 hg8
    refine hK.out _ _ (s38_of H54.out HD4.out) (fun hHeld => ?_)
    clear hK K
    refine wpAnyH_done (by kernel_rfl) ?_ _
    obtain ⟨bf, b0, b1, b2⟩ := free3 HB4.out
    obtain ⟨cf, r0, r1, r2, r3, r4, r5, r6, r7⟩ := free8 HC4.out
    go_wp2
    refine bodyPost_ret (v := .tuple #[.agg #[.slice A n c, .int .i64 (q.1.at_ : Int), .int .i64 q.1.err], .agg #[.int .u8 0, .int .u8 0, .int .u8 0, .int .u8 0, .int .u8 0, .int .u8 0, .int .u8 0, .int .u8 0]]) (by simp [results, Try.results69, go_sem, b0, b1, b2, r0, r1, r2, r3, r4, r5, r6, r7]) rfl ⟨?_, (by first | exact Hw4.out.drew | exact Hw4.out)⟩
    rw [Hnm2.out]; rfl
end Go.Proofs.Ytjiecnoplnaahaa
