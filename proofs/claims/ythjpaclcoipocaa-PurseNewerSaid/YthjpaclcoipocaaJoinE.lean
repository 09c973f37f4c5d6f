/- The bytes of a purse, plainly; a name as bytes in memory. No condition. The walk of a purse's Encode. Condition: a bound on how many are held. The walks of PutText and of a purse's Digest. Conditions: bounds. -/
import Derived.Test.YthjpaclcoipocaaPuC
import Derived.Test.YthjpaclcoipocaaPuF
import Derived.Test.YthjpaclcoipocaaJoinA
import Derived.Test.YthjpaclcoipocaaJoinB
import Derived.Test.YthjpaclcoipocaaJoinH
import Derived.Lib.AppendStr
namespace Go.Proofs.Ythjpaclcoipocaa
open Go.RowKit Go.Lib

def encHd (h : Hd) : List Nat := encB h.nm.bytes ++ encN h.am.toNat ++ encN h.fr.toNat ++ encN h.un.toNat
def encHds (l : List Hd) : List Nat := l.flatMap encHd
def encHead (p : Pu) : List Nat := encB p.nm.bytes ++ encN p.no.toNat ++ encN p.h0.toNat ++ encN p.h1.toNat ++ encN p.held.length
def encPu (p : Pu) : List Nat := encHead p ++ encHds p.held
theorem encB8_len (d : D8) : (encB d.bytes).length ≤ 19 := by
  unfold encB
  rw [List.length_append]
  have := encN_len d.bytes.length
  have h8 : d.bytes.length = 8 := rfl
  omega
theorem encHd_len (h : Hd) : (encHd h).length ≤ 52 := by
  unfold encHd
  simp only [List.length_append]
  have := encB8_len h.nm; have := encN_len h.am.toNat; have := encN_len h.fr.toNat; have := encN_len h.un.toNat
  omega
theorem encHds_len (l : List Hd) : (encHds l).length ≤ 52 * l.length := by
  induction l with
  | nil => simp [encHds]
  | cons h l ih => unfold encHds at ih ⊢; rw [List.flatMap_cons, List.length_append, List.length_cons]; have := encHd_len h; omega
theorem encHead_len (p : Pu) : (encHead p).length ≤ 63 := by
  unfold encHead
  simp only [List.length_append]
  have := encB8_len p.nm; have := encN_len p.no.toNat; have := encN_len p.h0.toNat; have := encN_len p.h1.toNat; have := encN_len p.held.length
  omega
theorem encPu_len (p : Pu) : (encPu p).length ≤ 63 + 52 * p.held.length := by
  unfold encPu
  rw [List.length_append]
  have := encHead_len p; have := encHds_len p.held
  omega
theorem encHds_take {l : List Hd} {k : Nat} (h : k < l.length) : encHds (l.take (k + 1)) = encHds (l.take k) ++ encHd (l.getD k default) := by
  unfold encHds
  rw [take_hd h, List.flatMap_append]
  simp
theorem rd_name {w : World} {g : Nat} {T : TypeId} {fz : Nat × Nat} {cs : Array Value} (d : D8) (h : w.heap[g]? = some (.cells cs T fz)) (hcs : cs.toList.take 8 = bv d.bytes) : Rd w w.heap.size 1 (some ⟨g, 0, none⟩) 8 (bv d.bytes) := by
  refine ⟨by rw [bv_len]; rfl, fun _ => ⟨g, 0, rfl, block_lt h, fun j u hu => ?_⟩⟩
  rw [block_cell h]
  rw [← hcs, List.getElem?_take] at hu
  split at hu
  · rw [Nat.zero_add, ← Array.getElem?_toList]; exact hu
  · cases hu
/-- What a purse that may be has. -/
theorem check_parts {p : Pu} (h : p.check = 0) : (0 ≤ p.no ∧ p.no ≤ 1099511627776) ∧ (0 ≤ p.h0 ∧ p.h0 ≤ 1125899906842624) ∧ (0 ≤ p.h1 ∧ p.h1 ≤ 1125899906842624) ∧ p.held.length ≤ 16 ∧ (∀ k, k < p.held.length → (p.held.getD k default).ok) := by
  unfold Pu.check at h
  by_cases h1 : (far p.no && rgt p.h0 && rgt p.h1) = true
  · rw [if_pos h1] at h
    simp only [Bool.and_eq_true, far_iff, rgt_iff] at h1
    by_cases h2 : 16 < p.held.length
    · rw [if_pos h2] at h; cases h
    · rw [if_neg h2] at h
      by_cases h3 : checkL p.held = 0
      · exact ⟨h1.1.1, h1.1.2, h1.2, by omega, fun k hk => (codeAt_ok.1 (checkL_all h3 k hk)).1⟩
      · rw [if_neg h3] at h; exact absurd h h3
  · rw [if_neg h1] at h; cases h
theorem enc7_lt : ∀ (f m : Nat), m < 128 ^ (f + 1) → ∀ x ∈ enc7 f m, x < 256
  | 0, m, h, x, hx => by simp [enc7] at hx; omega
  | f + 1, m, h, x, hx => by
    unfold enc7 at hx
    split at hx
    · simp at hx; omega
    · rcases List.mem_cons.1 hx with h1 | h1
      · omega
      · exact enc7_lt f (m / 128) (by rw [Nat.pow_succ] at h; exact Nat.div_lt_of_lt_mul (by rw [Nat.mul_comm]; exact h)) x h1
theorem encN_lt {n : Nat} (h : n < 18446744073709551616) : ∀ x ∈ encN n, x < 256 := enc7_lt 10 n (Nat.lt_of_lt_of_le h (by decide))
theorem encB_lt {l : List Nat} (h : ∀ x ∈ l, x < 256) (hl : l.length < 18446744073709551616) : ∀ x ∈ encB l, x < 256 := by
  intro x hx
  unfold encB at hx
  rcases List.mem_append.1 hx with h1 | h1
  · exact encN_lt hl x h1
  · exact h x h1
theorem encHd_lt {h : Hd} (ho : h.ok) (hn : h.nm.ok) : ∀ x ∈ encHd h, x < 256 := by
  obtain ⟨⟨a1, a2⟩, ⟨b1, b2⟩, ⟨c1, c2⟩⟩ := ho
  intro x hx
  unfold encHd at hx
  rcases List.mem_append.1 hx with h1 | h1
  · rcases List.mem_append.1 h1 with h1 | h1
    · rcases List.mem_append.1 h1 with h1 | h1
      · exact encB_lt (D8.bytes_lt hn) (by show 8 < _; omega) x h1
      · exact encN_lt (by omega) x h1
    · exact encN_lt (by omega) x h1
  · exact encN_lt (by omega) x h1
/-- A purse whose names are bytes. -/
def Pu.bytesOk (p : Pu) : Prop := p.nm.ok ∧ ∀ k, k < p.held.length → (p.held.getD k default).nm.ok
theorem encPu_lt {p : Pu} (hp : p.check = 0) (hb : p.bytesOk) : ∀ x ∈ encPu p, x < 256 := by
  obtain ⟨⟨h1, h2⟩, ⟨h3, h4⟩, ⟨h5, h6⟩, h7, h8⟩ := check_parts hp
  intro x hx
  unfold encPu at hx
  rcases List.mem_append.1 hx with hx | hx
  · unfold encHead at hx
    rcases List.mem_append.1 hx with hx | hx
    · rcases List.mem_append.1 hx with hx | hx
      · rcases List.mem_append.1 hx with hx | hx
        · rcases List.mem_append.1 hx with hx | hx
          · exact encB_lt (D8.bytes_lt hb.1) (by show 8 < _; omega) x hx
          · exact encN_lt (by omega) x hx
        · exact encN_lt (by omega) x hx
      · exact encN_lt (by omega) x hx
    · exact encN_lt (by omega) x hx
  · unfold encHds at hx
    obtain ⟨h, hm, hx⟩ := List.mem_flatMap.1 hx
    obtain ⟨k, hk, rfl⟩ := List.getElem_of_mem hm
    have e : p.held.getD k default = p.held[k] := by rw [List.getD_eq_getElem?_getD, List.getElem?_eq_getElem hk]; rfl
    exact encHd_lt (by rw [← e]; exact h8 k hk) (by rw [← e]; exact hb.2 k hk) x hx
end Go.Proofs.Ythjpaclcoipocaa
namespace Go.Proofs.Ythjpaclcoipocaa
open Go.RowKit Go.Lib


theorem putNum_at (A : Option Addr) (n c : Nat) (x : Int) (l : List Nat) (w : World) (hr : Rd w w.heap.size 1 A n (bv l)) (hn : n ≤ 900000000) (h0 : 0 ≤ x) (h1 : x ≤ 18446744073709551615) :
    Calls Try.prog 37 #[.slice A n c, .int .u64 x] w (GivesB w (l ++ encN x.toNat)) := by
  obtain ⟨m, rfl⟩ := Int.eq_ofNat_of_zero_le h0
  rw [Int.toNat_natCast]
  exact putNum_any A n c m l w hr hn (by omega)
set_option maxRecDepth 100000 in
set_option maxHeartbeats 2000000 in
theorem encode_good (p : Pu) (A : Option Addr) (n c : Nat) (w : World) (h : PuV.At p A n c w) (hp : p.check = 0) :
    Calls Try.prog 18 #[.agg #[.int .u8 (p.nm.x0 : Int), .int .u8 (p.nm.x1 : Int), .int .u8 (p.nm.x2 : Int), .int .u8 (p.nm.x3 : Int), .int .u8 (p.nm.x4 : Int), .int .u8 (p.nm.x5 : Int), .int .u8 (p.nm.x6 : Int), .int .u8 (p.nm.x7 : Int), .int .i64 p.no, .int .i64 p.h0, .int .i64 p.h1, .slice A n c]] w fun e w' => ∃ A' n' c', e = .returned (.tuple #[.slice A' n' c', .int .i64 0]) ∧ w'.ownsRow w.heap.size 5 1 (.slice A' n' c') n' (bv (encPu p)) ∧ n' = (encPu p).length ∧ Below w.heap.size w w' := by
  obtain ⟨⟨h1, h2⟩, ⟨h3, h4⟩, ⟨h5, h6⟩, h7, h8⟩ := check_parts hp
  have hlen : p.held.length = n := h.rd.hlen
  have hn16 : n ≤ 16 := by omega
  have Hp := Lib.hid hp; have Hh := Lib.hid h; have Hok := Lib.hid h8; have Hlen := Lib.hid hlen
  have hX0 : (w.alloc (.cells #[.int .u8 (p.nm.x0 : Int), .int .u8 (p.nm.x1 : Int), .int .u8 (p.nm.x2 : Int), .int .u8 (p.nm.x3 : Int), .int .u8 (p.nm.x4 : Int), .int .u8 (p.nm.x5 : Int), .int .u8 (p.nm.x6 : Int), .int .u8 (p.nm.x7 : Int), .int .i64 p.no, .int .i64 p.h0, .int .i64 p.h1, .slice A n c] 35)).heap[w.heap.size]? = some (.cells #[.int .u8 (p.nm.x0 : Int), .int .u8 (p.nm.x1 : Int), .int .u8 (p.nm.x2 : Int), .int .u8 (p.nm.x3 : Int), .int .u8 (p.nm.x4 : Int), .int .u8 (p.nm.x5 : Int), .int .u8 (p.nm.x6 : Int), .int .u8 (p.nm.x7 : Int), .int .i64 p.no, .int .i64 p.h0, .int .i64 p.h1, .slice A n c] 35 (0, 0)) := heap_alloc_new w _
  have Hb00 := Lib.hid (below_one w (.cells #[.int .u8 (p.nm.x0 : Int), .int .u8 (p.nm.x1 : Int), .int .u8 (p.nm.x2 : Int), .int .u8 (p.nm.x3 : Int), .int .u8 (p.nm.x4 : Int), .int .u8 (p.nm.x5 : Int), .int .u8 (p.nm.x6 : Int), .int .u8 (p.nm.x7 : Int), .int .i64 p.no, .int .i64 p.h0, .int .i64 p.h1, .slice A n c] 35))
  have HX00 := Lib.hid hX0
  have b0 : (p.check != 0) = false := by simpa using hp
  have Hb0' := Lib.hid b0
  clear hp h h8 hlen hX0 b0
  go_enter Try.func18, Try.ntmps18
  go_wp2_with fail
  refine (pcheck_any p A n c _ (Hh.out.up Hb00.out)).mono ?_
  rintro e w0 ⟨rfl, hb⟩
  have HX0 := Lib.hid (block_below HX00.out hb (by simp))
  have Hb0 := Lib.hid (Hb00.out.trans (hb.mono (by simp)))
  clear hb HX00 Hb00
  have r := block_cell HX0.out
  have r0 := r 0; have r1 := r 1; have r2 := r 2; have r3 := r 3; have r4 := r 4; have r5 := r 5; have r6 := r 6; have r7 := r 7; have r8 := r 8; have r9 := r 9; have r10 := r 10; have r11 := r 11
  have rf := block_free HX0.out
  simp at r0 r1 r2 r3 r4 r5 r6 r7 r8 r9 r10 r11
  clear r
  have b0 := Hb0'.out
  have i0 : ∀ w, (Instr.index 84 (.agg #[.int .i64 p.no, .int .i64 p.h0, .int .i64 p.h1, .int .i64 (n : Int)]) (.int .i64 0)).run Try.prog w = .ok (.int .i64 p.no) w := fun _ => by kernel_rfl
  have i1 : ∀ w, (Instr.index 84 (.agg #[.int .i64 p.no, .int .i64 p.h0, .int .i64 p.h1, .int .i64 (n : Int)]) (.int .i64 1)).run Try.prog w = .ok (.int .i64 p.h0) w := fun _ => by kernel_rfl
  have i2 : ∀ w, (Instr.index 84 (.agg #[.int .i64 p.no, .int .i64 p.h0, .int .i64 p.h1, .int .i64 (n : Int)]) (.int .i64 2)).run Try.prog w = .ok (.int .i64 p.h1) w := fun _ => by kernel_rfl
  have i3 : ∀ w, (Instr.index 84 (.agg #[.int .i64 p.no, .int .i64 p.h0, .int .i64 p.h1, .int .i64 (n : Int)]) (.int .i64 3)).run Try.prog w = .ok (.int .i64 (n : Int)) w := fun _ => by kernel_rfl
  have Hrn0 := Lib.hid (rd_name p.nm HX0.out rfl)
  have hni : (n : Int) ≤ 16 := by omega
  go_wp2_with fail
  refine (putBytes_any none (some ⟨w.heap.size, 0, none⟩) 0 0 8 8 [] p.nm.bytes w0 Rd.empty (by omega) Hrn0.out (by omega)).mono ?_
  rintro e w1 ⟨A1, n1, c1, rfl, ho1, hn1, hb1⟩
  have HR1 := Lib.hid (Rd.of_own ho1); have HN1 := Lib.hid hn1; have HX1 := Lib.hid (block_below HX0.out hb1 (block_lt HX0.out)); have HO1 := Lib.hid (pown_down ho1 Hb0.out.size); have Hb1 := Lib.hid (Hb0.out.trans (hb1.mono Hb0.out.size))
  clear ho1 hn1 hb1
  have hl1 : n1 ≤ 19 := by rw [HN1.out]; exact encB8_len _
  clear r0 r1 r2 r3 r4 r5 r6 r7 r8 r9 r10 r11 rf Hrn0
  have r := block_cell HX1.out
  have r0 := r 0; have r1 := r 1; have r2 := r 2; have r3 := r 3; have r4 := r 4; have r5 := r 5; have r6 := r 6; have r7 := r 7; have r8 := r 8; have r9 := r 9; have r10 := r 10; have r11 := r 11
  have rf := block_free HX1.out
  simp at r0 r1 r2 r3 r4 r5 r6 r7 r8 r9 r10 r11
  clear r
  go_wp2
  refine wp_loop_rounds 5 ?_
  rw [rounds_succ]
  go_wp2_with fail
  refine (putNum_at A1 n1 c1 p.no _ w1 HR1.out (by omega) h1 (by omega)).mono ?_
  rintro e w2 ⟨A2, n2, c2, rfl, ho2, hn2, hb2⟩
  have HR2 := Lib.hid (Rd.of_own ho2); have HN2 := Lib.hid hn2; have HX2 := Lib.hid (block_below HX1.out hb2 (block_lt HX1.out)); have HO2 := Lib.hid (pown_down ho2 Hb1.out.size); have Hb2 := Lib.hid (Hb1.out.trans (hb2.mono Hb1.out.size))
  clear ho2 hn2 hb2
  have hl2 : n2 ≤ 30 := by rw [HN2.out, List.length_append, ← HN1.out]; have := encN_len p.no.toNat; omega
  go_wp2
  rw [rounds_succ]
  go_wp2_with fail
  refine (putNum_at A2 n2 c2 p.h0 _ w2 HR2.out (by omega) h3 (by omega)).mono ?_
  rintro e w3 ⟨A3, n3, c3, rfl, ho3, hn3, hb3⟩
  have HR3 := Lib.hid (Rd.of_own ho3); have HN3 := Lib.hid hn3; have HX3 := Lib.hid (block_below HX2.out hb3 (block_lt HX2.out)); have HO3 := Lib.hid (pown_down ho3 Hb2.out.size); have Hb3 := Lib.hid (Hb2.out.trans (hb3.mono Hb2.out.size))
  clear ho3 hn3 hb3
  have hl3 : n3 ≤ 41 := by rw [HN3.out, List.length_append, ← HN2.out]; have := encN_len p.h0.toNat; omega
  go_wp2
  rw [rounds_succ]
  go_wp2_with fail
  refine (putNum_at A3 n3 c3 p.h1 _ w3 HR3.out (by omega) h5 (by omega)).mono ?_
  rintro e w4 ⟨A4, n4, c4, rfl, ho4, hn4, hb4⟩
  have HR4 := Lib.hid (Rd.of_own ho4); have HN4 := Lib.hid hn4; have HX4 := Lib.hid (block_below HX3.out hb4 (block_lt HX3.out)); have HO4 := Lib.hid (pown_down ho4 Hb3.out.size); have Hb4 := Lib.hid (Hb3.out.trans (hb4.mono Hb3.out.size))
  clear ho4 hn4 hb4
  have hl4 : n4 ≤ 52 := by rw [HN4.out, List.length_append, ← HN3.out]; have := encN_len p.h1.toNat; omega
  go_wp2
  rw [rounds_succ]
  go_wp2_with fail
  refine (putNum_at A4 n4 c4 (n : Int) _ w4 HR4.out (by omega) (by omega) (by omega)).mono ?_
  rintro e w5 ⟨A5, n5, c5, rfl, ho5, hn5, hb5⟩
  have HR5 := Lib.hid (Rd.of_own ho5); have HN5 := Lib.hid hn5; have HX5 := Lib.hid (block_below HX4.out hb5 (block_lt HX4.out)); have HO5 := Lib.hid (pown_down ho5 Hb4.out.size); have Hb5 := Lib.hid (Hb4.out.trans (hb5.mono Hb4.out.size))
  clear ho5 hn5 hb5
  have hl5 : n5 ≤ 63 := by rw [HN5.out, List.length_append, ← HN4.out]; have := encN_len (n : Int).toNat; omega
  go_wp2
  rw [rounds_succ]
  have Hhead : Hid ([] ++ encB p.nm.bytes ++ encN p.no.toNat ++ encN p.h0.toNat ++ encN p.h1.toNat ++ encN (n : Int).toNat = encHead p ++ encHds (p.held.take 0)) := Lib.hid (by unfold encHead encHds; rw [Hlen.out]; simp)
  rw [Hhead.out] at HR5 HN5 HO5
  clear r0 r1 r2 r3 r4 r5 r6 r7 r8 r9 r10 r11 rf
  have r := block_cell HX5.out
  have r0 := r 0; have r1 := r 1; have r2 := r 2; have r3 := r 3; have r4 := r 4; have r5 := r 5; have r6 := r 6; have r7 := r 7; have r8 := r 8; have r9 := r 9; have r10 := r 10; have r11 := r 11
  have rf := block_free HX5.out
  simp at r0 r1 r2 r3 r4 r5 r6 r7 r8 r9 r10 r11
  clear r
  go_wp2
  go_loopw [5, 43] (fun v i wr => ∃ (k m : Nat) (A' : Option Addr) (c' : Nat), k ≤ n ∧ i = .int .i64 (k : Int) ∧ v = .slice A' m c' ∧ Hid (m ≤ 63 + 52 * k) ∧ Hid (Rd wr wr.heap.size 1 A' m (bv (encHead p ++ encHds (p.held.take k)))) ∧ Hid (m = (encHead p ++ encHds (p.held.take k)).length) ∧ Hid (wr.ownsRow w.heap.size 5 1 (.slice A' m c') m (bv (encHead p ++ encHds (p.held.take k)))) ∧ Hid (Below w.heap.size w wr)) (fun _ i _ => n - (intOf i).toNat)
  case atStart => exact ⟨0, n5, A5, c5, by omega, rfl, rfl, Lib.hid (by omega), HR5, HN5, HO5, Hb5⟩
  case round =>
    obtain ⟨k, m, A', c', hk, rfl, rfl, Hm, HRk, HNk, HOk, Hbk⟩ := hrel
    by_cases hlt : k < n
    · obtain ⟨b, o, rfl, hbB, x0, x1, x2, x3, x4, x5, x6, x7, x8, x9, x10⟩ := (Hh.out.rd.below Hbk.out (Nat.le_refl _)).hd hlt
      have hok := Hok.out k (by rw [Hlen.out]; exact hlt)
      have Htk := Lib.hid (encHds_take (l := p.held) (k := k) (by rw [Hlen.out]; exact hlt))
      generalize p.held.getD k default = h at *
      obtain ⟨⟨ha1, ha2⟩, ⟨hf1, hf2⟩, ⟨hu1, hu2⟩⟩ := hok
      have hbk := Hbk.out.size
      have hm900 : m ≤ 900 := by have := Hm.out; omega
      have j0 : ∀ w, (Instr.index 87 (.agg #[.int .i64 h.am, .int .i64 h.fr, .int .i64 h.un]) (.int .i64 0)).run Try.prog w = .ok (.int .i64 h.am) w := fun _ => by kernel_rfl
      have j1 : ∀ w, (Instr.index 87 (.agg #[.int .i64 h.am, .int .i64 h.fr, .int .i64 h.un]) (.int .i64 1)).run Try.prog w = .ok (.int .i64 h.fr) w := fun _ => by kernel_rfl
      have j2 : ∀ w, (Instr.index 87 (.agg #[.int .i64 h.am, .int .i64 h.fr, .int .i64 h.un]) (.int .i64 2)).run Try.prog w = .ok (.int .i64 h.un) w := fun _ => by kernel_rfl
      have HX6 := Lib.hid (heap_alloc_new wr (.cells #[.int .u8 (h.nm.x0 : Int), .int .u8 (h.nm.x1 : Int), .int .u8 (h.nm.x2 : Int), .int .u8 (h.nm.x3 : Int), .int .u8 (h.nm.x4 : Int), .int .u8 (h.nm.x5 : Int), .int .u8 (h.nm.x6 : Int), .int .u8 (h.nm.x7 : Int), .int .i64 h.am, .int .i64 h.fr, .int .i64 h.un] 56))
      have Hrn6 := Lib.hid (rd_name h.nm HX6.out rfl)
      have Hb6 := Lib.hid (Hbk.out.alloc hbk (.cells #[.int .u8 (h.nm.x0 : Int), .int .u8 (h.nm.x1 : Int), .int .u8 (h.nm.x2 : Int), .int .u8 (h.nm.x3 : Int), .int .u8 (h.nm.x4 : Int), .int .u8 (h.nm.x5 : Int), .int .u8 (h.nm.x6 : Int), .int .u8 (h.nm.x7 : Int), .int .i64 h.am, .int .i64 h.fr, .int .i64 h.un] 56))
      have HR6 := Lib.hid ((HRk.out.alloc (Nat.le_refl _) (.cells #[.int .u8 (h.nm.x0 : Int), .int .u8 (h.nm.x1 : Int), .int .u8 (h.nm.x2 : Int), .int .u8 (h.nm.x3 : Int), .int .u8 (h.nm.x4 : Int), .int .u8 (h.nm.x5 : Int), .int .u8 (h.nm.x6 : Int), .int .u8 (h.nm.x7 : Int), .int .i64 h.am, .int .i64 h.fr, .int .i64 h.un] 56)).more (show wr.heap.size ≤ (wr.alloc (.cells #[.int .u8 (h.nm.x0 : Int), .int .u8 (h.nm.x1 : Int), .int .u8 (h.nm.x2 : Int), .int .u8 (h.nm.x3 : Int), .int .u8 (h.nm.x4 : Int), .int .u8 (h.nm.x5 : Int), .int .u8 (h.nm.x6 : Int), .int .u8 (h.nm.x7 : Int), .int .i64 h.am, .int .i64 h.fr, .int .i64 h.un] 56)).heap.size by simp))
      go_wp2_with fail
      refine (putBytes_any A' (some ⟨wr.heap.size, 0, none⟩) m c' 8 8 _ h.nm.bytes _ HR6.out (by omega) Hrn6.out (by omega)).mono ?_
      rintro e w7 ⟨A7, n7, c7, rfl, ho7, hn7, hb7⟩
      have HR7 := Lib.hid (Rd.of_own ho7); have HN7 := Lib.hid hn7; have HX7 := Lib.hid (block_below HX6.out hb7 (block_lt HX6.out)); have HO7 := Lib.hid (pown_down ho7 Hb6.out.size); have Hb7 := Lib.hid (Hb6.out.trans (hb7.mono Hb6.out.size))
      clear ho7 hn7 hb7
      have hl7 : n7 ≤ 1000 := by rw [HN7.out, List.length_append, ← HNk.out]; have := encB8_len h.nm; omega
      clear x0 x1 x2 x3 x4 x5 x6 x7 x8 x9 x10 Hrn6
      have z8 := block_cell HX7.out 8; have z9 := block_cell HX7.out 9; have z10 := block_cell HX7.out 10
      simp at z8 z9 z10
      go_wp2
      refine wp_loop_rounds 4 ?_
      rw [rounds_succ]
      go_wp2_with fail
      refine (putNum_at A7 n7 c7 h.am _ w7 HR7.out (by omega) (by omega) (by omega)).mono ?_
      rintro e w8 ⟨A8, n8, c8, rfl, ho8, hn8, hb8⟩
      have HR8 := Lib.hid (Rd.of_own ho8); have HN8 := Lib.hid hn8; have HX8 := Lib.hid (block_below HX7.out hb8 (block_lt HX7.out)); have HO8 := Lib.hid (pown_down ho8 Hb7.out.size); have Hb8 := Lib.hid (Hb7.out.trans (hb8.mono Hb7.out.size))
      clear ho8 hn8 hb8
      have hl8 : n8 ≤ 1011 := by rw [HN8.out, List.length_append, ← HN7.out]; have := encN_len h.am.toNat; omega
      go_wp2
      rw [rounds_succ]
      go_wp2_with fail
      refine (putNum_at A8 n8 c8 h.fr _ w8 HR8.out (by omega) hf1 (by omega)).mono ?_
      rintro e w9 ⟨A9, n9, c9, rfl, ho9, hn9, hb9⟩
      have HR9 := Lib.hid (Rd.of_own ho9); have HN9 := Lib.hid hn9; have HX9 := Lib.hid (block_below HX8.out hb9 (block_lt HX8.out)); have HO9 := Lib.hid (pown_down ho9 Hb8.out.size); have Hb9 := Lib.hid (Hb8.out.trans (hb9.mono Hb8.out.size))
      clear ho9 hn9 hb9
      have hl9 : n9 ≤ 1022 := by rw [HN9.out, List.length_append, ← HN8.out]; have := encN_len h.fr.toNat; omega
      go_wp2
      rw [rounds_succ]
      go_wp2_with fail
      refine (putNum_at A9 n9 c9 h.un _ w9 HR9.out (by omega) hu1 (by omega)).mono ?_
      rintro e w10 ⟨A10, n10, c10, rfl, ho10, hn10, hb10⟩
      have HR10 := Lib.hid (Rd.of_own ho10); have HN10 := Lib.hid hn10; have HX10 := Lib.hid (block_below HX9.out hb10 (block_lt HX9.out)); have HO10 := Lib.hid (pown_down ho10 Hb9.out.size); have Hb10 := Lib.hid (Hb9.out.trans (hb10.mono Hb9.out.size))
      clear ho10 hn10 hb10
      have Hfin : Hid (encHead p ++ encHds (p.held.take k) ++ encB h.nm.bytes ++ encN h.am.toNat ++ encN h.fr.toNat ++ encN h.un.toNat = encHead p ++ encHds (p.held.take (k + 1))) := Lib.hid (by rw [Htk.out]; unfold encHd; simp only [List.append_assoc])
      rw [Hfin.out] at HR10 HN10 HO10
      have Hm10 : Hid (n10 ≤ 63 + 52 * (k + 1)) := Lib.hid (by
        have h1 := encHead_len p; have h2 := encHds_len (p.held.take (k + 1)); have h3 := List.length_take_le (k + 1) p.held
        rw [HN10.out, List.length_append]; omega)
      clear z8 z9 z10
      go_wp2
      rw [rounds_succ]
      go_wp2
      go_roundw
      case rel => exact ⟨k + 1, n10, A10, c10, by omega, by go_num, rfl, Hm10, HR10, HN10, HO10, Hb10⟩
      case measure => simp [intOf]; omega
    · obtain rfl : k = n := by omega
      clear hlt hk
      have Hfin : Hid (encHead p ++ encHds (p.held.take k) = encPu p) := Lib.hid (by rw [List.take_of_length_le (by rw [Hlen.out]; exact Nat.le_refl _)]; rfl)
      rw [Hfin.out] at HNk HOk
      go_wp2
      go_ret2
      exact ⟨A', m, c', rfl, HOk.out, HNk.out, Hbk.out⟩
set_option maxRecDepth 100000 in
set_option maxHeartbeats 2000000 in
theorem encode_bad (p : Pu) (A : Option Addr) (n c : Nat) (w : World) (h : PuV.At p A n c w) (hp : p.check ≠ 0) :
    Calls Try.prog 18 #[.agg #[.int .u8 (p.nm.x0 : Int), .int .u8 (p.nm.x1 : Int), .int .u8 (p.nm.x2 : Int), .int .u8 (p.nm.x3 : Int), .int .u8 (p.nm.x4 : Int), .int .u8 (p.nm.x5 : Int), .int .u8 (p.nm.x6 : Int), .int .u8 (p.nm.x7 : Int), .int .i64 p.no, .int .i64 p.h0, .int .i64 p.h1, .slice A n c]] w fun e w' => e = .returned (.tuple #[.slice none 0 0, .int .i64 p.check]) ∧ Below w.heap.size w w' := by
  have Hh := Lib.hid h
  have Hb00 := Lib.hid (below_one w (.cells #[.int .u8 (p.nm.x0 : Int), .int .u8 (p.nm.x1 : Int), .int .u8 (p.nm.x2 : Int), .int .u8 (p.nm.x3 : Int), .int .u8 (p.nm.x4 : Int), .int .u8 (p.nm.x5 : Int), .int .u8 (p.nm.x6 : Int), .int .u8 (p.nm.x7 : Int), .int .i64 p.no, .int .i64 p.h0, .int .i64 p.h1, .slice A n c] 35))
  have b0 : (p.check != 0) = true := by simpa using hp
  clear hp h
  go_enter Try.func18, Try.ntmps18
  go_wp2_with fail
  refine (pcheck_any p A n c _ (Hh.out.up Hb00.out)).mono ?_
  rintro e w0 ⟨rfl, hb⟩
  have Hb0 := Lib.hid (Hb00.out.trans (hb.mono (by simp)))
  clear hb Hb00
  go_wp2
  go_ret2
  exact ⟨rfl, Hb0.out⟩
end Go.Proofs.Ythjpaclcoipocaa
namespace Go.Proofs.Ythjpaclcoipocaa
open Go.RowKit Go.Lib



set_option maxRecDepth 100000 in
set_option maxHeartbeats 1000000 in
theorem putText_any (A : Option Addr) (n c : Nat) (l t : List Nat) (s : ByteArray) (w : World) (hr : Rd w w.heap.size 1 A n (bv l)) (hn : n ≤ 400000000) (hs : strCells s = bv t) (hsz : s.size = t.length) (hn' : s.size ≤ 400000000) :
    Calls Try.prog 20 #[.slice A n c, .string s] w (GivesB w (l ++ encB t)) := by
  obtain ⟨i0, hi, hz0, hz1, hz2⟩ := info_parts info_u8
  have HI := Lib.hid (And.intro hi (And.intro hz0 (And.intro hz1 hz2))); clear hi hz0 hz1 hz2
  have Hr := Lib.hid hr
  have Hl := Lib.hid hr.blen; have HS := Lib.hid hs; have Hsz := Lib.hid hsz
  clear hr hs hsz
  have hni : (s.size : Int) ≤ 400000000 := by omega
  go_enter Try.func20, Try.ntmps20
  go_wp2_with fail
  have ecast : (10 : Int) + (s.size : Int) = ((10 + s.size : Nat) : Int) := by omega
  rw [ecast]
  refine (fresh_any A n c (10 + s.size) l w Hr.out (by omega) (by omega)).mono ?_
  rintro e w1 ⟨A1, n1, c1, rfl, hown1, hn1, hb1⟩
  clear ecast
  have hn1' : n1 ≤ 400000000 := by rw [hn1, Hl.out]; exact hn
  have Hown1 := Lib.hid hown1; have Hn1 := Lib.hid hn1; have Hb1 := Lib.hid hb1; clear hown1 hn1 hb1
  go_wp2_with fail
  refine (number_any w.heap.size n1 c1 A1 s.size (bv l) w1 Hown1.out Hb1.out.size (by omega) (by omega)).mono ?_
  rintro e w2 ⟨A2, c2, rfl, hown2, hb2⟩
  have hen := encN_len s.size
  have Hown2 := Lib.hid hown2; have Hb2 := Lib.hid (Hb1.out.trans hb2); clear hown2 hb2
  have hsz2 := Hb2.out.size
  generalize hq : n1 + (encN s.size).length = q at *
  have Hq := Lib.hid hq; clear hq
  have hq9 : q ≤ 500000000 := by have := Hq.out; omega
  clear hen
  go_wp2_with (at_builtin; go_must (refine wpList_append_own_string (w := w2) (by rfl) _ _ 40 9 (by rfl) w.heap.size 5 i0 Try.underlying40 Try.underlying9 HI.out.1 HI.out.2.1 HI.out.2.2.1 HI.out.2.2.2 _ _ _ (by rfl) Hown2.out s (by rfl) (by simp only [maxLen]; omega) (by omega) (by omega) ?_); intro v3 w3 hown3 hg3 _; have Hown3 := Lib.hid hown3; have Hb3 := Lib.hid (Hb2.out.grown hg3 Hb2.out.size (fun k hk => (Hown2.out.lt k hk).1)); clear hown3 hg3)
  go_ret
  obtain ⟨A3, c3, rfl⟩ := own_form Hown3.out
  refine ⟨A3, q + s.size, c3, rfl, ?_, ?_, Hb3.out⟩
  · have := Hown3.out
    have e : bv (l ++ encB t) = bv l ++ bv (encN s.size) ++ strCells s := by unfold encB; rw [HS.out, Hsz.out, bv_append, bv_append]; simp
    rw [e]; exact this
  · unfold encB
    rw [← Hq.out, Hn1.out, List.length_append, List.length_append, Hsz.out]; omega
def purseT : List Nat := [112, 117, 114, 115, 101]
def Pu.digest (p : Pu) : D8 := if p.check = 0 then hashOf (encB purseT ++ encPu p) else nm0
set_option maxRecDepth 100000 in
set_option maxHeartbeats 2000000 in
theorem digest_any (p : Pu) (A : Option Addr) (n c : Nat) (w : World) (h : PuV.At p A n c w) (hok : p.bytesOk) :
    Calls Try.prog 9 #[.agg #[.int .u8 (p.nm.x0 : Int), .int .u8 (p.nm.x1 : Int), .int .u8 (p.nm.x2 : Int), .int .u8 (p.nm.x3 : Int), .int .u8 (p.nm.x4 : Int), .int .u8 (p.nm.x5 : Int), .int .u8 (p.nm.x6 : Int), .int .u8 (p.nm.x7 : Int), .int .i64 p.no, .int .i64 p.h0, .int .i64 p.h1, .slice A n c]] w fun e w' => e = .returned (.agg #[.int .u8 (p.digest.x0 : Int), .int .u8 (p.digest.x1 : Int), .int .u8 (p.digest.x2 : Int), .int .u8 (p.digest.x3 : Int), .int .u8 (p.digest.x4 : Int), .int .u8 (p.digest.x5 : Int), .int .u8 (p.digest.x6 : Int), .int .u8 (p.digest.x7 : Int)]) ∧ Below w.heap.size w w' := by
  have Hh := Lib.hid h; have Hok := Lib.hid hok
  clear h hok
  have HX00 := Lib.hid (show ((w.alloc (.cells #[.int .u8 (p.nm.x0 : Int), .int .u8 (p.nm.x1 : Int), .int .u8 (p.nm.x2 : Int), .int .u8 (p.nm.x3 : Int), .int .u8 (p.nm.x4 : Int), .int .u8 (p.nm.x5 : Int), .int .u8 (p.nm.x6 : Int), .int .u8 (p.nm.x7 : Int), .int .i64 p.no, .int .i64 p.h0, .int .i64 p.h1, .slice A n c] 35)).alloc (.cells #[.int .u8 0, .int .u8 0, .int .u8 0, .int .u8 0, .int .u8 0, .int .u8 0, .int .u8 0, .int .u8 0] 32)).heap[w.heap.size + 1]? = some (.cells #[.int .u8 0, .int .u8 0, .int .u8 0, .int .u8 0, .int .u8 0, .int .u8 0, .int .u8 0, .int .u8 0] 32 (0, 0)) from h_at (by simp))
  have Hb00 := Lib.hid (below_two w (.cells #[.int .u8 (p.nm.x0 : Int), .int .u8 (p.nm.x1 : Int), .int .u8 (p.nm.x2 : Int), .int .u8 (p.nm.x3 : Int), .int .u8 (p.nm.x4 : Int), .int .u8 (p.nm.x5 : Int), .int .u8 (p.nm.x6 : Int), .int .u8 (p.nm.x7 : Int), .int .i64 p.no, .int .i64 p.h0, .int .i64 p.h1, .slice A n c] 35) (.cells #[.int .u8 0, .int .u8 0, .int .u8 0, .int .u8 0, .int .u8 0, .int .u8 0, .int .u8 0, .int .u8 0] 32))
  by_cases hp : p.check = 0
  · have Hp := Lib.hid hp
    clear hp
    go_enter Try.func9, Try.ntmps9
    go_wp2_with fail
    refine (encode_good p A n c _ (Hh.out.up Hb00.out) Hp.out).mono ?_
    rintro e w1 ⟨A1, n1, c1, rfl, ho1, hn1, hb1⟩
    have HX1 := Lib.hid (block_below HX00.out hb1 (by simp))
    have hl1 : n1 ≤ 1000 := by
      obtain ⟨_, _, _, h7, _⟩ := check_parts Hp.out
      rw [hn1]; have := encPu_len p; omega
    have Hb1 := Lib.hid (Hb00.out.trans (hb1.mono (by simp; omega)))
    have HR1 := Lib.hid (Rd.of_own ho1); have HN1 := Lib.hid hn1
    clear ho1 hn1 hb1 HX00
    go_wp2_with fail
    refine (putText_any none 0 0 [] purseT _ w1 Rd.empty (by omega) (by rfl) (by rfl) (by decide)).mono ?_
    rintro e w2 ⟨A2, n2, c2, rfl, ho2, hn2, hb2⟩
    have HX2 := Lib.hid (block_below HX1.out hb2 (block_lt HX1.out))
    have hl2 : n2 ≤ 20 := by rw [hn2]; decide
    have Hb2 := Lib.hid (Hb1.out.trans (hb2.mono Hb1.out.size))
    have HO2 := Lib.hid ho2; have HN2 := Lib.hid hn2
    have HR2 := Lib.hid (HR1.out.below hb2 (Nat.le_refl _))
    have hs2 := hb2.size
    obtain ⟨i0, hi, hz0, hz1, hz2⟩ := info_parts info_u8
    have HI := Lib.hid (And.intro hi (And.intro hz0 (And.intro hz1 hz2))); clear hi hz0 hz1 hz2 ho2 hn2 hb2
    go_wp2_with (at_builtin; go_must (refine wpList_append_rd w2 (by rfl) _ _ 40 (by rfl) w1.heap.size 5 i0 (.int .u8 0) 1 1 Try.underlying40 HI.out rfl (by decide) _ _ _ (by rfl) HO2.out w1.heap.size A1 n1 c1 _ (by rfl) HR2.out (bv_one _) (by omega) (by omega) hs2 ?_); intro v3 w3 hown3 hb3; have HO3 := Lib.hid hown3; have HX3 := Lib.hid (block_below HX2.out hb3 (block_lt HX1.out)); have Hb3 := Lib.hid (Hb2.out.trans (hb3.mono Hb1.out.size)); clear hown3 hb3)
    obtain ⟨A3, c3, rfl⟩ := own_form HO3.out
    have hcap := own_cap HO3.out
    have HR3 := Lib.hid (Rd.of_own HO3.out)
    have hl3 : n2 + n1 ≤ 1020 := by omega
    have Hlt : Hid (∀ x ∈ [] ++ encB purseT ++ encPu p, x < 256) := Lib.hid (fun x hx => by
      rcases List.mem_append.1 hx with hx | hx
      · exact encB_lt (l := purseT) (by decide) (by decide) x (by simpa using hx)
      · exact encPu_lt Hp.out Hok.out x hx)
    go_wp2_with fail
    refine (hof_any A3 _ c3 ([] ++ encB purseT ++ encPu p) w3 (by rw [bv_append]; exact HR3.out) (by omega) hcap Hlt.out).mono ?_
    rintro e w4 ⟨rfl, hb4⟩
    have hbx := block_below HX3.out hb4 (block_lt HX3.out)
    obtain ⟨zf, r0, r1, r2, r3, r4, r5, r6, r7⟩ := free8 hbx
    have Hbx := Lib.hid hbx
    have Hbw := Lib.hid (Hb3.out.trans (hb4.mono Hb3.out.size))
    have Hout : Hid (hashOf ([] ++ encB purseT ++ encPu p) = p.digest) := Lib.hid (by unfold Pu.digest; rw [if_pos Hp.out]; rfl)
    clear hb4 hbx
    generalize hashOf ([] ++ encB purseT ++ encPu p) = d at *
    go_wp2
    clear zf r0 r1 r2 r3 r4 r5 r6 r7
    have h8 := set8 Hbx.out (.int .u8 (d.x0 : Int)) (.int .u8 (d.x1 : Int)) (.int .u8 (d.x2 : Int)) (.int .u8 (d.x3 : Int)) (.int .u8 (d.x4 : Int)) (.int .u8 (d.x5 : Int)) (.int .u8 (d.x6 : Int)) (.int .u8 (d.x7 : Int))
    have hg8 := grown_set8 w4 (w.heap.size + 1) (.int .u8 (d.x0 : Int)) (.int .u8 (d.x1 : Int)) (.int .u8 (d.x2 : Int)) (.int .u8 (d.x3 : Int)) (.int .u8 (d.x4 : Int)) (.int .u8 (d.x5 : Int)) (.int .u8 (d.x6 : Int)) (.int .u8 (d.x7 : Int))
    generalize ((((((((w4.setCell ⟨w.heap.size + 1, 0, none⟩ (.int .u8 (d.x0 : Int))).setCell ⟨w.heap.size + 1, 1, none⟩ (.int .u8 (d.x1 : Int))).setCell ⟨w.heap.size + 1, 2, none⟩ (.int .u8 (d.x2 : Int))).setCell ⟨w.heap.size + 1, 3, none⟩ (.int .u8 (d.x3 : Int))).setCell ⟨w.heap.size + 1, 4, none⟩ (.int .u8 (d.x4 : Int))).setCell ⟨w.heap.size + 1, 5, none⟩ (.int .u8 (d.x5 : Int))).setCell ⟨w.heap.size + 1, 6, none⟩ (.int .u8 (d.x6 : Int))).setCell ⟨w.heap.size + 1, 7, none⟩ (.int .u8 (d.x7 : Int))) = w5 at *
    obtain ⟨zf, r0, r1, r2, r3, r4, r5, r6, r7⟩ := free8 h8
    have Hb2 := Lib.hid (Hbw.out.grown hg8 Hbw.out.size (fun k hk => by injection hk with hk; omega))
    clear h8 hg8
    refine bodyPost_ret (v := .agg #[.int .u8 (d.x0 : Int), .int .u8 (d.x1 : Int), .int .u8 (d.x2 : Int), .int .u8 (d.x3 : Int), .int .u8 (d.x4 : Int), .int .u8 (d.x5 : Int), .int .u8 (d.x6 : Int), .int .u8 (d.x7 : Int)]) (by simp [results, Try.results9, go_sem, r0, r1, r2, r3, r4, r5, r6, r7]) rfl ⟨by rw [Hout.out], Hb2.out⟩
  · have Hp := Lib.hid hp
    clear hp
    go_enter Try.func9, Try.ntmps9
    go_wp2_with fail
    refine (encode_bad p A n c _ (Hh.out.up Hb00.out) Hp.out).mono ?_
    rintro e w1 ⟨rfl, hb1⟩
    have hbx := block_below HX00.out hb1 (by simp)
    obtain ⟨zf, r0, r1, r2, r3, r4, r5, r6, r7⟩ := free8 hbx
    have Hbx := Lib.hid hbx
    have Hbw := Lib.hid (Hb00.out.trans (hb1.mono (by simp; omega)))
    have hsz := hb1.size
    simp at hsz
    have b0 : (p.check != 0) = true := by simpa using Hp.out
    clear hb1 hbx HX00
    go_wp2
    clear zf r0 r1 r2 r3 r4 r5 r6 r7
    have h8 := set8 Hbx.out (.int .u8 0) (.int .u8 0) (.int .u8 0) (.int .u8 0) (.int .u8 0) (.int .u8 0) (.int .u8 0) (.int .u8 0)
    have hg8 := grown_set8 w1 (w.heap.size + 1) (.int .u8 0) (.int .u8 0) (.int .u8 0) (.int .u8 0) (.int .u8 0) (.int .u8 0) (.int .u8 0) (.int .u8 0)
    generalize ((((((((w1.setCell ⟨w.heap.size + 1, 0, none⟩ (.int .u8 0)).setCell ⟨w.heap.size + 1, 1, none⟩ (.int .u8 0)).setCell ⟨w.heap.size + 1, 2, none⟩ (.int .u8 0)).setCell ⟨w.heap.size + 1, 3, none⟩ (.int .u8 0)).setCell ⟨w.heap.size + 1, 4, none⟩ (.int .u8 0)).setCell ⟨w.heap.size + 1, 5, none⟩ (.int .u8 0)).setCell ⟨w.heap.size + 1, 6, none⟩ (.int .u8 0)).setCell ⟨w.heap.size + 1, 7, none⟩ (.int .u8 0)) = w5 at *
    obtain ⟨zf, r0, r1, r2, r3, r4, r5, r6, r7⟩ := free8 h8
    have Hb2 := Lib.hid (Hbw.out.grown hg8 Hbw.out.size (fun k hk => by injection hk with hk; omega))
    clear h8 hg8
    have Hout : Hid (p.digest = nm0) := Lib.hid (by unfold Pu.digest; rw [if_neg Hp.out])
    refine bodyPost_ret (v := .agg #[.int .u8 0, .int .u8 0, .int .u8 0, .int .u8 0, .int .u8 0, .int .u8 0, .int .u8 0, .int .u8 0]) (by simp [results, Try.results9, go_sem, r0, r1, r2, r3, r4, r5, r6, r7]) rfl ⟨by rw [Hout.out]; rfl, Hb2.out⟩
end Go.Proofs.Ythjpaclcoipocaa
