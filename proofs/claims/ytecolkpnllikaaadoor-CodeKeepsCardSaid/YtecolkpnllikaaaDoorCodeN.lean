/- The walk of layer 14's Decode: the instructions that bytes are. Conditions: the table of operations reads as laid; a bound on how many bytes. -/
import Derived.Test.YtecolkpnllikaaaDoorCodeM
namespace Go.Proofs.YtecolkpnllikaaaDoor
open Go.RowKit Go.Lib
/-- Instructions handed back, and an error. -/
def GivesD (w : World) (l : List Ins) (err : Int) (e : Ending) (w' : World) : Prop :=
  ∃ A n c, e = .returned (.tuple #[.slice A n c, .int .i64 err]) ∧ Rd w' w'.heap.size 4 A n (flat l) ∧ n = l.length ∧ Below w.heap.size w w'
set_option maxRecDepth 100000 in
set_option maxHeartbeats 4000000 in
theorem decode_any (A : Option Addr) (n c : Nat) (l : List Nat) (w : World) (hT : OpTab w) (hr : Rd w w.heap.size 1 A n (bv l)) (hn : n ≤ 1000000000) (hb : ∀ x ∈ l, x < 256) :
    Calls Tryd.prog 27 #[.slice A n c] w (GivesD w (decL l) (decE l)) := by
  obtain ⟨i0, hi, hz0, hz1, hz2⟩ := info_parts info_Instr
  have HI := Lib.hid (And.intro hi (And.intro hz0 (And.intro hz1 hz2))); clear hi hz0 hz1 hz2
  have HT := Lib.hid hT; have Hr := Lib.hid hr; have Hb := Lib.hid hb
  have hw0 := hT.1
  have Hs : Hid (decS l = allS (numRS ⟨l, 0, 0⟩ 2048).1 (numRS ⟨l, 0, 0⟩ 2048).2) := Lib.hid rfl
  have HE : Hid (decE l = if endRS (decS l).1 ≠ 0 then endRS (decS l).1 else (checkI (decS l).2 256).2) := Lib.hid rfl
  have HL : Hid (decL l = if decE l = 0 then (decS l).2 else []) := Lib.hid rfl
  have hle := numRS_le ⟨l, 0, 0⟩ 2048
  have hn0 : (numRS ⟨l, 0, 0⟩ 2048).1.err ≠ 0 → (numRS ⟨l, 0, 0⟩ 2048).2 = 0 := numRS_zero
  have Hn0 := Lib.hid hn0
  clear hT hr hb hn0
  go_enter Tryd.func27, Tryd.ntmps27
  go_wp2_with fail
  refine (newReader_any A n c l w Hr.out hn Hb.out).mono ?_
  rintro e w1 ⟨b, rfl, hat, hbb, hb1⟩
  have hbl := hat.lt
  have Hb1 := Lib.hid hb1; have Hat1 := Lib.hid hat
  clear hb1 hat
  go_wp2_with fail
  refine (num_at b _ ⟨l, 0, 0⟩ w1 Hat1.out (by omega)).mono ?_
  rintro e w2 ⟨rfl, hat, hg⟩
  rw [show (2048 : Int).toNat = 2048 from rfl] at hat
  rw [show (2048 : Int).toNat = 2048 from rfl]
  have Hat2 := Lib.hid hat
  have Hb2 := Lib.hid (Hb1.out.trans (below_of_grown hg Hb1.out.size (fun k hk => by injection hk with hk; omega)))
  have hs12 := hg.size
  clear hat hg
  generalize numRS ⟨l, 0, 0⟩ 2048 = p at *
  obtain ⟨s0, m⟩ := p
  simp only at hle Hs Hn0 Hat2 ⊢
  go_wp2
  go_loopw [5, 15] (fun v i wr => ∃ (k : Nat) (A6 : Option Addr) (c6 : Nat), k ≤ m ∧ i = .int .u64 (k : Int) ∧ v = .slice A6 k c6 ∧ wr.ownsRow w1.heap.size 24 4 (.slice A6 k c6) k (flat (allS s0 k).2) ∧ ((allS s0 k).1.err = 0 ∨ m = 0) ∧ RdAt wr b (allS s0 k).1 ∧ Below w.heap.size w wr ∧ w1.heap.size ≤ wr.heap.size) (fun _ i _ => m - (intOf i).toNat)
  case atStart =>
    refine ⟨0, none, 0, Nat.zero_le _, rfl, rfl, World.ownsRow_nil _ _ _ _, ?_, Hat2.out, Hb2.out, hs12⟩
    by_cases h : s0.err = 0
    · exact .inl h
    · exact .inr (Hn0.out h)
  case round =>
    obtain ⟨k, A6, c6, hk, rfl, rfl, hown, herr, hat, hbel, hs1⟩ := hrel
    have Hown := Lib.hid hown; have Hat := Lib.hid hat; have Hbel := Lib.hid hbel
    clear hown hat hbel
    by_cases hlt : k < m
    · have her : (allS s0 k).1.err = 0 := by
        rcases herr with h | h
        · exact h
        · omega
      have Hok := Lib.hid (allS_ok her)
      have Herr2 := Lib.hid (allS_err (s := s0) (j := k + 1))
      have Hlen := Lib.hid (allS_len her)
      have hi1 : (k : Int) < (m : Int) := by omega
      clear herr
      go_wp2_with fail
      refine (read_any b _ wr (HT.out.below Hbel.out hw0) Hat.out (by omega)).mono ?_
      rintro e w3 ⟨rfl, hg3, hat3⟩
      have hb3 := below_of_grown (B := w.heap.size) hg3 Hbel.out.size (fun k hk => by injection hk with hk; omega)
      have Hbel3 := Lib.hid (Hbel.out.trans hb3)
      have Hown3 := Lib.hid (own_grown Hown.out hg3 hbl)
      have hs3 : w1.heap.size ≤ w3.heap.size := by have := hg3.size; omega
      have Hat3 := Lib.hid hat3
      clear hb3 hg3 hat3
      have hgot : gotI (allS s0 k).1 = if (insS (allS s0 k).1).1.err = 0 then (insS (allS s0 k).1).2 else ⟨0, 0, 0, 0⟩ := rfl
      by_cases he3 : (insS (allS s0 k).1).1.err = 0
      · have b3 : ((insS (allS s0 k).1).1.err != 0) = false := by simpa using he3
        rw [if_pos he3] at hgot
        rw [hgot]
        clear hgot
        have Hat4 := Lib.hid (Hat3.out he3)
        have Hok2 : Hid (allS s0 (k + 1) = ((insS (allS s0 k).1).1, (allS s0 k).2 ++ [(insS (allS s0 k).1).2])) := Hok
        clear Hat3 Hok
        generalize insS (allS s0 k).1 = q at *
        obtain ⟨s1, op, a, b', c''⟩ := q
        simp only at he3 b3 Hat4 Hok2 ⊢
        rw [he3]
        have Hown4 := Lib.hid (Hown3.out.alloc (.cells #[.int .i64 op, .int .i64 a, .int .i64 b', .int .i64 c''] 24))
        have Hat5 := Lib.hid (Hat4.out.below (below_one w3 (.cells #[.int .i64 op, .int .i64 a, .int .i64 b', .int .i64 c''] 24)) Hat4.out.lt)
        have Hbel4 := Lib.hid (Hbel3.out.alloc Hbel3.out.size (.cells #[.int .i64 op, .int .i64 a, .int .i64 b', .int .i64 c''] 24))
        clear b3
        go_wp2_with (at_builtin; go_must (refine wpList_append_lit (w3.alloc (.cells #[.int .i64 op, .int .i64 a, .int .i64 b', .int .i64 c''] 24)) (by rfl) _ _ 40 (by rfl) w1.heap.size 24 i0 (.agg #[.int .i64 0, .int .i64 0, .int .i64 0, .int .i64 0]) 4 32 Tryd.underlying40 HI.out rfl (by decide) _ _ _ (by rfl) Hown4.out 1 1 #[.int .i64 op, .int .i64 a, .int .i64 b', .int .i64 c''] 24 (by simp [Act.eval]) rfl (by simp [Value.oneCell']) (by omega) (by omega) (by simp; omega) ?_); intro v4 w4 hown4 hbel4)
        obtain ⟨A7, c7, rfl⟩ := own_form hown4
        have Hown5 := Lib.hid hown4
        have Hbel5 := Lib.hid (Hbel4.out.trans (hbel4.mono Hb1.out.size))
        have Hat6 := Lib.hid (Hat5.out.below hbel4 hbl)
        have hs4 : w1.heap.size ≤ w4.heap.size := by have := hbel4.size; simp at this; omega
        clear hown4 hbel4
        go_wp2
        go_roundw
        case rel => exact ⟨k + 1, A7, c7, hlt, by go_num, rfl, by rw [Hok2.out, flat_append]; exact Hown5.out, by rw [Hok2.out]; exact .inl he3, by rw [Hok2.out]; exact Hat6.out, Hbel5.out, hs4⟩
        case measure => simp [intOf]; omega
      · have b3 : ((insS (allS s0 k).1).1.err != 0) = true := by simpa using he3
        have Hres : Hid (decE l = (insS (allS s0 k).1).1.err ∧ decL l = []) := by
          have h1 := Herr2.out (by rw [Hok.out]; exact he3) m hlt
          rw [Hok.out] at h1
          have h2 : endRS (decS l).1 = (insS (allS s0 k).1).1.err := by
            rw [Hs.out, h1]; unfold endRS; rw [if_pos he3]
          have h3 : decE l = (insS (allS s0 k).1).1.err := by rw [HE.out, h2, if_pos he3]
          exact ⟨h3, by rw [HL.out, h3, if_neg he3]⟩
        go_wp2
        go_ret2
        exact ⟨none, 0, 0, by rw [Hres.out.1]; rfl, by rw [Hres.out.2]; exact Rd.empty, by rw [Hres.out.2]; rfl, Hbel3.out.alloc Hbel3.out.size _⟩
    · obtain rfl : k = m := by omega
      have Hs2 : Hid (decS l = allS s0 k) := Hs
      have Hlen : Hid (k = (allS s0 k).2.length) := by
        show _ = _
        rcases herr with h | h
        · exact (allS_len h).symm
        · subst h; rfl
      clear Hs herr
      generalize allS s0 k = q at *
      obtain ⟨s9, L⟩ := q
      simp only at Hown Hat Hs2 Hlen
      rw [Hs2.out] at HE HL
      simp only at HE HL
      clear hlt
      go_wp2_with fail
      refine (end_any b s9 wr Hat.out).mono ?_
      rintro e w5 ⟨rfl, kd, rfl⟩
      have hd := below_drewN (Below.refl wr.heap.size wr) kd
      have Hbel5 := Lib.hid (Hbel.out.trans (hd.mono Hbel.out.size))
      have Hrd5 := Lib.hid (((Rd.of_own Hown.out).below hd (Nat.le_refl _)).more hd.size)
      have hL : L.length ≤ 2048 := by have := Hlen.out; omega
      clear hd
      by_cases he5 : endRS s9 = 0
      · rw [if_neg (by simpa using he5)] at HE
        have b5 : (endRS s9 != 0) = false := by simpa using he5
        clear he5
        go_wp2_with fail
        refine (check_any A6 k c6 L 256 _ (HT.out.below Hbel5.out hw0) Hrd5.out (by omega)).mono ?_
        rintro e w6 ⟨rfl, hb6⟩
        have Hbel6 := Lib.hid (Hbel5.out.trans (hb6.mono Hbel5.out.size))
        have Hrd6 := Lib.hid ((Hrd5.out.below hb6 (Nat.le_refl _)).more hb6.size)
        clear hb6
        by_cases he6 : (checkI L 256).2 = 0
        · have b6 : ((checkI L 256).2 != 0) = false := by simpa using he6
          have HE2 : Hid (decE l = 0) := Lib.hid (HE.out.trans he6)
          go_wp2
          go_ret2
          exact ⟨A6, k, c6, by rw [HE2.out]; rfl, by rw [HL.out, if_pos HE2.out]; exact Hrd6.out, by rw [HL.out, if_pos HE2.out]; exact Hlen.out, Hbel6.out⟩
        · have b6 : ((checkI L 256).2 != 0) = true := by simpa using he6
          have HE2 : Hid (decL l = []) := by
            show _ = _
            rw [HL.out, if_neg (by rw [HE.out]; exact he6)]
          go_wp2
          go_ret2
          exact ⟨none, 0, 0, by rw [HE.out]; rfl, by rw [HE2.out]; exact Rd.empty, by rw [HE2.out]; rfl, Hbel6.out⟩
      · rw [if_pos (by simpa using he5)] at HE
        have b5 : (endRS s9 != 0) = true := by simpa using he5
        have HE2 : Hid (decL l = []) := by
          show _ = _
          rw [HL.out, if_neg (by rw [HE.out]; exact he5)]
        go_wp2
        go_ret2
        exact ⟨none, 0, 0, by rw [HE.out]; rfl, by rw [HE2.out]; exact Rd.empty, by rw [HE2.out]; rfl, Hbel5.out⟩
end Go.Proofs.YtecolkpnllikaaaDoor
