/- The walk of layer 14's Reads: the words that an instruction reads. Condition: the table of operations reads as laid. -/
import Derived.Test.YtecolkpnllikaaaDoorCodeD
namespace Go.Proofs.YtecolkpnllikaaaDoor
open Go.RowKit Go.Lib

def three (a b c : Int) (k : Nat) : Int := if k = 0 then a else if k = 1 then b else c
def chr (op : Int) (k : Nat) : UInt8 := (hasB op).getD k 0
def skipB (op : Int) (k : Nat) : Bool := chr op k != 119 || (decide (k = 0) && op != 17) || (decide (k = 1) && op == 15)
def rdC (op a b c : Int) : Nat → List Int
  | 0 => []
  | k + 1 => if skipB op k || memB (rdC op a b c k) (three a b c k) then rdC op a b c k else rdC op a b c k ++ [three a b c k]
theorem rdC_len (op a b c : Int) (k : Nat) : (rdC op a b c k).length ≤ k := by
  induction k with
  | zero => simp [rdC]
  | succ k ih =>
    unfold rdC
    split
    · omega
    · rw [List.length_append]; simp; omega
theorem rdC_skip {op a b c : Int} {k : Nat} (h : skipB op k = true ∨ memB (rdC op a b c k) (three a b c k) = true) : rdC op a b c (k + 1) = rdC op a b c k := by
  rw [rdC]; rcases h with h | h <;> simp [h]
theorem rdC_add {op a b c : Int} {k : Nat} (h : skipB op k = false) (h' : memB (rdC op a b c k) (three a b c k) = false) : rdC op a b c (k + 1) = rdC op a b c k ++ [three a b c k] := by
  rw [rdC]; simp [h, h']
theorem chr_at {op : Int} {k : Nat} (h : k < (hasOf op).size) : (hasOf op).data.toList[k]? = some (chr op k) := by
  have : k < (hasB op).length := by simpa [hasOf, ByteArray.size] using h
  simp [hasOf, chr, List.getD_eq_getElem?_getD, this]
theorem chr_ascii (op : Int) (k : Nat) : (chr op k).toNat < 128 := by
  unfold chr hasB
  by_cases h : 0 ≤ op ∧ op < 22
  · obtain ⟨h0, h1⟩ := h
    obtain ⟨j, rfl⟩ := Int.eq_ofNat_of_zero_le h0
    have hj : j < 22 := by omega
    rw [isB_yes h0 h1, if_pos rfl]
    have : ∀ j, j < 22 → ∀ x ∈ (hasL.getD j []), x.toNat < 128 := by decide
    rw [List.getD_eq_getElem?_getD]
    cases hx : (hasL.getD (Int.toNat (j : Int)) [])[k]? with
    | none => decide
    | some x => exact this j hj x (List.mem_of_getElem? hx)
  · rw [isB_no (by omega)]; simp
theorem chr_code (op : Int) (k : Nat) : ((((chr op k).toNat : Nat) : Int) != 119) = (chr op k != 119) := by
  rw [Bool.eq_iff_iff]; simp only [bne_iff_ne, ne_eq]
  constructor
  · intro h e; exact h (by rw [e]; rfl)
  · intro h e; exact h (UInt8.toNat_inj.1 (by simpa using (by omega : (chr op k).toNat = 119)))

theorem info_int : (Tryd.prog.info? 3).map (fun i => (i.zero, i.size, i.bytes)) = some (some (.int .i64 0), 1, 8) := by kernel_rfl

set_option maxHeartbeats 1000000 in
theorem reads_any (op a b c : Int) (w : World) (hT : OpTab w) :
    Calls Tryd.prog 12 #[.agg #[.int .i64 op, .int .i64 a, .int .i64 b, .int .i64 c]] w (GivesInts w (rdC op a b c (hasOf op).size)) := by
  obtain ⟨i0, hi, hz0, hz1, hz2⟩ := info_parts info_int
  have HI := Lib.hid (And.intro hi (And.intro hz0 (And.intro hz1 hz2))); clear hi hz0 hz1 hz2
  have hsz := hasOf_size op
  have HT := Lib.hid hT; clear hT
  go_enter Tryd.func12, Tryd.ntmps12
  go_wp2_with (first
    | (go_at_call 33
       refine (three_any _ _ _ _ _).mono ?_
       rintro e w1 ⟨rfl, hb1⟩
       have hB1 : w1.heap[w.heap.size]? = some (.cells #[.int .i64 op, .int .i64 a, .int .i64 b, .int .i64 c] 24) := block_below (heap_alloc_new w _) hb1 (by simp)
       have hz1 : w.heap.size < w1.heap.size := block_lt hB1
       obtain ⟨hc1, hf1⟩ := bcell hb1; simp only [World.size_alloc] at hc1 hf1
       have HB1 := Lib.hid hB1; have HBel1 := Lib.hid hb1; clear hB1 hb1)
    | (go_at_call 34
       refine (has_any _ _ _ _ _ ((HT.out.below (((Below.refl _ _).alloc (Nat.le_refl _) _).trans (HBel1.out.mono (by simp))) HT.out.1).alloc _)).mono ?_
       rintro e w3 ⟨rfl, hb3⟩
       have HBel3 := Lib.hid hb3; clear hb3))
  have hB3 : w3.heap[w.heap.size]? = some (.cells #[.int .i64 op, .int .i64 a, .int .i64 b, .int .i64 c] 24) :=
    block_below (block_alloc HB1.out _) HBel3.out (by simp; omega)
  have hT3 : w3.heap[w1.heap.size]? = some (.cells #[.int .i64 a, .int .i64 b, .int .i64 c] 67) := block_below (heap_alloc_new w1 _) HBel3.out (by simp)
  have hz3 : w1.heap.size < w3.heap.size := block_lt hT3
  have hb3 : Below w.heap.size w w3 := ((((Below.refl _ _).alloc (Nat.le_refl _) _).trans (HBel1.out.mono (by simp))).alloc (by omega) _).trans (HBel3.out.mono (by simp; omega))
  have HB3 := Lib.hid hB3; have HT3 := Lib.hid hT3; have Hb3 := Lib.hid hb3
  clear hB3 hT3 hb3 hc1 hf1
  go_loopw [3] (fun l wr => ∃ k : Nat, k ≤ (hasOf op).size ∧ wr.heap[w3.heap.size]? = some (.stringIter (hasOf op) k) ∧
      wr.heap[w.heap.size]? = some (.cells #[.int .i64 op, .int .i64 a, .int .i64 b, .int .i64 c] 24) ∧
      wr.heap[w1.heap.size]? = some (.cells #[.int .i64 a, .int .i64 b, .int .i64 c] 67) ∧
      wr.ownsRow (w3.heap.size + 1) 3 1 l (rdC op a b c k).length (ints (rdC op a b c k)) ∧ Below w.heap.size w wr)
    (fun _ wr => (hasOf op).size - wr.iterPos w3.heap.size)
  case atStart =>
    exact ⟨0, Nat.zero_le _, World.iter_heap _ _ _, block_iter HB3.out _ _, block_iter HT3.out _ _, World.ownsRow_nil _ _ _ _, Hb3.out.alloc (by omega) _⟩
  case round =>
    obtain ⟨k, hk, hit, hbx, hth, hown, hbel⟩ := hrel
    have hbc := block_cell hbx 0
    have hsw : w3.heap.size < wr.heap.size := block_lt hit
    have Hpos := Lib.hid (iterPos_of hit)
    by_cases hlt : k < (hasOf op).size
    · obtain ⟨w2, hrun, hit2, hsz2, hg2⟩ := iter_next (P := Tryd.prog) 0 hit (chr op k) (chr_at hlt) (chr_ascii op k)
      have hg2' := hg2
      have hbx2 := block_grown hbx hg2 (by simp; omega)
      have hth2 := block_grown hth hg2 (by simp; omega)
      have hown2 := own_grown hown hg2 (by omega)
      have hbel2 : Below w.heap.size w w2 := hbel.grown hg2 (by omega) (by simp; omega)
      obtain ⟨A, cp, rfl⟩ := own_form hown2
      have hbc2 := block_cell hbx2 0
      have hk3 : k < 3 := by omega
      have htc2 : w2.cell? ⟨w1.heap.size, k, none⟩ = some (.int .i64 (three a b c k)) := by
        rw [block_cell hth2 k]
        match k, hk3 with
        | 0, _ => rfl
        | 1, _ => rfl
        | 2, _ => rfl
      have hcode := chr_code op k
      have hln := rdC_len op a b c k
      have hi0 : (0 : Int) ≤ (k : Int) := by omega
      have hi1 : (k : Int) < 3 := by omega
      have hsw2 : w3.heap.size < w2.heap.size := block_lt hit2
      clear hbx hth hown hbel hbc hg2 hg2' hsz2
      have Hit2 := Lib.hid hit2; have Hbx2 := Lib.hid hbx2; have Hth2 := Lib.hid hth2; have Hown2 := Lib.hid hown2; have Hbel2 := Lib.hid hbel2
      have Hit := Lib.hid hit
      have Hpos2 := Lib.hid (iterPos_of hit2)
      clear hit2 hbx2 hth2 hown2 hbel2 hit
      by_cases hx : chr op k = 119
      · have hxc : ((((chr op k).toNat : Nat) : Int) != 119) = false := by rw [hcode]; simp [hx]
        by_cases hs : skipB op k = true
        · have Hs := Lib.hid (rdC_skip (a := a) (b := b) (c := c) (.inl hs))
          have h2 : (k = 0 ∧ op ≠ 17) ∨ (k = 1 ∧ op = 15) := by simpa [skipB, hx] using hs
          clear hs hx hcode
          rcases h2 with ⟨rfl, ho⟩ | ⟨rfl, rfl⟩
          · have hoc : (op != 17) = true := by simpa using ho
            clear ho
            go_wp2
            go_roundw
            case rel => exact ⟨_, hlt, Hit2.out, Hbx2.out, Hth2.out, by rw [Hs.out]; exact Hown2.out, Hbel2.out⟩
            case measure => rw [Hpos.out, Hpos2.out]; omega
          ·
            go_wp2
            go_roundw
            case rel => exact ⟨_, hlt, Hit2.out, Hbx2.out, Hth2.out, by rw [Hs.out]; exact Hown2.out, Hbel2.out⟩
            case measure => rw [Hpos.out, Hpos2.out]; omega
        · have hs' : skipB op k = false := by simpa using hs
          have h2 : ¬ ((k = 0 ∧ op ≠ 17) ∨ (k = 1 ∧ op = 15)) := by simpa [skipB, hx] using hs
          have H2 := Lib.hid h2
          by_cases hm : memB (rdC op a b c k) (three a b c k) = true
          · have Hs := Lib.hid (rdC_skip (a := a) (b := b) (c := c) (.inr hm))
            have Hm := Lib.hid hm
            clear hs hs' hx hcode hm
            have h3 : (k = 0 ∧ op = 17) ∨ (k = 1 ∧ (op == 15) = false) ∨ (k = 2) := by
              rcases (by omega : k = 0 ∨ k = 1 ∨ k = 2) with rfl | rfl | rfl
              · exact .inl ⟨rfl, by simpa using h2⟩
              · exact .inr (.inl ⟨rfl, by simpa using h2⟩)
              · exact .inr (.inr rfl)
            clear h2 H2
            rcases h3 with ⟨rfl, rfl⟩ | ⟨rfl, ho⟩ | rfl
            all_goals
              go_wp2_with (go_at_call 35; refine (contains_any _ _ _ (rdC _ a b c _) _ _ (Rd.of_own Hown2.out) (by omega)).mono ?_; rintro e w4 ⟨rfl, rfl⟩; rw [Hm.out])
              go_roundw
              case rel => exact ⟨_, hlt, Hit2.out, Hbx2.out, Hth2.out, by rw [Hs.out]; exact Hown2.out, Hbel2.out⟩
              case measure => rw [Hpos.out, Hpos2.out]; omega
          · have hm' : memB (rdC op a b c k) (three a b c k) = false := by simpa using hm
            have Hs := Lib.hid (rdC_add (a := a) (b := b) (c := c) hs' hm')
            have Hm := Lib.hid hm'
            clear hs hs' hx hcode hm hm'
            have h3 : (k = 0 ∧ op = 17) ∨ (k = 1 ∧ (op == 15) = false) ∨ (k = 2) := by
              rcases (by omega : k = 0 ∨ k = 1 ∨ k = 2) with rfl | rfl | rfl
              · exact .inl ⟨rfl, by simpa using h2⟩
              · exact .inr (.inl ⟨rfl, by simpa using h2⟩)
              · exact .inr (.inr rfl)
            clear h2 H2
            rcases h3 with ⟨rfl, rfl⟩ | ⟨rfl, ho⟩ | rfl
            all_goals
              go_wp2_with (first
                | (go_at_call 35; refine (contains_any _ _ _ (rdC _ a b c _) _ _ (Rd.of_own Hown2.out) (by omega)).mono ?_; rintro e w4 ⟨rfl, rfl⟩; rw [Hm.out])
                | (at_builtin; go_must (refine wpList_append_lit w2 (by rfl) _ _ 27 (by rfl) (w3.heap.size + 1) 3 i0 (.int .i64 0) 1 8 Tryd.underlying27 HI.out rfl (by decide) _ _ _ (by rfl) Hown2.out 1 1 #[.int .i64 (three a b c _)] 3 (by rfl) rfl (by simp [Value.oneCell']) (by omega) (by omega) (by omega) ?_); intro v4 w4 hown4 hbel4))
              have hit4 := block_below Hit2.out hbel4 (by omega)
              have Hpos4 := Lib.hid (iterPos_of hit4)
              have hbx4 := block_below Hbx2.out hbel4 (by omega)
              have hth4 := block_below Hth2.out hbel4 (by omega)
              have hb4 := Hbel2.out.trans (hbel4.mono (by omega))
              have Hit4 := Lib.hid hit4; have Hbx4 := Lib.hid hbx4; have Hth4 := Lib.hid hth4; have Hown4 := Lib.hid hown4; have Hb4 := Lib.hid hb4
              clear hit4 hbx4 hth4 hown4 hb4 hbel4
              go_wp2
              go_roundw
              case rel => exact ⟨_, hlt, Hit4.out, Hbx4.out, Hth4.out, by rw [Hs.out]; simpa [ints] using Hown4.out, Hb4.out⟩
              case measure => rw [Hpos.out, Hpos4.out]; omega
      · have hxc : ((((chr op k).toNat : Nat) : Int) != 119) = true := by rw [hcode]; simpa using hx
        have Hs := Lib.hid (rdC_skip (op := op) (a := a) (b := b) (c := c) (k := k) (.inl (by simp [skipB, hx])))
        clear hx hcode
        go_wp2
        go_roundw
        case rel => exact ⟨_, hlt, Hit2.out, Hbx2.out, Hth2.out, by rw [Hs.out]; exact Hown2.out, Hbel2.out⟩
        case measure => rw [Hpos.out, Hpos2.out]; omega
    · have hkn : k = (hasOf op).size := by omega
      have hrun := iter_end (P := Tryd.prog) 0 hit (by omega : (hasOf op).size ≤ k)
      obtain ⟨A, cp, rfl⟩ := own_form hown
      have Hk := Lib.hid hkn; have Hown := Lib.hid hown; have Hbel := Lib.hid hbel; clear hkn hown hbel hbx hth hit
      go_wp2
      go_ret
      refine ⟨A, _, cp, rfl, ?_, ?_, Hbel.out⟩
      · rw [← Hk.out]; exact Rd.of_own Hown.out
      · rw [← Hk.out]
end Go.Proofs.YtecolkpnllikaaaDoor
