/- The walk of the reference's Reads, and that both tell the same words. Condition: none. -/
import Derived.Test.YtecolkpnllikaaaDoorCodeE
import Derived.Deep.DeepCutAuto
import Derived.Deep.CutBlock
namespace Go.Proofs.YtecolkpnllikaaaDoor
open Go.RowKit Go.Lib

theorem gives_own {w w1 : World} {base : Nat} {v : Value} {n : Nat} {l : List Int} (hown : w1.ownsRow base 3 1 v n (ints l)) (hn : n = l.length) (hb : Below w.heap.size w w1) : GivesInts w l (.returned v) w1 := by
  obtain ⟨A, c, rfl⟩ := own_form hown
  exact ⟨A, n, c, rfl, Rd.of_own hown, hn, hb⟩
def whichL (op : Int) : List UInt8 :=
  if op = 2 ∨ op = 14 ∨ op = 18 ∨ op = 20 ∨ op = 21 then [98] else if (3 ≤ op ∧ op ≤ 13) ∨ op = 16 then [98, 99] else if op = 15 then [99] else if op = 17 then [97] else []
def whichOf (op : Int) : ByteArray := ⟨(whichL op).toArray⟩
theorem whichL_len (op : Int) : (whichL op).length ≤ 2 := by unfold whichL; split; simp; split; simp; split; simp; split <;> simp
theorem which1 {op : Int} (h : op = 2 ∨ op = 14 ∨ op = 18 ∨ op = 20 ∨ op = 21) : whichOf op = ⟨#[98]⟩ := by simp [whichOf, whichL, h]
theorem which2 {op : Int} (h : (3 ≤ op ∧ op ≤ 13) ∨ op = 16) : whichOf op = ⟨#[98, 99]⟩ := by
  unfold whichOf whichL; rw [if_neg (by omega), if_pos h]
theorem which3 {op : Int} (h : op = 15) : whichOf op = ⟨#[99]⟩ := by subst h; rfl
theorem which4 {op : Int} (h : op = 17) : whichOf op = ⟨#[97]⟩ := by subst h; rfl
theorem which5 {op : Int} (h : ¬ (op = 2 ∨ op = 14 ∨ op = 18 ∨ op = 20 ∨ op = 21)) (h2 : ¬ ((3 ≤ op ∧ op ≤ 13) ∨ op = 16)) (h3 : ¬ op = 15) (h4 : ¬ op = 17) : whichOf op = ⟨#[]⟩ := by
  simp only [whichOf, whichL, if_neg h, if_neg h2, if_neg h3, if_neg h4]
/-- What is read, as a list. -/
def rdR (op a b c : Int) : List Int :=
  if whichL op = [98] then [b] else if whichL op = [98, 99] then (if b = c then [b] else [b, c]) else if whichL op = [99] then [c] else if whichL op = [97] then [a] else []
theorem rdR_1 {op a b c : Int} (h : whichOf op = ⟨#[98]⟩) : rdR op a b c = [b] := by
  have : whichL op = [98] := by simpa [whichOf] using h
  simp [rdR, this]
theorem rdR_2 {op a b c : Int} (h : whichOf op = ⟨#[98, 99]⟩) : rdR op a b c = if b = c then [b] else [b, c] := by
  have : whichL op = [98, 99] := by simpa [whichOf] using h
  simp [rdR, this]
theorem rdR_3 {op a b c : Int} (h : whichOf op = ⟨#[99]⟩) : rdR op a b c = [c] := by
  have : whichL op = [99] := by simpa [whichOf] using h
  simp [rdR, this]
theorem rdR_4 {op a b c : Int} (h : whichOf op = ⟨#[97]⟩) : rdR op a b c = [a] := by
  have : whichL op = [97] := by simpa [whichOf] using h
  simp [rdR, this]
theorem rdR_5 {op a b c : Int} (h : whichOf op = ⟨#[]⟩) : rdR op a b c = [] := by
  have : whichL op = [] := by simpa [whichOf] using h
  simp [rdR, this]
theorem which_cases (op : Int) : whichOf op = ⟨#[98]⟩ ∨ whichOf op = ⟨#[98, 99]⟩ ∨ whichOf op = ⟨#[99]⟩ ∨ whichOf op = ⟨#[97]⟩ ∨ whichOf op = ⟨#[]⟩ := by
  unfold whichOf whichL; (repeat' split) <;> simp

set_option maxRecDepth 100000 in
set_option maxHeartbeats 1000000 in
theorem readsr_any (op a b c : Int) (w : World) :
    Calls Tryd.prog 13 #[.agg #[.int .i64 op, .int .i64 a, .int .i64 b, .int .i64 c]] w (GivesInts w (rdR op a b c)) := by
  obtain ⟨i0, hi, hz0, hz1, hz2⟩ := info_parts info_int
  have HI := Lib.hid (And.intro hi (And.intro hz0 (And.intro hz1 hz2))); clear hi hz0 hz1 hz2
  go_enter Tryd.func13, Tryd.ntmps13
  go_upto_block 0 with fail
  go_cut [3] (fun s3 wx => s3 = .string (whichOf op) ∧ wx = w.alloc (.cells #[.int .i64 op, .int .i64 a, .int .i64 b, .int .i64 c] 23))
  case first =>
    go_wp2
    all_goals
      go_meet
      refine ⟨?_, rfl⟩
      simp only [beq_iff_eq, beq_eq_false_iff_ne, ne_eq] at *
      first
        | rw [which1 (by omega)]
        | rw [which2 (by omega)]
        | rw [which3 (by omega)]
        | rw [which4 (by omega)]
        | rw [which5 (by omega) (by omega) (by omega) (by omega)]
  case rest =>
    obtain ⟨rfl, rfl⟩ := hcut
    have ix0 : ∀ w, (Instr.index 67 (.agg #[.int .i64 a, .int .i64 b, .int .i64 c]) (.int .i64 0)).run Tryd.prog w = .ok (.int .i64 a) w := fun _ => by kernel_rfl
    have ix1 : ∀ w, (Instr.index 67 (.agg #[.int .i64 a, .int .i64 b, .int .i64 c]) (.int .i64 1)).run Tryd.prog w = .ok (.int .i64 b) w := fun _ => by kernel_rfl
    have ix2 : ∀ w, (Instr.index 67 (.agg #[.int .i64 a, .int .i64 b, .int .i64 c]) (.int .i64 2)).run Tryd.prog w = .ok (.int .i64 c) w := fun _ => by kernel_rfl
    have w1_ : IntKind.u8.wrap 1 = 1 := by decide
    have w2_ : IntKind.u8.wrap 2 = 2 := by decide
    have w0_ : IntKind.u8.wrap 0 = 0 := by decide
    have v1_ : IntKind.i64.wrap 1 = 1 := by decide
    have v2_ : IntKind.i64.wrap 2 = 2 := by decide
    have v0_ : IntKind.i64.wrap 0 = 0 := by decide
    rcases which_cases op with h | h | h | h | h
    · have Hr := Lib.hid (rdR_1 (a := a) (b := b) (c := c) h)
      rw [h]; clear h
      have e1_ : ((((⟨#[98]⟩ : ByteArray)[0]'(by decide)).toNat : Nat) : Int) = 98 := rfl
      go_wp2
      refine wp_loop_rounds 2 ?_
      rw [rounds_succ]
      go_wp2_with fail
      go_region_held3 (fun w' => w'.cell? ⟨w.heap.size, 0, none⟩ = some (.int .i64 op) ∧ w'.cell? ⟨w.heap.size, 1, none⟩ = some (.int .i64 a) ∧ w'.cell? ⟨w.heap.size, 2, none⟩ = some (.int .i64 b) ∧ w'.cell? ⟨w.heap.size, 3, none⟩ = some (.int .i64 c)) (first | exact ⟨f0, f1, f2, f3⟩ | exact ⟨g0, g1, g2, g3⟩ | go_keep) (first | (go_at_call 36; refine (threer_any _ _ _ _ _).mono ?_; rintro e w1 ⟨rfl, hb1⟩; have f0 : w1.cell? ⟨w.heap.size, 0, none⟩ = some (.int .i64 op) := ((bcell hb1).1 _ _ (by simp; omega)).trans (by simp [*]); have f1 : w1.cell? ⟨w.heap.size, 1, none⟩ = some (.int .i64 a) := ((bcell hb1).1 _ _ (by simp; omega)).trans (by simp [*]); have f2 : w1.cell? ⟨w.heap.size, 2, none⟩ = some (.int .i64 b) := ((bcell hb1).1 _ _ (by simp; omega)).trans (by simp [*]); have f3 : w1.cell? ⟨w.heap.size, 3, none⟩ = some (.int .i64 c) := ((bcell hb1).1 _ _ (by simp; omega)).trans (by simp [*]); have Hb1 := Lib.hid hb1; clear hb1))
      all_goals
        have hown0 : w1.ownsRow (w.heap.size + 1) 3 1 (.slice (some ⟨w.heap.size + 1, 0, none⟩) 0 0) 0 [] := by
          have := own_below (World.ownsRow.drew (World.ownsRow_made (base := w.heap.size + 1) (e := 3) (size := 1) (w.alloc (.cells #[.int .i64 op, .int .i64 a, .int .i64 b, .int .i64 c] 23)) #[] 0 (by simp) (by decide) rfl)) Hb1.out
          rwa [World.size_alloc] at this
        have hsz1 := Hb1.out.size
        simp at hsz1
        have hbw1 : Below w.heap.size w w1 := ((((Below.refl _ _).alloc (Nat.le_refl _) _).alloc (by simp) _).drew).trans (Hb1.out.mono (by simp; omega))
        have Hbw1 := Lib.hid hbw1; clear hbw1
        have Hown0 := Lib.hid hown0; clear hown0
        go_wp2_with (at_builtin; go_must (refine wpList_append_lit w1 (by rfl) _ _ 27 (by rfl) (w.heap.size + 1) 3 i0 (.int .i64 0) 1 8 Tryd.underlying27 HI.out rfl (by decide) _ _ _ (by rfl) Hown0.out 1 1 #[.int .i64 b] 3 (by rfl) rfl (by simp [Value.oneCell']) (by omega) (by omega) (by omega) ?_); intro v4 w4 hown4 hbel4)
        have Hown4 := Lib.hid hown4; have Hbel4 := Lib.hid hbel4; clear hown4 hbel4
        rw [rounds_succ]
        go_wp2
        go_ret
        exact gives_own (by rw [Hr.out]; exact Hown4.out) (by rw [Hr.out]; rfl) (Hbw1.out.trans (Hbel4.out.mono (by omega)))
    · have e1_ : ((((⟨#[98, 99]⟩ : ByteArray)[0]'(by decide)).toNat : Nat) : Int) = 98 := rfl
      have e2_ : ((((⟨#[98, 99]⟩ : ByteArray)[1]'(by decide)).toNat : Nat) : Int) = 99 := rfl
      have Hr := Lib.hid (rdR_2 (a := a) (b := b) (c := c) h)
      rw [h]; clear h
      go_wp2
      refine wp_loop_rounds 3 ?_
      rw [rounds_succ]
      go_wp2_with fail
      go_region_held3 (fun w' => w'.cell? ⟨w.heap.size, 0, none⟩ = some (.int .i64 op) ∧ w'.cell? ⟨w.heap.size, 1, none⟩ = some (.int .i64 a) ∧ w'.cell? ⟨w.heap.size, 2, none⟩ = some (.int .i64 b) ∧ w'.cell? ⟨w.heap.size, 3, none⟩ = some (.int .i64 c)) (first | exact ⟨f0, f1, f2, f3⟩ | exact ⟨g0, g1, g2, g3⟩ | go_keep) (first | (go_at_call 36; refine (threer_any _ _ _ _ _).mono ?_; rintro e w1 ⟨rfl, hb1⟩; have f0 : w1.cell? ⟨w.heap.size, 0, none⟩ = some (.int .i64 op) := ((bcell hb1).1 _ _ (by simp; omega)).trans (by simp [*]); have f1 : w1.cell? ⟨w.heap.size, 1, none⟩ = some (.int .i64 a) := ((bcell hb1).1 _ _ (by simp; omega)).trans (by simp [*]); have f2 : w1.cell? ⟨w.heap.size, 2, none⟩ = some (.int .i64 b) := ((bcell hb1).1 _ _ (by simp; omega)).trans (by simp [*]); have f3 : w1.cell? ⟨w.heap.size, 3, none⟩ = some (.int .i64 c) := ((bcell hb1).1 _ _ (by simp; omega)).trans (by simp [*]); have Hb1 := Lib.hid hb1; clear hb1))
      all_goals
        have hown0 : w1.ownsRow (w.heap.size + 1) 3 1 (.slice (some ⟨w.heap.size + 1, 0, none⟩) 0 0) 0 [] := by
          have := own_below (World.ownsRow.drew (World.ownsRow_made (base := w.heap.size + 1) (e := 3) (size := 1) (w.alloc (.cells #[.int .i64 op, .int .i64 a, .int .i64 b, .int .i64 c] 23)) #[] 0 (by simp) (by decide) rfl)) Hb1.out
          rwa [World.size_alloc] at this
        have hsz1 := Hb1.out.size
        simp at hsz1
        have hbw1 : Below w.heap.size w w1 := ((((Below.refl _ _).alloc (Nat.le_refl _) _).alloc (by simp) _).drew).trans (Hb1.out.mono (by simp; omega))
        have Hbw1 := Lib.hid hbw1; clear hbw1
        have Hown0 := Lib.hid hown0; clear hown0
        go_wp2_with (at_builtin; go_must (refine wpList_append_lit w1 (by rfl) _ _ 27 (by rfl) (w.heap.size + 1) 3 i0 (.int .i64 0) 1 8 Tryd.underlying27 HI.out rfl (by decide) _ _ _ (by rfl) Hown0.out 1 1 #[.int .i64 b] 3 (by rfl) rfl (by simp [Value.oneCell']) (by omega) (by omega) (by omega) ?_); intro v4 w4 hown4 hbel4)
        have Hown4 := Lib.hid hown4; have Hbel4 := Lib.hid hbel4; clear hown4 hbel4
        rw [rounds_succ]
        obtain ⟨g, cp, rfl, hg1, hg2⟩ := Hown4.out.form (by omega)
        have hcell := Hown4.out.cellAt 0 (by omega)
        have k0 := ((bcell Hbel4.out).1 w.heap.size 0 (by omega)).trans f0
        have k1 := ((bcell Hbel4.out).1 w.heap.size 1 (by omega)).trans f1
        have k2 := ((bcell Hbel4.out).1 w.heap.size 2 (by omega)).trans f2
        have k3 := ((bcell Hbel4.out).1 w.heap.size 3 (by omega)).trans f3
        have hsz4 := Hbel4.out.size
        have hcell' : w4.cell? ⟨g, 0, none⟩ = some (.int .i64 b) := by rw [hcell]; rfl
        clear f0 f1 f2 f3 hcell
        go_wp2_with fail
        go_region_held3 (fun w' => w'.cell? ⟨w.heap.size, 0, none⟩ = some (.int .i64 op) ∧ w'.cell? ⟨w.heap.size, 1, none⟩ = some (.int .i64 a) ∧ w'.cell? ⟨w.heap.size, 2, none⟩ = some (.int .i64 b) ∧ w'.cell? ⟨w.heap.size, 3, none⟩ = some (.int .i64 c)) (first | exact ⟨f0, f1, f2, f3⟩ | exact ⟨g0, g1, g2, g3⟩ | go_keep) (first | (go_at_call 36; refine (threer_any _ _ _ _ _).mono ?_; rintro e w5 ⟨rfl, hb1⟩; have g0 : w5.cell? ⟨w.heap.size, 0, none⟩ = some (.int .i64 op) := ((bcell hb1).1 _ _ (by simp; omega)).trans (by simp [*]); have g1 : w5.cell? ⟨w.heap.size, 1, none⟩ = some (.int .i64 a) := ((bcell hb1).1 _ _ (by simp; omega)).trans (by simp [*]); have g2 : w5.cell? ⟨w.heap.size, 2, none⟩ = some (.int .i64 b) := ((bcell hb1).1 _ _ (by simp; omega)).trans (by simp [*]); have g3 : w5.cell? ⟨w.heap.size, 3, none⟩ = some (.int .i64 c) := ((bcell hb1).1 _ _ (by simp; omega)).trans (by simp [*]); have Hb5 := Lib.hid hb1; clear hb1))
        all_goals
          clear k0 k1 k2 k3 g0 g1 g2 g3
          have hc5 : w5.cell? ⟨g, 0, none⟩ = some (.int .i64 b) := ((bcell Hb5.out).1 g 0 (by simpa using hg2)).trans (by simpa using hcell')
          have hown5 := own_below (World.ownsRow.drew Hown4.out) Hb5.out
          have hbw5 : Below w.heap.size w w5 := ((Hbw1.out.trans (Hbel4.out.mono (by omega))).drew).trans (Hb5.out.mono (by simp; omega))
          have hsz5 := Hb5.out.size
          simp at hsz5
          have Hown5 := Lib.hid hown5; have Hbw5 := Lib.hid hbw5
          clear hown5 hbw5 hcell'
          by_cases hbc : b = c
          · have hB : (b != c) = false := by simpa using hbc
            have Hbc := Lib.hid hbc; clear hbc
            go_wp2
            rw [rounds_succ]
            go_wp2
            go_ret
            exact gives_own (by rw [Hr.out, if_pos Hbc.out]; exact Hown5.out) (by rw [Hr.out, if_pos Hbc.out]; rfl) Hbw5.out
          · have hB : (b != c) = true := by simpa using hbc
            have Hbc := Lib.hid hbc; clear hbc
            go_wp2_with (at_builtin; go_must (refine wpList_append_lit w5 (by rfl) _ _ 27 (by rfl) (w.heap.size + 1) 3 i0 (.int .i64 0) 1 8 Tryd.underlying27 HI.out rfl (by decide) _ _ _ (by rfl) Hown5.out 1 1 #[.int .i64 c] 3 (by rfl) rfl (by simp [Value.oneCell']) (by omega) (by omega) (by omega) ?_); intro v6 w6 hown6 hbel6)
            have Hown6 := Lib.hid hown6; have Hbel6 := Lib.hid hbel6; clear hown6 hbel6
            rw [rounds_succ]
            go_wp2
            go_ret
            exact gives_own (by rw [Hr.out, if_neg Hbc.out]; exact Hown6.out) (by rw [Hr.out, if_neg Hbc.out]; rfl) (Hbw5.out.trans (Hbel6.out.mono (by omega)))
    · have Hr := Lib.hid (rdR_3 (a := a) (b := b) (c := c) h)
      rw [h]; clear h
      have e1_ : ((((⟨#[99]⟩ : ByteArray)[0]'(by decide)).toNat : Nat) : Int) = 99 := rfl
      go_wp2
      refine wp_loop_rounds 2 ?_
      rw [rounds_succ]
      go_wp2_with fail
      go_region_held3 (fun w' => w'.cell? ⟨w.heap.size, 0, none⟩ = some (.int .i64 op) ∧ w'.cell? ⟨w.heap.size, 1, none⟩ = some (.int .i64 a) ∧ w'.cell? ⟨w.heap.size, 2, none⟩ = some (.int .i64 b) ∧ w'.cell? ⟨w.heap.size, 3, none⟩ = some (.int .i64 c)) (first | exact ⟨f0, f1, f2, f3⟩ | exact ⟨g0, g1, g2, g3⟩ | go_keep) (first | (go_at_call 36; refine (threer_any _ _ _ _ _).mono ?_; rintro e w1 ⟨rfl, hb1⟩; have f0 : w1.cell? ⟨w.heap.size, 0, none⟩ = some (.int .i64 op) := ((bcell hb1).1 _ _ (by simp; omega)).trans (by simp [*]); have f1 : w1.cell? ⟨w.heap.size, 1, none⟩ = some (.int .i64 a) := ((bcell hb1).1 _ _ (by simp; omega)).trans (by simp [*]); have f2 : w1.cell? ⟨w.heap.size, 2, none⟩ = some (.int .i64 b) := ((bcell hb1).1 _ _ (by simp; omega)).trans (by simp [*]); have f3 : w1.cell? ⟨w.heap.size, 3, none⟩ = some (.int .i64 c) := ((bcell hb1).1 _ _ (by simp; omega)).trans (by simp [*]); have Hb1 := Lib.hid hb1; clear hb1))
      all_goals
        have hown0 : w1.ownsRow (w.heap.size + 1) 3 1 (.slice (some ⟨w.heap.size + 1, 0, none⟩) 0 0) 0 [] := by
          have := own_below (World.ownsRow.drew (World.ownsRow_made (base := w.heap.size + 1) (e := 3) (size := 1) (w.alloc (.cells #[.int .i64 op, .int .i64 a, .int .i64 b, .int .i64 c] 23)) #[] 0 (by simp) (by decide) rfl)) Hb1.out
          rwa [World.size_alloc] at this
        have hsz1 := Hb1.out.size
        simp at hsz1
        have hbw1 : Below w.heap.size w w1 := ((((Below.refl _ _).alloc (Nat.le_refl _) _).alloc (by simp) _).drew).trans (Hb1.out.mono (by simp; omega))
        have Hbw1 := Lib.hid hbw1; clear hbw1
        have Hown0 := Lib.hid hown0; clear hown0
        go_wp2_with (at_builtin; go_must (refine wpList_append_lit w1 (by rfl) _ _ 27 (by rfl) (w.heap.size + 1) 3 i0 (.int .i64 0) 1 8 Tryd.underlying27 HI.out rfl (by decide) _ _ _ (by rfl) Hown0.out 1 1 #[.int .i64 c] 3 (by rfl) rfl (by simp [Value.oneCell']) (by omega) (by omega) (by omega) ?_); intro v4 w4 hown4 hbel4)
        have Hown4 := Lib.hid hown4; have Hbel4 := Lib.hid hbel4; clear hown4 hbel4
        rw [rounds_succ]
        go_wp2
        go_ret
        exact gives_own (by rw [Hr.out]; exact Hown4.out) (by rw [Hr.out]; rfl) (Hbw1.out.trans (Hbel4.out.mono (by omega)))
    · have Hr := Lib.hid (rdR_4 (a := a) (b := b) (c := c) h)
      rw [h]; clear h
      have e1_ : ((((⟨#[97]⟩ : ByteArray)[0]'(by decide)).toNat : Nat) : Int) = 97 := rfl
      go_wp2
      refine wp_loop_rounds 2 ?_
      rw [rounds_succ]
      go_wp2_with fail
      go_region_held3 (fun w' => w'.cell? ⟨w.heap.size, 0, none⟩ = some (.int .i64 op) ∧ w'.cell? ⟨w.heap.size, 1, none⟩ = some (.int .i64 a) ∧ w'.cell? ⟨w.heap.size, 2, none⟩ = some (.int .i64 b) ∧ w'.cell? ⟨w.heap.size, 3, none⟩ = some (.int .i64 c)) (first | exact ⟨f0, f1, f2, f3⟩ | exact ⟨g0, g1, g2, g3⟩ | go_keep) (first | (go_at_call 36; refine (threer_any _ _ _ _ _).mono ?_; rintro e w1 ⟨rfl, hb1⟩; have f0 : w1.cell? ⟨w.heap.size, 0, none⟩ = some (.int .i64 op) := ((bcell hb1).1 _ _ (by simp; omega)).trans (by simp [*]); have f1 : w1.cell? ⟨w.heap.size, 1, none⟩ = some (.int .i64 a) := ((bcell hb1).1 _ _ (by simp; omega)).trans (by simp [*]); have f2 : w1.cell? ⟨w.heap.size, 2, none⟩ = some (.int .i64 b) := ((bcell hb1).1 _ _ (by simp; omega)).trans (by simp [*]); have f3 : w1.cell? ⟨w.heap.size, 3, none⟩ = some (.int .i64 c) := ((bcell hb1).1 _ _ (by simp; omega)).trans (by simp [*]); have Hb1 := Lib.hid hb1; clear hb1))
      all_goals
        have hown0 : w1.ownsRow (w.heap.size + 1) 3 1 (.slice (some ⟨w.heap.size + 1, 0, none⟩) 0 0) 0 [] := by
          have := own_below (World.ownsRow.drew (World.ownsRow_made (base := w.heap.size + 1) (e := 3) (size := 1) (w.alloc (.cells #[.int .i64 op, .int .i64 a, .int .i64 b, .int .i64 c] 23)) #[] 0 (by simp) (by decide) rfl)) Hb1.out
          rwa [World.size_alloc] at this
        have hsz1 := Hb1.out.size
        simp at hsz1
        have hbw1 : Below w.heap.size w w1 := ((((Below.refl _ _).alloc (Nat.le_refl _) _).alloc (by simp) _).drew).trans (Hb1.out.mono (by simp; omega))
        have Hbw1 := Lib.hid hbw1; clear hbw1
        have Hown0 := Lib.hid hown0; clear hown0
        go_wp2_with (at_builtin; go_must (refine wpList_append_lit w1 (by rfl) _ _ 27 (by rfl) (w.heap.size + 1) 3 i0 (.int .i64 0) 1 8 Tryd.underlying27 HI.out rfl (by decide) _ _ _ (by rfl) Hown0.out 1 1 #[.int .i64 a] 3 (by rfl) rfl (by simp [Value.oneCell']) (by omega) (by omega) (by omega) ?_); intro v4 w4 hown4 hbel4)
        have Hown4 := Lib.hid hown4; have Hbel4 := Lib.hid hbel4; clear hown4 hbel4
        rw [rounds_succ]
        go_wp2
        go_ret
        exact gives_own (by rw [Hr.out]; exact Hown4.out) (by rw [Hr.out]; rfl) (Hbw1.out.trans (Hbel4.out.mono (by omega)))
    · have Hr := Lib.hid (rdR_5 (a := a) (b := b) (c := c) h)
      rw [h]; clear h
      go_wp2
      refine wp_loop_rounds 1 ?_
      rw [rounds_succ]
      go_wp2
      go_ret
      exact gives_new ((Below.refl _ _).alloc (Nat.le_refl _) _) (by simp) (by rw [Hr.out]; rfl) (by rw [Hr.out]; rfl)
end Go.Proofs.YtecolkpnllikaaaDoor
