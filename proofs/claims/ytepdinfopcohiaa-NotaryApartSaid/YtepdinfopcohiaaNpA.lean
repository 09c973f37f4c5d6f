/- The walks of the reference's Missing and All. Conditions: bounds. -/
import Derived.Test.YtepdinfopcohiaaNoX
namespace Go.Proofs.Ytepdinfopcohiaa
open Go.RowKit Go.Lib


def strs (ss : List (List Nat)) : List Value := ss.map fun s => .string (strNo s)
theorem Rd.slen {w : World} {B n : Nat} {A : Option Addr} {l : List (List Nat)} (h : Rd w B 1 A n (strs l)) : l.length = n := by have := h.1; simp [strs] at this; omega
theorem Rd.strG {w : World} {B n k : Nat} {A : Option Addr} {l : List (List Nat)} (h : Rd w B 1 A n (strs l)) (hk : k < n) : ∃ b o, A = some ⟨b, o, none⟩ ∧ b < B ∧ w.cell? ⟨b, o + k, none⟩ = some (.string (strNo (l.getD k []))) := by
  have hl := h.slen
  obtain ⟨b, o, e, hb, hc⟩ := h.2 (by omega)
  refine ⟨b, o, e, hb, hc k _ ?_⟩
  have hkl : k < l.length := by omega
  simp [strs, hkl, List.getD_eq_getElem?_getD]
def lacksN (W : List Nu) (m : Nat) (ks : List Nat) (ss : List (List Nat)) (fs : List Bool) (i : Nat) : Bool :=
  !(fs.getD i false) && (decide (ss.length ≤ i) || !(verN W ⟨ks.getD i 0, m⟩ (ss.getD i [])))
set_option maxRecDepth 100000 in
set_option maxHeartbeats 4000000 in
theorem missingr_any (W : List Nu) (Aw : Option Addr) (nw cw : Nat) (ks : List Nat) (Ak : Option Addr) (nk ck : Nat) (m : Nat) (ss : List (List Nat)) (As : Option Addr) (ns cs : Nat) (fs : List Bool) (Af : Option Addr) (nf cf : Nat) (w : World)
    (hw : Rd w w.heap.size 2 Aw nw (flatN W)) (hnw : nw ≤ 60000) (hk : Rd w w.heap.size 1 Ak nk (bv64 ks)) (hs : Rd w w.heap.size 1 As ns (strs ss)) (hso : ∀ s ∈ ss, ∀ x ∈ s, x < 256)
    (hf : Rd w w.heap.size 1 Af nf (bvB fs)) (hnk : nk ≤ 1000) :
    Calls Try.prog 25 #[.slice Aw nw cw, .slice Ak nk ck, .int .u64 (m : Int), .slice As ns cs, .slice Af nf cf] w fun r w' => ∃ A' n' c', r = .returned (.slice A' n' c') ∧ w'.ownsRow w.heap.size 3 1 (.slice A' n' c') n' (bvI (missTo (lacksN W m ks ss fs) nk)) ∧ Below w.heap.size w w' := by
  obtain ⟨i0, hi, hz0, hz1, hz2⟩ := info_parts info_int
  have HI := Lib.hid (And.intro hi (And.intro hz0 (And.intro hz1 hz2))); clear hi hz0 hz1 hz2
  have Hls := Lib.hid hs.slen; have Hlf := Lib.hid hf.blenB
  have Hk := Lib.hid hk; have Hs := Lib.hid hs; have Hf := Lib.hid hf; have Hso := Lib.hid hso; have Hw := Lib.hid hw
  clear hk hs hf hso hw
  go_enter Try.func25, Try.ntmps25
  go_wp2
  go_loopw [11, 12] (fun v i wr => ∃ (k n11 : Nat), k ≤ nk ∧ i = .int .i64 (k : Int) ∧ n11 ≤ k ∧ Hid (wr.ownsRow w.heap.size 3 1 v n11 (bvI (missTo (lacksN W m ks ss fs) k))) ∧ Hid (Below w.heap.size w wr)) (fun _ i _ => nk - (Lib.intOf i).toNat)
  case atStart => exact ⟨0, 0, Nat.zero_le _, rfl, Nat.le_refl _, Lib.hid (World.ownsRow_nil _ _ _ _), Lib.hid (Below.refl _ _)⟩
  case round =>
    obtain ⟨k, n11, hkn, rfl, hn11, Hown, Hb⟩ := hrel
    obtain ⟨A', c', rfl⟩ := own_form Hown.out
    by_cases hlt : k < nk
    · obtain ⟨b, o, rfl, hbB, x0⟩ := (Hk.out.below Hb.out (Nat.le_refl _)).n64 hlt
      have Hyes := Lib.hid (fun h => miss_yes (p := lacksN W m ks ss fs) (k := k) h)
      have Hno := Lib.hid (fun h => miss_no (p := lacksN W m ks ss fs) (k := k) h)
      have Hlack : Hid (lacksN W m ks ss fs k = (!(fs.getD k false) && (decide (ss.length ≤ k) || !(verN W ⟨ks.getD k 0, m⟩ (ss.getD k []))))) := rfl
      generalize missTo (lacksN W m ks ss fs) k = Mk at *
      generalize lacksN W m ks ss fs k = lk at *
      generalize ks.getD k 0 = d at *
      have hd1 : decide ((k : Int) < (nk : Int)) = true := decide_eq_true (by omega)
      have hi0 : (0 : Int) ≤ (k : Int) := by omega
      have hki : (k : Int) < (nk : Int) := by omega
      generalize hfv : fs.getD k false = fv at *
      have Hfv := Lib.hid hfv
      clear hfv
      go_upto_region 5 with fail
      obtain ⟨w2, rfl⟩ : ∃ w2 : World, w2 = wr := ⟨_, rfl⟩
      go_cut [28] (fun s28 wx => s28 = .bool fv ∧ wx = w2)
      case first =>
        by_cases hkf : k < nf
        · obtain ⟨b5, o5, rfl, hb5, y⟩ := (Hf.out.below Hb.out (Nat.le_refl _)).boolB hkf
          rw [Hfv.out] at y
          have hd2 : decide ((k : Int) < (nf : Int)) = true := decide_eq_true (by omega)
          have hkf2 : (k : Int) < (nf : Int) := by omega
          go_wp2_with fail
          go_meet
          exact ⟨rfl, rfl⟩
        · have hd2 : decide ((k : Int) < (nf : Int)) = false := decide_eq_false (by omega)
          have : fs.getD k false = false := by
            have hkl : fs.length ≤ k := by have := Hlf.out; omega
            simp [List.getD_eq_getElem?_getD, hkl]
          rw [Hfv.out] at this
          subst this
          go_wp2_with fail
          go_meet
          exact ⟨rfl, rfl⟩
      case rest =>
        obtain ⟨rfl, rfl⟩ := hcut
        obtain ⟨w3, rfl⟩ : ∃ w3 : World, w3 = wc := ⟨_, rfl⟩
        cases fv with
        | true =>
          have Hl2 : Hid (lk = false) := by show _ = _; rw [Hlack.out]; rfl
          go_wp2
          go_roundw
          case rel => exact ⟨k + 1, n11, hlt, by go_num, by omega, by rw [Hno.out Hl2.out]; exact Hown, Hb⟩
          case measure => simp [Lib.intOf]; omega
        | false =>
          go_upto_region 6 with fail
          go_cut [47] (fun s47 wx => s47 = .bool lk ∧ Hid (wx.ownsRow w.heap.size 3 1 (.slice A' n11 c') n11 (bvI Mk)) ∧ Hid (Below w.heap.size w wx))
          case first =>
            by_cases hks : k < ns
            · obtain ⟨b6, o6, rfl, hb6, y⟩ := (Hs.out.below Hb.out (Nat.le_refl _)).strG hks
              have hd3 : decide ((ns : Int) ≤ (k : Int)) = false := decide_eq_false (by omega)
              have hd4 : decide (ns ≤ k) = false := decide_eq_false (by omega)
              have hkls : k < ss.length := by have := Hls.out; omega
              have hsm : ss.getD k [] ∈ ss := by
                rw [List.getD_eq_getElem?_getD, List.getElem?_eq_getElem hkls]; exact List.getElem_mem hkls
              have Hs2 := Lib.hid (Hso.out _ hsm)
              have Hv : Hid (lk = !(verN W ⟨d, m⟩ (ss.getD k []))) := by
                show _ = _
                rw [Hlack.out, decide_eq_false (by omega)]; simp
              generalize ss.getD k [] = s6 at *
              have hks2 : (k : Int) < (ns : Int) := by omega
              clear hsm hkls Hlack
              have hS : w3.cell? ⟨b, o + k, none⟩ = some (.int .u64 (d : Int)) ∧ w3.cell? ⟨b6, o6 + k, none⟩ = some (.string (strNo s6)) := ⟨x0, y⟩
              refine wp_region_held_drew (S := fun w' => w'.cell? ⟨b, o + k, none⟩ = some (.int .u64 (d : Int)) ∧ w'.cell? ⟨b6, o6 + k, none⟩ = some (.string (strNo s6))) (by kernel_rfl) hS (fun hHeld => ?_)
              refine takeH 0 (some 29) (v := ?_) rfl (by kernel_rfl) (by kernel_rfl) (by kernel_rfl) (by kernel_rfl) (fun _ _ _ h => h) (Or.inl ⟨by kernel_rfl, ?hy⟩) (by assumption) ?_
              case hy =>
                intro w' hSw
                try dsimp only at hSw
                first
                  | (go_simp; done)
                  | (go_simp; with_reducible rfl)
              simp only [Act.put, List.setIfInBounds_toArray, List.set_cons_zero, List.set_cons_succ]
              refine takeH 1 (some 30) (v := ?_) rfl (by kernel_rfl) (by kernel_rfl) (by kernel_rfl) (by kernel_rfl) (fun _ _ _ h => h) (Or.inl ⟨by kernel_rfl, ?hy⟩) (by assumption) ?_
              case hy =>
                intro w' hSw
                try dsimp only at hSw
                first
                  | (go_simp; done)
                  | (go_simp; with_reducible rfl)
              simp only [Act.put, List.setIfInBounds_toArray, List.set_cons_zero, List.set_cons_succ]
              refine takeH 2 (some 31) (v := ?_) rfl (by kernel_rfl) (by kernel_rfl) (by kernel_rfl) (by kernel_rfl) (fun _ _ _ h => h) (Or.inl ⟨by kernel_rfl, ?hy⟩) (by assumption) ?_
              case hy =>
                intro w' hSw
                try dsimp only at hSw
                first
                  | (go_simp; done)
                  | (go_simp; with_reducible rfl)
              simp only [Act.put, List.setIfInBounds_toArray, List.set_cons_zero, List.set_cons_succ]
              refine takeH 3 (some 32) (v := ?_) rfl (by kernel_rfl) (by kernel_rfl) (by kernel_rfl) (by kernel_rfl) (fun _ _ _ h => h) (Or.inl ⟨by kernel_rfl, ?hy⟩) (by assumption) ?_
              case hy =>
                intro w' hSw
                try dsimp only at hSw
                first
                  | (go_simp; done)
                  | (go_simp; with_reducible rfl)
              simp only [Act.put, List.setIfInBounds_toArray, List.set_cons_zero, List.set_cons_succ]
              refine takeH 4 (some 33) (v := ?_) rfl (by kernel_rfl) (by kernel_rfl) (by kernel_rfl) (by kernel_rfl) (fun _ _ _ h => h) (Or.inl ⟨by kernel_rfl, ?hy⟩) (by assumption) ?_
              case hy =>
                intro w' hSw
                try dsimp only at hSw
                first
                  | (go_simp; done)
                  | (go_simp; with_reducible rfl)
              simp only [Act.put, List.setIfInBounds_toArray, List.set_cons_zero, List.set_cons_succ]
              refine takeH 5 (some 34) (v := ?_) rfl (by kernel_rfl) (by kernel_rfl) (by kernel_rfl) (by kernel_rfl) (fun _ _ _ h => h) (Or.inl ⟨by kernel_rfl, ?hy⟩) (by assumption) ?_
              case hy =>
                intro w' hSw
                try dsimp only at hSw
                first
                  | (go_simp; done)
                  | (go_simp; with_reducible rfl)
              simp only [Act.put, List.setIfInBounds_toArray, List.set_cons_zero, List.set_cons_succ]
              refine takeH 6 (some 35) (v := ?_) rfl (by kernel_rfl) (by kernel_rfl) (by kernel_rfl) (by kernel_rfl) (fun _ _ _ h => h) (Or.inl ⟨by kernel_rfl, ?hy⟩) (by assumption) ?_
              case hy =>
                intro w' hSw
                try dsimp only at hSw
                first
                  | (go_simp; done)
                  | (go_simp; with_reducible rfl)
              simp only [Act.put, List.setIfInBounds_toArray, List.set_cons_zero, List.set_cons_succ]
              refine takeH 7 (some 36) (v := ?_) rfl (by kernel_rfl) (by kernel_rfl) (by kernel_rfl) (by kernel_rfl) (fun _ _ _ h => h) (Or.inl ⟨by kernel_rfl, ?hy⟩) (by assumption) ?_
              case hy =>
                intro w' hSw
                try dsimp only at hSw
                first
                  | (go_simp; done)
                  | (go_simp; with_reducible rfl)
              simp only [Act.put, List.setIfInBounds_toArray, List.set_cons_zero, List.set_cons_succ]
              refine takeH 8 (some 37) (v := ?_) rfl (by kernel_rfl) (by kernel_rfl) (by kernel_rfl) (by kernel_rfl) (fun _ _ _ h => h) (Or.inl ⟨by kernel_rfl, ?hy⟩) (by assumption) ?_
              case hy =>
                intro w' hSw
                try dsimp only at hSw
                first
                  | (go_simp; done)
                  | (go_simp; with_reducible rfl)
              simp only [Act.put, List.setIfInBounds_toArray, List.set_cons_zero, List.set_cons_succ]
              refine takeH 9 (some 38) (v := ?_) rfl (by kernel_rfl) (by kernel_rfl) (by kernel_rfl) (by kernel_rfl) (fun _ _ _ h => h) (Or.inl ⟨by kernel_rfl, ?hy⟩) (by assumption) ?_
              case hy =>
                intro w' hSw
                try dsimp only at hSw
                first
                  | (go_simp; done)
                  | (go_simp; with_reducible rfl)
              simp only [Act.put, List.setIfInBounds_toArray, List.set_cons_zero, List.set_cons_succ]
              refine takeH 10 (some 39) (v := ?_) rfl (by kernel_rfl) (by kernel_rfl) (by kernel_rfl) (by kernel_rfl) (fun _ _ _ h => h) (Or.inl ⟨by kernel_rfl, ?hy⟩) (by assumption) ?_
              case hy =>
                intro w' hSw
                try dsimp only at hSw
                first
                  | (go_simp; done)
                  | (go_simp; with_reducible rfl)
              simp only [Act.put, List.setIfInBounds_toArray, List.set_cons_zero, List.set_cons_succ]
              refine takeH 11 (some 40) (v := ?_) rfl (by kernel_rfl) (by kernel_rfl) (by kernel_rfl) (by kernel_rfl) (fun _ _ _ h => h) (Or.inl ⟨by kernel_rfl, ?hy⟩) (by assumption) ?_
              case hy =>
                intro w' hSw
                try dsimp only at hSw
                first
                  | (go_simp; done)
                  | (go_simp; with_reducible rfl)
              simp only [Act.put, List.setIfInBounds_toArray, List.set_cons_zero, List.set_cons_succ]
              refine takeH 12 (some 41) (v := ?_) rfl (by kernel_rfl) (by kernel_rfl) (by kernel_rfl) (by kernel_rfl) (fun _ _ _ h => h) (Or.inl ⟨by kernel_rfl, ?hy⟩) (by assumption) ?_
              case hy =>
                intro w' hSw
                try dsimp only at hSw
                first
                  | (go_simp; done)
                  | (go_simp; with_reducible rfl)
              simp only [Act.put, List.setIfInBounds_toArray, List.set_cons_zero, List.set_cons_succ]
              refine takeH 13 (some 42) (v := ?_) rfl (by kernel_rfl) (by kernel_rfl) (by kernel_rfl) (by kernel_rfl) (fun _ _ _ h => h) (Or.inl ⟨by kernel_rfl, ?hy⟩) (by assumption) ?_
              case hy =>
                intro w' hSw
                try dsimp only at hSw
                first
                  | (go_simp; done)
                  | (go_simp; with_reducible rfl)
              simp only [Act.put, List.setIfInBounds_toArray, List.set_cons_zero, List.set_cons_succ]
              refine takeH 14 (some 43) (v := ?_) rfl (by kernel_rfl) (by kernel_rfl) (by kernel_rfl) (by kernel_rfl) (fun _ _ _ h => h) (Or.inl ⟨by kernel_rfl, ?hy⟩) (by assumption) ?_
              case hy =>
                intro w' hSw
                try dsimp only at hSw
                first
                  | (go_simp; done)
                  | (go_simp; with_reducible rfl)
              simp only [Act.put, List.setIfInBounds_toArray, List.set_cons_zero, List.set_cons_succ]
              refine takeH 15 (some 44) (v := ?_) rfl (by kernel_rfl) (by kernel_rfl) (by kernel_rfl) (by kernel_rfl) (fun _ _ _ h => h) (Or.inl ⟨by kernel_rfl, ?hy⟩) (by assumption) ?_
              case hy =>
                intro w' hSw
                try dsimp only at hSw
                first
                  | (go_simp; done)
                  | (go_simp; with_reducible rfl)
              simp only [Act.put, List.setIfInBounds_toArray, List.set_cons_zero, List.set_cons_succ]
              refine wpAnyH_ready (rs := [16]) (by kernel_rfl) (by simp) ?_
              refine AllReadyH.cons rfl (fun K hK => ?_) AllReadyH.nil
              rw [if_pos (by kernel_rfl)]
              go_simp
              refine (verifyr_any W ⟨d, m⟩ s6 Aw nw cw w3.drew ((Hw.out.below Hb.out (Nat.le_refl _)).more Hb.out.size) hnw Hs2.out).mono ?_
              rintro r v1 ⟨rfl, hb⟩
              have hq := (Below.refl w3.heap.size w3).drew.trans hb
              have hS1 : v1.cell? ⟨b, o + k, none⟩ = some (.int .u64 (d : Int)) ∧ v1.cell? ⟨b6, o6 + k, none⟩ = some (.string (strNo s6)) := ⟨cell_kept x0 hq (by have := Hb.out.size; omega), cell_kept y hq (by have := Hb.out.size; omega)⟩
              have HO1 := Lib.hid (own_below Hown.out hq); have Hb1 := Lib.hid (Hb.out.trans (hq.mono Hb.out.size))
              refine hK.out _ _ hS1 (fun _ => ?_)
              clear hK K hS y
              generalize verN W ⟨d, m⟩ s6 = vb at *
              refine takeH 17 (some 46) (v := ?_) rfl (by kernel_rfl) (by kernel_rfl) (by kernel_rfl) (by kernel_rfl) (fun _ _ _ h => h) (Or.inl ⟨by kernel_rfl, ?hy⟩) (by assumption) ?_
              case hy =>
                intro w' hSw
                try dsimp only at hSw
                first
                  | (go_simp; done)
                  | (go_simp; with_reducible rfl)
              simp only [Act.put, List.setIfInBounds_toArray, List.set_cons_zero, List.set_cons_succ]
              refine takeH 18 (some 47) (v := ?_) rfl (by kernel_rfl) (by kernel_rfl) (by kernel_rfl) (by kernel_rfl) (fun _ _ _ h => h) (Or.inl ⟨by kernel_rfl, ?hy⟩) (by assumption) ?_
              case hy =>
                intro w' hSw
                try dsimp only at hSw
                first
                  | (go_simp; done)
                  | (go_simp; with_reducible rfl)
              simp only [Act.put, List.setIfInBounds_toArray, List.set_cons_zero, List.set_cons_succ]
              refine wpAnyH_done (by kernel_rfl) ?_ _
              go_wp2_with fail
              go_meet
              exact ⟨by rw [Hv.out], HO1, Hb1⟩
            · have hd3 : decide ((ns : Int) ≤ (k : Int)) = true := decide_eq_true (by omega)
              have hd4 : decide (ns ≤ k) = true := decide_eq_true (by omega)
              have Hv : Hid (lk = true) := by
                show _ = _
                rw [Hlack.out, decide_eq_true (by have := Hls.out; omega)]; simp
              refine wp_region_held_drew (S := fun _ => True) (by kernel_rfl) trivial (fun hHeld => ?_)
              refine takeH 0 (some 29) (v := ?_) rfl (by kernel_rfl) (by kernel_rfl) (by kernel_rfl) (by kernel_rfl) (fun _ _ _ h => h) (Or.inl ⟨by kernel_rfl, ?hy⟩) (by assumption) ?_
              case hy =>
                intro w' hSw
                try dsimp only at hSw
                first
                  | (go_simp; done)
                  | (go_simp; with_reducible rfl)
              simp only [Act.put, List.setIfInBounds_toArray, List.set_cons_zero, List.set_cons_succ]
              refine takeH 1 (some 30) (v := ?_) rfl (by kernel_rfl) (by kernel_rfl) (by kernel_rfl) (by kernel_rfl) (fun _ _ _ h => h) (Or.inl ⟨by kernel_rfl, ?hy⟩) (by assumption) ?_
              case hy =>
                intro w' hSw
                try dsimp only at hSw
                first
                  | (go_simp; done)
                  | (go_simp; with_reducible rfl)
              simp only [Act.put, List.setIfInBounds_toArray, List.set_cons_zero, List.set_cons_succ]
              refine takeH 2 (some 31) (v := ?_) rfl (by kernel_rfl) (by kernel_rfl) (by kernel_rfl) (by kernel_rfl) (fun _ _ _ h => h) (Or.inl ⟨by kernel_rfl, ?hy⟩) (by assumption) ?_
              case hy =>
                intro w' hSw
                try dsimp only at hSw
                first
                  | (go_simp; done)
                  | (go_simp; with_reducible rfl)
              simp only [Act.put, List.setIfInBounds_toArray, List.set_cons_zero, List.set_cons_succ]
              refine takeH 3 (some 32) (v := ?_) rfl (by kernel_rfl) (by kernel_rfl) (by kernel_rfl) (by kernel_rfl) (fun _ _ _ h => h) (Or.inl ⟨by kernel_rfl, ?hy⟩) (by assumption) ?_
              case hy =>
                intro w' hSw
                try dsimp only at hSw
                first
                  | (go_simp; done)
                  | (go_simp; with_reducible rfl)
              simp only [Act.put, List.setIfInBounds_toArray, List.set_cons_zero, List.set_cons_succ]
              refine takeH 4 (some 33) (v := ?_) rfl (by kernel_rfl) (by kernel_rfl) (by kernel_rfl) (by kernel_rfl) (fun _ _ _ h => h) (Or.inl ⟨by kernel_rfl, ?hy⟩) (by assumption) ?_
              case hy =>
                intro w' hSw
                try dsimp only at hSw
                first
                  | (go_simp; done)
                  | (go_simp; with_reducible rfl)
              simp only [Act.put, List.setIfInBounds_toArray, List.set_cons_zero, List.set_cons_succ]
              refine takeH 5 (some 34) (v := undef) rfl (by kernel_rfl) (by kernel_rfl) (by kernel_rfl) (by kernel_rfl) (fun _ _ _ h => h) (Or.inr ⟨by kernel_rfl, rfl⟩) (by assumption) ?_
              simp only [Act.put, List.setIfInBounds_toArray, List.set_cons_zero, List.set_cons_succ]
              refine takeH 6 (some 35) (v := undef) rfl (by kernel_rfl) (by kernel_rfl) (by kernel_rfl) (by kernel_rfl) (fun _ _ _ h => h) (Or.inr ⟨by kernel_rfl, rfl⟩) (by assumption) ?_
              simp only [Act.put, List.setIfInBounds_toArray, List.set_cons_zero, List.set_cons_succ]
              refine takeH 7 (some 36) (v := undef) rfl (by kernel_rfl) (by kernel_rfl) (by kernel_rfl) (by kernel_rfl) (fun _ _ _ h => h) (Or.inr ⟨by kernel_rfl, rfl⟩) (by assumption) ?_
              simp only [Act.put, List.setIfInBounds_toArray, List.set_cons_zero, List.set_cons_succ]
              refine takeH 8 (some 37) (v := undef) rfl (by kernel_rfl) (by kernel_rfl) (by kernel_rfl) (by kernel_rfl) (fun _ _ _ h => h) (Or.inr ⟨by kernel_rfl, rfl⟩) (by assumption) ?_
              simp only [Act.put, List.setIfInBounds_toArray, List.set_cons_zero, List.set_cons_succ]
              refine takeH 9 (some 38) (v := undef) rfl (by kernel_rfl) (by kernel_rfl) (by kernel_rfl) (by kernel_rfl) (fun _ _ _ h => h) (Or.inr ⟨by kernel_rfl, rfl⟩) (by assumption) ?_
              simp only [Act.put, List.setIfInBounds_toArray, List.set_cons_zero, List.set_cons_succ]
              refine takeH 10 (some 39) (v := undef) rfl (by kernel_rfl) (by kernel_rfl) (by kernel_rfl) (by kernel_rfl) (fun _ _ _ h => h) (Or.inr ⟨by kernel_rfl, rfl⟩) (by assumption) ?_
              simp only [Act.put, List.setIfInBounds_toArray, List.set_cons_zero, List.set_cons_succ]
              refine takeH 11 (some 40) (v := undef) rfl (by kernel_rfl) (by kernel_rfl) (by kernel_rfl) (by kernel_rfl) (fun _ _ _ h => h) (Or.inr ⟨by kernel_rfl, rfl⟩) (by assumption) ?_
              simp only [Act.put, List.setIfInBounds_toArray, List.set_cons_zero, List.set_cons_succ]
              refine takeH 12 (some 41) (v := undef) rfl (by kernel_rfl) (by kernel_rfl) (by kernel_rfl) (by kernel_rfl) (fun _ _ _ h => h) (Or.inr ⟨by kernel_rfl, rfl⟩) (by assumption) ?_
              simp only [Act.put, List.setIfInBounds_toArray, List.set_cons_zero, List.set_cons_succ]
              refine takeH 13 (some 42) (v := undef) rfl (by kernel_rfl) (by kernel_rfl) (by kernel_rfl) (by kernel_rfl) (fun _ _ _ h => h) (Or.inr ⟨by kernel_rfl, rfl⟩) (by assumption) ?_
              simp only [Act.put, List.setIfInBounds_toArray, List.set_cons_zero, List.set_cons_succ]
              refine takeH 14 (some 43) (v := undef) rfl (by kernel_rfl) (by kernel_rfl) (by kernel_rfl) (by kernel_rfl) (fun _ _ _ h => h) (Or.inr ⟨by kernel_rfl, rfl⟩) (by assumption) ?_
              simp only [Act.put, List.setIfInBounds_toArray, List.set_cons_zero, List.set_cons_succ]
              refine takeH 15 (some 44) (v := undef) rfl (by kernel_rfl) (by kernel_rfl) (by kernel_rfl) (by kernel_rfl) (fun _ _ _ h => h) (Or.inr ⟨by kernel_rfl, rfl⟩) (by assumption) ?_
              simp only [Act.put, List.setIfInBounds_toArray, List.set_cons_zero, List.set_cons_succ]
              refine takeH 16 (some 45) (v := undef) rfl (by kernel_rfl) (by kernel_rfl) (by kernel_rfl) (by kernel_rfl) (fun _ _ _ h => h) (Or.inr ⟨by kernel_rfl, rfl⟩) (by assumption) ?_
              simp only [Act.put, List.setIfInBounds_toArray, List.set_cons_zero, List.set_cons_succ]
              refine takeH 17 (some 46) (v := undef) rfl (by kernel_rfl) (by kernel_rfl) (by kernel_rfl) (by kernel_rfl) (fun _ _ _ h => h) (Or.inr ⟨by kernel_rfl, rfl⟩) (by assumption) ?_
              simp only [Act.put, List.setIfInBounds_toArray, List.set_cons_zero, List.set_cons_succ]
              refine takeH 18 (some 47) (v := ?_) rfl (by kernel_rfl) (by kernel_rfl) (by kernel_rfl) (by kernel_rfl) (fun _ _ _ h => h) (Or.inl ⟨by kernel_rfl, ?hy⟩) (by assumption) ?_
              case hy =>
                intro w' hSw
                try dsimp only at hSw
                first
                  | (go_simp; done)
                  | (go_simp; with_reducible rfl)
              simp only [Act.put, List.setIfInBounds_toArray, List.set_cons_zero, List.set_cons_succ]
              refine wpAnyH_done (by kernel_rfl) ?_ _
              go_wp2_with fail
              go_meet
              exact ⟨by rw [Hv.out], Lib.hid (own_below Hown.out (Below.refl _ _).drew), Lib.hid Hb.out.drew⟩
          case rest =>
            obtain ⟨rfl, HO3, Hb3⟩ := hcut
            cases lk with
            | false =>
              go_wp2
              go_roundw
              case rel => exact ⟨k + 1, n11, hlt, by go_num, by omega, by rw [Hno.out rfl]; exact HO3, Hb3⟩
              case measure => simp [Lib.intOf]; omega
            | true =>
              have Hu := Lib.hid Try.underlying67
              go_wp2_with (at_builtin; go_must (refine wpList_append_lit wc (by rfl) _ _ 67 (by rfl) w.heap.size 3 i0 (.int .i64 0) 1 8 Hu.out HI.out rfl (by decide) _ _ _ (by rfl) HO3.out 1 1 #[.int .i64 (k : Int)] 3 (by simp [Act.eval]) rfl (by simp [Value.oneCell']) (by omega) (by omega) (by have := Hb3.out.size; omega) ?_); intro v5 w5 hown5 hbel5; have HO5 := Lib.hid hown5; have Hb5 := Lib.hid (Hb3.out.trans hbel5); clear hown5 hbel5)
              go_roundw
              case rel => exact ⟨k + 1, n11 + 1, hlt, by go_num, by omega, by rw [Hyes.out rfl, bvI_append]; exact HO5, Hb5⟩
              case measure => simp [Lib.intOf]; omega
    · have hkk : k = nk := by omega
      subst hkk
      have hd1 : decide ((k : Int) < (k : Int)) = false := by simp
      clear hlt
      go_wp2
      go_ret
      exact ⟨A', n11, c', rfl, Hown.out, Hb.out⟩
end Go.Proofs.Ytepdinfopcohiaa
