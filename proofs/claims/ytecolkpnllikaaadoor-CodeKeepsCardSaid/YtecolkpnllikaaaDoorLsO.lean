/- The walk of Parse: the instructions that a text lists. Condition: the tables read as laid; a bound on the text's length. -/
import Derived.Test.YtecolkpnllikaaaDoorLsM
import Derived.Test.YtecolkpnllikaaaDoorCodeN
import Derived.Deep.DeepCutAuto
namespace Go.Proofs.YtecolkpnllikaaaDoor
open Go.RowKit Go.Lib
/-- The table of operations, as one value. -/
def opsV : Array Value := ((List.range 22).flatMap fun k : Nat => [Value.string (nameOf (k : Int)), Value.string (hasOf (k : Int))]).toArray
theorem ops_get (k : Nat) (hk : k < 22) : opsV.toList[k * 2]? = some (.string (nameOf k)) ∧ opsV.toList[k * 2 + 1]? = some (.string (hasOf k)) := by
  have h : ∀ (n k : Nat) (l : List Nat), l.length = n → (l.flatMap fun k : Nat => [Value.string (nameOf (k : Int)), Value.string (hasOf (k : Int))])[k * 2]? = l[k]?.map (fun k : Nat => Value.string (nameOf (k : Int))) ∧ (l.flatMap fun k : Nat => [Value.string (nameOf (k : Int)), Value.string (hasOf (k : Int))])[k * 2 + 1]? = l[k]?.map (fun k : Nat => Value.string (hasOf (k : Int))) := by
    intro n
    induction n with
    | zero => intro k l hl; obtain rfl := List.length_eq_zero_iff.1 hl; simp
    | succ n ih =>
      intro k l hl
      cases l with
      | nil => simp at hl
      | cons x l =>
        cases k with
        | zero => simp
        | succ k =>
          have := ih k l (by simpa using hl)
          rw [show (k + 1) * 2 = k * 2 + 1 + 1 by omega]
          simpa using this
  have := h 22 k (List.range 22) (by simp)
  rw [List.getElem?_range hk] at this
  exact this
theorem ops_size : opsV.toList.length = 44 := by
  unfold opsV
  simp [List.length_flatMap]
  decide
theorem ops_range {w : World} (hT : OpTab w) : w.rangeAt 0 0 opsV.toList := by
  intro j v hj
  rw [Nat.zero_add]
  have hlt : j < 44 := by rw [← ops_size]; exact (List.getElem?_eq_some_iff.1 hj).1
  have hk : j / 2 < 22 := by omega
  have h1 := hT.2 ((j / 2 : Nat) : Int) (by omega) (by omega)
  have h2 := ops_get (j / 2) hk
  rw [show (((j / 2 : Nat) : Int)).toNat = j / 2 by omega] at h1
  rcases (by omega : j = j / 2 * 2 ∨ j = j / 2 * 2 + 1) with e | e
  · rw [e, h2.1] at hj
    rw [e, h1.1]; exact hj
  · rw [e, h2.2] at hj
    rw [e, h1.2]; exact hj
set_option maxRecDepth 100000
theorem ixo0 (w : World) : (Instr.index 76 (.agg opsV) (.int .i64 0)).run Tryd.prog w = .ok (.agg #[.string (nameOf 0), .string (hasOf 0)]) w := by kernel_rfl
theorem ixo1 (w : World) : (Instr.index 76 (.agg opsV) (.int .i64 1)).run Tryd.prog w = .ok (.agg #[.string (nameOf 1), .string (hasOf 1)]) w := by kernel_rfl
theorem ixo2 (w : World) : (Instr.index 76 (.agg opsV) (.int .i64 2)).run Tryd.prog w = .ok (.agg #[.string (nameOf 2), .string (hasOf 2)]) w := by kernel_rfl
theorem ixo3 (w : World) : (Instr.index 76 (.agg opsV) (.int .i64 3)).run Tryd.prog w = .ok (.agg #[.string (nameOf 3), .string (hasOf 3)]) w := by kernel_rfl
theorem ixo4 (w : World) : (Instr.index 76 (.agg opsV) (.int .i64 4)).run Tryd.prog w = .ok (.agg #[.string (nameOf 4), .string (hasOf 4)]) w := by kernel_rfl
theorem ixo5 (w : World) : (Instr.index 76 (.agg opsV) (.int .i64 5)).run Tryd.prog w = .ok (.agg #[.string (nameOf 5), .string (hasOf 5)]) w := by kernel_rfl
theorem ixo6 (w : World) : (Instr.index 76 (.agg opsV) (.int .i64 6)).run Tryd.prog w = .ok (.agg #[.string (nameOf 6), .string (hasOf 6)]) w := by kernel_rfl
theorem ixo7 (w : World) : (Instr.index 76 (.agg opsV) (.int .i64 7)).run Tryd.prog w = .ok (.agg #[.string (nameOf 7), .string (hasOf 7)]) w := by kernel_rfl
theorem ixo8 (w : World) : (Instr.index 76 (.agg opsV) (.int .i64 8)).run Tryd.prog w = .ok (.agg #[.string (nameOf 8), .string (hasOf 8)]) w := by kernel_rfl
theorem ixo9 (w : World) : (Instr.index 76 (.agg opsV) (.int .i64 9)).run Tryd.prog w = .ok (.agg #[.string (nameOf 9), .string (hasOf 9)]) w := by kernel_rfl
theorem ixo10 (w : World) : (Instr.index 76 (.agg opsV) (.int .i64 10)).run Tryd.prog w = .ok (.agg #[.string (nameOf 10), .string (hasOf 10)]) w := by kernel_rfl
theorem ixo11 (w : World) : (Instr.index 76 (.agg opsV) (.int .i64 11)).run Tryd.prog w = .ok (.agg #[.string (nameOf 11), .string (hasOf 11)]) w := by kernel_rfl
theorem ixo12 (w : World) : (Instr.index 76 (.agg opsV) (.int .i64 12)).run Tryd.prog w = .ok (.agg #[.string (nameOf 12), .string (hasOf 12)]) w := by kernel_rfl
theorem ixo13 (w : World) : (Instr.index 76 (.agg opsV) (.int .i64 13)).run Tryd.prog w = .ok (.agg #[.string (nameOf 13), .string (hasOf 13)]) w := by kernel_rfl
theorem ixo14 (w : World) : (Instr.index 76 (.agg opsV) (.int .i64 14)).run Tryd.prog w = .ok (.agg #[.string (nameOf 14), .string (hasOf 14)]) w := by kernel_rfl
theorem ixo15 (w : World) : (Instr.index 76 (.agg opsV) (.int .i64 15)).run Tryd.prog w = .ok (.agg #[.string (nameOf 15), .string (hasOf 15)]) w := by kernel_rfl
theorem ixo16 (w : World) : (Instr.index 76 (.agg opsV) (.int .i64 16)).run Tryd.prog w = .ok (.agg #[.string (nameOf 16), .string (hasOf 16)]) w := by kernel_rfl
theorem ixo17 (w : World) : (Instr.index 76 (.agg opsV) (.int .i64 17)).run Tryd.prog w = .ok (.agg #[.string (nameOf 17), .string (hasOf 17)]) w := by kernel_rfl
theorem ixo18 (w : World) : (Instr.index 76 (.agg opsV) (.int .i64 18)).run Tryd.prog w = .ok (.agg #[.string (nameOf 18), .string (hasOf 18)]) w := by kernel_rfl
theorem ixo19 (w : World) : (Instr.index 76 (.agg opsV) (.int .i64 19)).run Tryd.prog w = .ok (.agg #[.string (nameOf 19), .string (hasOf 19)]) w := by kernel_rfl
theorem ixo20 (w : World) : (Instr.index 76 (.agg opsV) (.int .i64 20)).run Tryd.prog w = .ok (.agg #[.string (nameOf 20), .string (hasOf 20)]) w := by kernel_rfl
theorem ixo21 (w : World) : (Instr.index 76 (.agg opsV) (.int .i64 21)).run Tryd.prog w = .ok (.agg #[.string (nameOf 21), .string (hasOf 21)]) w := by kernel_rfl
theorem ixo (k : Nat) (hk : k < 22) (w : World) : (Instr.index 76 (.agg opsV) (.int .i64 (k : Int))).run Tryd.prog w = .ok (.agg #[.string (nameOf k), .string (hasOf k)]) w := by
  match k, hk with
  | 0, _ => exact ixo0 w
  | 1, _ => exact ixo1 w
  | 2, _ => exact ixo2 w
  | 3, _ => exact ixo3 w
  | 4, _ => exact ixo4 w
  | 5, _ => exact ixo5 w
  | 6, _ => exact ixo6 w
  | 7, _ => exact ixo7 w
  | 8, _ => exact ixo8 w
  | 9, _ => exact ixo9 w
  | 10, _ => exact ixo10 w
  | 11, _ => exact ixo11 w
  | 12, _ => exact ixo12 w
  | 13, _ => exact ixo13 w
  | 14, _ => exact ixo14 w
  | 15, _ => exact ixo15 w
  | 16, _ => exact ixo16 w
  | 17, _ => exact ixo17 w
  | 18, _ => exact ixo18 w
  | 19, _ => exact ixo19 w
  | 20, _ => exact ixo20 w
  | 21, _ => exact ixo21 w
  | n + 22, h => exact absurd h (by omega)
theorem ops_at : ∀ k : Fin 22, opsL[k.val]? = some (nameOf (k.val : Int)) := by decide +kernel
theorem ops_take {k : Nat} (hk : k < 22) : opsL.take (k + 1) = opsL.take k ++ [nameOf (k : Int)] := by
  have h1 := ops_at ⟨k, hk⟩
  have hl : k < opsL.length := by rw [ops_len]; exact hk
  rw [List.take_succ_eq_append_getElem hl]
  rw [List.getElem?_eq_getElem hl] at h1
  congr 2
  simpa using h1
theorem ops_new {k : Nat} (hk : k < 22) : nameOf (k : Int) ∉ opsL.take k := by
  have hn := ops_nodup
  have h1 := ops_take hk
  have h2 : (opsL.take (k + 1)).Nodup := hn.sublist (List.take_sublist _ _)
  rw [h1, List.nodup_append] at h2
  intro hm
  exact h2.2.2 _ hm _ (by simp) rfl
theorem name_small {k : Nat} (hk : k < 22) : (nameOf (k : Int)).size ≤ maxLen := ops_small _ (List.mem_of_getElem? (ops_at ⟨k, hk⟩))
theorem MaxAt.below {w w' : World} (h : MaxAt w) (hb : Below w.heap.size w w') (h1 : 1 < w.heap.size) : MaxAt w' := by
  obtain ⟨m, hm⟩ := h
  exact ⟨m, (hb.cell (p := ⟨_, 0, none⟩) h1).trans hm⟩
theorem run_makeMap22 (w : World) : (Instr.makeMap 105 (some (.int .i64 22))).run Tryd.prog w = .ok (.map (some w.heap.size)) (w.alloc (.map #[] 0)) := by
  simp [Instr.makeMap, run_underlying Tryd.underlying105, asInt]
  rfl
def GivesT (w : World) (r : List Ins × Int × Int) (e : Ending) (w' : World) : Prop :=
  ∃ A n c, e = .returned (.tuple #[.slice A n c, .int .i64 r.2.1, .int .i64 r.2.2]) ∧ Rd w' w'.heap.size 4 A n (flat r.1) ∧ n = r.1.length ∧ Below w.heap.size w w'
theorem cut_le (s : List UInt8) (c : UInt8) : (Lib.cut s [c]).1.length ≤ s.length := by
  rcases cut_cases c s with ⟨a, r, e, _, h2⟩ | ⟨_, h2⟩
  · rw [h2, e]; simp
  · rw [h2]; exact Nat.le_refl _
def sizeV : Value → Nat
  | .string s => s.size
  | _ => 0
set_option maxHeartbeats 4000000 in
theorem parse_any (s : List UInt8) (w : World) (hT : OpTab w) (hM : MaxAt w) (h1 : 1 < w.heap.size) (hs : s.length ≤ 1000000) : Calls Tryd.prog 32 #[.string (byt s)] w (GivesT w (parseT s)) := by
  obtain ⟨i0, hi, hz0, hz1, hz2⟩ := info_parts info_Instr
  have HI := Lib.hid (And.intro hi (And.intro hz0 (And.intro hz1 hz2))); clear hi hz0 hz1 hz2
  have hmm := run_makeMap22
  have hsz : (byt s).size = s.length := byt_size s
  have HT := Lib.hid hT; have HM := Lib.hid hM
  clear hT hM
  by_cases hbig : 131072 < s.length
  · have hb : decide ((131072 : Int) < (s.length : Int)) = true := decide_eq_true (by omega)
    have Hres : Hid (parseT s = ([], 0, 2)) := Lib.hid (by unfold parseT; rw [if_pos hbig])
    clear hmm hbig
    go_enter Tryd.func32, Tryd.ntmps32
    go_wp2
    go_ret3
    exact ⟨none, 0, 0, by rw [Hres.out]; rfl, by rw [Hres.out]; exact Rd.empty, by rw [Hres.out]; rfl, Below.refl _ _⟩
  have hb : decide ((131072 : Int) < (s.length : Int)) = false := decide_eq_false (by omega)
  have Hres : Hid (parseT s = goT s 1 []) := Lib.hid (by unfold parseT; rw [if_neg hbig])
  clear hbig
  go_enter Tryd.func32, Tryd.ntmps32
  go_upto_region 4 with fail
  have HT1 := Lib.hid (HT.out.alloc (.map #[] 0))
  have HM1 := Lib.hid (HM.out.below (below_one w (.map #[] 0)) h1)
  have HP1 : Hid (PlacesS (w.alloc (.map #[] 0)) w.heap.size []) := Lib.hid ⟨#[], 0, heap_alloc_new w _, rfl⟩
  have Hb1 := Lib.hid (below_one w (.map #[] 0))
  have hs1 : (w.alloc (.map #[] 0)).heap.size = w.heap.size + 1 := by simp
  generalize w.alloc (.map #[] 0) = w1 at *
  refine wp_region_list ?_
  refine wpList_load_mid (by rfl) 76 _ (by rfl) 0 0 (by rfl) opsV.toList _ (ops_range HT1.out) Tryd.underlying76 rfl (by rw [ops_size]; kernel_rfl) ?_
  rw [Array.toArray_toList]
  clear hmm
  go_wp2
  go_loopw [22] (fun i wr => ∃ k : Nat, k ≤ 22 ∧ i = .int .i64 (k : Int) ∧ PlacesS wr w.heap.size (opsL.take k) ∧ Below w.heap.size w wr ∧ w.heap.size < wr.heap.size) (fun i _ => 22 - (RowKit.intOf i).toNat)
  case atStart => exact ⟨0, by omega, rfl, HP1.out, Hb1.out, by omega⟩
  case round =>
    obtain ⟨k, hk, rfl, hp, hbel, hlt⟩ := hrel
    have HP := Lib.hid hp; have Hb := Lib.hid hbel
    clear hp hbel HP1 HT1 HM1 Hb1
    by_cases hk2 : k < 22
    · have hix := ixo k hk2
      have HPa := HP.out.same (Below.heap_alloc wr (.cells #[.string (nameOf (k : Int)), .string (hasOf (k : Int))] 75) _ hlt)
      obtain ⟨w6, hrun, hp6, hg6⟩ := put_placesS HPa (fun e he => ops_small e (List.mem_of_mem_take he)) (nameOf (k : Int)) (name_small hk2) (ops_new hk2)
      rw [← ops_take hk2] at hp6
      have hlk : (opsL.take k).length = k := by rw [List.length_take, ops_len]; omega
      rw [hlk] at hrun
      have HP6 := Lib.hid hp6
      have hsz6 := hg6.size
      simp at hsz6
      have hb6 : Below w.heap.size w w6 := by
        have h1 := Hb.out.alloc Hb.out.size (.cells #[.string (nameOf (k : Int)), .string (hasOf (k : Int))] 75)
        exact h1.trans (below_of_grown hg6 (by simp; omega) (fun q hq => by injection hq with hq; omega))
      have Hb6 := Lib.hid hb6
      have hin : (k : Int) < 22 := by omega
      have hin0 : (0 : Int) ≤ (k : Int) := by omega
      clear hp6 hg6 hb6 HPa
      go_wp2_with fail
      go_roundw
      case rel => exact ⟨k + 1, by omega, by go_num, HP6.out, Hb6.out, by omega⟩
      case measure => simp [RowKit.intOf]; omega
    · obtain rfl : k = 22 := by omega
      have hP : PlacesS wr w.heap.size opsL := by
        have := HP.out
        rwa [List.take_of_length_le (Nat.le_of_eq ops_len)] at this
      have HPl := Lib.hid hP
      clear hP HP hk2 hk hs1
      go_wp2
      generalize wr = wl at *
      go_loopw [0, 8, 9] (fun v0 v8 v9 wr => ∃ (s' : List UInt8) (ln : Nat) (acc : List Ins) (A : Option Addr) (c : Nat), v0 = .string (byt s') ∧ v8 = .slice A acc.length c ∧ v9 = .int .i64 (ln : Int) ∧ goT s' ln acc = goT s 1 [] ∧
          ln + s'.length ≤ s.length + 1 ∧ acc.length + s'.length ≤ s.length ∧ wr.ownsRow wl.heap.size 24 4 (.slice A acc.length c) acc.length (flat acc) ∧ PlacesS wr w.heap.size opsL ∧ Below w.heap.size w wr ∧ wl.heap.size ≤ wr.heap.size) (fun v0 _ _ _ => sizeV v0)
      case atStart => exact ⟨s, 1, [], none, 0, rfl, rfl, rfl, rfl, by omega, by simp, World.ownsRow_nil _ _ _ _, HPl.out, Hb.out, Nat.le_refl _⟩
      case round =>
        obtain ⟨s', ln, acc, A6, c6, rfl, rfl, rfl, hgo, hln, hac, hown, hp, hbel, hs3⟩ := hrel
        have Hgo := Lib.hid hgo; have Hown := Lib.hid hown; have HP := Lib.hid hp; have Hbel := Lib.hid hbel
        have hsz2 : (byt s').size = s'.length := byt_size s'
        have e1 : (byt s').toList.isEmpty = decide (s' = []) := byt_empty s'
        clear hgo hown hp hbel HPl Hb
        by_cases hemp : s' = []
        · subst hemp
          have hgo2 := Hgo.out
          rw [goT_nil] at hgo2
          have HG := Lib.hid hgo2
          have Hrd := Lib.hid (Rd.of_own Hown.out)
          have e2 : (byt []).toList.isEmpty = true := by rw [e1]; rfl
          clear hgo2 e1 hsz2 Hgo
          go_wp2_with fail
          refine (check_any A6 acc.length c6 acc 256 _ (HT.out.below Hbel.out (by omega)) Hrd.out (by omega)).mono ?_
          rintro e w6 ⟨rfl, hb6⟩
          have Hbel6 := Lib.hid (Hbel.out.trans (hb6.mono Hbel.out.size))
          have Hrd6 := Lib.hid ((Hrd.out.below hb6 (Nat.le_refl _)).more hb6.size)
          clear hb6
          by_cases he6 : (checkI acc 256).2 = 0
          · have b6 : ((checkI acc 256).2 != 0) = false := by simpa using he6
            have Hr : Hid ((acc, (0 : Int), (0 : Int)) = parseT s) := Lib.hid (by rw [Hres.out, ← HG.out, if_neg (by simpa using he6)])
            clear he6
            go_wp2
            go_ret3
            exact ⟨A6, acc.length, c6, by rw [← Hr.out]; rfl, by rw [← Hr.out]; exact Hrd6.out, by rw [← Hr.out], Hbel6.out⟩
          · have b6 : ((checkI acc 256).2 != 0) = true := by simpa using he6
            have Hr : Hid (([], (0 : Int), (checkI acc 256).2) = parseT s) := Lib.hid (by rw [Hres.out, ← HG.out, if_pos he6])
            clear he6
            go_wp2
            go_ret3
            exact ⟨none, 0, 0, by rw [← Hr.out]; rfl, by rw [← Hr.out]; exact Rd.empty, by rw [← Hr.out]; rfl, Hbel6.out⟩
        · rw [decide_eq_false hemp] at e1
          have hcut := cut_shorter s' 10 hemp
          have hcl : (Lib.cut s' [10]).1.length ≤ s'.length := cut_le s' 10
          have Hnx := Lib.hid (fun h => (goT_good (line := ln) (acc := acc) hemp h).symm.trans Hgo.out)
          have Hbd := Lib.hid (fun h => (goT_bad (line := ln) (acc := acc) hemp h).symm.trans Hgo.out)
          have hstep : stepE s' = ((lineE (Lib.cut s' [10]).1).1, if (lineE (Lib.cut s' [10]).1).2 = 0 ∧ (Lib.cut s' [10]).2.2 = false then 4 else (lineE (Lib.cut s' [10]).1).2) := rfl
          obtain ⟨m, hm⟩ := HM.out.below Hbel.out h1
          have HCut := Tryd.strings_Cut (byt s') ⟨#[10]⟩ m wr (by omega) hm
          rw [byt_data, show (⟨#[10]⟩ : ByteArray).data.toList = [10] from rfl] at HCut
          have HMm : Hid (MaxAt wr) := Lib.hid ⟨m, hm⟩
          have HTm : Hid (OpTab wr) := Lib.hid (HT.out.below Hbel.out (by omega))
          generalize Lib.cut s' [10] = cc at *
          obtain ⟨c1, c2, c3⟩ := cc
          simp only at hcut hcl Hnx hstep HCut
          have HC := Lib.hid HCut
          have HS := Lib.hid hstep
          clear hm HCut hstep hemp
          go_wp2_with fail
          refine HC.out.mono ?_
          rintro e w4 ⟨rfl, nd, rfl⟩
          rw [show (⟨c1.toArray⟩ : ByteArray) = byt c1 from rfl, show (⟨c2.toArray⟩ : ByteArray) = byt c2 from rfl]
          have hd := below_drewN (Below.refl wr.heap.size wr) nd
          have Hbel4 := Lib.hid (Hbel.out.trans (hd.mono Hbel.out.size))
          have Hown4 := Lib.hid (own_below Hown.out hd)
          have hlt := HP.out
          have HP4 : Hid (PlacesS (wr.drewN nd) w.heap.size opsL) := Lib.hid (HP.out.same (hd.block _ (by obtain ⟨es, cl, h, _⟩ := HP.out; exact block_lt h)))
          have hs4 : wl.heap.size ≤ (wr.drewN nd).heap.size := Nat.le_trans hs3 hd.size
          have hb4 : w.heap.size < (wr.drewN nd).heap.size := by obtain ⟨es, cl, h, _⟩ := HP4.out; exact block_lt h
          clear hd hlt HP Hbel HC
          generalize wr.drewN nd = w4 at *
          go_wp2_with fail
          refine (parse1_any c1 w.heap.size w4 (HT.out.below Hbel4.out (by omega)) (HM.out.below Hbel4.out h1) HP4.out (by omega) (by omega) hb4).mono ?_
          rintro e w5 ⟨rfl, hb5⟩
          have Hbel5 := Lib.hid (Hbel4.out.trans (hb5.mono Hbel4.out.size))
          have Hown5 := Lib.hid (own_below Hown4.out hb5)
          have HP5 := Lib.hid (HP4.out.same (hb5.block _ hb4))
          have hs5 : wl.heap.size ≤ w5.heap.size := Nat.le_trans hs4 hb5.size
          have hw5 : w.heap.size < w5.heap.size := Nat.lt_of_lt_of_le hb4 hb5.size
          clear hb5 hb4 Hbel4 Hown4 HP4 hs4
          generalize lineE c1 = le at *
          obtain ⟨⟨op, a, b', c''⟩, er⟩ := le
          simp only at HS ⊢
          by_cases her : er = 0
          · cases c3 with
            | true =>
              have hst : stepE s' = (⟨op, a, b', c''⟩, 0) := by rw [HS.out]; simp [her]
              have hnx := Hnx.out (by rw [hst])
              rw [hst] at hnx
              have HN := Lib.hid hnx
              have b3 : (er == 0) = true := by simpa using her
              have b4 : (er != 0) = false := by simpa using her
              have Hown6 := Lib.hid (Hown5.out.alloc (.cells #[.int .i64 op, .int .i64 a, .int .i64 b', .int .i64 c''] 24))
              have Hbel6 := Lib.hid (Hbel5.out.alloc Hbel5.out.size (.cells #[.int .i64 op, .int .i64 a, .int .i64 b', .int .i64 c''] 24))
              have HP6 : Hid (PlacesS (w5.alloc (.cells #[.int .i64 op, .int .i64 a, .int .i64 b', .int .i64 c''] 24)) w.heap.size opsL) := Lib.hid (HP5.out.same (Below.heap_alloc _ _ _ hw5))
              clear hst hnx her
              go_wp2_with (at_builtin; go_must (refine wpList_append_lit (w5.alloc (.cells #[.int .i64 op, .int .i64 a, .int .i64 b', .int .i64 c''] 24)) (by rfl) _ _ 40 (by rfl) wl.heap.size 24 i0 (.agg #[.int .i64 0, .int .i64 0, .int .i64 0, .int .i64 0]) 4 32 Tryd.underlying40 HI.out rfl (by decide) _ _ _ (by rfl) Hown6.out 1 1 #[.int .i64 op, .int .i64 a, .int .i64 b', .int .i64 c''] 24 (by simp [Act.eval]) rfl (by simp [Value.oneCell']) (by omega) (by omega) (by simp; omega) ?_); intro v7 w7 hown7 hbel7)
              obtain ⟨A7, c7, rfl⟩ := own_form hown7
              have Hown7 := Lib.hid hown7
              have Hbel7 := Lib.hid (Hbel6.out.trans (hbel7.mono (by omega)))
              have HP7 := Lib.hid (HP6.out.same (hbel7.block _ (by omega)))
              have hs7 : wl.heap.size ≤ w7.heap.size := by have := hbel7.size; simp at this; omega
              clear hown7 hbel7
              go_wp2
              go_roundw
              case rel => exact ⟨_, _, _, _, _, _, ⟨c2, rfl, ln + 1, acc ++ [⟨op, a, b', c''⟩], A7, c7, by rw [List.length_append]; rfl, by go_num, HN.out, by omega, by rw [List.length_append]; simp; omega, by rw [flat_append, List.length_append]; exact Hown7.out, HP7.out, Hbel7.out, hs7⟩, rfl, rfl, rfl, rfl, rfl, rfl⟩
              case measure => simp [sizeV, byt_size]; omega
            | false =>
              have hst : (stepE s').2 = 4 := by rw [HS.out]; simp [her]
              have Hr : Hid (([], (ln : Int), 4) = parseT s) := Lib.hid (by rw [Hres.out, ← Hbd.out (by rw [hst]; decide), hst])
              have b3 : (er == 0) = true := by simpa using her
              have b4 : (er != 0) = false := by simpa using her
              clear hst her
              go_wp2
              go_ret3
              exact ⟨none, 0, 0, by rw [← Hr.out]; rfl, by rw [← Hr.out]; exact Rd.empty, by rw [← Hr.out]; rfl, Hbel5.out.alloc Hbel5.out.size _⟩
          · have hst : (stepE s').2 = er := by rw [HS.out]; simp [her]
            have Hr : Hid (([], (ln : Int), er) = parseT s) := Lib.hid (by rw [Hres.out, ← Hbd.out (by rw [hst]; exact her), hst])
            have b3 : (er == 0) = false := by simpa using her
            have b4 : (er != 0) = true := by simpa using her
            clear hst her
            go_wp2
            go_ret3
            exact ⟨none, 0, 0, by rw [← Hr.out]; rfl, by rw [← Hr.out]; exact Rd.empty, by rw [← Hr.out]; rfl, Hbel5.out.alloc Hbel5.out.size _⟩
end Go.Proofs.YtecolkpnllikaaaDoor
