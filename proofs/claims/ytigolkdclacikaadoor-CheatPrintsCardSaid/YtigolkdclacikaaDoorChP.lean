/- Numbers' digits: strconv.Itoa, and the reference's Num; what the world has beside (the table of powers of ten). Condition: that table, and bounds. -/
import Derived.Test.YtigolkdclacikaaDoorChQ
import Derived.Test.YtigolkdclacikaaDoorChW
import Derived.Lib.SliceRun
import Derived.Lib.Bytes
import Derived.Shelf.Bytes.SlEqualAll
import Derived.Lib.AppendIntMem
import Derived.Test.YtigolkdclacikaaDoorInv
import Derived.Deep.DeepCutAuto
namespace Go.Proofs.YtigolkdclacikaaDoor

open Go.RowKit Go.Lib
/-- The table of powers of ten is there. -/
def TabW (w : World) : Prop := 1 < w.heap.size ∧ Lib.TabIs Tryd.prog w "internal/strconv.uint64pow10" .u64 Lib.pow10Tab
theorem TabW.below {w w' : World} {B : Nat} (h : TabW w) (hb : Below B w w') (hB : 1 < B) : TabW w' := by
  refine ⟨Nat.lt_of_lt_of_le h.1 hb.size, ?_⟩
  have h2 := h.2
  unfold Lib.TabIs World.var? at h2 ⊢
  rw [show Tryd.prog.globalNamed "internal/strconv.uint64pow10" = some 1 from by kernel_rfl] at h2 ⊢
  simp only [Option.bind_some] at h2 ⊢
  rw [hb.block 1 hB]
  exact h2
def itoaB (n : Int) : ByteArray := ⟨(Lib.itoa n).toArray⟩
def digB (n : Nat) : ByteArray := ⟨(Lib.decDigits n).toArray⟩
theorem nDig_le (n : Nat) : Lib.nDigits n ≤ n + 1 := by
  induction n using Nat.strongRecOn with
  | ind n ih =>
    by_cases h : n < 10
    · rw [Lib.nDigits_small h]; omega
    · rw [Lib.nDigits_big h]
      have := ih (n / 10) (by omega)
      omega
theorem digB_size (n : Nat) : (digB n).size ≤ n + 1 := by
  have : (digB n).size = (Lib.decDigits n).length := by unfold digB; simp [ByteArray.size]
  rw [this, Lib.decDigits_length]
  exact nDig_le n
theorem itoa_nat {n : Int} (h : 0 ≤ n) : itoaB n = digB n.toNat := by
  unfold itoaB digB Lib.itoa
  rw [if_neg (by omega)]
theorem itoa_any (n : Int) (w : World) (h0 : 0 ≤ n) (h1 : n ≤ 1048576) (hT : TabW w) : Calls Tryd.prog 40 #[.int .i64 n] w fun e w' => e = .returned (.string (digB n.toNat)) ∧ Below w.heap.size w w' := by
  refine (Tryd.strconv_Itoa n (by omega) (by omega) w hT.2).mono ?_
  rintro e w' ⟨rfl, k, os, rfl⟩
  exact ⟨by rw [← itoa_nat h0]; rfl, below_grow _ _ (Nat.le_refl _) _ _⟩
theorem conv_one {w : World} {b x c : Nat} (h : w.cell? ⟨b, 0, none⟩ = some (.int .u8 (x : Int))) (_hx : x < 256) : (convert 59 9 (.slice (some ⟨b, 0, none⟩) 1 c)).run Tryd.prog w = .ok (.string ⟨#[UInt8.ofNat x]⟩) w := by
  have hb : Lib.BytesIn w (some ⟨b, 0, none⟩) 1 [(x : Int)] := fun hn => by
    refine ⟨b, 0, rfl, fun i hi => ?_⟩
    obtain rfl : i = 0 := by omega
    simpa using h
  have h1 := hb.convert (by rfl) c _ _ _ Tryd.underlying59 Tryd.underlying5 Tryd.underlying9
  rw [h1]
  rfl
set_option maxRecDepth 100000 in
set_option maxHeartbeats 2000000 in
theorem numr_any (n : Nat) : ∀ (w : World), n ≤ 1048576 → Calls Tryd.prog 45 #[.int .i64 (n : Int)] w fun e w' => e = .returned (.string (digB n)) ∧ Below w.heap.size w w' := by
  induction n using Nat.strongRecOn with
  | ind n ih =>
    intro w hn
    by_cases h10 : n < 10
    · have hd : decide ((n : Int) < 10) = true := decide_eq_true (by omega)
      have hr : digB n = ⟨#[UInt8.ofNat (48 + n)]⟩ := by unfold digB; rw [Lib.decDigits_one h10]
      have hw : IntKind.u8.wrap (48 + (n : Int)) = 48 + (n : Int) := by rw [IntKind.wrap_u8]; omega
      have hw2 : wrap64 (48 + (n : Int)) = 48 + (n : Int) := by simp only [wrap64]; omega
      have hc := fun (u : World) (hu : u.cell? ⟨w.heap.size, 0, none⟩ = some (.int .u8 (48 + (n : Int)))) => conv_one (x := 48 + n) (c := 1) hu (by omega)
      go_enter Tryd.func45, Tryd.ntmps45
      go_wp2
      go_ret
      exact ⟨by rw [hr, UInt8.ofNat_add]; rfl, below_one _ _⟩
    · have hd : decide ((n : Int) < 10) = false := decide_eq_false (by omega)
      have hr : digB n = digB (n / 10) ++ ⟨#[UInt8.ofNat (48 + n % 10)]⟩ := by
        unfold digB
        rw [Lib.decDigits, dif_neg h10]
        rfl
      have Hr := Lib.hid hr
      have hq : (n : Int) / 10 = ((n / 10 : Nat) : Int) := by omega
      have hm : (n : Int) % 10 = ((n % 10 : Nat) : Int) := by omega
      have HI := Lib.hid (fun (u : World) => ih (n / 10) (by omega) u (by omega))
      have hm10 : n % 10 < 10 := Nat.mod_lt _ (by decide)
      have hw : IntKind.u8.wrap (48 + ((n % 10 : Nat) : Int)) = 48 + ((n % 10 : Nat) : Int) := by rw [IntKind.wrap_u8]; omega
      have hw2 : wrap64 (48 + ((n % 10 : Nat) : Int)) = 48 + ((n % 10 : Nat) : Int) := by simp only [wrap64]; omega
      clear ih hr
      go_enter Tryd.func45, Tryd.ntmps45
      go_upto_region 3 with fail
      generalize n / 10 = nq at *
      generalize n % 10 = nm at *
      have hS1 := trivial
      refine wp_region_held_drew (S := fun _ => True) (by kernel_rfl) trivial (fun hHeld => ?_)
      rw [show Array.replicate _ false = (#[false, false, false, false, false, false, false, false, false, false, false] : Array Bool) from rfl]
      have HD0 : Hid (Below w.heap.size w w.drew) := (Below.refl _ _).drew
      generalize w.drew = u0 at *
      refine takeH 0 (some 10) (v := ?_) rfl (by kernel_rfl) (by kernel_rfl) (by kernel_rfl) (by kernel_rfl) (fun _ _ _ h => h) (Or.inl ⟨by kernel_rfl, ?hy⟩) (by assumption) ?_
      case hy =>
        intro w' hSw
        clear hSw
        first
          | (go_simp; done)
          | (go_simp; with_reducible rfl)
      simp only [Act.put, List.setIfInBounds_toArray, List.set_cons_zero, List.set_cons_succ]
      refine takeH 1 (some 11) (v := ?_) rfl (by kernel_rfl) (by kernel_rfl) (by kernel_rfl) (by kernel_rfl) (fun _ _ _ h => h) (Or.inl ⟨by kernel_rfl, ?hy⟩) (by assumption) ?_
      case hy =>
        intro w' hSw
        clear hSw
        first
          | (go_simp; done)
          | (go_simp; with_reducible rfl)
      simp only [Act.put, List.setIfInBounds_toArray, List.set_cons_zero, List.set_cons_succ]
      refine takeH 3 (some 13) (v := ?_) rfl (by kernel_rfl) (by kernel_rfl) (by kernel_rfl) (by kernel_rfl) (fun _ _ _ h => h) (Or.inl ⟨by kernel_rfl, ?hy⟩) (by assumption) ?_
      case hy =>
        intro w' hSw
        clear hSw
        first
          | (go_simp; done)
          | (go_simp; with_reducible rfl)
      simp only [Act.put, List.setIfInBounds_toArray, List.set_cons_zero, List.set_cons_succ]
      refine takeH 4 (some 14) (v := ?_) rfl (by kernel_rfl) (by kernel_rfl) (by kernel_rfl) (by kernel_rfl) (fun _ _ _ h => h) (Or.inl ⟨by kernel_rfl, ?hy⟩) (by assumption) ?_
      case hy =>
        intro w' hSw
        clear hSw
        first
          | (go_simp; done)
          | (go_simp; with_reducible rfl)
      simp only [Act.put, List.setIfInBounds_toArray, List.set_cons_zero, List.set_cons_succ]
      refine takeH 5 (some 15) (v := ?_) rfl (by kernel_rfl) (by kernel_rfl) (by kernel_rfl) (by kernel_rfl) (fun _ _ _ h => h) (Or.inl ⟨by kernel_rfl, ?hy⟩) (by assumption) ?_
      case hy =>
        intro w' hSw
        clear hSw
        first
          | (go_simp; done)
          | (go_simp; with_reducible rfl)
      simp only [Act.put, List.setIfInBounds_toArray, List.set_cons_zero, List.set_cons_succ]
      refine takeH 6 (some 16) (v := ?_) rfl (by kernel_rfl) (by kernel_rfl) (by kernel_rfl) (by kernel_rfl) (fun _ _ _ h => h) (Or.inl ⟨by kernel_rfl, ?hy⟩) (by assumption) ?_
      case hy =>
        intro w' hSw
        clear hSw
        first
          | (go_simp; done)
          | (go_simp; with_reducible rfl)
      simp only [Act.put, List.setIfInBounds_toArray, List.set_cons_zero, List.set_cons_succ]
      have hqi : IntKind.i64.wrap (nq : Int) = nq := by rw [IntKind.wrap_i64]; omega
      have htm : (n : Int).tmod 10 = nm := by rw [Int.tmod_eq_emod_of_nonneg (by omega)]; exact hm
      have hwi : IntKind.i64.wrap (48 + (nm : Int)) = 48 + (nm : Int) := by rw [IntKind.wrap_i64]; omega
      simp only [hqi, htm, hwi, hw]
      have hc := fun (u : World) (b : Nat) (hu : u.cell? ⟨b, 0, none⟩ = some (.int .u8 (48 + (nm : Int)))) => conv_one (x := 48 + nm) (c := 1) hu (by omega)
      have hsz : ¬ 9223372036854775807 < (digB nq).size + 1 := by have := digB_size nq; omega
      clear hq hm hw hw2 hqi htm hwi hd hm10 hn h10
      refine wpAnyH_ready (rs := [2, 7]) (by kernel_rfl) (by simp) ?_
      refine AllReadyH.cons rfl (fun K hK => ?_) (AllReadyH.cons rfl (fun K hK => ?_) AllReadyH.nil)
      · rw [if_pos (by kernel_rfl)]
        go_simp
        refine (HI.out u0).mono ?_
        rintro e u1 ⟨rfl, hb⟩
        have HD1 := Lib.hid (HD0.out.trans (hb.mono HD0.out.size))
        clear hb
        refine hK.out _ _ trivial (fun _ => ?_)
        clear hK K
        simp only [List.setIfInBounds_toArray, List.set_cons_zero, List.set_cons_succ]
        refine wpAnyH_ready (rs := [7]) (by kernel_rfl) (by simp) ?_
        refine AllReadyH.cons rfl (fun K hK => ?_) AllReadyH.nil
        rw [if_pos (by kernel_rfl)]
        go_simp
        refine hK.out _ _ trivial (fun _ => ?_)
        clear hK K
        simp only [List.setIfInBounds_toArray, List.set_cons_zero, List.set_cons_succ]
        refine wpAnyH_ready (rs := [8]) (by kernel_rfl) (by simp) ?_
        refine AllReadyH.cons rfl (fun K hK => ?_) AllReadyH.nil
        rw [if_pos (by kernel_rfl)]
        go_simp
        refine hK.out _ _ trivial (fun _ => ?_)
        clear hK K
        simp only [List.setIfInBounds_toArray, List.set_cons_zero, List.set_cons_succ]
        refine takeH 9 (some 19) (v := ?_) rfl (by kernel_rfl) (by kernel_rfl) (by kernel_rfl) (by kernel_rfl) (fun _ _ _ h => h) (Or.inl ⟨by kernel_rfl, ?hy⟩) (by assumption) ?_
        case hy =>
          intro w' hSw
          clear hSw
          first
            | (go_simp; done)
            | (go_simp; with_reducible rfl)
        simp only [Act.put, List.setIfInBounds_toArray, List.set_cons_zero, List.set_cons_succ]
        refine takeH 10 (some 2) (v := ?_) rfl (by kernel_rfl) (by kernel_rfl) (by kernel_rfl) (by kernel_rfl) (fun _ _ _ h => h) (Or.inl ⟨by kernel_rfl, ?hy⟩) (by assumption) ?_
        case hy =>
          intro w' hSw
          clear hSw
          first
            | (go_simp; done)
            | (go_simp; with_reducible rfl)
        simp only [Act.put, List.setIfInBounds_toArray, List.set_cons_zero, List.set_cons_succ]
        refine wpAnyH_done (by kernel_rfl) ?_ _
        go_wp2
        go_ret
        exact ⟨by rw [Hr.out, UInt8.ofNat_add]; rfl, (HD1.out.alloc HD1.out.size _)⟩
      · rw [if_pos (by kernel_rfl)]
        go_simp
        refine hK.out _ _ trivial (fun _ => ?_)
        clear hK K
        simp only [List.setIfInBounds_toArray, List.set_cons_zero, List.set_cons_succ]
        have HDa := Lib.hid (HD0.out.alloc HD0.out.size (.cells #[.int .u8 (48 + (nm : Int))] 5))
        have HC : Hid ((u0.alloc (.cells #[.int .u8 (48 + (nm : Int))] 5)).heap[u0.heap.size]? = some (.cells #[.int .u8 (48 + (nm : Int))] 5 (0, 0))) := heap_alloc_new u0 _
        generalize u0.alloc (.cells #[.int .u8 (48 + (nm : Int))] 5) = u1 at *
        generalize u0.heap.size = gb at *
        refine wpAnyH_ready (rs := [2, 8]) (by kernel_rfl) (by simp) ?_
        refine AllReadyH.cons rfl (fun K hK => ?_) (AllReadyH.cons rfl (fun K hK => ?_) AllReadyH.nil)
        · rw [if_pos (by kernel_rfl)]
          go_simp
          refine (HI.out u1).mono ?_
          rintro e u2 ⟨rfl, hb⟩
          have HD2 := Lib.hid (HDa.out.trans (hb.mono HDa.out.size))
          have hx : u2.cell? ⟨gb, 0, none⟩ = some (.int .u8 (48 + (nm : Int))) := (block_cell (block_below HC.out hb (block_lt HC.out)) 0).trans rfl
          clear hb
          refine hK.out _ _ trivial (fun _ => ?_)
          clear hK K
          simp only [List.setIfInBounds_toArray, List.set_cons_zero, List.set_cons_succ]
          refine wpAnyH_ready (rs := [8]) (by kernel_rfl) (by simp) ?_
          refine AllReadyH.cons rfl (fun K hK => ?_) AllReadyH.nil
          rw [if_pos (by kernel_rfl)]
          go_simp
          refine hK.out _ _ trivial (fun _ => ?_)
          clear hK K
          simp only [List.setIfInBounds_toArray, List.set_cons_zero, List.set_cons_succ]
          refine takeH 9 (some 19) (v := ?_) rfl (by kernel_rfl) (by kernel_rfl) (by kernel_rfl) (by kernel_rfl) (fun _ _ _ h => h) (Or.inl ⟨by kernel_rfl, ?hy⟩) (by assumption) ?_
          case hy =>
            intro w' hSw
            clear hSw
            first
              | (go_simp; done)
              | (go_simp; with_reducible rfl)
          simp only [Act.put, List.setIfInBounds_toArray, List.set_cons_zero, List.set_cons_succ]
          refine takeH 10 (some 2) (v := ?_) rfl (by kernel_rfl) (by kernel_rfl) (by kernel_rfl) (by kernel_rfl) (fun _ _ _ h => h) (Or.inl ⟨by kernel_rfl, ?hy⟩) (by assumption) ?_
          case hy =>
            intro w' hSw
            clear hSw
            first
              | (go_simp; done)
              | (go_simp; with_reducible rfl)
          simp only [Act.put, List.setIfInBounds_toArray, List.set_cons_zero, List.set_cons_succ]
          refine wpAnyH_done (by kernel_rfl) ?_ _
          go_wp2
          go_ret
          exact ⟨by rw [Hr.out, UInt8.ofNat_add]; rfl, HD2.out⟩
        · have hx : u1.cell? ⟨gb, 0, none⟩ = some (.int .u8 (48 + (nm : Int))) := (block_cell HC.out 0).trans rfl
          rw [if_pos (by kernel_rfl)]
          go_simp
          refine hK.out _ _ trivial (fun _ => ?_)
          clear hK K
          simp only [List.setIfInBounds_toArray, List.set_cons_zero, List.set_cons_succ]
          clear hx
          refine wpAnyH_ready (rs := [2]) (by kernel_rfl) (by simp) ?_
          refine AllReadyH.cons rfl (fun K hK => ?_) AllReadyH.nil
          rw [if_pos (by kernel_rfl)]
          go_simp
          refine (HI.out u1).mono ?_
          rintro e u2 ⟨rfl, hb⟩
          have HD2 := Lib.hid (HDa.out.trans (hb.mono HDa.out.size))
          clear hb
          refine hK.out _ _ trivial (fun _ => ?_)
          clear hK K
          simp only [List.setIfInBounds_toArray, List.set_cons_zero, List.set_cons_succ]
          refine takeH 9 (some 19) (v := ?_) rfl (by kernel_rfl) (by kernel_rfl) (by kernel_rfl) (by kernel_rfl) (fun _ _ _ h => h) (Or.inl ⟨by kernel_rfl, ?hy⟩) (by assumption) ?_
          case hy =>
            intro w' hSw
            clear hSw
            first
              | (go_simp; done)
              | (go_simp; with_reducible rfl)
          simp only [Act.put, List.setIfInBounds_toArray, List.set_cons_zero, List.set_cons_succ]
          refine takeH 10 (some 2) (v := ?_) rfl (by kernel_rfl) (by kernel_rfl) (by kernel_rfl) (by kernel_rfl) (fun _ _ _ h => h) (Or.inl ⟨by kernel_rfl, ?hy⟩) (by assumption) ?_
          case hy =>
            intro w' hSw
            clear hSw
            first
              | (go_simp; done)
              | (go_simp; with_reducible rfl)
          simp only [Act.put, List.setIfInBounds_toArray, List.set_cons_zero, List.set_cons_succ]
          refine wpAnyH_done (by kernel_rfl) ?_ _
          go_wp2
          go_ret
          exact ⟨by rw [Hr.out, UInt8.ofNat_add]; rfl, HD2.out⟩
end Go.Proofs.YtigolkdclacikaaDoor
