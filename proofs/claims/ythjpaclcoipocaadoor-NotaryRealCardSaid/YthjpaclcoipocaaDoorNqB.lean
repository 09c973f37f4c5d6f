/- The walk of NotaryReal. Condition: none. -/
import Derived.Test.YthjpaclcoipocaaDoorNqA
namespace Go.Proofs.YthjpaclcoipocaaDoor
open Go.RowKit Go.Lib




def bvU (l : List Nat) : List Value := l.map fun x => .int .u64 ((x : Nat) : Int)
theorem Rd.byteU {w : World} {B n k : Nat} {A : Option Addr} {l : List Nat} (h : Rd w B 1 A n (bvU l)) (hk : k < n) : ∃ b o, A = some ⟨b, o, none⟩ ∧ b < B ∧ w.cell? ⟨b, o + k, none⟩ = some (.int .u64 ((l.getD k 0 : Nat) : Int)) := by
  have hl : l.length = n := by have := h.1; simp [bvU] at this; omega
  obtain ⟨b, o, e, hb, hc⟩ := h.2 (by omega)
  refine ⟨b, o, e, hb, hc k _ ?_⟩
  simp only [bvU, List.getElem?_map]
  rw [List.getElem?_eq_getElem (by omega)]
  simp [List.getD_eq_getElem?_getD, List.getElem?_eq_getElem (show k < l.length by omega)]
theorem getU_lt {l : List Nat} (h : ∀ y ∈ l, y < 18446744073709551616) (k : Nat) : l.getD k 0 < 18446744073709551616 := by
  rw [List.getD_eq_getElem?_getD]
  rcases hk : l[k]? with _ | x
  · simp
  · simpa using h x (List.mem_of_getElem? hk)
set_option maxRecDepth 100000 in
set_option maxHeartbeats 8000000 in
theorem nreal_any (s0 h : Nat) (A : Option Addr) (n c : Nat) (l : List Nat) (w : World) (hs0 : s0 < 18446744073709551616) (hh : h < 256) (hr : Rd w w.heap.size 1 A n (bvU l)) (hlt : ∀ y ∈ l, y < 18446744073709551616) :
    Calls Tryd.prog 3 #[.int .u64 (s0 : Int), .int .u8 (h : Int), .slice A n c] w fun e w' => e = .returned (.bool true) ∧ Below w.heap.size w w' := by
  have Hr := Lib.hid hr; have Hlt := Lib.hid hlt
  obtain ⟨q, hq⟩ : ∃ q, q = h % 4 := ⟨_, rfl⟩
  have e4 : (h : Int) % 4 = (q : Int) := by omega
  have hq4 : q ≤ 3 := by omega
  have hD := digest_any s0 w hs0
  have HDs := Lib.hid (fun u => digest_any s0 u hs0)
  obtain ⟨s, hs⟩ : ∃ s, s = D8.of s0 := ⟨_, rfl⟩
  have Hsok : Hid s.ok := Lib.hid (by rw [hs]; exact D8.of_ok _)
  rw [← hs] at HDs
  clear hr hlt hq hD hs hs0
  by_cases hbig : 6 < n
  · have hd0 : decide ((6 : Int) < (n : Int)) = true := decide_eq_true (by omega)
    clear hbig
    go_enter Tryd.func3, Tryd.ntmps3
    go_wp2_with fail
    refine (told_any w).mono ?_
    rintro e w2 ⟨rfl, hb2⟩
    have Hw2 := Lib.hid hb2
    clear hb2
    go_wp2
    go_ret
    exact ⟨rfl, Hw2.out⟩
  have hd0 : decide ((6 : Int) < (n : Int)) = false := decide_eq_false (by omega)
  have hn : n ≤ 6 := by omega
  clear hbig
  go_enter Tryd.func3, Tryd.ntmps3
  go_upto_region 2 with fail
  simp only [e4]
  go_wp2_with fail
  refine (HDs.out w).mono ?_
  rintro e w1 ⟨rfl, hb1⟩
  have Hw1 := Lib.hid hb1
  clear hb1
  go_wp2_with fail
  refine (newReal_any s q w1 Hsok.out (by omega)).mono ?_
  rintro e w2 ⟨br1, F1, T01, T11, B1, rfl, hB1, ha1, hb2⟩
  have HA2 := Lib.hid ha1; have HB1 := Lib.hid (Nat.le_trans Hw1.out.size hB1); have Hw2 := Lib.hid (Hw1.out.trans (hb2.mono Hw1.out.size))
  clear hb2 ha1 hB1
  go_wp2_with fail
  refine (HDs.out w2).mono ?_
  rintro e w3 ⟨rfl, hb3⟩
  have HA3 := Lib.hid (HA2.out.below hb3); have Hw3 := Lib.hid (Hw2.out.trans (hb3.mono Hw2.out.size))
  clear hb3 HA2
  go_wp2_with fail
  refine (new_any s q w3 Hsok.out (by omega)).mono ?_
  rintro e w4 ⟨br2, F2, T02, T12, rfl, ha2, hb4⟩
  have HT4 : Hid (Two w4 B1 w3.heap.size F1 F2 T01 T11 T02 T12 br1 br2 (RingM.new s q) (RingM.new s q)) := Lib.hid ⟨HA3.out.below hb4, ha2, fun k h1 h2 => by have := (HA3.out.foot_lt k (.inl h1)).2; have := (ha2.foot_lt k h2).1; omega, fun k h1 h2 => by have := (HA3.out.foot_lt k h2).2; have := (ha2.foot_lt k (.inl h1)).1; omega⟩
  have Hw4 := Lib.hid (Hw3.out.trans (hb4.mono Hw3.out.size)); have HB2 := Lib.hid Hw3.out.size
  clear hb4 ha2 HA3
  generalize w3.heap.size = B2 at *
  obtain ⟨pk, hpk⟩ : ∃ pk, pk = rootD (keysD s q) q := ⟨_, rfl⟩
  have Hpk := Lib.hid hpk
  have HK1 := Lib.hid (fun (u : World) (F1 F2 : Nat → Prop) (r r' : RingM) (t : Two u B1 B2 F1 F2 T01 T11 T02 T12 br1 br2 r r') (hs : r.secret = s ∧ r.h = q) => by
    have h1 := rkey_any t.a
    rw [hs.1, hs.2, ← hpk] at h1
    exact h1)
  have HK2 := Lib.hid (fun (u : World) (F1 F2 : Nat → Prop) (r r' : RingM) (t : Two u B1 B2 F1 F2 T01 T11 T02 T12 br1 br2 r r') (hs : r'.secret = s ∧ r'.h = q) => by
    have h1 := rpublic_any t.b
    rw [hs.1, hs.2, ← hpk] at h1
    exact h1)
  have hna := nil_rsign br1
  have hme := meth_rsign br1
  have hke := meth_rkey br1
  rw [types_many] at hna hme hke
  have hneq := neq_dig
  clear hpk
  go_wp2_with fail
  refine (HK1.out w4 _ _ _ _ HT4.out ⟨rfl, rfl⟩).mono ?_
  rintro e w5 ⟨rfl, hb5⟩
  have HT5 := Lib.hid (HT4.out.below hb5); have Hw5 := Lib.hid (Hw4.out.trans (hb5.mono Hw4.out.size))
  clear hb5 HT4 Hw4
  go_wp2_with fail
  refine (HK2.out w5 _ _ _ _ HT5.out ⟨rfl, rfl⟩).mono ?_
  rintro e w6 ⟨rfl, hb6⟩
  have HT6 := Lib.hid (HT5.out.below hb6); have Hw6 := Lib.hid (Hw5.out.trans (hb6.mono Hw5.out.size))
  clear hb6 HT5 Hw5 Hw1 Hw2 Hw3
  have hself : (!eqI [(pk.x0 : Int), (pk.x1 : Int), (pk.x2 : Int), (pk.x3 : Int), (pk.x4 : Int), (pk.x5 : Int), (pk.x6 : Int), (pk.x7 : Int)] [(pk.x0 : Int), (pk.x1 : Int), (pk.x2 : Int), (pk.x3 : Int), (pk.x4 : Int), (pk.x5 : Int), (pk.x6 : Int), (pk.x7 : Int)]) = false := by
    show (!sameD pk pk) = false
    rw [sameD_iff.2 rfl]
    rfl
  go_wp2
  clear hself hneq
  have Hne := Lib.hid (And.intro hna (And.intro hme hke))
  clear hna hme hke
  go_loopw [12] (fun i wr => ∃ (k : Nat) (F1' F2' : Nat → Prop) (r : RingM), k ≤ n ∧ i = .int .i64 (k : Int) ∧ (r.secret = s ∧ r.h = q) ∧ Two wr B1 B2 F1' F2' T01 T11 T02 T12 br1 br2 r r ∧ Below w.heap.size w wr) (fun i _ => n - (RowKit.intOf i).toNat)
  case atStart => exact ⟨0, F1, F2, RingM.new s q, Nat.zero_le _, rfl, ⟨rfl, rfl⟩, HT6.out, Hw6.out⟩
  case round =>
    obtain ⟨k, G1, G2, r, hk, rfl, hrs, ht, hw⟩ := hrel
    have HT := Lib.hid ht; have Hw := Lib.hid hw; have Hrs := Lib.hid hrs
    clear ht hw hrs HT6 Hw6
    by_cases hlt : k < n
    · have hd1 : decide ((k : Int) < (n : Int)) = true := decide_eq_true (by omega)
      have hki : (k : Int) < (n : Int) := by omega
      have Hk := Lib.hid hlt
      obtain ⟨bb, o, rfl, hbB, _⟩ := Hr.out.byteU hlt
      have Hx := Lib.hid (fun (u : World) (hu : Below w.heap.size w u) => show u.cell? ⟨bb, o + k, none⟩ = some (.int .u64 ((l.getD k 0 : Nat) : Int)) from by
        obtain ⟨b2, o2, e1, _, hc⟩ := (Hr.out.below hu (Nat.le_refl _)).byteU hlt
        injection e1 with e1
        injection e1 with e2 e3
        subst e2; subst e3
        exact hc)
      have HDm := Lib.hid (fun u => digest_any (l.getD k 0) u (getU_lt Hlt.out k))
      obtain ⟨m, hm⟩ : ∃ m, m = D8.of (l.getD k 0) := ⟨_, rfl⟩
      have Hm : Hid m.ok := Lib.hid (by rw [hm]; exact D8.of_ok _)
      rw [← hm] at HDm
      have hbl : bb < w.heap.size := hbB
      clear hm
      generalize l.getD k 0 = x at *
      have hok := HT.out.a.ok
      have Hsl := Lib.hid (sign_lt hok m); have Hsn := Lib.hid (sign_len hok m)
      have Hver : Hid ((r.sign m).2.2 = 0 → verifyN pk m (r.sign m).2.1 = true) := Lib.hid fun h0 => by
        have h1 := verify_sign hok Hm.out h0
        rw [Hrs.out.1, Hrs.out.2, ← Hpk.out] at h1
        exact h1
      have Hrs2 : Hid ((r.sign m).1.secret = s ∧ (r.sign m).1.h = q) := Lib.hid (by
        rw [sign_ring]
        exact ⟨(RingM.reserve_secret r m).1.trans Hrs.out.1, (RingM.reserve_secret r m).2.trans Hrs.out.2⟩)
      have HSI := Lib.hid (fun (u : World) (t : Two u B1 B2 G1 G2 T01 T11 T02 T12 br1 br2 r r) (hu : w.heap.size ≤ u.heap.size) => signI_any (W := w.heap.size) m t Hm.out HB1.out hu)
      have HSR := Lib.hid (fun (u : World) (F1' : Nat → Prop) (r1 : RingM) (t : Two u B1 B2 F1' G2 T01 T11 T02 T12 br1 br2 r1 r) (hu : w.heap.size ≤ u.heap.size) => signR_any (W := w.heap.size) m t Hm.out HB2.out hu)
      clear hok
      generalize r.sign m = sg at *
      obtain ⟨rn, sb, g⟩ := sg
      simp only at Hsl Hsn Hver Hrs2 HSI HSR
      have HG2 := Lib.hid (fun z (hz : G2 z) => (HT.out.b.foot_lt z (.inl hz)).2)
      have hxx : ∀ w', Below w.heap.size w w' → w'.cell? ⟨bb, o + k, none⟩ = some (.int .u64 (x : Int)) := fun w' hx => Hx.out w' hx
      have hbd : Below w.heap.size w wr.drew := Hw.out.drew
      have HT0 : Hid (Two wr.drew B1 B2 G1 G2 T01 T11 T02 T12 br1 br2 r r) := Lib.hid (HT.out.below (Below.refl _ _).drew)
      have Hbd := Lib.hid hbd
      have HZ0 : Hid (wr.heap.size ≤ wr.drew.heap.size) := Lib.hid (Nat.le_refl _)
      obtain ⟨hna, hme, hke⟩ := Hne.out
      go_upto_region 15 with fail
      refine wp_region_held_drew (S := fun w' => Below w.heap.size w w') (by kernel_rfl) hbd (fun hHeld => ?_)
      rw [show Array.replicate _ false = (#[false, false, false, false, false, false, false, false, false, false, false, false, false, false, false] : Array Bool) from rfl]
      refine takeH 0 (some 67) (v := ?_) rfl (by kernel_rfl) (by kernel_rfl) (by kernel_rfl) (by kernel_rfl) (fun _ _ _ h => h) (Or.inl ⟨by kernel_rfl, ?hy⟩) (by assumption) ?_
      case hy =>
        intro w' hSw
        clear hSw
        first
          | (go_simp; done)
          | (go_simp; with_reducible rfl)
      simp only [Act.put, List.setIfInBounds_toArray, List.set_cons_zero, List.set_cons_succ]
      refine takeH 1 (some 68) (v := ?_) rfl (by kernel_rfl) (by kernel_rfl) (by kernel_rfl) (by kernel_rfl) (fun _ _ _ h => h) (Or.inl ⟨by kernel_rfl, ?hy⟩) (by assumption) ?_
      case hy =>
        intro w' hSw
        clear hSw
        first
          | (go_simp; done)
          | (go_simp; with_reducible rfl)
      simp only [Act.put, List.setIfInBounds_toArray, List.set_cons_zero, List.set_cons_succ]
      refine takeH 2 (some 69) (v := ?_) rfl (by kernel_rfl) (by kernel_rfl) (by kernel_rfl) (by kernel_rfl) (fun _ _ _ h => h) (Or.inl ⟨by kernel_rfl, ?hy⟩) (by assumption) ?_
      case hy =>
        intro w' hSw
        clear hSw
        first
          | (go_simp; done)
          | (go_simp; with_reducible rfl)
      simp only [Act.put, List.setIfInBounds_toArray, List.set_cons_zero, List.set_cons_succ]
      refine takeH 3 (some 70) (v := ?_) rfl (by kernel_rfl) (by kernel_rfl) (by kernel_rfl) (by kernel_rfl) (fun _ _ _ h => h) (Or.inl ⟨by kernel_rfl, ?hy⟩) (by assumption) ?_
      case hy =>
        intro w' hSw
        clear hSw
        first
          | (go_simp; done)
          | (go_simp; with_reducible rfl)
      simp only [Act.put, List.setIfInBounds_toArray, List.set_cons_zero, List.set_cons_succ]
      refine takeH 4 (some 71) (v := ?_) rfl (by kernel_rfl) (by kernel_rfl) (by kernel_rfl) (by kernel_rfl) (fun _ _ _ h => h) (Or.inl ⟨by kernel_rfl, ?hy⟩) (by assumption) ?_
      case hy =>
        intro w' hSw
        have hx := hxx w' hSw
        clear hSw
        first
          | (go_simp; done)
          | (go_simp; with_reducible rfl)
      simp only [Act.put, List.setIfInBounds_toArray, List.set_cons_zero, List.set_cons_succ]
      refine takeH 6 (some 73) (v := ?_) rfl (by kernel_rfl) (by kernel_rfl) (by kernel_rfl) (by kernel_rfl) (fun _ _ _ h => h) (Or.inl ⟨by kernel_rfl, ?hy⟩) (by assumption) ?_
      case hy =>
        intro w' hSw
        clear hSw
        first
          | (go_simp; done)
          | (go_simp; with_reducible rfl)
      simp only [Act.put, List.setIfInBounds_toArray, List.set_cons_zero, List.set_cons_succ]
      refine takeH 7 (some 74) (v := ?_) rfl (by kernel_rfl) (by kernel_rfl) (by kernel_rfl) (by kernel_rfl) (fun _ _ _ h => h) (Or.inl ⟨by kernel_rfl, ?hy⟩) (by assumption) ?_
      case hy =>
        intro w' hSw
        clear hSw
        first
          | (go_simp; done)
          | (go_simp; with_reducible rfl)
      simp only [Act.put, List.setIfInBounds_toArray, List.set_cons_zero, List.set_cons_succ]
      refine takeH 8 (some 75) (v := ?_) rfl (by kernel_rfl) (by kernel_rfl) (by kernel_rfl) (by kernel_rfl) (fun _ _ _ h => h) (Or.inl ⟨by kernel_rfl, ?hy⟩) (by assumption) ?_
      case hy =>
        intro w' hSw
        clear hSw
        first
          | (go_simp; done)
          | (go_simp; with_reducible rfl)
      simp only [Act.put, List.setIfInBounds_toArray, List.set_cons_zero, List.set_cons_succ]
      clear hbd HT
      generalize wr.drew = u0 at *
      refine wpAnyH_ready (rs := [5]) (by kernel_rfl) (by simp) ?_
      refine AllReadyH.cons rfl (fun K hK => ?_) AllReadyH.nil
      rw [if_pos (by kernel_rfl)]
      go_simp
      refine (HDm.out u0).mono ?_
      rintro e u1 ⟨rfl, hb⟩
      have HT1 := Lib.hid (HT0.out.below hb); have Hw1 := Lib.hid (Hbd.out.trans (hb.mono Hbd.out.size)); have HZ1 := Lib.hid (Nat.le_trans HZ0.out hb.size)
      clear hb HT0 Hbd HZ0
      refine hK.out _ _ Hw1.out (fun _ => ?_)
      clear hK K
      simp only [List.setIfInBounds_toArray, List.set_cons_zero, List.set_cons_succ]
      refine wpAnyH_ready (rs := [9]) (by kernel_rfl) (by simp) ?_
      refine AllReadyH.cons rfl (fun K hK => ?_) AllReadyH.nil
      rw [if_pos (by kernel_rfl)]
      go_simp
      refine (HSI.out u1 HT1.out Hw1.out.size).mono ?_
      rintro e v2 ⟨M2, G1', A2, n2, c2, hM2, rfl, ho2, hn2, ht2, hb⟩
      have HT2 := Lib.hid ht2; have HOa2 := Lib.hid ho2; have Hn2 := Lib.hid hn2; have Hw2 := Lib.hid (Hw1.out.trans hb); have HM2 := Lib.hid (Nat.le_trans HZ1.out hM2)
      clear hM2 ho2 hn2 ht2 hb HT1 Hw1 HZ1 HSI
      refine hK.out _ _ Hw2.out (fun _ => ?_)
      clear hK K
      simp only [List.setIfInBounds_toArray, List.set_cons_zero, List.set_cons_succ]
      have hS2 := Hw2.out
      refine takeH 10 (some 66) (v := ?_) rfl (by kernel_rfl) (by kernel_rfl) (by kernel_rfl) (by kernel_rfl) (fun _ _ _ h => h) (Or.inl ⟨by kernel_rfl, ?hy⟩) (by assumption) ?_
      case hy =>
        intro w' hSw
        clear hSw
        first
          | (go_simp; done)
          | (go_simp; with_reducible rfl)
      simp only [Act.put, List.setIfInBounds_toArray, List.set_cons_zero, List.set_cons_succ]
      refine takeH 11 (some 77) (v := ?_) rfl (by kernel_rfl) (by kernel_rfl) (by kernel_rfl) (by kernel_rfl) (fun _ _ _ h => h) (Or.inl ⟨by kernel_rfl, ?hy⟩) (by assumption) ?_
      case hy =>
        intro w' hSw
        clear hSw
        first
          | (go_simp; done)
          | (go_simp; with_reducible rfl)
      simp only [Act.put, List.setIfInBounds_toArray, List.set_cons_zero, List.set_cons_succ]
      refine takeH 12 (some 78) (v := ?_) rfl (by kernel_rfl) (by kernel_rfl) (by kernel_rfl) (by kernel_rfl) (fun _ _ _ h => h) (Or.inl ⟨by kernel_rfl, ?hy⟩) (by assumption) ?_
      case hy =>
        intro w' hSw
        clear hSw
        first
          | (go_simp; done)
          | (go_simp; with_reducible rfl)
      simp only [Act.put, List.setIfInBounds_toArray, List.set_cons_zero, List.set_cons_succ]
      refine takeH 13 (some 13) (v := ?_) rfl (by kernel_rfl) (by kernel_rfl) (by kernel_rfl) (by kernel_rfl) (fun _ _ _ h => h) (Or.inl ⟨by kernel_rfl, ?hy⟩) (by assumption) ?_
      case hy =>
        intro w' hSw
        clear hSw
        first
          | (go_simp; done)
          | (go_simp; with_reducible rfl)
      simp only [Act.put, List.setIfInBounds_toArray, List.set_cons_zero, List.set_cons_succ]
      refine takeH 14 (some 14) (v := ?_) rfl (by kernel_rfl) (by kernel_rfl) (by kernel_rfl) (by kernel_rfl) (fun _ _ _ h => h) (Or.inl ⟨by kernel_rfl, ?hy⟩) (by assumption) ?_
      case hy =>
        intro w' hSw
        clear hSw
        first
          | (go_simp; done)
          | (go_simp; with_reducible rfl)
      simp only [Act.put, List.setIfInBounds_toArray, List.set_cons_zero, List.set_cons_succ]
      refine wpAnyH_done (by kernel_rfl) ?_ _
      clear hS2
      have x0 := Hx.out v2 Hw2.out
      have hbv : bb < v2.heap.size := Nat.lt_of_lt_of_le hbl Hw2.out.size
      go_wp2_with fail
      refine (HDm.out v2).mono ?_
      rintro e v3 ⟨rfl, hb⟩
      have HT3 := Lib.hid (HT2.out.below hb); have HOa3 := Lib.hid (own_below HOa2.out hb); have Hw3 := Lib.hid (Hw2.out.trans (hb.mono Hw2.out.size))
      clear hb HT2 HOa2 Hw2 x0 hbv
      go_wp2_with fail
      refine (HSR.out v3 _ _ HT3.out Hw3.out.size).mono ?_
      rintro e v4 ⟨M4, G2', A4, n4, c4, hM4, rfl, ho4, hn4, ht4, hc4, hb⟩
      have HT4 := Lib.hid ht4; have HOb4 := Lib.hid ho4; have Hn4 := Lib.hid hn4; have Hw4 := Lib.hid (Hw3.out.trans hb)
      have HOa4 := Lib.hid (own_keep HOa3.out (fun z hz => hc4.block z (HOa3.out.lt z hz).2 (fun hf => by
        have h1 := HG2.out z hf
        have h2 := (HOa3.out.lt z hz).1
        have h3 := HM2.out
        omega)))
      clear hM4 ho4 hn4 ht4 hc4 hb HT3 HOa3 Hw3 HSR
      have hca := conv_bytes (Rd.of_own HOa4.out) c2 9 Tryd.underlying9
      have hcb := conv_bytes (Rd.of_own HOb4.out) c4 9 Tryd.underlying9
      have hgg : ((g : Int) != (g : Int)) = false := by simp
      have hRa := Lib.hid (fun (u : World) (hu : Below v4.heap.size v4 u) => rver_any pk m A2 n2 c2 sb u Hm.out (((Rd.of_own HOa4.out).below hu (Nat.le_refl _)).more hu.size) (own_cap HOa4.out) (by have := Hn2.out; have := Hsn.out; omega) Hsl.out)
      have hRb := Lib.hid (fun (u : World) (hu : Below v4.heap.size v4 u) => rver_any pk m A4 n4 c4 sb u Hm.out (((Rd.of_own HOb4.out).below hu (Nat.le_refl _)).more hu.size) (own_cap HOb4.out) (by have := Hn4.out; have := Hsn.out; omega) Hsl.out)
      have hVb := Lib.hid (fun (u : World) (hu : Below v4.heap.size v4 u) => verify_any pk m A4 n4 c4 sb u Hm.out (((Rd.of_own HOb4.out).below hu (Nat.le_refl _)).more hu.size) (own_cap HOb4.out) (by have := Hn4.out; have := Hsn.out; omega) Hsl.out)
      have hKy := Lib.hid (fun (u : World) (hu : Below v4.heap.size v4 u) => HK1.out u _ _ _ _ (HT4.out.below hu) Hrs2.out)
      generalize verifyN pk m sb = vb at *
      generalize strS sb = st at *
      clear HOa4 HOb4 Hn2 Hn4 HG2 HM2
      have hyy : ∀ w', Below v4.heap.size v4 w' → w'.cell? ⟨bb, o + k, none⟩ = some (.int .u64 (x : Int)) := fun w' hx => Hx.out w' (Hw4.out.trans (hx.mono Hw4.out.size))
      have hbd : Below v4.heap.size v4 v4.drew := (Below.refl _ _).drew
      go_upto_region 19 with fail
      clear hca hcb
      go_cut [113] (fun s113 wx => s113 = .bool false ∧ Below v4.heap.size v4 wx)
      case first =>
        by_cases hg : g = 0
        · have Hvt := Hver.out hg
          subst hg
          rw [Hvt] at hRa
          have Hbd := Lib.hid hbd
          refine wp_region_held_drew (S := fun w' => Below v4.heap.size v4 w') (by kernel_rfl) hbd (fun hHeld => ?_)
          rw [show Array.replicate _ false = (#[false, false, false, false, false, false, false, false, false, false, false, false, false, false, false] : Array Bool) from rfl]
          refine takeH 0 (some 99) (v := ?_) rfl (by kernel_rfl) (by kernel_rfl) (by kernel_rfl) (by kernel_rfl) (fun _ _ _ h => h) (Or.inl ⟨by kernel_rfl, ?hy⟩) (by assumption) ?_
          case hy =>
            intro w' hSw
            clear hSw
            first
              | (go_simp; done)
              | (go_simp; with_reducible rfl)
          simp only [Act.put, List.setIfInBounds_toArray, List.set_cons_zero, List.set_cons_succ]
          refine takeH 1 (some 100) (v := ?_) rfl (by kernel_rfl) (by kernel_rfl) (by kernel_rfl) (by kernel_rfl) (fun _ _ _ h => h) (Or.inl ⟨by kernel_rfl, ?hy⟩) (by assumption) ?_
          case hy =>
            intro w' hSw
            clear hSw
            first
              | (go_simp; done)
              | (go_simp; with_reducible rfl)
          simp only [Act.put, List.setIfInBounds_toArray, List.set_cons_zero, List.set_cons_succ]
          refine takeH 2 (some 101) (v := ?_) rfl (by kernel_rfl) (by kernel_rfl) (by kernel_rfl) (by kernel_rfl) (fun _ _ _ h => h) (Or.inl ⟨by kernel_rfl, ?hy⟩) (by assumption) ?_
          case hy =>
            intro w' hSw
            clear hSw
            first
              | (go_simp; done)
              | (go_simp; with_reducible rfl)
          simp only [Act.put, List.setIfInBounds_toArray, List.set_cons_zero, List.set_cons_succ]
          refine takeH 3 (some 102) (v := ?_) rfl (by kernel_rfl) (by kernel_rfl) (by kernel_rfl) (by kernel_rfl) (fun _ _ _ h => h) (Or.inl ⟨by kernel_rfl, ?hy⟩) (by assumption) ?_
          case hy =>
            intro w' hSw
            clear hSw
            first
              | (go_simp; done)
              | (go_simp; with_reducible rfl)
          simp only [Act.put, List.setIfInBounds_toArray, List.set_cons_zero, List.set_cons_succ]
          refine takeH 4 (some 103) (v := ?_) rfl (by kernel_rfl) (by kernel_rfl) (by kernel_rfl) (by kernel_rfl) (fun _ _ _ h => h) (Or.inl ⟨by kernel_rfl, ?hy⟩) (by assumption) ?_
          case hy =>
            intro w' hSw
            clear hSw
            first
              | (go_simp; done)
              | (go_simp; with_reducible rfl)
          simp only [Act.put, List.setIfInBounds_toArray, List.set_cons_zero, List.set_cons_succ]
          refine takeH 6 (some 105) (v := ?_) rfl (by kernel_rfl) (by kernel_rfl) (by kernel_rfl) (by kernel_rfl) (fun _ _ _ h => h) (Or.inl ⟨by kernel_rfl, ?hy⟩) (by assumption) ?_
          case hy =>
            intro w' hSw
            clear hSw
            first
              | (go_simp; done)
              | (go_simp; with_reducible rfl)
          simp only [Act.put, List.setIfInBounds_toArray, List.set_cons_zero, List.set_cons_succ]
          refine takeH 7 (some 106) (v := ?_) rfl (by kernel_rfl) (by kernel_rfl) (by kernel_rfl) (by kernel_rfl) (fun _ _ _ h => h) (Or.inl ⟨by kernel_rfl, ?hy⟩) (by assumption) ?_
          case hy =>
            intro w' hSw
            clear hSw
            first
              | (go_simp; done)
              | (go_simp; with_reducible rfl)
          simp only [Act.put, List.setIfInBounds_toArray, List.set_cons_zero, List.set_cons_succ]
          refine takeH 8 (some 107) (v := ?_) rfl (by kernel_rfl) (by kernel_rfl) (by kernel_rfl) (by kernel_rfl) (fun _ _ _ h => h) (Or.inl ⟨by kernel_rfl, ?hy⟩) (by assumption) ?_
          case hy =>
            intro w' hSw
            clear hSw
            first
              | (go_simp; done)
              | (go_simp; with_reducible rfl)
          simp only [Act.put, List.setIfInBounds_toArray, List.set_cons_zero, List.set_cons_succ]
          refine takeH 9 (some 108) (v := ?_) rfl (by kernel_rfl) (by kernel_rfl) (by kernel_rfl) (by kernel_rfl) (fun _ _ _ h => h) (Or.inl ⟨by kernel_rfl, ?hy⟩) (by assumption) ?_
          case hy =>
            intro w' hSw
            have hx := hyy w' hSw
            clear hSw
            first
              | (go_simp; done)
              | (go_simp; with_reducible rfl)
          simp only [Act.put, List.setIfInBounds_toArray, List.set_cons_zero, List.set_cons_succ]
          refine takeH 11 (some 110) (v := ?_) rfl (by kernel_rfl) (by kernel_rfl) (by kernel_rfl) (by kernel_rfl) (fun _ _ _ h => h) (Or.inl ⟨by kernel_rfl, ?hy⟩) (by assumption) ?_
          case hy =>
            intro w' hSw
            clear hSw
            first
              | (go_simp; done)
              | (go_simp; with_reducible rfl)
          simp only [Act.put, List.setIfInBounds_toArray, List.set_cons_zero, List.set_cons_succ]
          clear hbd hyy
          refine wpAnyH_ready (rs := [5]) (by kernel_rfl) (by simp) ?_
          refine AllReadyH.cons rfl (fun K hK => ?_) AllReadyH.nil
          rw [if_pos (by kernel_rfl)]
          go_simp
          refine (hKy.out _ Hbd.out).mono ?_
          rintro e y1 ⟨rfl, hb⟩
          have Hy1 := Lib.hid (Hbd.out.trans (hb.mono Hbd.out.size))
          clear hb
          refine hK.out _ _ Hy1.out (fun _ => ?_)
          clear hK K
          simp only [List.setIfInBounds_toArray, List.set_cons_zero, List.set_cons_succ]
          refine wpAnyH_ready (rs := [10]) (by kernel_rfl) (by simp) ?_
          refine AllReadyH.cons rfl (fun K hK => ?_) AllReadyH.nil
          rw [if_pos (by kernel_rfl)]
          go_simp
          refine (HDm.out y1).mono ?_
          rintro e y2 ⟨rfl, hb⟩
          have Hy2 := Lib.hid (Hy1.out.trans (hb.mono Hy1.out.size))
          clear hb
          refine hK.out _ _ Hy2.out (fun _ => ?_)
          clear hK K
          simp only [List.setIfInBounds_toArray, List.set_cons_zero, List.set_cons_succ]
          refine wpAnyH_ready (rs := [12]) (by kernel_rfl) (by simp) ?_
          refine AllReadyH.cons rfl (fun K hK => ?_) AllReadyH.nil
          rw [if_pos (by kernel_rfl)]
          go_simp
          refine (hRa.out y2 Hy2.out).mono ?_
          rintro e y3 ⟨rfl, hb⟩
          have Hy3 := Lib.hid (Hy2.out.trans (hb.mono Hy2.out.size))
          clear hb
          refine hK.out _ _ Hy3.out (fun _ => ?_)
          clear hK K
          simp only [List.setIfInBounds_toArray, List.set_cons_zero, List.set_cons_succ]
          have hS3 := Hy3.out
          refine takeH 13 (some 112) (v := ?_) rfl (by kernel_rfl) (by kernel_rfl) (by kernel_rfl) (by kernel_rfl) (fun _ _ _ h => h) (Or.inl ⟨by kernel_rfl, ?hy⟩) (by assumption) ?_
          case hy =>
            intro w' hSw
            clear hSw
            first
              | (go_simp; done)
              | (go_simp; with_reducible rfl)
          simp only [Act.put, List.setIfInBounds_toArray, List.set_cons_zero, List.set_cons_succ]
          refine takeH 14 (some 113) (v := ?_) rfl (by kernel_rfl) (by kernel_rfl) (by kernel_rfl) (by kernel_rfl) (fun _ _ _ h => h) (Or.inl ⟨by kernel_rfl, ?hy⟩) (by assumption) ?_
          case hy =>
            intro w' hSw
            clear hSw
            first
              | (go_simp; done)
              | (go_simp; with_reducible rfl)
          simp only [Act.put, List.setIfInBounds_toArray, List.set_cons_zero, List.set_cons_succ]
          refine wpAnyH_done (by kernel_rfl) ?_ _
          clear hS3
          go_wp2
          go_meet
          exact ⟨rfl, Hy3.out⟩
        · have e1 : ((g : Int) == 0) = false := by simp; omega
          have e2 : decide ((g : Int) = 0) = false := decide_eq_false (by omega)
          have e3 : decide (g = 0) = false := decide_eq_false hg
          refine wp_region_held_drew (S := fun w' => Below v4.heap.size v4 w') (by kernel_rfl) hbd (fun hHeld => ?_)
          rw [show Array.replicate _ false = (#[false, false, false, false, false, false, false, false, false, false, false, false, false, false, false] : Array Bool) from rfl]
          refine takeH 0 (some 99) (v := ?_) rfl (by kernel_rfl) (by kernel_rfl) (by kernel_rfl) (by kernel_rfl) (fun _ _ _ h => h) (Or.inl ⟨by kernel_rfl, ?hy⟩) (by assumption) ?_
          case hy =>
            intro w' hSw
            clear hSw
            first
              | (go_simp; done)
              | (go_simp; with_reducible rfl)
          simp only [Act.put, List.setIfInBounds_toArray, List.set_cons_zero, List.set_cons_succ]
          refine takeH 1 (some 100) (v := ?_) rfl (by kernel_rfl) (by kernel_rfl) (by kernel_rfl) (by kernel_rfl) (fun _ _ _ h => h) (Or.inl ⟨by kernel_rfl, ?hy⟩) (by assumption) ?_
          case hy =>
            intro w' hSw
            clear hSw
            first
              | (go_simp; done)
              | (go_simp; with_reducible rfl)
          simp only [Act.put, List.setIfInBounds_toArray, List.set_cons_zero, List.set_cons_succ]
          refine takeH 2 (some 101) (v := ?_) rfl (by kernel_rfl) (by kernel_rfl) (by kernel_rfl) (by kernel_rfl) (fun _ _ _ h => h) (Or.inl ⟨by kernel_rfl, ?hy⟩) (by assumption) ?_
          case hy =>
            intro w' hSw
            clear hSw
            first
              | (go_simp; done)
              | (go_simp; with_reducible rfl)
          simp only [Act.put, List.setIfInBounds_toArray, List.set_cons_zero, List.set_cons_succ]
          refine takeH 3 (some 102) (v := undef) rfl (by kernel_rfl) (by kernel_rfl) (by kernel_rfl) (by kernel_rfl) (fun _ _ _ h => h) (Or.inr ⟨by kernel_rfl, rfl⟩) (by assumption) ?_
          simp only [Act.put, List.setIfInBounds_toArray, List.set_cons_zero, List.set_cons_succ]
          refine takeH 4 (some 103) (v := undef) rfl (by kernel_rfl) (by kernel_rfl) (by kernel_rfl) (by kernel_rfl) (fun _ _ _ h => h) (Or.inr ⟨by kernel_rfl, rfl⟩) (by assumption) ?_
          simp only [Act.put, List.setIfInBounds_toArray, List.set_cons_zero, List.set_cons_succ]
          refine takeH 5 (some 104) (v := undef) rfl (by kernel_rfl) (by kernel_rfl) (by kernel_rfl) (by kernel_rfl) (fun _ _ _ h => h) (Or.inr ⟨by kernel_rfl, rfl⟩) (by assumption) ?_
          simp only [Act.put, List.setIfInBounds_toArray, List.set_cons_zero, List.set_cons_succ]
          refine takeH 6 (some 105) (v := undef) rfl (by kernel_rfl) (by kernel_rfl) (by kernel_rfl) (by kernel_rfl) (fun _ _ _ h => h) (Or.inr ⟨by kernel_rfl, rfl⟩) (by assumption) ?_
          simp only [Act.put, List.setIfInBounds_toArray, List.set_cons_zero, List.set_cons_succ]
          refine takeH 7 (some 106) (v := undef) rfl (by kernel_rfl) (by kernel_rfl) (by kernel_rfl) (by kernel_rfl) (fun _ _ _ h => h) (Or.inr ⟨by kernel_rfl, rfl⟩) (by assumption) ?_
          simp only [Act.put, List.setIfInBounds_toArray, List.set_cons_zero, List.set_cons_succ]
          refine takeH 8 (some 107) (v := undef) rfl (by kernel_rfl) (by kernel_rfl) (by kernel_rfl) (by kernel_rfl) (fun _ _ _ h => h) (Or.inr ⟨by kernel_rfl, rfl⟩) (by assumption) ?_
          simp only [Act.put, List.setIfInBounds_toArray, List.set_cons_zero, List.set_cons_succ]
          refine takeH 9 (some 108) (v := undef) rfl (by kernel_rfl) (by kernel_rfl) (by kernel_rfl) (by kernel_rfl) (fun _ _ _ h => h) (Or.inr ⟨by kernel_rfl, rfl⟩) (by assumption) ?_
          simp only [Act.put, List.setIfInBounds_toArray, List.set_cons_zero, List.set_cons_succ]
          refine takeH 10 (some 109) (v := undef) rfl (by kernel_rfl) (by kernel_rfl) (by kernel_rfl) (by kernel_rfl) (fun _ _ _ h => h) (Or.inr ⟨by kernel_rfl, rfl⟩) (by assumption) ?_
          simp only [Act.put, List.setIfInBounds_toArray, List.set_cons_zero, List.set_cons_succ]
          refine takeH 11 (some 110) (v := undef) rfl (by kernel_rfl) (by kernel_rfl) (by kernel_rfl) (by kernel_rfl) (fun _ _ _ h => h) (Or.inr ⟨by kernel_rfl, rfl⟩) (by assumption) ?_
          simp only [Act.put, List.setIfInBounds_toArray, List.set_cons_zero, List.set_cons_succ]
          refine takeH 12 (some 111) (v := undef) rfl (by kernel_rfl) (by kernel_rfl) (by kernel_rfl) (by kernel_rfl) (fun _ _ _ h => h) (Or.inr ⟨by kernel_rfl, rfl⟩) (by assumption) ?_
          simp only [Act.put, List.setIfInBounds_toArray, List.set_cons_zero, List.set_cons_succ]
          refine takeH 13 (some 112) (v := undef) rfl (by kernel_rfl) (by kernel_rfl) (by kernel_rfl) (by kernel_rfl) (fun _ _ _ h => h) (Or.inr ⟨by kernel_rfl, rfl⟩) (by assumption) ?_
          simp only [Act.put, List.setIfInBounds_toArray, List.set_cons_zero, List.set_cons_succ]
          refine takeH 14 (some 113) (v := ?_) rfl (by kernel_rfl) (by kernel_rfl) (by kernel_rfl) (by kernel_rfl) (fun _ _ _ h => h) (Or.inl ⟨by kernel_rfl, ?hy⟩) (by assumption) ?_
          case hy =>
            intro w' hSw
            clear hSw
            first
              | (go_simp; done)
              | (go_simp; with_reducible rfl)
          simp only [Act.put, List.setIfInBounds_toArray, List.set_cons_zero, List.set_cons_succ]
          refine wpAnyH_done (by kernel_rfl) ?_ _
          go_wp2
          go_meet
          exact ⟨rfl, hbd⟩
      case rest =>
        obtain ⟨rfl, hwc⟩ := hcut
        obtain ⟨v5, rfl⟩ : ∃ v5 : World, v5 = wc := ⟨_, rfl⟩
        have Hb5 := Lib.hid hwc.drew
        have hb5 := hwc.drew
        have hvv : (vb != vb) = false := by simp
        go_upto_region 21 with fail
        refine wp_region_held_drew (S := fun w' => Below v4.heap.size v4 w') (by kernel_rfl) hb5 (fun hHeld => ?_)
        rw [show Array.replicate _ false = (#[false, false, false, false, false, false, false, false, false, false, false, false, false, false, false, false, false, false, false, false] : Array Bool) from rfl]
        refine takeH 0 (some 114) (v := ?_) rfl (by kernel_rfl) (by kernel_rfl) (by kernel_rfl) (by kernel_rfl) (fun _ _ _ h => h) (Or.inl ⟨by kernel_rfl, ?hy⟩) (by assumption) ?_
        case hy =>
          intro w' hSw
          clear hSw
          first
            | (go_simp; done)
            | (go_simp; with_reducible rfl)
        simp only [Act.put, List.setIfInBounds_toArray, List.set_cons_zero, List.set_cons_succ]
        refine takeH 1 (some 115) (v := ?_) rfl (by kernel_rfl) (by kernel_rfl) (by kernel_rfl) (by kernel_rfl) (fun _ _ _ h => h) (Or.inl ⟨by kernel_rfl, ?hy⟩) (by assumption) ?_
        case hy =>
          intro w' hSw
          clear hSw
          first
            | (go_simp; done)
            | (go_simp; with_reducible rfl)
        simp only [Act.put, List.setIfInBounds_toArray, List.set_cons_zero, List.set_cons_succ]
        refine takeH 3 (some 117) (v := ?_) rfl (by kernel_rfl) (by kernel_rfl) (by kernel_rfl) (by kernel_rfl) (fun _ _ _ h => h) (Or.inl ⟨by kernel_rfl, ?hy⟩) (by assumption) ?_
        case hy =>
          intro w' hSw
          clear hSw
          first
            | (go_simp; done)
            | (go_simp; with_reducible rfl)
        simp only [Act.put, List.setIfInBounds_toArray, List.set_cons_zero, List.set_cons_succ]
        refine takeH 4 (some 118) (v := ?_) rfl (by kernel_rfl) (by kernel_rfl) (by kernel_rfl) (by kernel_rfl) (fun _ _ _ h => h) (Or.inl ⟨by kernel_rfl, ?hy⟩) (by assumption) ?_
        case hy =>
          intro w' hSw
          clear hSw
          first
            | (go_simp; done)
            | (go_simp; with_reducible rfl)
        simp only [Act.put, List.setIfInBounds_toArray, List.set_cons_zero, List.set_cons_succ]
        refine takeH 5 (some 119) (v := ?_) rfl (by kernel_rfl) (by kernel_rfl) (by kernel_rfl) (by kernel_rfl) (fun _ _ _ h => h) (Or.inl ⟨by kernel_rfl, ?hy⟩) (by assumption) ?_
        case hy =>
          intro w' hSw
          clear hSw
          first
            | (go_simp; done)
            | (go_simp; with_reducible rfl)
        simp only [Act.put, List.setIfInBounds_toArray, List.set_cons_zero, List.set_cons_succ]
        refine takeH 6 (some 120) (v := ?_) rfl (by kernel_rfl) (by kernel_rfl) (by kernel_rfl) (by kernel_rfl) (fun _ _ _ h => h) (Or.inl ⟨by kernel_rfl, ?hy⟩) (by assumption) ?_
        case hy =>
          intro w' hSw
          have hx := hyy w' hSw
          clear hSw
          first
            | (go_simp; done)
            | (go_simp; with_reducible rfl)
        simp only [Act.put, List.setIfInBounds_toArray, List.set_cons_zero, List.set_cons_succ]
        refine takeH 8 (some 122) (v := ?_) rfl (by kernel_rfl) (by kernel_rfl) (by kernel_rfl) (by kernel_rfl) (fun _ _ _ h => h) (Or.inl ⟨by kernel_rfl, ?hy⟩) (by assumption) ?_
        case hy =>
          intro w' hSw
          clear hSw
          first
            | (go_simp; done)
            | (go_simp; with_reducible rfl)
        simp only [Act.put, List.setIfInBounds_toArray, List.set_cons_zero, List.set_cons_succ]
        refine takeH 10 (some 124) (v := ?_) rfl (by kernel_rfl) (by kernel_rfl) (by kernel_rfl) (by kernel_rfl) (fun _ _ _ h => h) (Or.inl ⟨by kernel_rfl, ?hy⟩) (by assumption) ?_
        case hy =>
          intro w' hSw
          clear hSw
          first
            | (go_simp; done)
            | (go_simp; with_reducible rfl)
        simp only [Act.put, List.setIfInBounds_toArray, List.set_cons_zero, List.set_cons_succ]
        refine takeH 12 (some 126) (v := ?_) rfl (by kernel_rfl) (by kernel_rfl) (by kernel_rfl) (by kernel_rfl) (fun _ _ _ h => h) (Or.inl ⟨by kernel_rfl, ?hy⟩) (by assumption) ?_
        case hy =>
          intro w' hSw
          clear hSw
          first
            | (go_simp; done)
            | (go_simp; with_reducible rfl)
        simp only [Act.put, List.setIfInBounds_toArray, List.set_cons_zero, List.set_cons_succ]
        refine takeH 13 (some 127) (v := ?_) rfl (by kernel_rfl) (by kernel_rfl) (by kernel_rfl) (by kernel_rfl) (fun _ _ _ h => h) (Or.inl ⟨by kernel_rfl, ?hy⟩) (by assumption) ?_
        case hy =>
          intro w' hSw
          clear hSw
          first
            | (go_simp; done)
            | (go_simp; with_reducible rfl)
        simp only [Act.put, List.setIfInBounds_toArray, List.set_cons_zero, List.set_cons_succ]
        refine takeH 14 (some 128) (v := ?_) rfl (by kernel_rfl) (by kernel_rfl) (by kernel_rfl) (by kernel_rfl) (fun _ _ _ h => h) (Or.inl ⟨by kernel_rfl, ?hy⟩) (by assumption) ?_
        case hy =>
          intro w' hSw
          clear hSw
          first
            | (go_simp; done)
            | (go_simp; with_reducible rfl)
        simp only [Act.put, List.setIfInBounds_toArray, List.set_cons_zero, List.set_cons_succ]
        refine takeH 15 (some 129) (v := ?_) rfl (by kernel_rfl) (by kernel_rfl) (by kernel_rfl) (by kernel_rfl) (fun _ _ _ h => h) (Or.inl ⟨by kernel_rfl, ?hy⟩) (by assumption) ?_
        case hy =>
          intro w' hSw
          have hx := hyy w' hSw
          clear hSw
          first
            | (go_simp; done)
            | (go_simp; with_reducible rfl)
        simp only [Act.put, List.setIfInBounds_toArray, List.set_cons_zero, List.set_cons_succ]
        refine takeH 17 (some 131) (v := ?_) rfl (by kernel_rfl) (by kernel_rfl) (by kernel_rfl) (by kernel_rfl) (fun _ _ _ h => h) (Or.inl ⟨by kernel_rfl, ?hy⟩) (by assumption) ?_
        case hy =>
          intro w' hSw
          clear hSw
          first
            | (go_simp; done)
            | (go_simp; with_reducible rfl)
        simp only [Act.put, List.setIfInBounds_toArray, List.set_cons_zero, List.set_cons_succ]
        clear hb5 hyy hwc hbd
        generalize v5.drew = y0 at *
        refine wpAnyH_ready (rs := [2]) (by kernel_rfl) (by simp) ?_
        refine AllReadyH.cons rfl (fun K hK => ?_) AllReadyH.nil
        rw [if_pos (by kernel_rfl)]
        go_simp
        refine (hKy.out _ Hb5.out).mono ?_
        rintro e y1 ⟨rfl, hb⟩
        have Hy1 := Lib.hid (Hb5.out.trans (hb.mono Hb5.out.size))
        clear hb
        refine hK.out _ _ Hy1.out (fun _ => ?_)
        clear hK K
        simp only [List.setIfInBounds_toArray, List.set_cons_zero, List.set_cons_succ]
        refine wpAnyH_ready (rs := [7]) (by kernel_rfl) (by simp) ?_
        refine AllReadyH.cons rfl (fun K hK => ?_) AllReadyH.nil
        rw [if_pos (by kernel_rfl)]
        go_simp
        refine (HDm.out y1).mono ?_
        rintro e y2 ⟨rfl, hb⟩
        have Hy2 := Lib.hid (Hy1.out.trans (hb.mono Hy1.out.size))
        clear hb
        refine hK.out _ _ Hy2.out (fun _ => ?_)
        clear hK K
        simp only [List.setIfInBounds_toArray, List.set_cons_zero, List.set_cons_succ]
        refine wpAnyH_ready (rs := [9]) (by kernel_rfl) (by simp) ?_
        refine AllReadyH.cons rfl (fun K hK => ?_) AllReadyH.nil
        rw [if_pos (by kernel_rfl)]
        go_simp
        refine (hRb.out y2 Hy2.out).mono ?_
        rintro e y3 ⟨rfl, hb⟩
        have Hy3 := Lib.hid (Hy2.out.trans (hb.mono Hy2.out.size))
        clear hb
        refine hK.out _ _ Hy3.out (fun _ => ?_)
        clear hK K
        simp only [List.setIfInBounds_toArray, List.set_cons_zero, List.set_cons_succ]
        refine wpAnyH_ready (rs := [11]) (by kernel_rfl) (by simp) ?_
        refine AllReadyH.cons rfl (fun K hK => ?_) AllReadyH.nil
        rw [if_pos (by kernel_rfl)]
        go_simp
        refine (hKy.out y3 Hy3.out).mono ?_
        rintro e y4 ⟨rfl, hb⟩
        have Hy4 := Lib.hid (Hy3.out.trans (hb.mono Hy3.out.size))
        clear hb
        refine hK.out _ _ Hy4.out (fun _ => ?_)
        clear hK K
        simp only [List.setIfInBounds_toArray, List.set_cons_zero, List.set_cons_succ]
        refine wpAnyH_ready (rs := [16]) (by kernel_rfl) (by simp) ?_
        refine AllReadyH.cons rfl (fun K hK => ?_) AllReadyH.nil
        rw [if_pos (by kernel_rfl)]
        go_simp
        refine (HDm.out y4).mono ?_
        rintro e y5 ⟨rfl, hb⟩
        have Hy5 := Lib.hid (Hy4.out.trans (hb.mono Hy4.out.size))
        clear hb
        refine hK.out _ _ Hy5.out (fun _ => ?_)
        clear hK K
        simp only [List.setIfInBounds_toArray, List.set_cons_zero, List.set_cons_succ]
        refine wpAnyH_ready (rs := [18]) (by kernel_rfl) (by simp) ?_
        refine AllReadyH.cons rfl (fun K hK => ?_) AllReadyH.nil
        rw [if_pos (by kernel_rfl)]
        go_simp
        refine (hVb.out y5 Hy5.out).mono ?_
        rintro e y6 ⟨rfl, hb⟩
        have Hy6 := Lib.hid (Hy5.out.trans (hb.mono Hy5.out.size))
        clear hb
        refine hK.out _ _ Hy6.out (fun _ => ?_)
        clear hK K
        simp only [List.setIfInBounds_toArray, List.set_cons_zero, List.set_cons_succ]
        have hS6 := Hy6.out
        refine takeH 19 (some 133) (v := ?_) rfl (by kernel_rfl) (by kernel_rfl) (by kernel_rfl) (by kernel_rfl) (fun _ _ _ h => h) (Or.inl ⟨by kernel_rfl, ?hy⟩) (by assumption) ?_
        case hy =>
          intro w' hSw
          clear hSw
          first
            | (go_simp; done)
            | (go_simp; with_reducible rfl)
        simp only [Act.put, List.setIfInBounds_toArray, List.set_cons_zero, List.set_cons_succ]
        refine wpAnyH_done (by kernel_rfl) ?_ _
        clear hS6
        have HT7 := Lib.hid (HT4.out.below Hy6.out); have Hw7 := Lib.hid (Hw4.out.trans (Hy6.out.mono Hw4.out.size))
        go_wp2
        go_roundw
        case rel => exact ⟨k + 1, _, _, rn, Hk.out, by go_num, Hrs2.out, HT7.out, Hw7.out⟩
        case measure => have := Hk.out; simp [RowKit.intOf]; omega
    · obtain rfl : k = n := by omega
      have hd1 : decide ((k : Int) < (k : Int)) = false := by simp
      clear hlt hk
      go_wp2_with fail
      refine (told_any wr).mono ?_
      rintro e v1 ⟨rfl, hb⟩
      have Hw1 := Lib.hid (Hw.out.trans (hb.mono Hw.out.size))
      clear hb
      go_wp2
      go_ret
      exact ⟨rfl, Hw1.out⟩
end Go.Proofs.YthjpaclcoipocaaDoor
