/- The reference's signature of one message. Conditions: bounds. The reference's signature by a ring. Conditions: bounds. -/
import Derived.Test.YtmpklplojfjfbaaGreatDoorJoinT
import Derived.Test.YtmpklplojfjfbaaGreatDoorKeQ
import Derived.Test.YtmpklplojfjfbaaGreatDoorJoinR
import Derived.Test.YtmpklplojfjfbaaGreatDoorJoinK
namespace Go.Proofs.YtmpklplojfjfbaaGreatDoor
open Go.RowKit Go.Lib





theorem take_snoc8 (d : D8) {j : Nat} (hj : j < 8) : d.bytes.take (j + 1) = d.bytes.take j ++ [d.bytes.getD j 0] := by
  have : j = 0 ∨ j = 1 ∨ j = 2 ∨ j = 3 ∨ j = 4 ∨ j = 5 ∨ j = 6 ∨ j = 7 := by omega
  rcases this with rfl | rfl | rfl | rfl | rfl | rfl | rfl | rfl <;> rfl
set_option maxRecDepth 100000 in
set_option maxHeartbeats 8000000 in
theorem signO_any (s m : D8) (w : World) (hs : s.ok) (hm : m.ok) :
    Calls Tryz.prog 25 #[.agg #[.int .u8 (s.x0 : Int), .int .u8 (s.x1 : Int), .int .u8 (s.x2 : Int), .int .u8 (s.x3 : Int), .int .u8 (s.x4 : Int), .int .u8 (s.x5 : Int), .int .u8 (s.x6 : Int), .int .u8 (s.x7 : Int)], .agg #[.int .u8 (m.x0 : Int), .int .u8 (m.x1 : Int), .int .u8 (m.x2 : Int), .int .u8 (m.x3 : Int), .int .u8 (m.x4 : Int), .int .u8 (m.x5 : Int), .int .u8 (m.x6 : Int), .int .u8 (m.x7 : Int)]] w (GivesB w (onceB s m)) := by
  obtain ⟨i0, hi0, hz0, hz1, hz2⟩ := info_parts info_u8
  have HI := Lib.hid (And.intro hi0 (And.intro hz0 (And.intro hz1 hz2))); clear hi0 hz0 hz1 hz2
  obtain ⟨hs0, hm0, hw0, hz0⟩ := alloc2 w (.cells #[.int .u8 (s.x0 : Int), .int .u8 (s.x1 : Int), .int .u8 (s.x2 : Int), .int .u8 (s.x3 : Int), .int .u8 (s.x4 : Int), .int .u8 (s.x5 : Int), .int .u8 (s.x6 : Int), .int .u8 (s.x7 : Int)] 22) (.cells #[.int .u8 (m.x0 : Int), .int .u8 (m.x1 : Int), .int .u8 (m.x2 : Int), .int .u8 (m.x3 : Int), .int .u8 (m.x4 : Int), .int .u8 (m.x5 : Int), .int .u8 (m.x6 : Int), .int .u8 (m.x7 : Int)] 22)
  have HS0 := Lib.hid hs0; have HM0 := Lib.hid hm0; have Hw0 := Lib.hid hw0; have Hs := Lib.hid hs; have Hm := Lib.hid hm
  clear hs0 hm0 hw0 hz0 hs hm
  go_enter Tryz.func25, Tryz.ntmps25
  go_upto_region 1 with fail
  generalize (w.alloc (.cells #[.int .u8 (s.x0 : Int), .int .u8 (s.x1 : Int), .int .u8 (s.x2 : Int), .int .u8 (s.x3 : Int), .int .u8 (s.x4 : Int), .int .u8 (s.x5 : Int), .int .u8 (s.x6 : Int), .int .u8 (s.x7 : Int)] 22)).alloc (.cells #[.int .u8 (m.x0 : Int), .int .u8 (m.x1 : Int), .int .u8 (m.x2 : Int), .int .u8 (m.x3 : Int), .int .u8 (m.x4 : Int), .int .u8 (m.x5 : Int), .int .u8 (m.x6 : Int), .int .u8 (m.x7 : Int)] 22) = v0 at *
  obtain ⟨zf, r0, r1, r2, r3, r4, r5, r6, r7⟩ := free8 HM0.out
  have hls := block_lt HM0.out
  clear zf
  go_wp2_with fail
  refine (rdigits_any m v0 Hm.out).mono ?_
  rintro e v1 ⟨rfl, hb⟩
  have HS1 := Lib.hid (block_below HS0.out hb (block_lt HS0.out)); have Hw1 := Lib.hid (Hw0.out.trans (hb.mono Hw0.out.size))
  clear hb r0 r1 r2 r3 r4 r5 r6 r7 hls HS0 HM0 Hw0
  have hsz : (reachA m).size = 18 := rfl
  have hra := reachA_one m
  have Hidx := Lib.hid (fun k (hk : k < 18) => show (reachA m)[k]? = some (.int .i64 (((reachL m).getD k 0 : Nat) : Int)) from reachA_at hk)
  generalize reachA m = ra at *
  have hst := Go.run_storeCells_new (P := Tryz.prog) v1 110 #[.int .i64 0, .int .i64 0, .int .i64 0, .int .i64 0, .int .i64 0, .int .i64 0, .int .i64 0, .int .i64 0, .int .i64 0, .int .i64 0, .int .i64 0, .int .i64 0, .int .i64 0, .int .i64 0, .int .i64 0, .int .i64 0, .int .i64 0, .int .i64 0] ra (by rw [info_A, hsz]) (by rw [hsz]; rfl) hra
  have HD2 : Hid ((v1.alloc (.cells ra 110)).heap[v1.heap.size]? = some (.cells ra 110 (0, 0))) := heap_alloc_new v1 _
  have HS2 := Lib.hid (block_alloc HS1.out (.cells ra 110)); have Hw2 := Lib.hid (Hw1.out.alloc Hw1.out.size (.cells ra 110))
  go_upto_region 2 with fail
  generalize v1.alloc (.cells ra 110) = v2 at *
  generalize v1.heap.size = bD at *
  clear hst hra hsz HS1 Hw1
  go_wp2
  go_loopw [6, 7] (fun s6 s7 wr => ∃ (k : Nat) (A : Option Addr) (c : Nat), k ≤ 18 ∧ s7 = .int .i64 (k : Int) ∧ s6 = .slice A (8 * k) c ∧ wr.ownsRow w.heap.size 5 1 (.slice A (8 * k) c) (8 * k) (bv (onceK s m k)) ∧ wr.heap[bD]? = some (.cells ra 110 (0, 0)) ∧ wr.heap[w.heap.size]? = some (.cells #[.int .u8 (s.x0 : Int), .int .u8 (s.x1 : Int), .int .u8 (s.x2 : Int), .int .u8 (s.x3 : Int), .int .u8 (s.x4 : Int), .int .u8 (s.x5 : Int), .int .u8 (s.x6 : Int), .int .u8 (s.x7 : Int)] 22 (0, 0)) ∧ Below w.heap.size w wr) (fun _ s7 _ => 18 - (RowKit.intOf s7).toNat)
  case atStart => exact ⟨0, none, 0, by omega, rfl, rfl, World.ownsRow_nil _ _ _ _, HD2.out, HS2.out, Hw2.out⟩
  case round =>
    obtain ⟨k, A, c, hk, rfl, rfl, ho, hd, hs, hw⟩ := hrel
    have HO := Lib.hid ho; have HD := Lib.hid hd; have HS := Lib.hid hs; have Hw := Lib.hid hw
    clear ho hd hs hw HD2 HS2 Hw2
    by_cases hlt : k < 18
    · have hd1 : decide ((k : Int) < 18) = true := decide_eq_true (by omega)
      have hki : (k : Int) < 18 := by omega
      have Hk := Lib.hid hlt
      have Hsn := Lib.hid (onceK_succ s m k)
      have hix := Hidx.out k hlt
      have hdg := reachD_le Hm.out k
      generalize (reachL m).getD k 0 = dg at *
      have HBG := Lib.hid (fun u => beginO_any s k u Hs.out (by omega))
      have Hst := Lib.hid (startD_ok s k)
      generalize startD s k = st at *
      have HCH := Lib.hid (fun u => rchain_any st dg u Hst.out (by omega))
      generalize chainD st dg = q at *
      have hL : ∀ w', (Below w.heap.size w w' ∧ w'.heap[bD]? = some (.cells ra 110 (0, 0)) ∧ w'.heap[w.heap.size]? = some (.cells #[.int .u8 (s.x0 : Int), .int .u8 (s.x1 : Int), .int .u8 (s.x2 : Int), .int .u8 (s.x3 : Int), .int .u8 (s.x4 : Int), .int .u8 (s.x5 : Int), .int .u8 (s.x6 : Int), .int .u8 (s.x7 : Int)] 22 (0, 0))) → (Instr.loadAt 22 (.pointer (some ⟨w.heap.size, 0, none⟩))).run Tryz.prog w' = .ok (.agg #[.int .u8 (s.x0 : Int), .int .u8 (s.x1 : Int), .int .u8 (s.x2 : Int), .int .u8 (s.x3 : Int), .int .u8 (s.x4 : Int), .int .u8 (s.x5 : Int), .int .u8 (s.x6 : Int), .int .u8 (s.x7 : Int)]) w' := fun w' h => load_d8 h.2.2
      have hDg : ∀ w', (Below w.heap.size w w' ∧ w'.heap[bD]? = some (.cells ra 110 (0, 0)) ∧ w'.heap[w.heap.size]? = some (.cells #[.int .u8 (s.x0 : Int), .int .u8 (s.x1 : Int), .int .u8 (s.x2 : Int), .int .u8 (s.x3 : Int), .int .u8 (s.x4 : Int), .int .u8 (s.x5 : Int), .int .u8 (s.x6 : Int), .int .u8 (s.x7 : Int)] 22 (0, 0))) → w'.cell? ⟨bD, k, none⟩ = some (.int .i64 (dg : Int)) := fun w' h => (block_cell h.2.1 k).trans hix
      have hS0 : Below w.heap.size w wr.drew ∧ wr.drew.heap[bD]? = some (.cells ra 110 (0, 0)) ∧ wr.drew.heap[w.heap.size]? = some (.cells #[.int .u8 (s.x0 : Int), .int .u8 (s.x1 : Int), .int .u8 (s.x2 : Int), .int .u8 (s.x3 : Int), .int .u8 (s.x4 : Int), .int .u8 (s.x5 : Int), .int .u8 (s.x6 : Int), .int .u8 (s.x7 : Int)] 22 (0, 0)) := ⟨Hw.out.drew, HD.out, HS.out⟩
      have HSu := Lib.hid hS0
      have HOu : Hid (wr.drew.ownsRow w.heap.size 5 1 (.slice A (8 * k) c) (8 * k) (bv (onceK s m k))) := Lib.hid HO.out.drew
      have hwD : w.heap.size < wr.heap.size ∧ bD < wr.heap.size := ⟨block_lt HS.out, block_lt HD.out⟩
      have HwD := Lib.hid hwD
      clear hix hdg HO HD HS Hw hwD
      go_upto_region 6 with fail
      go_cut [8] (fun s8 wx => ∃ b8, s8 = .pointer (some ⟨b8, 0, none⟩) ∧ wx.heap[b8]? = some (.cells #[.int .u8 (q.x0 : Int), .int .u8 (q.x1 : Int), .int .u8 (q.x2 : Int), .int .u8 (q.x3 : Int), .int .u8 (q.x4 : Int), .int .u8 (q.x5 : Int), .int .u8 (q.x6 : Int), .int .u8 (q.x7 : Int)] 22 (0, 0)) ∧ wx.ownsRow w.heap.size 5 1 (.slice A (8 * k) c) (8 * k) (bv (onceK s m k)) ∧ wx.heap[bD]? = some (.cells ra 110 (0, 0)) ∧ wx.heap[w.heap.size]? = some (.cells #[.int .u8 (s.x0 : Int), .int .u8 (s.x1 : Int), .int .u8 (s.x2 : Int), .int .u8 (s.x3 : Int), .int .u8 (s.x4 : Int), .int .u8 (s.x5 : Int), .int .u8 (s.x6 : Int), .int .u8 (s.x7 : Int)] 22 (0, 0)) ∧ Below w.heap.size w wx)
      case first =>
        refine wp_region_held_drew (S := fun w' => Below w.heap.size w w' ∧ w'.heap[bD]? = some (.cells ra 110 (0, 0)) ∧ w'.heap[w.heap.size]? = some (.cells #[.int .u8 (s.x0 : Int), .int .u8 (s.x1 : Int), .int .u8 (s.x2 : Int), .int .u8 (s.x3 : Int), .int .u8 (s.x4 : Int), .int .u8 (s.x5 : Int), .int .u8 (s.x6 : Int), .int .u8 (s.x7 : Int)] 22 (0, 0))) (by kernel_rfl) hS0 (fun hHeld => ?_)
        rw [show Array.replicate _ false = (#[false, false, false, false, false, false, false, false, false] : Array Bool) from rfl]
        refine takeH 0 (some 16) (v := .agg #[.int .u8 (s.x0 : Int), .int .u8 (s.x1 : Int), .int .u8 (s.x2 : Int), .int .u8 (s.x3 : Int), .int .u8 (s.x4 : Int), .int .u8 (s.x5 : Int), .int .u8 (s.x6 : Int), .int .u8 (s.x7 : Int)]) rfl (by kernel_rfl) (by kernel_rfl) (by kernel_rfl) (by kernel_rfl) (fun _ _ _ h => h) (Or.inl ⟨by kernel_rfl, ?hy⟩) (by assumption) ?_
        case hy =>
          intro w' hSw
          simp [execOp, Act.eval, hL w' hSw, Result.andThen]
        simp only [Act.put, List.setIfInBounds_toArray, List.set_cons_zero, List.set_cons_succ]
        refine takeH 1 (some 17) (v := ?_) rfl (by kernel_rfl) (by kernel_rfl) (by kernel_rfl) (by kernel_rfl) (fun _ _ _ h => h) (Or.inl ⟨by kernel_rfl, ?hy⟩) (by assumption) ?_
        case hy =>
          intro w' hSw
          clear hSw
          first
            | (go_simp; done)
            | (go_simp; with_reducible rfl)
        simp only [Act.put, List.setIfInBounds_toArray, List.set_cons_zero, List.set_cons_succ]
        refine takeH 3 (some 19) (v := ?_) rfl (by kernel_rfl) (by kernel_rfl) (by kernel_rfl) (by kernel_rfl) (fun _ _ _ h => h) (Or.inl ⟨by kernel_rfl, ?hy⟩) (by assumption) ?_
        case hy =>
          intro w' hSw
          clear hSw
          first
            | (go_simp; done)
            | (go_simp; with_reducible rfl)
        simp only [Act.put, List.setIfInBounds_toArray, List.set_cons_zero, List.set_cons_succ]
        refine takeH 4 (some 20) (v := ?_) rfl (by kernel_rfl) (by kernel_rfl) (by kernel_rfl) (by kernel_rfl) (fun _ _ _ h => h) (Or.inl ⟨by kernel_rfl, ?hy⟩) (by assumption) ?_
        case hy =>
          intro w' hSw
          clear hSw
          first
            | (go_simp; done)
            | (go_simp; with_reducible rfl)
        simp only [Act.put, List.setIfInBounds_toArray, List.set_cons_zero, List.set_cons_succ]
        refine takeH 5 (some 21) (v := ?_) rfl (by kernel_rfl) (by kernel_rfl) (by kernel_rfl) (by kernel_rfl) (fun _ _ _ h => h) (Or.inl ⟨by kernel_rfl, ?hy⟩) (by assumption) ?_
        case hy =>
          intro w' hSw
          have hx := hDg w' hSw
          clear hSw
          first
            | (go_simp; done)
            | (go_simp; with_reducible rfl)
        simp only [Act.put, List.setIfInBounds_toArray, List.set_cons_zero, List.set_cons_succ]
        clear hL hDg hS0
        obtain ⟨hwD, hwD2⟩ := HwD.out
        generalize hu0 : wr.drew = u0 at *
        have hu0s : wr.heap.size ≤ u0.heap.size := by rw [← hu0]; exact Nat.le_refl _
        clear hu0
        refine wpAnyH_ready (rs := [2, 7]) (by kernel_rfl) (by simp) ?_
        refine AllReadyH.cons rfl (fun K hK => ?_) (AllReadyH.cons rfl (fun K hK => ?_) AllReadyH.nil)
        · rw [if_pos (by kernel_rfl)]
          go_simp
          have hz1 : ∀ u1 : World, Below u0.heap.size u0 u1 → wr.heap.size ≤ u1.heap.size := fun u1 h => by have := h.size; omega
          refine (HBG.out u0).mono ?_
          rintro e u1 ⟨rfl, hb⟩
          have hz1 := hz1 u1 hb
          have HS9 := Lib.hid (And.intro (HSu.out.1.trans (hb.mono HSu.out.1.size)) (And.intro (block_below HSu.out.2.1 hb (block_lt HSu.out.2.1)) (block_below HSu.out.2.2 hb (block_lt HSu.out.2.2))))
          have HO9 := Lib.hid (own_below HOu.out hb)
          clear HSu HOu
          have HSu := HS9; have HOu := HO9
          clear HS9 HO9
          clear hb
          refine hK.out _ _ HSu.out (fun _ => ?_)
          clear hK K
          simp only [List.setIfInBounds_toArray, List.set_cons_zero, List.set_cons_succ]
          refine wpAnyH_ready (rs := [6, 7]) (by kernel_rfl) (by simp) ?_
          refine AllReadyH.cons rfl (fun K hK => ?_) (AllReadyH.cons rfl (fun K hK => ?_) AllReadyH.nil)
          · rw [if_pos (by kernel_rfl)]
            go_simp
            refine (HCH.out u1).mono ?_
            rintro e u2 ⟨rfl, hb⟩
            have hz2 := hb.size
            have HS9 := Lib.hid (And.intro (HSu.out.1.trans (hb.mono HSu.out.1.size)) (And.intro (block_below HSu.out.2.1 hb (block_lt HSu.out.2.1)) (block_below HSu.out.2.2 hb (block_lt HSu.out.2.2))))
            have HO9 := Lib.hid (own_below HOu.out hb)
            clear HSu HOu
            have HSu := HS9; have HOu := HO9
            clear HS9 HO9
            clear hb
            refine hK.out _ _ HSu.out (fun _ => ?_)
            clear hK K
            simp only [List.setIfInBounds_toArray, List.set_cons_zero, List.set_cons_succ]
            refine wpAnyH_ready (rs := [7]) (by kernel_rfl) (by simp) ?_
            refine AllReadyH.cons rfl (fun K hK => ?_) AllReadyH.nil
            rw [if_pos (by kernel_rfl)]
            go_simp
            have HBu : Hid ((u2.alloc (.cells #[.int .u8 0, .int .u8 0, .int .u8 0, .int .u8 0, .int .u8 0, .int .u8 0, .int .u8 0, .int .u8 0] 22)).heap[u2.heap.size]? = some (.cells #[.int .u8 0, .int .u8 0, .int .u8 0, .int .u8 0, .int .u8 0, .int .u8 0, .int .u8 0, .int .u8 0] 22 (0, 0))) := heap_alloc_new u2 _
            have hb := h_one u2 (.cells #[.int .u8 0, .int .u8 0, .int .u8 0, .int .u8 0, .int .u8 0, .int .u8 0, .int .u8 0, .int .u8 0] 22)
            have HS9 := Lib.hid (And.intro (HSu.out.1.trans (hb.mono HSu.out.1.size)) (And.intro (block_below HSu.out.2.1 hb (block_lt HSu.out.2.1)) (block_below HSu.out.2.2 hb (block_lt HSu.out.2.2))))
            have HO9 := Lib.hid (own_below HOu.out hb)
            clear HSu HOu
            have HSu := HS9; have HOu := HO9
            clear HS9 HO9
            clear hb
            refine hK.out _ _ HSu.out (fun _ => ?_)
            clear hK K
            simp only [List.setIfInBounds_toArray, List.set_cons_zero, List.set_cons_succ]
            have hb1 : w.heap.size < u2.heap.size := by omega
            have hb2 : bD < u2.heap.size := by omega
            clear hz2 hz1
            generalize u2.alloc (.cells #[.int .u8 0, .int .u8 0, .int .u8 0, .int .u8 0, .int .u8 0, .int .u8 0, .int .u8 0, .int .u8 0] 22) = u3 at *
            generalize u2.heap.size = b8 at *
            obtain ⟨zf, r0, r1, r2, r3, r4, r5, r6, r7⟩ := free8 HBu.out
            have hlb := block_lt HBu.out
            have h8 := set8 HBu.out (.int .u8 (q.x0 : Int)) (.int .u8 (q.x1 : Int)) (.int .u8 (q.x2 : Int)) (.int .u8 (q.x3 : Int)) (.int .u8 (q.x4 : Int)) (.int .u8 (q.x5 : Int)) (.int .u8 (q.x6 : Int)) (.int .u8 (q.x7 : Int))
            have hg8 := grown_set8 u3 (b8) (.int .u8 (q.x0 : Int)) (.int .u8 (q.x1 : Int)) (.int .u8 (q.x2 : Int)) (.int .u8 (q.x3 : Int)) (.int .u8 (q.x4 : Int)) (.int .u8 (q.x5 : Int)) (.int .u8 (q.x6 : Int)) (.int .u8 (q.x7 : Int))
            have hS8 : Below w.heap.size w ((((((((u3.setCell ⟨b8, 0, none⟩ (.int .u8 (q.x0 : Int))).setCell ⟨b8, 1, none⟩ (.int .u8 (q.x1 : Int))).setCell ⟨b8, 2, none⟩ (.int .u8 (q.x2 : Int))).setCell ⟨b8, 3, none⟩ (.int .u8 (q.x3 : Int))).setCell ⟨b8, 4, none⟩ (.int .u8 (q.x4 : Int))).setCell ⟨b8, 5, none⟩ (.int .u8 (q.x5 : Int))).setCell ⟨b8, 6, none⟩ (.int .u8 (q.x6 : Int))).setCell ⟨b8, 7, none⟩ (.int .u8 (q.x7 : Int))) ∧ (((((((((u3.setCell ⟨b8, 0, none⟩ (.int .u8 (q.x0 : Int))).setCell ⟨b8, 1, none⟩ (.int .u8 (q.x1 : Int))).setCell ⟨b8, 2, none⟩ (.int .u8 (q.x2 : Int))).setCell ⟨b8, 3, none⟩ (.int .u8 (q.x3 : Int))).setCell ⟨b8, 4, none⟩ (.int .u8 (q.x4 : Int))).setCell ⟨b8, 5, none⟩ (.int .u8 (q.x5 : Int))).setCell ⟨b8, 6, none⟩ (.int .u8 (q.x6 : Int))).setCell ⟨b8, 7, none⟩ (.int .u8 (q.x7 : Int)))).heap[bD]? = some (.cells ra 110 (0, 0)) ∧ (((((((((u3.setCell ⟨b8, 0, none⟩ (.int .u8 (q.x0 : Int))).setCell ⟨b8, 1, none⟩ (.int .u8 (q.x1 : Int))).setCell ⟨b8, 2, none⟩ (.int .u8 (q.x2 : Int))).setCell ⟨b8, 3, none⟩ (.int .u8 (q.x3 : Int))).setCell ⟨b8, 4, none⟩ (.int .u8 (q.x4 : Int))).setCell ⟨b8, 5, none⟩ (.int .u8 (q.x5 : Int))).setCell ⟨b8, 6, none⟩ (.int .u8 (q.x6 : Int))).setCell ⟨b8, 7, none⟩ (.int .u8 (q.x7 : Int)))).heap[w.heap.size]? = some (.cells #[.int .u8 (s.x0 : Int), .int .u8 (s.x1 : Int), .int .u8 (s.x2 : Int), .int .u8 (s.x3 : Int), .int .u8 (s.x4 : Int), .int .u8 (s.x5 : Int), .int .u8 (s.x6 : Int), .int .u8 (s.x7 : Int)] 22 (0, 0)) := ⟨HSu.out.1.grown hg8 HSu.out.1.size (fun z hz => by injection hz with hz; omega), (hg8.block _ (block_lt HSu.out.2.1) (by intro e; injection e with e; omega)).trans HSu.out.2.1, (hg8.block _ (block_lt HSu.out.2.2) (by intro e; injection e with e; omega)).trans HSu.out.2.2⟩
            have hO8 := own_keep HOu.out (fun z hz => hg8.block z (HOu.out.lt z hz).2 (fun e => own_ne HOu.out HBu.out (by decide) (by rw [hz]; exact e.symm)))
            refine wpAnyH_ready (rs := [8]) (by kernel_rfl) (by simp) ?_
            refine AllReadyH.cons rfl (fun K hK => ?_) AllReadyH.nil
            rw [if_pos (by kernel_rfl)]
            go_simp
            refine hK.out _ _ hS8 (fun _ => ?_)
            clear hK K
            simp only [List.setIfInBounds_toArray, List.set_cons_zero, List.set_cons_succ]
            have HS8 := Lib.hid hS8; have HO8 := Lib.hid hO8; have H8 := Lib.hid h8
            clear hS8 hO8 h8 hg8 zf r0 r1 r2 r3 r4 r5 r6 r7
            generalize ((((((((u3.setCell ⟨b8, 0, none⟩ (.int .u8 (q.x0 : Int))).setCell ⟨b8, 1, none⟩ (.int .u8 (q.x1 : Int))).setCell ⟨b8, 2, none⟩ (.int .u8 (q.x2 : Int))).setCell ⟨b8, 3, none⟩ (.int .u8 (q.x3 : Int))).setCell ⟨b8, 4, none⟩ (.int .u8 (q.x4 : Int))).setCell ⟨b8, 5, none⟩ (.int .u8 (q.x5 : Int))).setCell ⟨b8, 6, none⟩ (.int .u8 (q.x6 : Int))).setCell ⟨b8, 7, none⟩ (.int .u8 (q.x7 : Int))) = u9 at *
            refine wpAnyH_done (by kernel_rfl) ?_ _
            go_wp2
            go_meet
            exact ⟨_, rfl, H8.out, HO8.out, HS8.out.2.1, HS8.out.2.2, HS8.out.1⟩
          · rw [if_pos (by kernel_rfl)]
            go_simp
            have HBu : Hid ((u1.alloc (.cells #[.int .u8 0, .int .u8 0, .int .u8 0, .int .u8 0, .int .u8 0, .int .u8 0, .int .u8 0, .int .u8 0] 22)).heap[u1.heap.size]? = some (.cells #[.int .u8 0, .int .u8 0, .int .u8 0, .int .u8 0, .int .u8 0, .int .u8 0, .int .u8 0, .int .u8 0] 22 (0, 0))) := heap_alloc_new u1 _
            have hb := h_one u1 (.cells #[.int .u8 0, .int .u8 0, .int .u8 0, .int .u8 0, .int .u8 0, .int .u8 0, .int .u8 0, .int .u8 0] 22)
            have HS9 := Lib.hid (And.intro (HSu.out.1.trans (hb.mono HSu.out.1.size)) (And.intro (block_below HSu.out.2.1 hb (block_lt HSu.out.2.1)) (block_below HSu.out.2.2 hb (block_lt HSu.out.2.2))))
            have HO9 := Lib.hid (own_below HOu.out hb)
            clear HSu HOu
            have HSu := HS9; have HOu := HO9
            clear HS9 HO9
            clear hb
            refine hK.out _ _ HSu.out (fun _ => ?_)
            clear hK K
            simp only [List.setIfInBounds_toArray, List.set_cons_zero, List.set_cons_succ]
            refine wpAnyH_ready (rs := [6]) (by kernel_rfl) (by simp) ?_
            refine AllReadyH.cons rfl (fun K hK => ?_) AllReadyH.nil
            rw [if_pos (by kernel_rfl)]
            go_simp
            refine (HCH.out _).mono ?_
            rintro e u2 ⟨rfl, hb⟩
            have HS9 := Lib.hid (And.intro (HSu.out.1.trans (hb.mono HSu.out.1.size)) (And.intro (block_below HSu.out.2.1 hb (block_lt HSu.out.2.1)) (block_below HSu.out.2.2 hb (block_lt HSu.out.2.2))))
            have HO9 := Lib.hid (own_below HOu.out hb)
            clear HSu HOu
            have HSu := HS9; have HOu := HO9
            clear HS9 HO9
            have HB9 := Lib.hid (block_below HBu.out hb (block_lt HBu.out))
            clear hb HBu
            have HBu := HB9
            clear HB9
            refine hK.out _ _ HSu.out (fun _ => ?_)
            clear hK K
            simp only [List.setIfInBounds_toArray, List.set_cons_zero, List.set_cons_succ]
            obtain ⟨zf, r0, r1, r2, r3, r4, r5, r6, r7⟩ := free8 HBu.out
            have hlb := block_lt HBu.out
            have h8 := set8 HBu.out (.int .u8 (q.x0 : Int)) (.int .u8 (q.x1 : Int)) (.int .u8 (q.x2 : Int)) (.int .u8 (q.x3 : Int)) (.int .u8 (q.x4 : Int)) (.int .u8 (q.x5 : Int)) (.int .u8 (q.x6 : Int)) (.int .u8 (q.x7 : Int))
            have hg8 := grown_set8 u2 (u1.heap.size) (.int .u8 (q.x0 : Int)) (.int .u8 (q.x1 : Int)) (.int .u8 (q.x2 : Int)) (.int .u8 (q.x3 : Int)) (.int .u8 (q.x4 : Int)) (.int .u8 (q.x5 : Int)) (.int .u8 (q.x6 : Int)) (.int .u8 (q.x7 : Int))
            have hS8 : Below w.heap.size w ((((((((u2.setCell ⟨u1.heap.size, 0, none⟩ (.int .u8 (q.x0 : Int))).setCell ⟨u1.heap.size, 1, none⟩ (.int .u8 (q.x1 : Int))).setCell ⟨u1.heap.size, 2, none⟩ (.int .u8 (q.x2 : Int))).setCell ⟨u1.heap.size, 3, none⟩ (.int .u8 (q.x3 : Int))).setCell ⟨u1.heap.size, 4, none⟩ (.int .u8 (q.x4 : Int))).setCell ⟨u1.heap.size, 5, none⟩ (.int .u8 (q.x5 : Int))).setCell ⟨u1.heap.size, 6, none⟩ (.int .u8 (q.x6 : Int))).setCell ⟨u1.heap.size, 7, none⟩ (.int .u8 (q.x7 : Int))) ∧ (((((((((u2.setCell ⟨u1.heap.size, 0, none⟩ (.int .u8 (q.x0 : Int))).setCell ⟨u1.heap.size, 1, none⟩ (.int .u8 (q.x1 : Int))).setCell ⟨u1.heap.size, 2, none⟩ (.int .u8 (q.x2 : Int))).setCell ⟨u1.heap.size, 3, none⟩ (.int .u8 (q.x3 : Int))).setCell ⟨u1.heap.size, 4, none⟩ (.int .u8 (q.x4 : Int))).setCell ⟨u1.heap.size, 5, none⟩ (.int .u8 (q.x5 : Int))).setCell ⟨u1.heap.size, 6, none⟩ (.int .u8 (q.x6 : Int))).setCell ⟨u1.heap.size, 7, none⟩ (.int .u8 (q.x7 : Int)))).heap[bD]? = some (.cells ra 110 (0, 0)) ∧ (((((((((u2.setCell ⟨u1.heap.size, 0, none⟩ (.int .u8 (q.x0 : Int))).setCell ⟨u1.heap.size, 1, none⟩ (.int .u8 (q.x1 : Int))).setCell ⟨u1.heap.size, 2, none⟩ (.int .u8 (q.x2 : Int))).setCell ⟨u1.heap.size, 3, none⟩ (.int .u8 (q.x3 : Int))).setCell ⟨u1.heap.size, 4, none⟩ (.int .u8 (q.x4 : Int))).setCell ⟨u1.heap.size, 5, none⟩ (.int .u8 (q.x5 : Int))).setCell ⟨u1.heap.size, 6, none⟩ (.int .u8 (q.x6 : Int))).setCell ⟨u1.heap.size, 7, none⟩ (.int .u8 (q.x7 : Int)))).heap[w.heap.size]? = some (.cells #[.int .u8 (s.x0 : Int), .int .u8 (s.x1 : Int), .int .u8 (s.x2 : Int), .int .u8 (s.x3 : Int), .int .u8 (s.x4 : Int), .int .u8 (s.x5 : Int), .int .u8 (s.x6 : Int), .int .u8 (s.x7 : Int)] 22 (0, 0)) := ⟨HSu.out.1.grown hg8 HSu.out.1.size (fun z hz => by injection hz with hz; omega), (hg8.block _ (block_lt HSu.out.2.1) (by intro e; injection e with e; omega)).trans HSu.out.2.1, (hg8.block _ (block_lt HSu.out.2.2) (by intro e; injection e with e; omega)).trans HSu.out.2.2⟩
            have hO8 := own_keep HOu.out (fun z hz => hg8.block z (HOu.out.lt z hz).2 (fun e => own_ne HOu.out HBu.out (by decide) (by rw [hz]; exact e.symm)))
            refine wpAnyH_ready (rs := [8]) (by kernel_rfl) (by simp) ?_
            refine AllReadyH.cons rfl (fun K hK => ?_) AllReadyH.nil
            rw [if_pos (by kernel_rfl)]
            go_simp
            refine hK.out _ _ hS8 (fun _ => ?_)
            clear hK K
            simp only [List.setIfInBounds_toArray, List.set_cons_zero, List.set_cons_succ]
            have HS8 := Lib.hid hS8; have HO8 := Lib.hid hO8; have H8 := Lib.hid h8
            clear hS8 hO8 h8 hg8 zf r0 r1 r2 r3 r4 r5 r6 r7
            generalize ((((((((u2.setCell ⟨u1.heap.size, 0, none⟩ (.int .u8 (q.x0 : Int))).setCell ⟨u1.heap.size, 1, none⟩ (.int .u8 (q.x1 : Int))).setCell ⟨u1.heap.size, 2, none⟩ (.int .u8 (q.x2 : Int))).setCell ⟨u1.heap.size, 3, none⟩ (.int .u8 (q.x3 : Int))).setCell ⟨u1.heap.size, 4, none⟩ (.int .u8 (q.x4 : Int))).setCell ⟨u1.heap.size, 5, none⟩ (.int .u8 (q.x5 : Int))).setCell ⟨u1.heap.size, 6, none⟩ (.int .u8 (q.x6 : Int))).setCell ⟨u1.heap.size, 7, none⟩ (.int .u8 (q.x7 : Int))) = u9 at *
            refine wpAnyH_done (by kernel_rfl) ?_ _
            go_wp2
            go_meet
            exact ⟨_, rfl, H8.out, HO8.out, HS8.out.2.1, HS8.out.2.2, HS8.out.1⟩
        · rw [if_pos (by kernel_rfl)]
          go_simp
          have HBu : Hid ((u0.alloc (.cells #[.int .u8 0, .int .u8 0, .int .u8 0, .int .u8 0, .int .u8 0, .int .u8 0, .int .u8 0, .int .u8 0] 22)).heap[u0.heap.size]? = some (.cells #[.int .u8 0, .int .u8 0, .int .u8 0, .int .u8 0, .int .u8 0, .int .u8 0, .int .u8 0, .int .u8 0] 22 (0, 0))) := heap_alloc_new u0 _
          have hb := h_one u0 (.cells #[.int .u8 0, .int .u8 0, .int .u8 0, .int .u8 0, .int .u8 0, .int .u8 0, .int .u8 0, .int .u8 0] 22)
          have HS9 := Lib.hid (And.intro (HSu.out.1.trans (hb.mono HSu.out.1.size)) (And.intro (block_below HSu.out.2.1 hb (block_lt HSu.out.2.1)) (block_below HSu.out.2.2 hb (block_lt HSu.out.2.2))))
          have HO9 := Lib.hid (own_below HOu.out hb)
          clear HSu HOu
          have HSu := HS9; have HOu := HO9
          clear HS9 HO9
          clear hb
          refine hK.out _ _ HSu.out (fun _ => ?_)
          clear hK K
          simp only [List.setIfInBounds_toArray, List.set_cons_zero, List.set_cons_succ]
          refine wpAnyH_ready (rs := [2]) (by kernel_rfl) (by simp) ?_
          refine AllReadyH.cons rfl (fun K hK => ?_) AllReadyH.nil
          rw [if_pos (by kernel_rfl)]
          go_simp
          refine (HBG.out _).mono ?_
          rintro e u1 ⟨rfl, hb⟩
          have HS9 := Lib.hid (And.intro (HSu.out.1.trans (hb.mono HSu.out.1.size)) (And.intro (block_below HSu.out.2.1 hb (block_lt HSu.out.2.1)) (block_below HSu.out.2.2 hb (block_lt HSu.out.2.2))))
          have HO9 := Lib.hid (own_below HOu.out hb)
          clear HSu HOu
          have HSu := HS9; have HOu := HO9
          clear HS9 HO9
          have HB9 := Lib.hid (block_below HBu.out hb (block_lt HBu.out))
          clear hb HBu
          have HBu := HB9
          clear HB9
          refine hK.out _ _ HSu.out (fun _ => ?_)
          clear hK K
          simp only [List.setIfInBounds_toArray, List.set_cons_zero, List.set_cons_succ]
          refine wpAnyH_ready (rs := [6]) (by kernel_rfl) (by simp) ?_
          refine AllReadyH.cons rfl (fun K hK => ?_) AllReadyH.nil
          rw [if_pos (by kernel_rfl)]
          go_simp
          refine (HCH.out _).mono ?_
          rintro e u2 ⟨rfl, hb⟩
          have HS9 := Lib.hid (And.intro (HSu.out.1.trans (hb.mono HSu.out.1.size)) (And.intro (block_below HSu.out.2.1 hb (block_lt HSu.out.2.1)) (block_below HSu.out.2.2 hb (block_lt HSu.out.2.2))))
          have HO9 := Lib.hid (own_below HOu.out hb)
          clear HSu HOu
          have HSu := HS9; have HOu := HO9
          clear HS9 HO9
          have HB9 := Lib.hid (block_below HBu.out hb (block_lt HBu.out))
          clear hb HBu
          have HBu := HB9
          clear HB9
          refine hK.out _ _ HSu.out (fun _ => ?_)
          clear hK K
          simp only [List.setIfInBounds_toArray, List.set_cons_zero, List.set_cons_succ]
          obtain ⟨zf, r0, r1, r2, r3, r4, r5, r6, r7⟩ := free8 HBu.out
          have hlb := block_lt HBu.out
          have h8 := set8 HBu.out (.int .u8 (q.x0 : Int)) (.int .u8 (q.x1 : Int)) (.int .u8 (q.x2 : Int)) (.int .u8 (q.x3 : Int)) (.int .u8 (q.x4 : Int)) (.int .u8 (q.x5 : Int)) (.int .u8 (q.x6 : Int)) (.int .u8 (q.x7 : Int))
          have hg8 := grown_set8 u2 (u0.heap.size) (.int .u8 (q.x0 : Int)) (.int .u8 (q.x1 : Int)) (.int .u8 (q.x2 : Int)) (.int .u8 (q.x3 : Int)) (.int .u8 (q.x4 : Int)) (.int .u8 (q.x5 : Int)) (.int .u8 (q.x6 : Int)) (.int .u8 (q.x7 : Int))
          have hS8 : Below w.heap.size w ((((((((u2.setCell ⟨u0.heap.size, 0, none⟩ (.int .u8 (q.x0 : Int))).setCell ⟨u0.heap.size, 1, none⟩ (.int .u8 (q.x1 : Int))).setCell ⟨u0.heap.size, 2, none⟩ (.int .u8 (q.x2 : Int))).setCell ⟨u0.heap.size, 3, none⟩ (.int .u8 (q.x3 : Int))).setCell ⟨u0.heap.size, 4, none⟩ (.int .u8 (q.x4 : Int))).setCell ⟨u0.heap.size, 5, none⟩ (.int .u8 (q.x5 : Int))).setCell ⟨u0.heap.size, 6, none⟩ (.int .u8 (q.x6 : Int))).setCell ⟨u0.heap.size, 7, none⟩ (.int .u8 (q.x7 : Int))) ∧ (((((((((u2.setCell ⟨u0.heap.size, 0, none⟩ (.int .u8 (q.x0 : Int))).setCell ⟨u0.heap.size, 1, none⟩ (.int .u8 (q.x1 : Int))).setCell ⟨u0.heap.size, 2, none⟩ (.int .u8 (q.x2 : Int))).setCell ⟨u0.heap.size, 3, none⟩ (.int .u8 (q.x3 : Int))).setCell ⟨u0.heap.size, 4, none⟩ (.int .u8 (q.x4 : Int))).setCell ⟨u0.heap.size, 5, none⟩ (.int .u8 (q.x5 : Int))).setCell ⟨u0.heap.size, 6, none⟩ (.int .u8 (q.x6 : Int))).setCell ⟨u0.heap.size, 7, none⟩ (.int .u8 (q.x7 : Int)))).heap[bD]? = some (.cells ra 110 (0, 0)) ∧ (((((((((u2.setCell ⟨u0.heap.size, 0, none⟩ (.int .u8 (q.x0 : Int))).setCell ⟨u0.heap.size, 1, none⟩ (.int .u8 (q.x1 : Int))).setCell ⟨u0.heap.size, 2, none⟩ (.int .u8 (q.x2 : Int))).setCell ⟨u0.heap.size, 3, none⟩ (.int .u8 (q.x3 : Int))).setCell ⟨u0.heap.size, 4, none⟩ (.int .u8 (q.x4 : Int))).setCell ⟨u0.heap.size, 5, none⟩ (.int .u8 (q.x5 : Int))).setCell ⟨u0.heap.size, 6, none⟩ (.int .u8 (q.x6 : Int))).setCell ⟨u0.heap.size, 7, none⟩ (.int .u8 (q.x7 : Int)))).heap[w.heap.size]? = some (.cells #[.int .u8 (s.x0 : Int), .int .u8 (s.x1 : Int), .int .u8 (s.x2 : Int), .int .u8 (s.x3 : Int), .int .u8 (s.x4 : Int), .int .u8 (s.x5 : Int), .int .u8 (s.x6 : Int), .int .u8 (s.x7 : Int)] 22 (0, 0)) := ⟨HSu.out.1.grown hg8 HSu.out.1.size (fun z hz => by injection hz with hz; omega), (hg8.block _ (block_lt HSu.out.2.1) (by intro e; injection e with e; omega)).trans HSu.out.2.1, (hg8.block _ (block_lt HSu.out.2.2) (by intro e; injection e with e; omega)).trans HSu.out.2.2⟩
          have hO8 := own_keep HOu.out (fun z hz => hg8.block z (HOu.out.lt z hz).2 (fun e => own_ne HOu.out HBu.out (by decide) (by rw [hz]; exact e.symm)))
          refine wpAnyH_ready (rs := [8]) (by kernel_rfl) (by simp) ?_
          refine AllReadyH.cons rfl (fun K hK => ?_) AllReadyH.nil
          rw [if_pos (by kernel_rfl)]
          go_simp
          refine hK.out _ _ hS8 (fun _ => ?_)
          clear hK K
          simp only [List.setIfInBounds_toArray, List.set_cons_zero, List.set_cons_succ]
          have HS8 := Lib.hid hS8; have HO8 := Lib.hid hO8; have H8 := Lib.hid h8
          clear hS8 hO8 h8 hg8 zf r0 r1 r2 r3 r4 r5 r6 r7
          generalize ((((((((u2.setCell ⟨u0.heap.size, 0, none⟩ (.int .u8 (q.x0 : Int))).setCell ⟨u0.heap.size, 1, none⟩ (.int .u8 (q.x1 : Int))).setCell ⟨u0.heap.size, 2, none⟩ (.int .u8 (q.x2 : Int))).setCell ⟨u0.heap.size, 3, none⟩ (.int .u8 (q.x3 : Int))).setCell ⟨u0.heap.size, 4, none⟩ (.int .u8 (q.x4 : Int))).setCell ⟨u0.heap.size, 5, none⟩ (.int .u8 (q.x5 : Int))).setCell ⟨u0.heap.size, 6, none⟩ (.int .u8 (q.x6 : Int))).setCell ⟨u0.heap.size, 7, none⟩ (.int .u8 (q.x7 : Int))) = u9 at *
          refine wpAnyH_done (by kernel_rfl) ?_ _
          go_wp2
          go_meet
          exact ⟨_, rfl, H8.out, HO8.out, HS8.out.2.1, HS8.out.2.2, HS8.out.1⟩
      case rest =>
        obtain ⟨b8, rfl, hb8, ho8, hd8, hs8, hw8⟩ := hcut
        obtain ⟨v6, rfl⟩ : ∃ v6 : World, v6 = wc := ⟨_, rfl⟩
        have HB6 := Lib.hid hb8; have HO6 := Lib.hid ho8; have HD6 := Lib.hid hd8; have HS6 := Lib.hid hs8; have Hw6 := Lib.hid hw8
        clear hb8 ho8 hd8 hs8 hw8 HSu HOu HwD hL hDg hS0
        obtain ⟨wo, rfl⟩ : ∃ wo : World, wo = wr := ⟨_, rfl⟩
        go_wp2
        go_loopw [6, 9] (fun s6 s9 wr => ∃ (j : Nat) (A1 : Option Addr) (c1 : Nat), j ≤ 8 ∧ s9 = .int .i64 (j : Int) ∧ s6 = .slice A1 (8 * k + j) c1 ∧ wr.ownsRow w.heap.size 5 1 (.slice A1 (8 * k + j) c1) (8 * k + j) (bv (onceK s m k ++ q.bytes.take j)) ∧ wr.heap[b8]? = some (.cells #[.int .u8 (q.x0 : Int), .int .u8 (q.x1 : Int), .int .u8 (q.x2 : Int), .int .u8 (q.x3 : Int), .int .u8 (q.x4 : Int), .int .u8 (q.x5 : Int), .int .u8 (q.x6 : Int), .int .u8 (q.x7 : Int)] 22 (0, 0)) ∧ wr.heap[bD]? = some (.cells ra 110 (0, 0)) ∧ wr.heap[w.heap.size]? = some (.cells #[.int .u8 (s.x0 : Int), .int .u8 (s.x1 : Int), .int .u8 (s.x2 : Int), .int .u8 (s.x3 : Int), .int .u8 (s.x4 : Int), .int .u8 (s.x5 : Int), .int .u8 (s.x6 : Int), .int .u8 (s.x7 : Int)] 22 (0, 0)) ∧ Below w.heap.size w wr) (fun _ s9 _ => 8 - (RowKit.intOf s9).toNat)
        case atStart => exact ⟨0, A, c, by omega, rfl, rfl, by simpa using HO6.out, HB6.out, HD6.out, HS6.out, Hw6.out⟩
        case round =>
          obtain ⟨j, A1, c1, hj, rfl, rfl, ho, hb, hd, hs, hw⟩ := hrel
          have HO := Lib.hid ho; have HB := Lib.hid hb; have HD := Lib.hid hd; have HS := Lib.hid hs; have Hw := Lib.hid hw
          clear ho hb hd hs hw HB6 HO6 HD6 HS6 Hw6
          by_cases hlt : j < 8
          · have hd1 : decide ((j : Int) < 8) = true := decide_eq_true (by omega)
            have hji : (j : Int) < 8 := by omega
            have Hj := Lib.hid hlt
            have Htk := Lib.hid (take_snoc8 q hlt)
            have mb := bytes_cell HB.out hlt
            have hlb := block_lt HB.out
            generalize q.bytes.getD j 0 = v at *
            have HO3 := Lib.hid (HO.out.alloc (.cells #[.int .u8 (v : Int)] 5)); have HB3 := Lib.hid (block_alloc HB.out (.cells #[.int .u8 (v : Int)] 5)); have HD3 := Lib.hid (block_alloc HD.out (.cells #[.int .u8 (v : Int)] 5)); have HS3 := Lib.hid (block_alloc HS.out (.cells #[.int .u8 (v : Int)] 5)); have Hw3 := Lib.hid (Hw.out.alloc Hw.out.size (.cells #[.int .u8 (v : Int)] 5))
            have HRl : Hid (Rd (wr.alloc (.cells #[.int .u8 (v : Int)] 5)) (wr.alloc (.cells #[.int .u8 (v : Int)] 5)).heap.size 1 (some ⟨wr.heap.size, 0, none⟩) 1 (bv [v])) := Rd.newA (n := 1) (sz := 1) (xs := bv [v]) wr 5 #[.int .u8 (v : Int)] rfl rfl
            have hbs : w.heap.size ≤ (wr.alloc (.cells #[.int .u8 (v : Int)] 5)).heap.size := by rw [World.size_alloc]; have := Hw.out.size; omega
            clear HO HB HD HS Hw
            go_wp2_with (at_builtin; go_must (refine wpList_append_rdg (wr.alloc (.cells #[.int .u8 (v : Int)] 5)) (by rfl) _ _ 23 (by rfl) w.heap.size 5 i0 (.int .u8 0) 1 1 Tryz.underlying23 HI.out rfl (by decide) _ _ _ (by rfl) HO3.out (wr.alloc (.cells #[.int .u8 (v : Int)] 5)).heap.size (some ⟨wr.heap.size, 0, none⟩) 1 1 _ (by rfl) HRl.out (bv_one _) (by omega) (by omega) hbs ?_); intro v4 w4 ho4 hb4 hg4; obtain ⟨A4, c4, rfl⟩ := own_form ho4; rw [← bv_append, List.append_assoc, ← Htk.out] at ho4; have HO4 := Lib.hid ho4; have HB4 := Lib.hid (block_grown HB3.out hg4 (own_ne HO3.out HB3.out (by decide))); have HD4 := Lib.hid (block_grown HD3.out hg4 (own_ne HO3.out HD3.out (by decide))); have HS4 := Lib.hid (block_grown HS3.out hg4 (own_ne HO3.out HS3.out (by decide))); have Hw4 := Lib.hid (Hw3.out.trans hb4); clear ho4 hb4 hg4)
            go_roundw
            case rel => exact ⟨j + 1, A4, c4, Hj.out, by go_num, rfl, HO4.out, HB4.out, HD4.out, HS4.out, Hw4.out⟩
            case measure => have := Hj.out; simp [RowKit.intOf]; omega
          · obtain rfl : j = 8 := by omega
            have hd1 : decide (((8 : Nat) : Int) < 8) = false := by decide
            have ho := HO.out
            rw [show q.bytes.take 8 = q.bytes from rfl, ← Hsn.out] at ho
            have HO9 := Lib.hid ho
            clear hlt hj ho HO
            go_wp2
            go_roundw
            case rel => exact ⟨k + 1, A1, c1, Hk.out, by go_num, rfl, HO9.out, HD.out, HS.out, Hw.out⟩
            case measure => have := Hk.out; simp [RowKit.intOf]; omega
    · obtain rfl : k = 18 := by omega
      have hd1 : decide (((18 : Nat) : Int) < 18) = false := by decide
      clear hlt hk
      go_wp2
      go_ret
      exact ⟨A, _, c, rfl, HO.out, (onceB_len s m).symm, Hw.out⟩
end Go.Proofs.YtmpklplojfjfbaaGreatDoor
namespace Go.Proofs.YtmpklplojfjfbaaGreatDoor
open Go.RowKit Go.Lib





theorem wrapU_id {x : Int} (h : 0 ≤ x ∧ x < 1000000) : IntKind.u64.wrap x = x := by rw [IntKind.wrap_u64]; omega
theorem rd_otherS {w w' : World} {B sz n : Nat} {A : Option Addr} {xs : List Value} (h : Rd w B sz A n xs) (hk : ∀ ad, A = some ad → w'.heap[ad.block]? = w.heap[ad.block]?) : Rd w' B sz A n xs :=
  ⟨h.1, fun hn => by
    obtain ⟨b, o, e, hb, hc⟩ := h.2 hn
    exact ⟨b, o, e, hb, fun j u hu => (World.cell?_of_block (a := ⟨b, o + j, none⟩) (hk ⟨b, o, none⟩ e)).trans (hc j u hu)⟩⟩
theorem own_apart {w w' : World} {B1 B2 sz1 sz2 n1 n2 : Nat} {e1 e2 : TypeId} {v1 v2 : Value} {x1 x2 : List Value} (h1 : w.ownsRow B1 e1 sz1 v1 n1 x1) (h2 : w.ownsRow B2 e2 sz2 v2 n2 x2) (hne : e1 ≠ e2) (hg : w.grownBy w' v1.ownBlock) : w'.ownsRow B2 e2 sz2 v2 n2 x2 :=
  own_keep h2 fun z hz => hg.block z (h2.lt z hz).2 fun e => by
    rcases h2.2 with ⟨hv, _⟩ | ⟨g, cap, cur, hv, hb, hgg, _⟩
    · subst hv; simp [Value.ownBlock] at hz
    · subst hv
      simp only [Value.ownBlock, Option.some.injEq] at hz
      subst hz
      exact own_ne h1 hgg hne e
theorem own_low {w : World} {B B' sz n : Nat} {e : TypeId} {v : Value} {x : List Value} (h : w.ownsRow B e sz v n x) (hB : B' ≤ B) : w.ownsRow B' e sz v n x := by
  refine ⟨h.1, ?_⟩
  rcases h.2 with h5 | ⟨g, cap, cur, e1, hb, hg⟩
  · exact .inl h5
  · exact .inr ⟨g, cap, cur, e1, Nat.le_trans hB hb, hg⟩
theorem fmB_len (l : List D8) : (l.flatMap D8.bytes).length = 8 * l.length := by
  induction l with
  | nil => rfl
  | cons a l ih =>
    rw [List.flatMap_cons, List.length_append, ih, bytes_len, List.length_cons]
    omega
theorem fmB_take (l : List D8) {k : Nat} (hk : k < l.length) : (l.take (k + 1)).flatMap D8.bytes = (l.take k).flatMap D8.bytes ++ (l.getD k D8.zero).bytes := by
  rw [List.take_add_one, List.getElem?_eq_getElem hk, List.flatMap_append, List.getD_eq_getElem?_getD, List.getElem?_eq_getElem hk]
  simp
theorem cells_bytes (d : D8) {j : Nat} (hj : j < 8) : d.cells[j]? = some (.int .u8 ((d.bytes.getD j 0 : Nat) : Int)) := by
  have : j = 0 ∨ j = 1 ∨ j = 2 ∨ j = 3 ∨ j = 4 ∨ j = 5 ∨ j = 6 ∨ j = 7 := by omega
  rcases this with rfl | rfl | rfl | rfl | rfl | rfl | rfl | rfl <;> rfl
def GivesSR (s : D8) (h : Nat) (L : List D8) (m : D8) (A0 : Option Addr) (w : World) (e : Ending) (w' : World) : Prop :=
  ∃ (A : Option Addr) (n c : Nat) (As : Option Addr) (ns cs : Nat), e = .returned (.tuple #[.agg #[.int .u8 (s.x0 : Int), .int .u8 (s.x1 : Int), .int .u8 (s.x2 : Int), .int .u8 (s.x3 : Int), .int .u8 (s.x4 : Int), .int .u8 (s.x5 : Int), .int .u8 (s.x6 : Int), .int .u8 (s.x7 : Int), .int .i64 (h : Int), (.slice A n c)], .slice As ns cs, .int .i64 (((RingM.mk s h L).sign m).2.2 : Int)]) ∧ Rd w' w'.heap.size 8 A n (flatD ((RingM.mk s h L).sign m).1.led) ∧ w'.ownsRow w.heap.size 5 1 (.slice As ns cs) ns (bv ((RingM.mk s h L).sign m).2.1) ∧ ns = ((RingM.mk s h L).sign m).2.1.length ∧ Below w.heap.size w w' ∧ Fresh w w' A0 A
set_option maxRecDepth 100000 in
set_option maxHeartbeats 8000000 in
theorem signr_any (s : D8) (h : Nat) (A : Option Addr) (n c : Nat) (L : List D8) (m : D8) (w : World) (hr : Rd w w.heap.size 8 A n (flatD L)) (hok : (RingM.mk s h L).ok) (hm : m.ok) (hA : ∀ ad, A = some ad → ad.block < w.heap.size) :
    Calls Tryz.prog 6 #[.agg #[.int .u8 (s.x0 : Int), .int .u8 (s.x1 : Int), .int .u8 (s.x2 : Int), .int .u8 (s.x3 : Int), .int .u8 (s.x4 : Int), .int .u8 (s.x5 : Int), .int .u8 (s.x6 : Int), .int .u8 (s.x7 : Int), .int .i64 (h : Int), (.slice A n c)], .agg #[.int .u8 (m.x0 : Int), .int .u8 (m.x1 : Int), .int .u8 (m.x2 : Int), .int .u8 (m.x3 : Int), .int .u8 (m.x4 : Int), .int .u8 (m.x5 : Int), .int .u8 (m.x6 : Int), .int .u8 (m.x7 : Int)]] w (GivesSR s h L m A w) := by
  obtain ⟨i0, hi0, hz0, hz1, hz2⟩ := info_parts info_u8
  have HI := Lib.hid (And.intro hi0 (And.intro hz0 (And.intro hz1 hz2))); clear hi0 hz0 hz1 hz2
  obtain ⟨hs0, hm0, hx0, hw0, hz0⟩ := alloc3 w (.cells #[.int .u8 (s.x0 : Int), .int .u8 (s.x1 : Int), .int .u8 (s.x2 : Int), .int .u8 (s.x3 : Int), .int .u8 (s.x4 : Int), .int .u8 (s.x5 : Int), .int .u8 (s.x6 : Int), .int .u8 (s.x7 : Int), .int .i64 (h : Int), (.slice A n c)] 28) (.cells #[.int .u8 (m.x0 : Int), .int .u8 (m.x1 : Int), .int .u8 (m.x2 : Int), .int .u8 (m.x3 : Int), .int .u8 (m.x4 : Int), .int .u8 (m.x5 : Int), .int .u8 (m.x6 : Int), .int .u8 (m.x7 : Int)] 22) (.cells #[.int .u8 0, .int .u8 0, .int .u8 0, .int .u8 0, .int .u8 0, .int .u8 0, .int .u8 0, .int .u8 0, .int .i64 0, .slice none 0 0] 28)
  have HS0 := Lib.hid hs0; have HM0 := Lib.hid hm0; have HX0 := Lib.hid hx0; have Hw0 := Lib.hid hw0; have Hm := Lib.hid hm; have Hok := Lib.hid hok
  have hh : h ≤ 8 := hok.2.1
  have hn : n ≤ 256 := by
    have h1 := hr.dlenD
    have h2 : L.length ≤ 2 ^ h := hok.2.2.2.2
    have h3 := (pow_le8 hh).2
    omega
  have Hs : Hid s.ok := Lib.hid hok.1
  have Hr0 := Lib.hid ((hr.below hw0 (Nat.le_refl _)).more hw0.size)
  have HR1 : Hid (((RingM.mk s h L).reserve m).1.ok ∧ (((RingM.mk s h L).reserve m).1.secret = s ∧ ((RingM.mk s h L).reserve m).1.h = h) ∧ (((RingM.mk s h L).reserve m).2.2 = 0 → ((RingM.mk s h L).reserve m).2.1 < 2 ^ h) ∧ (RingM.mk s h L).sign m = if ((RingM.mk s h L).reserve m).2.2 = 0 then (((RingM.mk s h L).reserve m).1, ((RingM.mk s h L).reserve m).1.sigB ((RingM.mk s h L).reserve m).2.1 m, 0) else (((RingM.mk s h L).reserve m).1, [], ((RingM.mk s h L).reserve m).2.2)) := Lib.hid ⟨RingM.reserve_ok hok hm, RingM.reserve_secret _ m, fun he => reserve_lt hok he, rfl⟩
  have hzw : w.heap.size + 2 < (((w.alloc (.cells #[.int .u8 (s.x0 : Int), .int .u8 (s.x1 : Int), .int .u8 (s.x2 : Int), .int .u8 (s.x3 : Int), .int .u8 (s.x4 : Int), .int .u8 (s.x5 : Int), .int .u8 (s.x6 : Int), .int .u8 (s.x7 : Int), .int .i64 (h : Int), (.slice A n c)] 28)).alloc (.cells #[.int .u8 (m.x0 : Int), .int .u8 (m.x1 : Int), .int .u8 (m.x2 : Int), .int .u8 (m.x3 : Int), .int .u8 (m.x4 : Int), .int .u8 (m.x5 : Int), .int .u8 (m.x6 : Int), .int .u8 (m.x7 : Int)] 22)).alloc (.cells #[.int .u8 0, .int .u8 0, .int .u8 0, .int .u8 0, .int .u8 0, .int .u8 0, .int .u8 0, .int .u8 0, .int .i64 0, .slice none 0 0] 28)).heap.size := block_lt hx0
  clear hr hok hm hs0 hm0 hx0 hw0 hz0
  go_enter Tryz.func6, Tryz.ntmps6
  go_upto_region 1 with fail
  generalize ((w.alloc (.cells #[.int .u8 (s.x0 : Int), .int .u8 (s.x1 : Int), .int .u8 (s.x2 : Int), .int .u8 (s.x3 : Int), .int .u8 (s.x4 : Int), .int .u8 (s.x5 : Int), .int .u8 (s.x6 : Int), .int .u8 (s.x7 : Int), .int .i64 (h : Int), (.slice A n c)] 28)).alloc (.cells #[.int .u8 (m.x0 : Int), .int .u8 (m.x1 : Int), .int .u8 (m.x2 : Int), .int .u8 (m.x3 : Int), .int .u8 (m.x4 : Int), .int .u8 (m.x5 : Int), .int .u8 (m.x6 : Int), .int .u8 (m.x7 : Int)] 22)).alloc (.cells #[.int .u8 0, .int .u8 0, .int .u8 0, .int .u8 0, .int .u8 0, .int .u8 0, .int .u8 0, .int .u8 0, .int .i64 0, .slice none 0 0] 28) = v0 at *
  obtain ⟨zf, r0, r1, r2, r3, r4, r5, r6, r7, r8, r9⟩ := free10 HS0.out
  obtain ⟨zg, y0, y1, y2, y3, y4, y5, y6, y7⟩ := free8 HM0.out
  have hl0 := block_lt HS0.out; have hl1 := block_lt HM0.out
  clear zf zg
  go_wp2_with fail
  refine (reserver_any s h A n c L m v0 Hr0.out (by omega) hh).mono ?_
  rintro e v1 ⟨A1, n1, c1, rfl, hr1, hb1, hf1⟩
  have HS1 := Lib.hid (block_below HS0.out hb1 hl0); have HM1 := Lib.hid (block_below HM0.out hb1 hl1); have HX1 := Lib.hid (block_below HX0.out hb1 (block_lt HX0.out)); have Hw1 := Lib.hid (Hw0.out.trans (hb1.mono Hw0.out.size)); have Hrd1 := Lib.hid hr1
  have HFr : Hid (Fresh w v1 A A1) := Lib.hid (by
    rcases hf1 with h1 | h1
    · exact .inl h1
    · exact .inr fun ad e => ⟨Nat.le_trans Hw0.out.size (h1 ad e).1, (h1 ad e).2⟩)
  have HAx : Hid (∀ ad, A1 = some ad → ad.block < v1.heap.size ∧ ad.block ≠ w.heap.size ∧ ad.block ≠ w.heap.size + 1 + 1) := Lib.hid (fun ad e => by
    rcases hf1 with h1 | h1
    · subst h1
      have h2 := hA ad e
      have h3 := Hw1.out.size
      omega
    · obtain ⟨h2, h3⟩ := h1 ad e
      omega)
  have hzv : w.heap.size + 2 < v1.heap.size := block_lt HX1.out
  clear hb1 hf1 hr1 r0 r1 r2 r3 r4 r5 r6 r7 r8 r9 y0 y1 y2 y3 y4 y5 y6 y7 HS0 HM0 HX0 Hw0 Hr0 hl0 hl1
  have Hgive : Hid (∀ (e : Ending) (w' : World), (∃ (A' : Option Addr) (n' c' : Nat) (As : Option Addr) (ns cs : Nat), e = .returned (.tuple #[.agg #[.int .u8 (s.x0 : Int), .int .u8 (s.x1 : Int), .int .u8 (s.x2 : Int), .int .u8 (s.x3 : Int), .int .u8 (s.x4 : Int), .int .u8 (s.x5 : Int), .int .u8 (s.x6 : Int), .int .u8 (s.x7 : Int), .int .i64 (h : Int), (.slice A' n' c')], .slice As ns cs, .int .i64 (((RingM.mk s h L).sign m).2.2 : Int)]) ∧ Rd w' w'.heap.size 8 A' n' (flatD ((RingM.mk s h L).sign m).1.led) ∧ w'.ownsRow w.heap.size 5 1 (.slice As ns cs) ns (bv ((RingM.mk s h L).sign m).2.1) ∧ ns = ((RingM.mk s h L).sign m).2.1.length ∧ Below w.heap.size w w' ∧ Fresh w w' A A') → GivesSR s h L m A w e w') := Lib.hid fun e w' h => h
  generalize GivesSR s h L m A w = Post at *
  generalize (RingM.mk s h L).sign m = sg at *
  generalize (RingM.mk s h L).reserve m = rs at *
  obtain ⟨R1, i, er⟩ := rs
  obtain ⟨hR1, ⟨hRs, hRh⟩, hil, hsg⟩ := HR1.out
  simp only at hR1 hRs hRh hil hsg Hrd1 ⊢
  have Hrok := Lib.hid hR1; have Hil := Lib.hid hil; have Hsg := Lib.hid hsg; have HRs := Lib.hid hRs; have HRh := Lib.hid hRh
  clear hR1 hRs hRh hil hsg HR1 Hok
  obtain ⟨zf, r0, r1, r2, r3, r4, r5, r6, r7, r8, r9⟩ := free10 HS1.out
  have hl0 := block_lt HS1.out
  have h10 := set10 HS1.out (.int .u8 (s.x0 : Int)) (.int .u8 (s.x1 : Int)) (.int .u8 (s.x2 : Int)) (.int .u8 (s.x3 : Int)) (.int .u8 (s.x4 : Int)) (.int .u8 (s.x5 : Int)) (.int .u8 (s.x6 : Int)) (.int .u8 (s.x7 : Int)) (.int .i64 (h : Int)) (.slice A1 n1 c1)
  have hg10 := grown_set10 v1 w.heap.size (.int .u8 (s.x0 : Int)) (.int .u8 (s.x1 : Int)) (.int .u8 (s.x2 : Int)) (.int .u8 (s.x3 : Int)) (.int .u8 (s.x4 : Int)) (.int .u8 (s.x5 : Int)) (.int .u8 (s.x6 : Int)) (.int .u8 (s.x7 : Int)) (.int .i64 (h : Int)) (.slice A1 n1 c1)
  go_upto_region 2 with fail
  have HS2 := Lib.hid h10
  have HM2 := Lib.hid ((hg10.block _ (block_lt HM1.out) (by intro e; injection e with e; omega)).trans HM1.out)
  have HX2 := Lib.hid ((hg10.block _ (block_lt HX1.out) (by intro e; injection e with e; omega)).trans HX1.out)
  have HR2 := Lib.hid ((rd_otherS Hrd1.out (fun ad e => hg10.block _ (HAx.out ad e).1 (by intro e2; injection e2 with e2; exact (HAx.out ad e).2.1 e2))).more hg10.size)
  have Hw2 := Lib.hid (Hw1.out.grown hg10 Hw1.out.size (fun z hz => by injection hz with hz; omega))
  have HZ2 := Lib.hid hg10.size
  generalize ((((((((((v1.setCell ⟨w.heap.size, 0, none⟩ (.int .u8 (s.x0 : Int))).setCell ⟨w.heap.size, 1, none⟩ (.int .u8 (s.x1 : Int))).setCell ⟨w.heap.size, 2, none⟩ (.int .u8 (s.x2 : Int))).setCell ⟨w.heap.size, 3, none⟩ (.int .u8 (s.x3 : Int))).setCell ⟨w.heap.size, 4, none⟩ (.int .u8 (s.x4 : Int))).setCell ⟨w.heap.size, 5, none⟩ (.int .u8 (s.x5 : Int))).setCell ⟨w.heap.size, 6, none⟩ (.int .u8 (s.x6 : Int))).setCell ⟨w.heap.size, 7, none⟩ (.int .u8 (s.x7 : Int))).setCell ⟨w.heap.size, 8, none⟩ (.int .i64 (h : Int))).setCell ⟨w.heap.size, 9, none⟩ (.slice A1 n1 c1)) = v2 at *
  clear zf r0 r1 r2 r3 r4 r5 r6 r7 r8 r9 h10 hg10 hl0 HS1 HM1 HX1 Hw1 Hrd1
  by_cases he : er = 0
  · subst er
    have Hsg2 : Hid (sg = (R1, R1.sigB i m, 0)) := Lib.hid (by rw [Hsg.out, if_pos rfl])
    have hi2 : i < 2 ^ h := Hil.out rfl
    have hp8 := (pow_le8 hh).2
    have hi256 : i < 256 := Nat.lt_of_lt_of_le hi2 hp8
    have Hi2 := Lib.hid hi2
    clear hi2 hp8
    obtain ⟨o, ho⟩ : ∃ o, o = ownD s i := ⟨_, rfl⟩
    have Hoo : Hid o.ok := Lib.hid (by rw [ho]; exact ownD_ok s i)
    have HNM := Lib.hid (fun u => numr_any i u (by omega)); have HSC := Lib.hid (fun u => secret_any s h A1 n1 c1 i u Hs.out (by omega)); have HSO := Lib.hid (fun u => signO_any o m u Hoo.out Hm.out)
    rw [← ho] at HSC
    have HKY := Lib.hid (fun u => keysr_any s h A1 n1 c1 u Hs.out hh)
    obtain ⟨kl, hkl⟩ : ∃ kl, kl = keysD s h := ⟨_, rfl⟩
    have HPT := Lib.hid (fun (u : World) (A : Option Addr) (m c : Nat) (hm : m = 2 ^ h) (hr : Rd u u.heap.size 8 A m (flatD kl)) => pathr_any A m c h i kl u hr (by rw [hkl]; exact keysD_ok s h) hm hh (by rw [hm]; exact Hi2.out))
    rw [← hkl] at HKY
    obtain ⟨pl, hpl⟩ : ∃ pl, pl = pathD kl i h := ⟨_, rfl⟩
    have Hpl : Hid (pl.length = h) := Lib.hid (by rw [hpl]; exact pathD_len _ _ _)
    rw [← hpl] at HPT
    obtain ⟨pre, hpre⟩ : ∃ pre, pre = encN i ++ onceB o m := ⟨_, rfl⟩
    have Hpre := Lib.hid hpre
    have hprl : pre.length ≤ 200 := by
      rw [hpre, List.length_append, onceB_len]
      have := encN_len i
      omega
    have Hfin : Hid (R1.sigB i m = pre ++ pl.flatMap D8.bytes) := Lib.hid (by unfold RingM.sigB; rw [HRs.out, HRh.out, ← ho, ← hkl, ← hpl, hpre])
    have hnl1 : (encN i).length ≤ 11 := encN_len i
    have hnl2 : (onceB o m).length = 144 := onceB_len o m
    generalize encN i = q1 at *
    generalize onceB o m = q2 at *
    have hwi : IntKind.u64.wrap (i : Int) = (i : Int) := wrapU_id ⟨by omega, by omega⟩
    clear ho hkl hpl hpre
    have hlRG := block_lt HS2.out
    have hRGs : ∀ w', (Below w.heap.size w w' ∧ w'.heap[w.heap.size]? = some (.cells #[.int .u8 (s.x0 : Int), .int .u8 (s.x1 : Int), .int .u8 (s.x2 : Int), .int .u8 (s.x3 : Int), .int .u8 (s.x4 : Int), .int .u8 (s.x5 : Int), .int .u8 (s.x6 : Int), .int .u8 (s.x7 : Int), .int .i64 (h : Int), (.slice A1 n1 c1)] 28 (0, 0)) ∧ w'.heap[w.heap.size + 1]? = some (.cells #[.int .u8 (m.x0 : Int), .int .u8 (m.x1 : Int), .int .u8 (m.x2 : Int), .int .u8 (m.x3 : Int), .int .u8 (m.x4 : Int), .int .u8 (m.x5 : Int), .int .u8 (m.x6 : Int), .int .u8 (m.x7 : Int)] 22 (0, 0))) → w'.heap[w.heap.size]? = some (.cells #[.int .u8 (s.x0 : Int), .int .u8 (s.x1 : Int), .int .u8 (s.x2 : Int), .int .u8 (s.x3 : Int), .int .u8 (s.x4 : Int), .int .u8 (s.x5 : Int), .int .u8 (s.x6 : Int), .int .u8 (s.x7 : Int), .int .i64 (h : Int), (.slice A1 n1 c1)] 28 (0, 0)) := fun w' h => h.2.1
    have hLm : ∀ w', (Below w.heap.size w w' ∧ w'.heap[w.heap.size]? = some (.cells #[.int .u8 (s.x0 : Int), .int .u8 (s.x1 : Int), .int .u8 (s.x2 : Int), .int .u8 (s.x3 : Int), .int .u8 (s.x4 : Int), .int .u8 (s.x5 : Int), .int .u8 (s.x6 : Int), .int .u8 (s.x7 : Int), .int .i64 (h : Int), (.slice A1 n1 c1)] 28 (0, 0)) ∧ w'.heap[w.heap.size + 1]? = some (.cells #[.int .u8 (m.x0 : Int), .int .u8 (m.x1 : Int), .int .u8 (m.x2 : Int), .int .u8 (m.x3 : Int), .int .u8 (m.x4 : Int), .int .u8 (m.x5 : Int), .int .u8 (m.x6 : Int), .int .u8 (m.x7 : Int)] 22 (0, 0))) → (Instr.loadAt 22 (.pointer (some ⟨w.heap.size + 1, 0, none⟩))).run Tryz.prog w' = .ok (.agg #[.int .u8 (m.x0 : Int), .int .u8 (m.x1 : Int), .int .u8 (m.x2 : Int), .int .u8 (m.x3 : Int), .int .u8 (m.x4 : Int), .int .u8 (m.x5 : Int), .int .u8 (m.x6 : Int), .int .u8 (m.x7 : Int)]) w' := fun w' h => load_d8 h.2.2
    have hS0 : Below w.heap.size w v2.drew ∧ v2.drew.heap[w.heap.size]? = some (.cells #[.int .u8 (s.x0 : Int), .int .u8 (s.x1 : Int), .int .u8 (s.x2 : Int), .int .u8 (s.x3 : Int), .int .u8 (s.x4 : Int), .int .u8 (s.x5 : Int), .int .u8 (s.x6 : Int), .int .u8 (s.x7 : Int), .int .i64 (h : Int), (.slice A1 n1 c1)] 28 (0, 0)) ∧ v2.drew.heap[w.heap.size + 1]? = some (.cells #[.int .u8 (m.x0 : Int), .int .u8 (m.x1 : Int), .int .u8 (m.x2 : Int), .int .u8 (m.x3 : Int), .int .u8 (m.x4 : Int), .int .u8 (m.x5 : Int), .int .u8 (m.x6 : Int), .int .u8 (m.x7 : Int)] 22 (0, 0)) := ⟨Hw2.out.drew, HS2.out, HM2.out⟩
    have HSu := Lib.hid hS0
    have HXu : Hid (v2.drew.heap[w.heap.size + 1 + 1]? = some (.cells #[.int .u8 0, .int .u8 0, .int .u8 0, .int .u8 0, .int .u8 0, .int .u8 0, .int .u8 0, .int .u8 0, .int .i64 0, .slice none 0 0] 28 (0, 0))) := HX2
    have HRu : Hid (Rd v2.drew v2.drew.heap.size 8 A1 n1 (flatD R1.led)) := HR2
    have hBv : w.heap.size + 2 < v2.drew.heap.size := Nat.lt_of_lt_of_le hzv HZ2.out
    have HAu : Hid (∀ ad, A1 = some ad → ad.block < v2.drew.heap.size ∧ ad.block ≠ w.heap.size + 1 + 1) := Lib.hid fun ad e => ⟨Nat.lt_of_lt_of_le (HAx.out ad e).1 HZ2.out, (HAx.out ad e).2.2⟩
    have HFu : Hid (∀ u, v2.drew.heap.size ≤ u.heap.size → Fresh w u A A1) := Lib.hid fun u hu => by
      rcases HFr.out with h1 | h1
      · exact .inl h1
      · exact .inr fun ad e => ⟨(h1 ad e).1, Nat.lt_of_lt_of_le (h1 ad e).2 (Nat.le_trans HZ2.out hu)⟩
    clear HS2 HM2 HX2 HR2 Hw2 HZ2 hzv HAx HFr
    go_upto_region 4 with fail
    refine wp_region_held_drew (S := fun w' => Below w.heap.size w w' ∧ w'.heap[w.heap.size]? = some (.cells #[.int .u8 (s.x0 : Int), .int .u8 (s.x1 : Int), .int .u8 (s.x2 : Int), .int .u8 (s.x3 : Int), .int .u8 (s.x4 : Int), .int .u8 (s.x5 : Int), .int .u8 (s.x6 : Int), .int .u8 (s.x7 : Int), .int .i64 (h : Int), (.slice A1 n1 c1)] 28 (0, 0)) ∧ w'.heap[w.heap.size + 1]? = some (.cells #[.int .u8 (m.x0 : Int), .int .u8 (m.x1 : Int), .int .u8 (m.x2 : Int), .int .u8 (m.x3 : Int), .int .u8 (m.x4 : Int), .int .u8 (m.x5 : Int), .int .u8 (m.x6 : Int), .int .u8 (m.x7 : Int)] 22 (0, 0))) (by kernel_rfl) hS0 (fun hHeld => ?_)
    rw [show Array.replicate _ false = (#[false, false, false, false, false, false, false, false, false, false] : Array Bool) from rfl]
    refine takeH 0 (some 25) (v := ?_) rfl (by kernel_rfl) (by kernel_rfl) (by kernel_rfl) (by kernel_rfl) (fun _ _ _ h => h) (Or.inl ⟨by kernel_rfl, ?hy⟩) (by assumption) ?_
    case hy =>
      intro w' hSw
      clear hSw
      first
        | (go_simp; done)
        | (go_simp; with_reducible rfl)
    simp only [Act.put, List.setIfInBounds_toArray, List.set_cons_zero, List.set_cons_succ]
    refine takeH 1 (some 26) (v := ?_) rfl (by kernel_rfl) (by kernel_rfl) (by kernel_rfl) (by kernel_rfl) (fun _ _ _ h => h) (Or.inl ⟨by kernel_rfl, ?hy⟩) (by assumption) ?_
    case hy =>
      intro w' hSw
      clear hSw
      first
        | (go_simp; done)
        | (go_simp; with_reducible rfl)
    simp only [Act.put, List.setIfInBounds_toArray, List.set_cons_zero, List.set_cons_succ]
    refine takeH 3 (some 28) (v := ?_) rfl (by kernel_rfl) (by kernel_rfl) (by kernel_rfl) (by kernel_rfl) (fun _ _ _ h => h) (Or.inl ⟨by kernel_rfl, ?hy⟩) (by assumption) ?_
    case hy =>
      intro w' hSw
      obtain ⟨xf, x0, x1, x2, x3, x4, x5, x6, x7, x8, x9⟩ := free10 (hRGs w' hSw)
      have hxl := block_lt (hRGs w' hSw)
      clear xf hSw
      first
        | (go_simp; done)
        | (go_simp; with_reducible rfl)
    simp only [Act.put, List.setIfInBounds_toArray, List.set_cons_zero, List.set_cons_succ]
    refine takeH 4 (some 29) (v := ?_) rfl (by kernel_rfl) (by kernel_rfl) (by kernel_rfl) (by kernel_rfl) (fun _ _ _ h => h) (Or.inl ⟨by kernel_rfl, ?hy⟩) (by assumption) ?_
    case hy =>
      intro w' hSw
      clear hSw
      first
        | (go_simp; done)
        | (go_simp; with_reducible rfl)
    simp only [Act.put, List.setIfInBounds_toArray, List.set_cons_zero, List.set_cons_succ]
    refine takeH 6 (some 31) (v := .agg #[.int .u8 (m.x0 : Int), .int .u8 (m.x1 : Int), .int .u8 (m.x2 : Int), .int .u8 (m.x3 : Int), .int .u8 (m.x4 : Int), .int .u8 (m.x5 : Int), .int .u8 (m.x6 : Int), .int .u8 (m.x7 : Int)]) rfl (by kernel_rfl) (by kernel_rfl) (by kernel_rfl) (by kernel_rfl) (fun _ _ _ h => h) (Or.inl ⟨by kernel_rfl, ?hy⟩) (by assumption) ?_
    case hy =>
      intro w' hSw
      simp [execOp, Act.eval, hLm w' hSw, Result.andThen]
    simp only [Act.put, List.setIfInBounds_toArray, List.set_cons_zero, List.set_cons_succ]
    clear hRGs hLm hS0
    generalize v2.drew = u0 at *
    refine wpAnyH_ready (rs := [2]) (by kernel_rfl) (by simp) ?_
    refine AllReadyH.cons rfl (fun K hK => ?_) AllReadyH.nil
    rw [if_pos (by kernel_rfl)]
    go_simp
    refine (HNM.out u0).mono ?_
    rintro e u1 ⟨Aq, nq, cq, rfl, hoq, hnq, hb⟩
    have HOu := Lib.hid hoq
    have hz1 := hb.size
    have HS9 := Lib.hid (And.intro (HSu.out.1.trans (hb.mono HSu.out.1.size)) (And.intro (block_below HSu.out.2.1 hb (block_lt HSu.out.2.1)) (block_below HSu.out.2.2 hb (block_lt HSu.out.2.2))))
    have HX9 := Lib.hid (block_below HXu.out hb (block_lt HXu.out))
    have HR9 := Lib.hid ((HRu.out.below hb (Nat.le_refl _)).more hb.size)
    clear HSu HXu HRu
    have HSu := HS9; have HXu := HX9; have HRu := HR9
    clear HS9 HX9 HR9
    have hnq2 : nq ≤ 11 := by omega
    have Hnq := Lib.hid hnq
    clear hb hoq hnq
    generalize u0.heap.size = B at *
    refine hK.out _ _ HSu.out (fun _ => ?_)
    clear hK K
    simp only [List.setIfInBounds_toArray, List.set_cons_zero, List.set_cons_succ]
    refine wpAnyH_ready (rs := [5]) (by kernel_rfl) (by simp) ?_
    refine AllReadyH.cons rfl (fun K hK => ?_) AllReadyH.nil
    rw [if_pos (by kernel_rfl)]
    go_simp
    refine (HSC.out u1).mono ?_
    rintro e u2 ⟨rfl, hb⟩
    have hz2 := hb.size
    have HOv := Lib.hid (own_below HOu.out hb)
    have HS9 := Lib.hid (And.intro (HSu.out.1.trans (hb.mono HSu.out.1.size)) (And.intro (block_below HSu.out.2.1 hb (block_lt HSu.out.2.1)) (block_below HSu.out.2.2 hb (block_lt HSu.out.2.2))))
    have HX9 := Lib.hid (block_below HXu.out hb (block_lt HXu.out))
    have HR9 := Lib.hid ((HRu.out.below hb (Nat.le_refl _)).more hb.size)
    clear HSu HXu HRu
    have HSu := HS9; have HXu := HX9; have HRu := HR9
    clear HS9 HX9 HR9
    clear hb HOu
    refine hK.out _ _ HSu.out (fun _ => ?_)
    clear hK K
    simp only [List.setIfInBounds_toArray, List.set_cons_zero, List.set_cons_succ]
    refine wpAnyH_ready (rs := [7]) (by kernel_rfl) (by simp) ?_
    refine AllReadyH.cons rfl (fun K hK => ?_) AllReadyH.nil
    rw [if_pos (by kernel_rfl)]
    go_simp
    refine (HSO.out u2).mono ?_
    rintro e u3 ⟨A7, n7, c7, rfl, ho7, hn7, hb⟩
    have hz3 := hb.size
    have HOw := Lib.hid (own_below HOv.out hb)
    have HS9 := Lib.hid (And.intro (HSu.out.1.trans (hb.mono HSu.out.1.size)) (And.intro (block_below HSu.out.2.1 hb (block_lt HSu.out.2.1)) (block_below HSu.out.2.2 hb (block_lt HSu.out.2.2))))
    have HX9 := Lib.hid (block_below HXu.out hb (block_lt HXu.out))
    have HR9 := Lib.hid ((HRu.out.below hb (Nat.le_refl _)).more hb.size)
    clear HSu HXu HRu
    have HSu := HS9; have HXu := HX9; have HRu := HR9
    clear HS9 HX9 HR9
    have HR7 := Lib.hid (Rd.of_own ho7)
    have hn72 : n7 = 144 := by omega
    subst hn72
    have hbB : B ≤ u3.heap.size := Nat.le_trans hz1 (Nat.le_trans hz2 hz3)
    clear hb HOv ho7 hn7
    refine hK.out _ _ HSu.out (fun _ => ?_)
    clear hK K
    simp only [List.setIfInBounds_toArray, List.set_cons_zero, List.set_cons_succ]
    refine wpAnyH_ready (rs := [8]) (by kernel_rfl) (by simp) ?_
    refine AllReadyH.cons rfl (fun K hK => ?_) AllReadyH.nil
    refine step_append_rdg u3 (by rfl) _ _ 23 (by rfl) B 5 i0 (.int .u8 0) 1 1 Tryz.underlying23 HI.out rfl (by decide) _ _ _ (by rfl) HOw.out u3.heap.size A7 144 c7 _ (by rfl) HR7.out (bv_one _) (by omega) (by omega) hbB ?_
    intro v4 u4 ho4 hb4 hg4
    obtain ⟨A4, c4, rfl⟩ := own_form ho4
    rw [← bv_append] at ho4
    have HS4 : Hid (Below w.heap.size w u4 ∧ u4.heap[w.heap.size]? = some (.cells #[.int .u8 (s.x0 : Int), .int .u8 (s.x1 : Int), .int .u8 (s.x2 : Int), .int .u8 (s.x3 : Int), .int .u8 (s.x4 : Int), .int .u8 (s.x5 : Int), .int .u8 (s.x6 : Int), .int .u8 (s.x7 : Int), .int .i64 (h : Int), (.slice A1 n1 c1)] 28 (0, 0)) ∧ u4.heap[w.heap.size + 1]? = some (.cells #[.int .u8 (m.x0 : Int), .int .u8 (m.x1 : Int), .int .u8 (m.x2 : Int), .int .u8 (m.x3 : Int), .int .u8 (m.x4 : Int), .int .u8 (m.x5 : Int), .int .u8 (m.x6 : Int), .int .u8 (m.x7 : Int)] 22 (0, 0))) := Lib.hid ⟨HSu.out.1.trans (hb4.mono (by omega)), block_below HSu.out.2.1 hb4 (by omega), block_below HSu.out.2.2 hb4 (by omega)⟩
    have HX4 := Lib.hid (block_below HXu.out hb4 (by omega))
    have HR4 := Lib.hid ((rd_otherS HRu.out (fun ad e => hb4.block _ (HAu.out ad e).1)).more hb4.size)
    have HO4 := Lib.hid ho4
    have hz4 := Nat.le_trans hbB hb4.size
    clear ho4 hb4 hg4 HSu HXu HRu HOw HR7
    refine hK.out _ _ HS4.out (fun _ => ?_)
    clear hK K
    simp only [Act.put, List.setIfInBounds_toArray, List.set_cons_zero, List.set_cons_succ]
    have hS4 := HS4.out
    refine takeH 9 (some 9) (v := ?_) rfl (by kernel_rfl) (by kernel_rfl) (by kernel_rfl) (by kernel_rfl) (fun _ _ _ h => h) (Or.inl ⟨by kernel_rfl, ?hy⟩) (by assumption) ?_
    case hy =>
      intro w' hSw
      clear hSw
      first
        | (go_simp; done)
        | (go_simp; with_reducible rfl)
    simp only [Act.put, List.setIfInBounds_toArray, List.set_cons_zero, List.set_cons_succ]
    refine wpAnyH_done (by kernel_rfl) ?_ _
    clear hS4
    rw [← Hpre.out] at HO4
    have hpq : nq + 144 = pre.length := by
      rw [Hpre.out, List.length_append, Hnq.out]
      omega
    rw [hpq] at HO4 ⊢
    clear hpq
    obtain ⟨zf, r0, r1, r2, r3, r4, r5, r6, r7, r8, r9⟩ := free10 HS4.out.2.1
    have hl0 := block_lt HS4.out.2.1
    clear zf
    go_wp2_with fail
    refine (HKY.out u4).mono ?_
    rintro e u5 ⟨Ak, ck, mk, hmk, rfl, hok5, hb⟩
    have hz5 := Nat.le_trans hz4 hb.size
    have HS5 := Lib.hid (And.intro (HS4.out.1.trans (hb.mono HS4.out.1.size)) (block_below HS4.out.2.1 hb hl0))
    have HX5 := Lib.hid (block_below HX4.out hb (block_lt HX4.out)); have HR5 := Lib.hid ((HR4.out.below hb (Nat.le_refl _)).more hb.size); have HO5 := Lib.hid (own_below HO4.out hb)
    have HP5 := Lib.hid (HPT.out u5 Ak mk ck hmk (Rd.of_own hok5))
    clear hb hok5 hmk r0 r1 r2 r3 r4 r5 r6 r7 r8 r9 hl0 HS4 HX4 HR4 HO4 HPT HKY
    go_wp2_with fail
    refine HP5.out.mono ?_
    rintro e u6 ⟨Ap, cp, rfl, hop, hb⟩
    have hz6 := Nat.le_trans hz5 hb.size
    have HS6 := Lib.hid (And.intro (HS5.out.1.trans (hb.mono HS5.out.1.size)) (block_below HS5.out.2 hb (block_lt HS5.out.2)))
    have HX6 := Lib.hid (block_below HX5.out hb (block_lt HX5.out)); have HR6 := Lib.hid ((HR5.out.below hb (Nat.le_refl _)).more hb.size); have HO6 := Lib.hid (own_below HO5.out hb); have HP6 := Lib.hid hop
    have HZ6 := Lib.hid hz6
    obtain ⟨BP, hBP⟩ : ∃ BP, BP = u5.heap.size := ⟨_, rfl⟩
    rw [← hBP] at HP6
    have hBs : w.heap.size + 2 < B := by omega
    have HAu2 : Hid (∀ ad, A1 = some ad → ad.block < B ∧ ad.block ≠ w.heap.size + 1 + 1) := HAu
    clear hb hop hBP HS5 HX5 HR5 HO5 HP5 hz1 hz2 hz3 hz4 hz5 hz6 hbB
    go_wp2
    go_loopw [9, 12, 13] (fun s9 s12 _ wr => ∃ (k : Nat) (X : List Nat) (A' : Option Addr) (c' : Nat), k ≤ h ∧ X = pre ++ (pl.take k).flatMap D8.bytes ∧ s12 = .int .i64 (k : Int) ∧ s9 = .slice A' X.length c' ∧ wr.ownsRow B 5 1 (.slice A' X.length c') X.length (bv X) ∧ wr.ownsRow BP 22 8 (.slice Ap h cp) h (flatD pl) ∧ Rd wr wr.heap.size 8 A1 n1 (flatD R1.led) ∧ (Below w.heap.size w wr ∧ wr.heap[w.heap.size]? = some (.cells #[.int .u8 (s.x0 : Int), .int .u8 (s.x1 : Int), .int .u8 (s.x2 : Int), .int .u8 (s.x3 : Int), .int .u8 (s.x4 : Int), .int .u8 (s.x5 : Int), .int .u8 (s.x6 : Int), .int .u8 (s.x7 : Int), .int .i64 (h : Int), (.slice A1 n1 c1)] 28 (0, 0))) ∧ wr.heap[w.heap.size + 1 + 1]? = some (.cells #[.int .u8 0, .int .u8 0, .int .u8 0, .int .u8 0, .int .u8 0, .int .u8 0, .int .u8 0, .int .u8 0, .int .i64 0, .slice none 0 0] 28 (0, 0)) ∧ B ≤ wr.heap.size) (fun _ s12 _ _ => h - (RowKit.intOf s12).toNat)
    case atStart => exact ⟨0, pre, A4, c4, Nat.zero_le _, by simp, rfl, rfl, HO6.out, HP6.out, HR6.out, HS6.out, HX6.out, HZ6.out⟩
    case round =>
      obtain ⟨k, X, A', c', hk, hX, rfl, rfl, ho, hp, hrd, hs, hx, hz⟩ := hrel
      have HO := Lib.hid ho; have HP := Lib.hid hp; have HRd := Lib.hid hrd; have HS := Lib.hid hs; have HX := Lib.hid hx; have HZ := Lib.hid hz
      have hXl : X.length ≤ 300 := by
        rw [hX, List.length_append, fmB_len, List.length_take]
        omega
      have HXe := Lib.hid hX
      clear ho hp hrd hs hx hz hX HO6 HP6 HR6 HS6 HX6 HZ6
      by_cases hlt : k < h
      · have hd1 : decide ((k : Int) < (h : Int)) = true := decide_eq_true (by omega)
        have hki : (k : Int) < (h : Int) := by omega
        have Hk := Lib.hid hlt
        have Htk := Lib.hid (fmB_take pl (k := k) (by rw [Hpl.out]; exact hlt))
        have Hpd := Lib.hid (fun (u : World) (hu : u.ownsRow BP 22 8 (.slice Ap h cp) h (flatD pl)) (j : Nat) (hj : j < 8) => show ∃ b o, Ap = some ⟨b, o, none⟩ ∧ b < u.heap.size ∧ u.cell? ⟨b, o + k * 8 + j, none⟩ = some (.int .u8 (((pl.getD k D8.zero).bytes.getD j 0 : Nat) : Int)) from by
          obtain ⟨b, o, hA, hb, hc⟩ := (Rd.of_own hu).di hlt
          exact ⟨b, o, hA, hb, (hc j hj).trans (cells_bytes _ hj)⟩)
        generalize pl.getD k D8.zero = q at *
        obtain ⟨wo, rfl⟩ : ∃ wo : World, wo = wr := ⟨_, rfl⟩
        go_wp2
        go_loopw [9, 13] (fun s9 s13 wr => ∃ (j : Nat) (Y : List Nat) (A' : Option Addr) (c' : Nat), j ≤ 8 ∧ Y = X ++ q.bytes.take j ∧ s13 = .int .i64 (j : Int) ∧ s9 = .slice A' Y.length c' ∧ wr.ownsRow B 5 1 (.slice A' Y.length c') Y.length (bv Y) ∧ wr.ownsRow BP 22 8 (.slice Ap h cp) h (flatD pl) ∧ Rd wr wr.heap.size 8 A1 n1 (flatD R1.led) ∧ (Below w.heap.size w wr ∧ wr.heap[w.heap.size]? = some (.cells #[.int .u8 (s.x0 : Int), .int .u8 (s.x1 : Int), .int .u8 (s.x2 : Int), .int .u8 (s.x3 : Int), .int .u8 (s.x4 : Int), .int .u8 (s.x5 : Int), .int .u8 (s.x6 : Int), .int .u8 (s.x7 : Int), .int .i64 (h : Int), (.slice A1 n1 c1)] 28 (0, 0))) ∧ wr.heap[w.heap.size + 1 + 1]? = some (.cells #[.int .u8 0, .int .u8 0, .int .u8 0, .int .u8 0, .int .u8 0, .int .u8 0, .int .u8 0, .int .u8 0, .int .i64 0, .slice none 0 0] 28 (0, 0)) ∧ B ≤ wr.heap.size) (fun _ s13 _ => 8 - (RowKit.intOf s13).toNat)
        case atStart => exact ⟨0, X, A', c', by omega, by simp, rfl, rfl, HO.out, HP.out, HRd.out, HS.out, HX.out, HZ.out⟩
        case round =>
          obtain ⟨j, Y, A1', c1', hj, hY, rfl, rfl, ho, hp, hrd, hs, hx, hz⟩ := hrel
          have HO2 := Lib.hid ho; have HP2 := Lib.hid hp; have HRd2 := Lib.hid hrd; have HS2 := Lib.hid hs; have HX2 := Lib.hid hx; have HZ2 := Lib.hid hz
          have hYl : Y.length ≤ 310 := by
            rw [hY, List.length_append, List.length_take, bytes_len]
            omega
          have HYe := Lib.hid hY
          clear ho hp hrd hs hx hz hY HO HP HRd HS HX HZ
          by_cases hlt2 : j < 8
          · have hd2 : decide ((j : Int) < 8) = true := decide_eq_true (by omega)
            have hji : (j : Int) < 8 := by omega
            have Hj := Lib.hid hlt2
            have Htq := Lib.hid (take_snoc8 q hlt2)
            obtain ⟨b, o2, rfl, hbb, mb⟩ := Hpd.out wr HP2.out j hlt2
            generalize q.bytes.getD j 0 = v at *
            have HO3 := Lib.hid (HO2.out.alloc (.cells #[.int .u8 (v : Int)] 5)); have HP3 := Lib.hid (HP2.out.alloc (.cells #[.int .u8 (v : Int)] 5)); have HX3 := Lib.hid (block_alloc HX2.out (.cells #[.int .u8 (v : Int)] 5))
            have hba := h_one wr (.cells #[.int .u8 (v : Int)] 5)
            have HS3 := Lib.hid (And.intro (HS2.out.1.trans (hba.mono HS2.out.1.size)) (block_below HS2.out.2 hba (block_lt HS2.out.2)))
            have HRd3 := Lib.hid ((HRd2.out.below hba (Nat.le_refl _)).more hba.size)
            have hbs : B ≤ (wr.alloc (.cells #[.int .u8 (v : Int)] 5)).heap.size := Nat.le_trans HZ2.out hba.size
            have HRl : Hid (Rd (wr.alloc (.cells #[.int .u8 (v : Int)] 5)) (wr.alloc (.cells #[.int .u8 (v : Int)] 5)).heap.size 1 (some ⟨wr.heap.size, 0, none⟩) 1 (bv [v])) := Rd.newA (n := 1) (sz := 1) (xs := bv [v]) wr 5 #[.int .u8 (v : Int)] rfl rfl
            clear hba HO2 HP2 HRd2 HS2 HX2 HZ2
            go_wp2_with (at_builtin; go_must (refine wpList_append_rdg (wr.alloc (.cells #[.int .u8 (v : Int)] 5)) (by rfl) _ _ 23 (by rfl) B 5 i0 (.int .u8 0) 1 1 Tryz.underlying23 HI.out rfl (by decide) _ _ _ (by rfl) HO3.out (wr.alloc (.cells #[.int .u8 (v : Int)] 5)).heap.size (some ⟨wr.heap.size, 0, none⟩) 1 1 _ (by rfl) HRl.out (bv_one _) (by omega) (by omega) hbs ?_); intro v9 w9 ho9 hb9 hg9; obtain ⟨A9, c9, rfl⟩ := own_form ho9; rw [← bv_append] at ho9; have HO9 := Lib.hid ho9; have HP9 := Lib.hid (own_apart HO3.out HP3.out (by decide) hg9); have HX9 := Lib.hid (block_below HX3.out hb9 hBs); have HS9 := Lib.hid (And.intro (HS3.out.1.trans (hb9.mono (by omega))) (block_below HS3.out.2 hb9 (by omega))); have HR9 := Lib.hid ((rd_otherS HRd3.out (fun ad e => hb9.block _ (HAu2.out ad e).1)).more hb9.size); have HZ9 := Lib.hid (Nat.le_trans hbs hb9.size); clear ho9 hb9 hg9)
            go_roundw
            case rel => exact ⟨j + 1, Y ++ [v], A9, c9, Hj.out, by rw [HYe.out, List.append_assoc, ← Htq.out], by go_num, by rw [List.length_append]; rfl, by rw [List.length_append]; exact HO9.out, HP9.out, HR9.out, HS9.out, HX9.out, HZ9.out⟩
            case measure => have := Hj.out; simp [RowKit.intOf]; omega
          · obtain rfl : j = 8 := by omega
            have hd2 : decide (((8 : Nat) : Int) < 8) = false := by decide
            have HYe2 : Hid (Y = pre ++ (pl.take (k + 1)).flatMap D8.bytes) := Lib.hid (by rw [HYe.out, Htk.out, ← List.append_assoc, ← HXe.out]; rfl)
            clear hlt2 hj
            go_wp2
            go_roundw
            case rel => exact ⟨k + 1, Y, A1', c1', Hk.out, HYe2.out, by go_num, rfl, HO2.out, HP2.out, HRd2.out, HS2.out, HX2.out, HZ2.out⟩
            case measure => have := Hk.out; simp [RowKit.intOf]; omega
      · obtain rfl : k = h := by omega
        have hd1 : decide ((k : Int) < (k : Int)) = false := by simp
        have hXf : X = R1.sigB i m := by rw [HXe.out, Hfin.out, List.take_of_length_le (by rw [Hpl.out]; exact Nat.le_refl _)]
        obtain ⟨zg, y0, y1, y2, y3, y4, y5, y6, y7, y8, y9⟩ := free10 HS.out.2
        obtain ⟨zf, x0, x1, x2, x3, x4, x5, x6, x7, x8, x9⟩ := free10 (s := D8.zero) (h := 0) HX.out
        have hl0 := block_lt HS.out.2; have hlx := block_lt HX.out
        have Hbw := Lib.hid HS.out.1
        have HXf := Lib.hid hXf
        clear zg hlt hk hXf hXl
        go_wp2
        clear zf x0 x1 x2 x3 x4 x5 x6 x7 x8 x9 y0 y1 y2 y3 y4 y5 y6 y7 y8 y9
        have HX0 := HX
        have h10 := set10 HX.out (.int .u8 (s.x0 : Int)) (.int .u8 (s.x1 : Int)) (.int .u8 (s.x2 : Int)) (.int .u8 (s.x3 : Int)) (.int .u8 (s.x4 : Int)) (.int .u8 (s.x5 : Int)) (.int .u8 (s.x6 : Int)) (.int .u8 (s.x7 : Int)) (.int .i64 (k : Int)) (.slice A1 n1 c1)
        have hg10 := grown_set10 wr (w.heap.size + 1 + 1) (.int .u8 (s.x0 : Int)) (.int .u8 (s.x1 : Int)) (.int .u8 (s.x2 : Int)) (.int .u8 (s.x3 : Int)) (.int .u8 (s.x4 : Int)) (.int .u8 (s.x5 : Int)) (.int .u8 (s.x6 : Int)) (.int .u8 (s.x7 : Int)) (.int .i64 (k : Int)) (.slice A1 n1 c1)
        generalize ((((((((((wr.setCell ⟨w.heap.size + 1 + 1, 0, none⟩ (.int .u8 (s.x0 : Int))).setCell ⟨w.heap.size + 1 + 1, 1, none⟩ (.int .u8 (s.x1 : Int))).setCell ⟨w.heap.size + 1 + 1, 2, none⟩ (.int .u8 (s.x2 : Int))).setCell ⟨w.heap.size + 1 + 1, 3, none⟩ (.int .u8 (s.x3 : Int))).setCell ⟨w.heap.size + 1 + 1, 4, none⟩ (.int .u8 (s.x4 : Int))).setCell ⟨w.heap.size + 1 + 1, 5, none⟩ (.int .u8 (s.x5 : Int))).setCell ⟨w.heap.size + 1 + 1, 6, none⟩ (.int .u8 (s.x6 : Int))).setCell ⟨w.heap.size + 1 + 1, 7, none⟩ (.int .u8 (s.x7 : Int))).setCell ⟨w.heap.size + 1 + 1, 8, none⟩ (.int .i64 (k : Int))).setCell ⟨w.heap.size + 1 + 1, 9, none⟩ (.slice A1 n1 c1)) = v3 at *
        obtain ⟨zf, r0, r1, r2, r3, r4, r5, r6, r7, r8, r9⟩ := free10 h10
        have Hb2 := Lib.hid (Hbw.out.grown hg10 Hbw.out.size (fun k hk => by injection hk with hk; omega))
        have HG10 := Lib.hid hg10
        clear h10 hg10
        have HR3 := Lib.hid ((rd_otherS HRd.out (fun ad e => HG10.out.block _ (Nat.lt_of_lt_of_le (HAu2.out ad e).1 HZ.out) (by intro e2; injection e2 with e2; exact (HAu2.out ad e).2 e2))).more HG10.out.size)
        have HO3 := Lib.hid (own_low (own_keep HO.out (fun z hz => HG10.out.block z (HO.out.lt z hz).2 (fun e => own_ne HO.out HX0.out (by decide) (by rw [hz]; exact e.symm)))) (show w.heap.size ≤ B by omega))
        refine bodyPost_ret (v := .tuple #[.agg #[.int .u8 (s.x0 : Int), .int .u8 (s.x1 : Int), .int .u8 (s.x2 : Int), .int .u8 (s.x3 : Int), .int .u8 (s.x4 : Int), .int .u8 (s.x5 : Int), .int .u8 (s.x6 : Int), .int .u8 (s.x7 : Int), .int .i64 (k : Int), (.slice A1 n1 c1)], .slice A' X.length c', .int .i64 0]) (by simp [results, Tryz.results6, go_sem, r0, r1, r2, r3, r4, r5, r6, r7, r8, r9]) rfl (Hgive.out _ _ ⟨A1, n1, c1, A', X.length, c', by rw [Hsg2.out]; rfl, by rw [Hsg2.out]; exact HR3.out, by rw [Hsg2.out, ← HXf.out]; exact HO3.out, by rw [Hsg2.out, ← HXf.out], Hb2.out, HFu.out _ (Nat.le_trans HZ.out HG10.out.size)⟩)
  · have e1 : ((er : Int) != 0) = true := by simp; omega
    have e2 : decide ((er : Int) = 0) = false := decide_eq_false (by omega)
    have e3 : decide (er = 0) = false := decide_eq_false he
    have Hsg2 : Hid (sg = (R1, [], er)) := Lib.hid (by rw [Hsg.out, if_neg he])
    obtain ⟨zg, y0, y1, y2, y3, y4, y5, y6, y7, y8, y9⟩ := free10 HS2.out
    obtain ⟨zf, x0, x1, x2, x3, x4, x5, x6, x7, x8, x9⟩ := free10 (s := D8.zero) (h := 0) HX2.out
    have hl0 := block_lt HS2.out; have hlx := block_lt HX2.out
    have HX := Lib.hid HX2.out; have Hbw := Lib.hid Hw2.out
    clear zg he
    go_wp2
    clear zf x0 x1 x2 x3 x4 x5 x6 x7 x8 x9 y0 y1 y2 y3 y4 y5 y6 y7 y8 y9
    have h10 := set10 HX.out (.int .u8 (s.x0 : Int)) (.int .u8 (s.x1 : Int)) (.int .u8 (s.x2 : Int)) (.int .u8 (s.x3 : Int)) (.int .u8 (s.x4 : Int)) (.int .u8 (s.x5 : Int)) (.int .u8 (s.x6 : Int)) (.int .u8 (s.x7 : Int)) (.int .i64 (h : Int)) (.slice A1 n1 c1)
    have hg10 := grown_set10 v2 (w.heap.size + 1 + 1) (.int .u8 (s.x0 : Int)) (.int .u8 (s.x1 : Int)) (.int .u8 (s.x2 : Int)) (.int .u8 (s.x3 : Int)) (.int .u8 (s.x4 : Int)) (.int .u8 (s.x5 : Int)) (.int .u8 (s.x6 : Int)) (.int .u8 (s.x7 : Int)) (.int .i64 (h : Int)) (.slice A1 n1 c1)
    generalize ((((((((((v2.setCell ⟨w.heap.size + 1 + 1, 0, none⟩ (.int .u8 (s.x0 : Int))).setCell ⟨w.heap.size + 1 + 1, 1, none⟩ (.int .u8 (s.x1 : Int))).setCell ⟨w.heap.size + 1 + 1, 2, none⟩ (.int .u8 (s.x2 : Int))).setCell ⟨w.heap.size + 1 + 1, 3, none⟩ (.int .u8 (s.x3 : Int))).setCell ⟨w.heap.size + 1 + 1, 4, none⟩ (.int .u8 (s.x4 : Int))).setCell ⟨w.heap.size + 1 + 1, 5, none⟩ (.int .u8 (s.x5 : Int))).setCell ⟨w.heap.size + 1 + 1, 6, none⟩ (.int .u8 (s.x6 : Int))).setCell ⟨w.heap.size + 1 + 1, 7, none⟩ (.int .u8 (s.x7 : Int))).setCell ⟨w.heap.size + 1 + 1, 8, none⟩ (.int .i64 (h : Int))).setCell ⟨w.heap.size + 1 + 1, 9, none⟩ (.slice A1 n1 c1)) = v3 at *
    obtain ⟨zf, r0, r1, r2, r3, r4, r5, r6, r7, r8, r9⟩ := free10 h10
    have Hb2 := Lib.hid (Hbw.out.grown hg10 Hbw.out.size (fun k hk => by injection hk with hk; omega))
    have HG10 := Lib.hid hg10
    clear h10 hg10
    have HR3 := Lib.hid ((rd_otherS HR2.out (fun ad e => HG10.out.block _ (Nat.lt_of_lt_of_le (HAx.out ad e).1 HZ2.out) (by intro e2; injection e2 with e2; exact (HAx.out ad e).2.2 e2))).more HG10.out.size)
    refine bodyPost_ret (v := .tuple #[.agg #[.int .u8 (s.x0 : Int), .int .u8 (s.x1 : Int), .int .u8 (s.x2 : Int), .int .u8 (s.x3 : Int), .int .u8 (s.x4 : Int), .int .u8 (s.x5 : Int), .int .u8 (s.x6 : Int), .int .u8 (s.x7 : Int), .int .i64 (h : Int), (.slice A1 n1 c1)], .slice none 0 0, .int .i64 (er : Int)]) (by simp [results, Tryz.results6, go_sem, r0, r1, r2, r3, r4, r5, r6, r7, r8, r9]) rfl (Hgive.out _ _ ⟨A1, n1, c1, none, 0, 0, by rw [Hsg2.out], by rw [Hsg2.out]; exact HR3.out, by rw [Hsg2.out]; exact World.ownsRow_nil _ _ _ _, by rw [Hsg2.out]; rfl, Hb2.out, ?_⟩)
    rcases HFr.out with h1 | h1
    · exact .inl h1
    · exact .inr fun ad e => ⟨(h1 ad e).1, Nat.lt_of_lt_of_le (h1 ad e).2 (Nat.le_trans HZ2.out HG10.out.size)⟩
end Go.Proofs.YtmpklplojfjfbaaGreatDoor
