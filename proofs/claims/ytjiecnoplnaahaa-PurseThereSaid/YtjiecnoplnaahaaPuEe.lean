/- The walk of the reference's Digest of a purse. Conditions: bounds. -/
import Derived.Test.YtjiecnoplnaahaaJoinC
import Derived.Test.YtjiecnoplnaahaaPuV
import Derived.Test.YtjiecnoplnaahaaJoinB
import Derived.Test.YtjiecnoplnaahaaInv
import Derived.Lib.SlBytesConst
namespace Go.Proofs.Ytjiecnoplnaahaa
open Go.RowKit Go.Lib



theorem rd_mark (w : World) (t : TypeId) (fz : Nat × Nat) (cs : Array Value) (l : List Nat) (h : cs.toList = bv l) : Rd (w.alloc (.cells cs t fz)) (w.alloc (.cells cs t fz)).heap.size 1 (some ⟨w.heap.size, 0, none⟩) l.length (bv l) := by
  refine ⟨by rw [bv_len]; omega, fun _ => ⟨w.heap.size, 0, rfl, by simp, fun j u hu => ?_⟩⟩
  rw [block_cell (heap_alloc_new w (.cells cs t fz)), ← h] at *
  simpa using hu
set_option maxRecDepth 100000 in
set_option maxHeartbeats 4000000 in
theorem digestr_any (p : Pu) (A : Option Addr) (n c : Nat) (w : World) (h : PuV.At p A n c w) (hok : p.bytesOk) :
    Calls Try.prog 33 #[.agg #[.int .u8 (p.nm.x0 : Int), .int .u8 (p.nm.x1 : Int), .int .u8 (p.nm.x2 : Int), .int .u8 (p.nm.x3 : Int), .int .u8 (p.nm.x4 : Int), .int .u8 (p.nm.x5 : Int), .int .u8 (p.nm.x6 : Int), .int .u8 (p.nm.x7 : Int), .int .i64 p.no, .int .i64 p.h0, .int .i64 p.h1, .slice A n c]] w fun e w' => e = .returned (.agg #[.int .u8 (p.digest.x0 : Int), .int .u8 (p.digest.x1 : Int), .int .u8 (p.digest.x2 : Int), .int .u8 (p.digest.x3 : Int), .int .u8 (p.digest.x4 : Int), .int .u8 (p.digest.x5 : Int), .int .u8 (p.digest.x6 : Int), .int .u8 (p.digest.x7 : Int)]) ∧ Below w.heap.size w w' := by
  have Hh := Lib.hid h; have Hok := Lib.hid hok
  clear h hok
  have HY00 := Lib.hid (show ((w.alloc (.cells #[.int .u8 (p.nm.x0 : Int), .int .u8 (p.nm.x1 : Int), .int .u8 (p.nm.x2 : Int), .int .u8 (p.nm.x3 : Int), .int .u8 (p.nm.x4 : Int), .int .u8 (p.nm.x5 : Int), .int .u8 (p.nm.x6 : Int), .int .u8 (p.nm.x7 : Int), .int .i64 p.no, .int .i64 p.h0, .int .i64 p.h1, .slice A n c] 26)).alloc (.cells #[.int .u8 0, .int .u8 0, .int .u8 0, .int .u8 0, .int .u8 0, .int .u8 0, .int .u8 0, .int .u8 0] 22)).heap[w.heap.size + 1]? = some (.cells #[.int .u8 0, .int .u8 0, .int .u8 0, .int .u8 0, .int .u8 0, .int .u8 0, .int .u8 0, .int .u8 0] 22 (0, 0)) from h_at (by simp))
  have HX00 := Lib.hid (show ((w.alloc (.cells #[.int .u8 (p.nm.x0 : Int), .int .u8 (p.nm.x1 : Int), .int .u8 (p.nm.x2 : Int), .int .u8 (p.nm.x3 : Int), .int .u8 (p.nm.x4 : Int), .int .u8 (p.nm.x5 : Int), .int .u8 (p.nm.x6 : Int), .int .u8 (p.nm.x7 : Int), .int .i64 p.no, .int .i64 p.h0, .int .i64 p.h1, .slice A n c] 26)).alloc (.cells #[.int .u8 0, .int .u8 0, .int .u8 0, .int .u8 0, .int .u8 0, .int .u8 0, .int .u8 0, .int .u8 0] 22)).heap[w.heap.size]? = some (.cells #[.int .u8 (p.nm.x0 : Int), .int .u8 (p.nm.x1 : Int), .int .u8 (p.nm.x2 : Int), .int .u8 (p.nm.x3 : Int), .int .u8 (p.nm.x4 : Int), .int .u8 (p.nm.x5 : Int), .int .u8 (p.nm.x6 : Int), .int .u8 (p.nm.x7 : Int), .int .i64 p.no, .int .i64 p.h0, .int .i64 p.h1, .slice A n c] 26 (0, 0)) from block_alloc (heap_alloc_new w _) _)
  have Hb00 := Lib.hid (below_two w (.cells #[.int .u8 (p.nm.x0 : Int), .int .u8 (p.nm.x1 : Int), .int .u8 (p.nm.x2 : Int), .int .u8 (p.nm.x3 : Int), .int .u8 (p.nm.x4 : Int), .int .u8 (p.nm.x5 : Int), .int .u8 (p.nm.x6 : Int), .int .u8 (p.nm.x7 : Int), .int .i64 p.no, .int .i64 p.h0, .int .i64 p.h1, .slice A n c] 26) (.cells #[.int .u8 0, .int .u8 0, .int .u8 0, .int .u8 0, .int .u8 0, .int .u8 0, .int .u8 0, .int .u8 0] 22))
  by_cases hp : p.check = 0
  · have Hp := Lib.hid hp
    have b0 : (p.check != 0) = false := by simpa using hp
    clear hp
    go_enter Try.func33, Try.ntmps33
    go_wp2_with fail
    refine (checkr_any p A n c _ (Hh.out.up Hb00.out)).mono ?_
    rintro e w1 ⟨rfl, hb1⟩
    have HX1 := Lib.hid (block_below HX00.out hb1 (by simp; omega)); have HY1 := Lib.hid (block_below HY00.out hb1 (by simp))
    have Hb1 := Lib.hid (Hb00.out.trans (hb1.mono (by simp; omega)))
    have hlt1 := block_lt HY1.out
    clear hb1 HX00 HY00 Hb00
    go_upto_region 3 with fail
    obtain ⟨i0, hi, hz0, hz1, hz2⟩ := info_parts info_u8
    have HI := Lib.hid (And.intro hi (And.intro hz0 (And.intro hz1 hz2))); clear hi hz0 hz1 hz2
    refine wp_region_held_drew (S := fun w' => w'.cell? ⟨w.heap.size, 0, none⟩ = some (.int .u8 (p.nm.x0 : Int)) ∧ w'.cell? ⟨w.heap.size, 1, none⟩ = some (.int .u8 (p.nm.x1 : Int)) ∧ w'.cell? ⟨w.heap.size, 2, none⟩ = some (.int .u8 (p.nm.x2 : Int)) ∧ w'.cell? ⟨w.heap.size, 3, none⟩ = some (.int .u8 (p.nm.x3 : Int)) ∧ w'.cell? ⟨w.heap.size, 4, none⟩ = some (.int .u8 (p.nm.x4 : Int)) ∧ w'.cell? ⟨w.heap.size, 5, none⟩ = some (.int .u8 (p.nm.x5 : Int)) ∧ w'.cell? ⟨w.heap.size, 6, none⟩ = some (.int .u8 (p.nm.x6 : Int)) ∧ w'.cell? ⟨w.heap.size, 7, none⟩ = some (.int .u8 (p.nm.x7 : Int)) ∧ w'.cell? ⟨w.heap.size, 8, none⟩ = some (.int .i64 p.no) ∧ w'.cell? ⟨w.heap.size, 9, none⟩ = some (.int .i64 p.h0) ∧ w'.cell? ⟨w.heap.size, 10, none⟩ = some (.int .i64 p.h1) ∧ w'.cell? ⟨w.heap.size, 11, none⟩ = some (.slice A n c)) (by kernel_rfl) (psg_of (w := w1.drew) HX1.out) (fun hHeld => ?_)
    refine takeH 3 (some 10) (v := ?_) rfl (by kernel_rfl) (by kernel_rfl) (by kernel_rfl) (by kernel_rfl) (fun _ _ _ h => h) (Or.inl ⟨by kernel_rfl, ?hy⟩) (by assumption) ?_
    case hy =>
      intro w' hSw
      try dsimp only at hSw
      first
        | (go_simp; done)
        | (go_simp; with_reducible rfl)
    simp only [Act.put, List.setIfInBounds_toArray, List.set_cons_zero, List.set_cons_succ]
    have hcv : (convert 64 64 (.slice (some ⟨w1.heap.size, 0, none⟩) 5 5)).run Try.prog (w1.alloc (.cells #[.int .u8 112, .int .u8 117, .int .u8 114, .int .u8 115, .int .u8 101] 5)).drew = .ok (.slice (some ⟨w1.heap.size, 0, none⟩) 5 5) (w1.alloc (.cells #[.int .u8 112, .int .u8 117, .int .u8 114, .int .u8 115, .int .u8 101] 5 (5, 6))).drew :=
      Lib.run_convert_bytes_const w1.drew 64 5 #[.int .u8 112, .int .u8 117, .int .u8 114, .int .u8 115, .int .u8 101] 5 5 Try.underlying64 Try.underlying5
    refine wpAnyH_ready (rs := [0]) (by kernel_rfl) (by simp) ?_
    refine AllReadyH.cons rfl (fun K hK => ?_) AllReadyH.nil
    rw [if_pos (by kernel_rfl)]
    go_simp
    have HX1b := Lib.hid (block_alloc (w := w1.drew) HX1.out (.cells #[.int .u8 112, .int .u8 117, .int .u8 114, .int .u8 115, .int .u8 101] 5))
    refine hK.out _ _ (psg_of HX1b.out) (fun hHeld => ?_)
    clear hK K
    refine wpAnyH_ready (rs := [1]) (by kernel_rfl) (by simp) ?_
    refine AllReadyH.cons rfl (fun K hK => ?_) AllReadyH.nil
    rw [if_pos (by kernel_rfl)]
    go_simp
    have HX2 := Lib.hid (block_alloc (w := w1.drew) HX1.out (.cells #[.int .u8 112, .int .u8 117, .int .u8 114, .int .u8 115, .int .u8 101] 5 (5, 6)))
    have HR2 := Lib.hid (rd_mark w1.drew 5 (5, 6) #[.int .u8 112, .int .u8 117, .int .u8 114, .int .u8 115, .int .u8 101] purseT rfl)
    have HY2 := Lib.hid (block_alloc (w := w1.drew) HY1.out (.cells #[.int .u8 112, .int .u8 117, .int .u8 114, .int .u8 115, .int .u8 101] 5 (5, 6)))
    have Hb2 := Lib.hid (Hb1.out.drew.alloc Hb1.out.size (.cells #[.int .u8 112, .int .u8 117, .int .u8 114, .int .u8 115, .int .u8 101] 5 (5, 6)))
    have hz2 : w1.heap.size ≤ (w1.drew.alloc (.cells #[.int .u8 112, .int .u8 117, .int .u8 114, .int .u8 115, .int .u8 101] 5 (5, 6))).heap.size := by simp
    clear hcv
    rw [show (w1.alloc (.cells #[.int .u8 112, .int .u8 117, .int .u8 114, .int .u8 115, .int .u8 101] 5 (5, 6))).drew = w1.drew.alloc (.cells #[.int .u8 112, .int .u8 117, .int .u8 114, .int .u8 115, .int .u8 101] 5 (5, 6)) from rfl]
    generalize w1.drew.alloc (.cells #[.int .u8 112, .int .u8 117, .int .u8 114, .int .u8 115, .int .u8 101] 5 (5, 6)) = w2 at *
    refine hK.out _ _ (psg_of HX2.out) (fun hHeld => ?_)
    clear hK K
    refine wpAnyH_ready (rs := [2]) (by kernel_rfl) (by simp) ?_
    refine AllReadyH.cons rfl (fun K hK => ?_) AllReadyH.nil
    rw [if_pos (by kernel_rfl)]
    go_simp
    refine (bytesr_any (some ⟨w1.heap.size, 0, none⟩) 5 5 purseT w2 HR2.out (by omega)).mono ?_
    rintro e w3 ⟨A3, n3, c3, rfl, ho, hn, hb⟩
    have HX3 := Lib.hid (block_below HX2.out hb (block_lt HX2.out)); have HY3 := Lib.hid (block_below HY2.out hb (block_lt HY2.out)); have Hb3 := Lib.hid (Hb2.out.trans (hb.mono Hb2.out.size)); have HO3 := Lib.hid (pown_down ho (show w1.heap.size ≤ _ from hz2)); have HN3 := Lib.hid hn
    have hl3 : n3 ≤ 20 := by rw [hn]; decide
    have hz3 : w1.heap.size ≤ w3.heap.size := Nat.le_trans hz2 hb.size
    clear ho hn hb
    refine hK.out _ _ (psg_of HX3.out) (fun hHeld => ?_)
    clear hK K
    refine wpAnyH_ready (rs := [4]) (by kernel_rfl) (by simp) ?_
    refine AllReadyH.cons rfl (fun K hK => ?_) AllReadyH.nil
    rw [if_pos (by kernel_rfl)]
    go_simp
    refine (pbytesr_any p A n c w3 (Hh.out.up Hb3.out) Hp.out).mono ?_
    rintro e w4 ⟨A4, n4, c4, rfl, ho, hn, hb⟩
    have HX4 := Lib.hid (block_below HX3.out hb (block_lt HX3.out)); have HY4 := Lib.hid (block_below HY3.out hb (block_lt HY3.out)); have Hb4 := Lib.hid (Hb3.out.trans (hb.mono Hb3.out.size)); have HO4 := Lib.hid (own_below HO3.out hb); have HR4 := Lib.hid (Rd.of_own ho); have HN4 := Lib.hid hn
    have hl4 : n4 ≤ 1000 := by
      obtain ⟨_, _, _, h7, _⟩ := check_parts Hp.out
      rw [hn]; have := encPu_len p; omega
    have hz4 : w1.heap.size ≤ w4.heap.size := Nat.le_trans hz3 hb.size
    clear ho hn hb
    refine hK.out _ _ (psg_of HX4.out) (fun hHeld => ?_)
    clear hK K
    refine wpAnyH_ready (rs := [5]) (by kernel_rfl) (by simp) ?_
    refine AllReadyH.cons rfl (fun K hK => ?_) AllReadyH.nil
    refine step_append_rdg w4 (by rfl) (.tmp 9) (.tmp 11) 64 (by rfl) w1.heap.size 5 i0 (.int .u8 0) 1 1 Try.underlying64 HI.out rfl (by decide) (.slice A3 n3 c3) n3 _ (by rfl) HO4.out w4.heap.size A4 n4 c4 _ (by rfl) HR4.out (bv_one _) (by omega) (by omega) hz4 ?_
    intro v5 w5 ho hb hg
    obtain ⟨A5, c5, rfl⟩ := own_form ho
    have HX5 := Lib.hid (block_below HX4.out hb (block_lt HX1.out)); have HY5 := Lib.hid (block_below HY4.out hb hlt1); have Hb5 := Lib.hid (Hb4.out.trans (hb.mono (by omega))); have HO5 := Lib.hid ho
    have hcap := own_cap ho
    have HR5 := Lib.hid (Rd.of_own ho)
    clear ho hb hg
    have hl5 : n3 + n4 ≤ 1020 := by omega
    refine hK.out _ _ (psg_of HX5.out) (fun hHeld => ?_)
    clear hK K
    have Hlt : Hid (∀ x ∈ encB purseT ++ encPu p, x < 256) := Lib.hid (fun x hx => by
      rcases List.mem_append.1 hx with hx | hx
      · exact encB_lt (l := purseT) (by decide) (by decide) x hx
      · exact encPu_lt Hp.out Hok.out x hx)
    refine wpAnyH_ready (rs := [6]) (by kernel_rfl) (by simp) ?_
    refine AllReadyH.cons rfl (fun K hK => ?_) AllReadyH.nil
    rw [if_pos (by kernel_rfl)]
    go_simp
    refine (ofr_any A5 _ c5 (encB purseT ++ encPu p) w5 (by rw [bv_append]; exact HR5.out) (by omega) Hlt.out).mono ?_
    rintro e w6 ⟨rfl, hb6⟩
    have hbx := block_below HY5.out hb6 (block_lt HY5.out)
    have HX6 := Lib.hid (block_below HX5.out hb6 (block_lt HX5.out))
    obtain ⟨zf, r0, r1, r2, r3, r4, r5, r6, r7⟩ := free8 hbx
    have Hbx := Lib.hid hbx
    have Hbw := Lib.hid (Hb5.out.trans (hb6.mono Hb5.out.size))
    have Hout : Hid (hashOf (encB purseT ++ encPu p) = p.digest) := Lib.hid (by unfold Pu.digest; rw [if_pos Hp.out])
    clear hb6 hbx
    generalize hashOf (encB purseT ++ encPu p) = d at *
    refine hK.out _ _ (psg_of HX6.out) (fun hHeld => ?_)
    clear hK K
    refine wpAnyH_ready (rs := [7]) (by kernel_rfl) (by simp) ?_
    refine AllReadyH.cons rfl (fun K hK => ?_) AllReadyH.nil
    rw [if_pos (by kernel_rfl)]
    go_simp
    have HX7 := Lib.hid (block_grown HX6.out (grown_set8 w6 (w.heap.size + 1) (.int .u8 (d.x0 : Int)) (.int .u8 (d.x1 : Int)) (.int .u8 (d.x2 : Int)) (.int .u8 (d.x3 : Int)) (.int .u8 (d.x4 : Int)) (.int .u8 (d.x5 : Int)) (.int .u8 (d.x6 : Int)) (.int .u8 (d.x7 : Int))) (by simp))
    clear zf r0 r1 r2 r3 r4 r5 r6 r7
    have h8 := set8 Hbx.out (.int .u8 (d.x0 : Int)) (.int .u8 (d.x1 : Int)) (.int .u8 (d.x2 : Int)) (.int .u8 (d.x3 : Int)) (.int .u8 (d.x4 : Int)) (.int .u8 (d.x5 : Int)) (.int .u8 (d.x6 : Int)) (.int .u8 (d.x7 : Int))
    have hg8 := grown_set8 w6 (w.heap.size + 1) (.int .u8 (d.x0 : Int)) (.int .u8 (d.x1 : Int)) (.int .u8 (d.x2 : Int)) (.int .u8 (d.x3 : Int)) (.int .u8 (d.x4 : Int)) (.int .u8 (d.x5 : Int)) (.int .u8 (d.x6 : Int)) (.int .u8 (d.x7 : Int))
    generalize ((((((((w6.setCell ⟨w.heap.size + 1, 0, none⟩ (.int .u8 (d.x0 : Int))).setCell ⟨w.heap.size + 1, 1, none⟩ (.int .u8 (d.x1 : Int))).setCell ⟨w.heap.size + 1, 2, none⟩ (.int .u8 (d.x2 : Int))).setCell ⟨w.heap.size + 1, 3, none⟩ (.int .u8 (d.x3 : Int))).setCell ⟨w.heap.size + 1, 4, none⟩ (.int .u8 (d.x4 : Int))).setCell ⟨w.heap.size + 1, 5, none⟩ (.int .u8 (d.x5 : Int))).setCell ⟨w.heap.size + 1, 6, none⟩ (.int .u8 (d.x6 : Int))).setCell ⟨w.heap.size + 1, 7, none⟩ (.int .u8 (d.x7 : Int))) = w7 at *
    obtain ⟨zf, r0, r1, r2, r3, r4, r5, r6, r7⟩ := free8 h8
    have Hb2 := Lib.hid (Hbw.out.grown hg8 Hbw.out.size (fun k hk => by injection hk with hk; omega))
    clear h8 hg8
    refine hK.out _ _ (psg_of HX7.out) (fun hHeld => ?_)
    clear hK K
    refine wpAnyH_done (by kernel_rfl) ?_ _
    go_wp2
    refine bodyPost_ret (v := .agg #[.int .u8 (d.x0 : Int), .int .u8 (d.x1 : Int), .int .u8 (d.x2 : Int), .int .u8 (d.x3 : Int), .int .u8 (d.x4 : Int), .int .u8 (d.x5 : Int), .int .u8 (d.x6 : Int), .int .u8 (d.x7 : Int)]) (by simp [results, Try.results33, go_sem, r0, r1, r2, r3, r4, r5, r6, r7]) rfl ⟨by rw [Hout.out], Hb2.out⟩
  · have Hp := Lib.hid hp
    have b0 : (p.check != 0) = true := by simpa using hp
    clear hp
    go_enter Try.func33, Try.ntmps33
    go_wp2_with fail
    refine (checkr_any p A n c _ (Hh.out.up Hb00.out)).mono ?_
    rintro e w1 ⟨rfl, hb1⟩
    have hbx := block_below HY00.out hb1 (by simp)
    obtain ⟨zf, r0, r1, r2, r3, r4, r5, r6, r7⟩ := free8 hbx
    have Hbx := Lib.hid hbx
    have Hbw := Lib.hid (Hb00.out.trans (hb1.mono (by simp; omega)))
    have hsz := hb1.size
    simp at hsz
    clear hb1 hbx HX00 HY00
    go_wp2
    clear zf r0 r1 r2 r3 r4 r5 r6 r7
    have h8 := set8 Hbx.out (.int .u8 0) (.int .u8 0) (.int .u8 0) (.int .u8 0) (.int .u8 0) (.int .u8 0) (.int .u8 0) (.int .u8 0)
    have hg8 := grown_set8 w1 (w.heap.size + 1) (.int .u8 0) (.int .u8 0) (.int .u8 0) (.int .u8 0) (.int .u8 0) (.int .u8 0) (.int .u8 0) (.int .u8 0)
    generalize ((((((((w1.setCell ⟨w.heap.size + 1, 0, none⟩ (.int .u8 0)).setCell ⟨w.heap.size + 1, 1, none⟩ (.int .u8 0)).setCell ⟨w.heap.size + 1, 2, none⟩ (.int .u8 0)).setCell ⟨w.heap.size + 1, 3, none⟩ (.int .u8 0)).setCell ⟨w.heap.size + 1, 4, none⟩ (.int .u8 0)).setCell ⟨w.heap.size + 1, 5, none⟩ (.int .u8 0)).setCell ⟨w.heap.size + 1, 6, none⟩ (.int .u8 0)).setCell ⟨w.heap.size + 1, 7, none⟩ (.int .u8 0)) = w5 at *
    obtain ⟨zf, r0, r1, r2, r3, r4, r5, r6, r7⟩ := free8 h8
    have Hb2 := Lib.hid (Hbw.out.grown hg8 Hbw.out.size (fun k hk => by injection hk with hk; omega))
    clear h8 hg8
    have Hout : Hid (p.digest = nm0) := Lib.hid (by unfold Pu.digest; rw [if_neg Hp.out])
    refine bodyPost_ret (v := .agg #[.int .u8 0, .int .u8 0, .int .u8 0, .int .u8 0, .int .u8 0, .int .u8 0, .int .u8 0, .int .u8 0]) (by simp [results, Try.results33, go_sem, r0, r1, r2, r3, r4, r5, r6, r7]) rfl ⟨by rw [Hout.out]; rfl, Hb2.out⟩
end Go.Proofs.Ytjiecnoplnaahaa
