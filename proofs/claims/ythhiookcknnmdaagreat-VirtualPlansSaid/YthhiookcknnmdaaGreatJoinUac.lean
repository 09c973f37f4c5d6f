/- The walk of a lock's Name; bytes are small. Conditions: bounds. The walk of a plan's Digest. Conditions: bounds. The walks of a plan's Lock, and of a lock's Check. Conditions: bounds. The walks of slices.Grow and slices.Concat at bytes, and of what payouts are told by. Conditions: bounds. The walk of a payout's Digest, of two pays. Conditions: bounds. -/
import Derived.Test.YthhiookcknnmdaaGreatJoinUab
import Derived.Test.YthhiookcknnmdaaGreatStepApp
import Derived.Test.YthhiookcknnmdaaGreatTail
import Derived.Test.YthhiookcknnmdaaGreatDig
import Derived.Test.YthhiookcknnmdaaGreatOctI
import Derived.Lib.AppendZerosOnto
import Derived.Lib.SliceRun
import Derived.Test.YthhiookcknnmdaaGreatJoinUaa
namespace Go.Proofs.YthhiookcknnmdaaGreat
open Go.RowKit Go.Lib
theorem enc7_256 : ∀ (f n : Nat), n < 128 ^ (f + 1) → ∀ x ∈ enc7 f n, x < 256 := by
 intro f
 induction f with
 | zero => intro n hn x hx; simp [enc7] at hx; simp at hn; omega
 | succ f ih =>
  intro n hn x hx
  by_cases h : n < 128
  ·rw [enc7_small h] at hx; simp at hx; omega
  ·rw [enc7_big h] at hx
   simp only [List.mem_cons] at hx
   rcases hx with rfl | hx
   ·omega
   ·exact ih _ (by rw [Nat.pow_succ] at hn; exact Nat.div_lt_of_lt_mul (by rw [Nat.mul_comm]; exact hn)) x hx
theorem encN_256 {n : Nat} (h : n < 18446744073709551616) : ∀ x ∈ encN n, x < 256 := enc7_256 10 n (Nat.lt_of_lt_of_le h (by decide))
theorem encB_256 {l : List Nat} (hl : l.length < 18446744073709551616) (h : ∀ x ∈ l, x < 256) : ∀ x ∈ encB l, x < 256 := fun x hx => by
 unfold encB at hx
 rcases List.mem_append.1 hx with hx | hx
 ·exact encN_256 hl x hx
 ·exact h x hx
theorem d8bytes_256 {d : D8} (h : d.ok) : ∀ x ∈ encB d.bytes, x < 256 := encB_256 (by show 8 < _; decide) (D8.bytes_lt h)
theorem app_256 {l m : List Nat} (h : ∀ x ∈ l, x < 256) (h2 : ∀ x ∈ m, x < 256) : ∀ x ∈ l ++ m, x < 256 := fun x hx => by
 rcases List.mem_append.1 hx with hx | hx
 ·exact h x hx
 ·exact h2 x hx
theorem flat_256 {α : Type} {l : List α} {f : α → List Nat} (h : ∀ a ∈ l, ∀ x ∈ f a, x < 256) : ∀ x ∈ l.flatMap f, x < 256 := fun x hx => by
 obtain ⟨a, ha, hx⟩ := List.mem_flatMap.1 hx
 exact h a ha x hx
structure Lk.fit (l : Lk) : Prop where
 k : 0 ≤ l.kd ∧ l.kd ≤ 1
 s : 0 ≤ l.st ∧ l.st ≤ 8
 c : 0 ≤ l.cp ∧ l.cp ≤ 1125899906842624
 n : l.ks.length ≤ 8
 h : l.hs.ok
 ok : ∀ d ∈ l.ks, d.ok
theorem Lk.bytes_256 {l : Lk} (h : l.fit) (hu : 0 ≤ l.un ∧ l.un ≤ 1099511627776) : ∀ x ∈ l.bytes, x < 256 := by
 have h1 := h.k; have h2 := h.s; have h3 := h.c; have h4 := h.n
 unfold Lk.bytes encDs
 exact app_256 (app_256 (app_256 (app_256 (app_256 (app_256 (encN_256 (by omega)) (d8bytes_256 h.h)) (encN_256 (by omega))) (flat_256 fun d hd => d8bytes_256 (h.ok d hd))) (encN_256 (by omega))) (encN_256 (by omega))) (encN_256 (by omega))
theorem lkbytes_len (l : Lk) (hn : l.ks.length ≤ 8) : l.bytes.length ≤ 300 := by
 have := lkhead_len l; have := encDs_len l.ks; have := encN_len l.st.toNat; have := encN_len l.cp.toNat; have := encN_len l.un.toNat
 unfold Lk.head at *
 unfold Lk.bytes
 simp only [List.length_append] at *
 omega
set_option maxRecDepth 100000 in
set_option maxHeartbeats 4000000 in
theorem lkname_any (l : Lk) (A : Option Addr) (n c : Nat) (w : World) (h : Rd w w.heap.size 8 A n (flatD l.ks)) (hf : l.fit) :
  Calls Tryz.prog 18 #[.agg #[.int .i64 l.kd, .int .u8 l.hs.x0, .int .u8 l.hs.x1, .int .u8 l.hs.x2, .int .u8 l.hs.x3, .int .u8 l.hs.x4, .int .u8 l.hs.x5, .int .u8 l.hs.x6, .int .u8 l.hs.x7, .slice A n c, .int .i64 l.st, .int .i64 l.cp, .int .i64 l.un]] w fun e w' => e = .returned (.agg #[.int .u8 l.name.x0, .int .u8 l.name.x1, .int .u8 l.name.x2, .int .u8 l.name.x3, .int .u8 l.name.x4, .int .u8 l.name.x5, .int .u8 l.name.x6, .int .u8 l.name.x7]) ∧ Below w.heap.size w w' := by
 have HX0 : Hid (((w.alloc (.cells #[.int .i64 l.kd, .int .u8 l.hs.x0, .int .u8 l.hs.x1, .int .u8 l.hs.x2, .int .u8 l.hs.x3, .int .u8 l.hs.x4, .int .u8 l.hs.x5, .int .u8 l.hs.x6, .int .u8 l.hs.x7, .slice A n c, .int .i64 l.st, .int .i64 l.cp, .int .i64 l.un] 40)).alloc (.cells #[.int .u8 0, .int .u8 0, .int .u8 0, .int .u8 0, .int .u8 0, .int .u8 0, .int .u8 0, .int .u8 0] 27)).heap[w.heap.size]? = some (.cells #[.int .i64 l.kd, .int .u8 l.hs.x0, .int .u8 l.hs.x1, .int .u8 l.hs.x2, .int .u8 l.hs.x3, .int .u8 l.hs.x4, .int .u8 l.hs.x5, .int .u8 l.hs.x6, .int .u8 l.hs.x7, .slice A n c, .int .i64 l.st, .int .i64 l.cp, .int .i64 l.un] 40 (0, 0))) := block_alloc (heap_alloc_new _ _) _
 have HY0 : Hid (((w.alloc (.cells #[.int .i64 l.kd, .int .u8 l.hs.x0, .int .u8 l.hs.x1, .int .u8 l.hs.x2, .int .u8 l.hs.x3, .int .u8 l.hs.x4, .int .u8 l.hs.x5, .int .u8 l.hs.x6, .int .u8 l.hs.x7, .slice A n c, .int .i64 l.st, .int .i64 l.cp, .int .i64 l.un] 40)).alloc (.cells #[.int .u8 0, .int .u8 0, .int .u8 0, .int .u8 0, .int .u8 0, .int .u8 0, .int .u8 0, .int .u8 0] 27)).heap[w.heap.size + 1]? = some (.cells #[.int .u8 0, .int .u8 0, .int .u8 0, .int .u8 0, .int .u8 0, .int .u8 0, .int .u8 0, .int .u8 0] 27 (0, 0))) := alloc_at (by simp)
 have Hb0 : Hid (Below w.heap.size w ((w.alloc (.cells #[.int .i64 l.kd, .int .u8 l.hs.x0, .int .u8 l.hs.x1, .int .u8 l.hs.x2, .int .u8 l.hs.x3, .int .u8 l.hs.x4, .int .u8 l.hs.x5, .int .u8 l.hs.x6, .int .u8 l.hs.x7, .slice A n c, .int .i64 l.st, .int .i64 l.cp, .int .i64 l.un] 40)).alloc (.cells #[.int .u8 0, .int .u8 0, .int .u8 0, .int .u8 0, .int .u8 0, .int .u8 0, .int .u8 0, .int .u8 0] 27))) := below_two _ _ _
 have Hz0 : Hid (((w.alloc (.cells #[.int .i64 l.kd, .int .u8 l.hs.x0, .int .u8 l.hs.x1, .int .u8 l.hs.x2, .int .u8 l.hs.x3, .int .u8 l.hs.x4, .int .u8 l.hs.x5, .int .u8 l.hs.x6, .int .u8 l.hs.x7, .slice A n c, .int .i64 l.st, .int .i64 l.cp, .int .i64 l.un] 40)).alloc (.cells #[.int .u8 0, .int .u8 0, .int .u8 0, .int .u8 0, .int .u8 0, .int .u8 0, .int .u8 0, .int .u8 0] 27)).heap.size = w.heap.size + 2) := by show _ = _; simp
 have Hr := Lib.hid h
 have Hl := Lib.hid h.dlenD
 have HF := Lib.hid hf
 clear h hf
 go_enter Tryz.func18, Tryz.ntmps18
 go_upto_region 1 with fail
 generalize (w.alloc (.cells #[.int .i64 l.kd, .int .u8 l.hs.x0, .int .u8 l.hs.x1, .int .u8 l.hs.x2, .int .u8 l.hs.x3, .int .u8 l.hs.x4, .int .u8 l.hs.x5, .int .u8 l.hs.x6, .int .u8 l.hs.x7, .slice A n c, .int .i64 l.st, .int .i64 l.cp, .int .i64 l.un] 40)).alloc (.cells #[.int .u8 0, .int .u8 0, .int .u8 0, .int .u8 0, .int .u8 0, .int .u8 0, .int .u8 0, .int .u8 0] 27) = w0 at *
 have h1 := Joins.block_setCell (i := 12) HX0.out (.int .i64 0)
 have g1 := pgrown_set (w := w0) w.heap.size 12 (.int .i64 0)
 simp at h1
 have HX1 := Lib.hid h1
 have HY1 := Lib.hid (block_grown HY0.out g1 (by simp))
 have Hb1 := Lib.hid (Hb0.out.grown g1 Hb0.out.size (fun k hk => by cases hk; exact Nat.le_refl _))
 have hz1 : (w0.setCell ⟨w.heap.size, 12, none⟩ (.int .i64 0)).heap.size = w.heap.size + 2 := by simpa using Hz0.out
 clear h1 g1
 have r := block_cell HX0.out
 have r0 := r 0; have r1 := r 1; have r2 := r 2; have r3 := r 3; have r4 := r 4; have r5 := r 5; have r6 := r 6; have r7 := r 7; have r8 := r 8; have r9 := r 9; have r10 := r 10; have r11 := r 11; have r12 := r 12
 simp at r0 r1 r2 r3 r4 r5 r6 r7 r8 r9 r10 r11 r12
 clear r
 have rf := block_free HX0.out
 go_upto_region 2 with fail
 generalize w0.setCell ⟨w.heap.size, 12, none⟩ (.int .i64 0) = w1 at *
 have Hz1 := Lib.hid hz1
 clear hz1 r0 r1 r2 r3 r4 r5 r6 r7 r8 r9 r10 r11 r12 rf
 obtain ⟨i0, hi, hz0, hz1, hz2⟩ := info_parts info_u8
 have HI := Lib.hid (And.intro hi (And.intro hz0 (And.intro hz1 hz2))); clear hi hz0 hz1 hz2
 have hzl : w.heap.size < w1.heap.size := by have := Hz1.out; omega
 refine wp_region_held_drew (S := fun w' => w'.heap[w.heap.size]? = some (.cells #[.int .i64 l.kd, .int .u8 l.hs.x0, .int .u8 l.hs.x1, .int .u8 l.hs.x2, .int .u8 l.hs.x3, .int .u8 l.hs.x4, .int .u8 l.hs.x5, .int .u8 l.hs.x6, .int .u8 l.hs.x7, .slice A n c, .int .i64 l.st, .int .i64 l.cp, .int .i64 0] 40 (0, 0))) (by kernel_rfl) HX1.out (fun hHeld => ?_)
 refine takeK 1 (some 5) (v := .agg ([.int .i64 l.kd, .int .u8 l.hs.x0, .int .u8 l.hs.x1, .int .u8 l.hs.x2, .int .u8 l.hs.x3, .int .u8 l.hs.x4, .int .u8 l.hs.x5, .int .u8 l.hs.x6, .int .u8 l.hs.x7, .slice A n c, .int .i64 l.st, .int .i64 l.cp, .int .i64 0] : List Value).toArray) rfl (by kernel_rfl) (by kernel_rfl) (fun _ _ _ => id) (yieldsIf_load_mid (by kernel_rfl) 40 _ (by rfl) (w.heap.size) (0) (by rfl) [.int .i64 l.kd, .int .u8 l.hs.x0, .int .u8 l.hs.x1, .int .u8 l.hs.x2, .int .u8 l.hs.x3, .int .u8 l.hs.x4, .int .u8 l.hs.x5, .int .u8 l.hs.x6, .int .u8 l.hs.x7, .slice A n c, .int .i64 l.st, .int .i64 l.cp, .int .i64 0] _ (fun w' hw' => range_all hw') Tryz.underlying40 rfl (by kernel_rfl)) (by assumption) ?_
 simp only [Act.put, sT]
 refine wpAnyH_ready (rs := [0]) (by kernel_rfl) (by simp) ?_
 refine AllReadyH.cons rfl (fun K hK => ?_) AllReadyH.nil
 rw [if_pos (by kernel_rfl)]
 try simp only [List.getElem_toArray]
 try simp only [List.getElem_cons_succ]
 try simp only [List.getElem_cons_zero]
 go_simp
 go_at_call 57
 refine (putText_any none 0 0 [] lockT _ w1.drew Rd.empty (by omega) (by rfl) (by rfl) (by decide)).mono ?_
 rintro e w2 ⟨A2, n2, c2, rfl, ho2, hn2, hb2⟩
 have HB2 := Lib.hid ((Below.refl w1.heap.size w1).drew.trans hb2)
 have HO2 := Lib.hid (show w2.ownsRow w1.heap.size 5 1 (.slice A2 n2 c2) n2 (bv ([] ++ encB lockT)) from ho2)
 have hl2 : n2 ≤ 5 := by rw [hn2]; decide
 clear ho2 hn2 hb2
 refine hK.out _ _ (block_below HX1.out HB2.out hzl) (fun _ => ?_)
 clear hK K
 try simp only [Act.put, sT]
 refine wpAnyH_ready (rs := [2]) (by kernel_rfl) (by simp) ?_
 refine AllReadyH.cons rfl (fun K hK => ?_) AllReadyH.nil
 rw [if_pos (by kernel_rfl)]
 try simp only [List.getElem_toArray]
 try simp only [List.getElem_cons_succ]
 try simp only [List.getElem_cons_zero]
 go_simp
 go_at_call 58
 refine (lkbytes_any { l with un := 0 } A n c w2 ((Hr.out.below (Hb1.out.trans (HB2.out.mono Hb1.out.size)) (Nat.le_refl _)).more (by have := HB2.out.size; omega)) (by have := HF.out.n; have := Hl.out; omega) HF.out.k HF.out.s HF.out.c ⟨Int.le_refl _, (by decide : (0 : Int) ≤ 1099511627776)⟩).mono ?_
 rintro e w3 ⟨A3, n3, c3, rfl, ho3, hn3, hb3⟩
 have HB3 := Lib.hid (HB2.out.trans (hb3.mono HB2.out.size))
 have HO23 := Lib.hid (own_below HO2.out hb3)
 have HR3 := Lib.hid (Rd.of_own ho3)
 have hl3 : n3 ≤ 300 := by rw [hn3]; exact lkbytes_len _ HF.out.n
 clear ho3 hn3 hb3
 refine hK.out _ _ (block_below HX1.out HB3.out hzl) (fun _ => ?_)
 clear hK K
 try simp only [Act.put, sT]
 refine wpAnyH_ready (rs := [3]) (by kernel_rfl) (by simp) ?_
 refine AllReadyH.cons rfl (fun K hK => ?_) AllReadyH.nil
 rw [if_pos (by kernel_rfl)]
 try simp only [List.getElem_toArray]
 try simp only [List.getElem_cons_succ]
 try simp only [List.getElem_cons_zero]
 refine op_append_rdg w3 (by rfl) _ _ 46 (by rfl) w1.heap.size 5 i0 (.int .u8 0) 1 1 Tryz.underlying46 HI.out rfl (by decide) _ _ _ (by rfl) HO23.out w3.heap.size A3 n3 c3 _ (by rfl) HR3.out (bv_one _) (by omega) (by omega) HB3.out.size ?_
 intro v4 w4 ho4 hb4 _
 obtain ⟨A4, c4, rfl⟩ := own_form ho4
 have HB4 := Lib.hid (HB3.out.trans hb4)
 have HO4 := Lib.hid ho4
 have hcap := own_cap ho4
 clear ho4 hb4
 refine hK.out _ _ (block_below HX1.out HB4.out hzl) (fun _ => ?_)
 clear hK K
 try simp only [Act.put, sT]
 refine wpAnyH_ready (rs := [4]) (by kernel_rfl) (by simp) ?_
 refine AllReadyH.cons rfl (fun K hK => ?_) AllReadyH.nil
 rw [if_pos (by kernel_rfl)]
 try simp only [List.getElem_toArray]
 try simp only [List.getElem_cons_succ]
 try simp only [List.getElem_cons_zero]
 go_simp
 go_at_call 56
 have Hlt : Hid (∀ x ∈ [] ++ encB lockT ++ { l with un := 0 }.bytes, x < 256) := Lib.hid (app_256 (app_256 (by simp) (encB_256 (by decide) (by decide))) (Lk.bytes_256 (l := { l with un := 0 }) ⟨HF.out.k, HF.out.s, HF.out.c, HF.out.n, HF.out.h, HF.out.ok⟩ ⟨Int.le_refl _, (by decide : (0 : Int) ≤ 1099511627776)⟩))
 refine (hof_any A4 _ c4 ([] ++ encB lockT ++ { l with un := 0 }.bytes) w4 (by rw [bv_append]; exact Rd.of_own HO4.out) (by omega) hcap Hlt.out).mono ?_
 rintro e w5 ⟨rfl, hb5⟩
 have HB5 := Lib.hid (HB4.out.trans (hb5.mono HB4.out.size))
 have HY5 := Lib.hid (block_below HY1.out HB5.out (by have := Hz1.out; omega))
 have Hout : Hid (hashOf ([] ++ encB lockT ++ { l with un := 0 }.bytes) = l.name) := Lib.hid (by unfold Lk.name; rw [List.nil_append])
 rw [Hout.out]
 clear hb5
 generalize hd0 : l.name = d at *
 have Hd := Lib.hid hd0
 clear hd0
 refine hK.out _ _ (block_below HX1.out HB5.out hzl) (fun _ => ?_)
 clear hK K
 try simp only [Act.put, sT]
 refine wpAnyH_ready (rs := [5]) (by kernel_rfl) (by simp) ?_
 refine AllReadyH.cons rfl (fun K hK => ?_) AllReadyH.nil
 rw [if_pos (by kernel_rfl)]
 try simp only [List.getElem_toArray]
 try simp only [List.getElem_cons_succ]
 try simp only [List.getElem_cons_zero]
 refine wp_store_mid 27 _ _ (by rfl) (w.heap.size + 1) (0) #[.int .u8 d.x0, .int .u8 d.x1, .int .u8 d.x2, .int .u8 d.x3, .int .u8 d.x4, .int .u8 d.x5, .int .u8 d.x6, .int .u8 d.x7] (by rfl) (by rfl) (there_mid HY5.out (by simp)) (by kernel_rfl) (by kernel_rfl) ?_
 obtain ⟨s1', s2'⟩ := set_all HY5.out [.int .u8 d.x0, .int .u8 d.x1, .int .u8 d.x2, .int .u8 d.x3, .int .u8 d.x4, .int .u8 d.x5, .int .u8 d.x6, .int .u8 d.x7] (by simp)
 have HS1 := Lib.hid s1'
 have HB6 := Lib.hid (((Hb1.out.trans (HB5.out.mono Hb1.out.size))).grown s2' (by have := HB5.out.size; omega) (fun k hk => by cases hk; omega))
 refine hK.out _ _ ((s2'.block w.heap.size (by have := HB5.out.size; omega) (by simp)).trans (block_below HX1.out HB5.out hzl)) (fun _ => ?_)
 clear hK K
 simp only [Act.put]
 refine wpAnyH_done (by kernel_rfl) ?_ _
 clear s1' s2'
 go_wp2
 exact bodyPost_ret (results_cell 2 27 (w.heap.size + 1) #[.int .u8 d.x0, .int .u8 d.x1, .int .u8 d.x2, .int .u8 d.x3, .int .u8 d.x4, .int .u8 d.x5, .int .u8 d.x6, .int .u8 d.x7] _ _ _ rfl rfl HS1.out Tryz.underlying27 rfl (by kernel_rfl)) rfl ⟨by rw [Hd.out], HB6.out⟩
theorem u64_lt (x : Int) : u64 x < 18446744073709551616 := by unfold u64; omega
theorem u64_int (x : Int) : ((u64 x : Nat) : Int) = x % 18446744073709551616 := by unfold u64; omega
theorem u64_wrap (x : Int) : IntKind.u64.wrap x = ((u64 x : Nat) : Int) := by rw [u64_int]; rfl
theorem encIs_zero (acc : List Nat) (l : List Int) : acc ++ encIs (l.take 0) = acc := by simp [encIs]
theorem encKs_len (l : List D8) : (encKs l).length ≤ 11 * l.length := by
 induction l with
 | nil => simp [encKs]
 | cons h l ih => unfold encKs at ih ⊢; rw [List.flatMap_cons, List.length_append, List.length_cons]; have := encN_len h.num; omega
theorem encIs_len (l : List Int) : (encIs l).length ≤ 11 * l.length := by
 induction l with
 | nil => simp [encIs]
 | cons h l ih => unfold encIs at ih ⊢; rw [List.flatMap_cons, List.length_append, List.length_cons]; have := encN_len (u64 h); omega
theorem encKs_take {l : List D8} {k : Nat} (h : k < l.length) : encKs (l.take (k + 1)) = encKs (l.take k) ++ encN (l.getD k dz8).num := by
 unfold encKs
 rw [take_d8 h, List.flatMap_append]
 simp
theorem encIs_take {l : List Int} {k : Nat} (h : k < l.length) : encIs (l.take (k + 1)) = encIs (l.take k) ++ encN (u64 (l.getD k 0)) := by
 unfold encIs
 rw [List.take_add_one, List.getElem?_eq_getElem h, List.flatMap_append]
 simp [List.getD_eq_getElem?_getD, h]
theorem encKs_256 {l : List D8} (h : ∀ d ∈ l, d.ok) : ∀ x ∈ encKs l, x < 256 := flat_256 fun d hd => encN_256 (D8.num_lt (h d hd))
theorem encIs_256 (l : List Int) : ∀ x ∈ encIs l, x < 256 := flat_256 fun d _ => encN_256 (u64_lt d)
theorem Pl.bytes_small (p : Pl) (ht : p.tb.ok) (hk : ∀ d ∈ p.ks, d.ok) (hn : p.ks.length ≤ 1000000) : ∀ x ∈ p.bytes, x < 256 := by
 unfold Pl.bytes
 exact app_256 (app_256 (app_256 (app_256 (app_256 (app_256 (encB_256 (by decide) (by decide)) (encN_256 (D8.num_lt ht))) (encN_256 (by omega))) (encKs_256 hk)) (encIs_256 _)) (encIs_256 _)) (encIs_256 _)
def Pl.hd (p : Pl) : List Nat := encB wayT ++ encN p.tb.num ++ encN p.ks.length
theorem plhd_len (p : Pl) : p.hd.length ≤ 26 := by
 unfold Pl.hd
 simp only [List.length_append]
 have := encN_len p.tb.num; have := encN_len p.ks.length
 have e : (encB wayT).length = 4 := rfl
 omega
theorem rd_stk {w : World} {g : Nat} {T : TypeId} {fz : Nat × Nat} {cs : Array Value} (s0 s1 : Int) (h : w.heap[g]? = some (.cells cs T fz)) (hcs : (cs.toList.drop 9).take 2 = ivs [s0, s1]) : Rd w w.heap.size 1 (some ⟨g, 9, none⟩) 2 (ivs [s0, s1]) := by
 refine ⟨by simp [ivs_len], fun _ => ⟨g, 9, rfl, block_lt h, fun j u hu => ?_⟩⟩
 rw [block_cell h]
 rw [← hcs, List.getElem?_take] at hu
 split at hu
 ·rw [List.getElem?_drop] at hu; rw [← Array.getElem?_toList]; exact hu
 ·cases hu
set_option maxRecDepth 100000 in
set_option maxHeartbeats 4000000 in
theorem pldigest_any (p : Pl) (Ak : Option Addr) (nk ck : Nat) (An : Option Addr) (nn cn : Nat) (Af : Option Addr) (nf cf : Nat) (w : World) (h : p.At Ak nk ck An nn Af nf w) (ht : p.tb.ok) (hk : ∀ d ∈ p.ks, d.ok) :
  Calls Tryz.prog 32 #[.agg #[.int .u8 p.tb.x0, .int .u8 p.tb.x1, .int .u8 p.tb.x2, .int .u8 p.tb.x3, .int .u8 p.tb.x4, .int .u8 p.tb.x5, .int .u8 p.tb.x6, .int .u8 p.tb.x7, .slice Ak nk ck, .int .i64 p.s0, .int .i64 p.s1, .slice An nn cn, .slice Af nf cf]] w fun e w' => e = .returned (.agg #[.int .u8 (p.digest).x0, .int .u8 (p.digest).x1, .int .u8 (p.digest).x2, .int .u8 (p.digest).x3, .int .u8 (p.digest).x4, .int .u8 (p.digest).x5, .int .u8 (p.digest).x6, .int .u8 (p.digest).x7]) ∧ Below w.heap.size w w' := by
 have HX0 : Hid (((w.alloc (.cells #[.int .u8 p.tb.x0, .int .u8 p.tb.x1, .int .u8 p.tb.x2, .int .u8 p.tb.x3, .int .u8 p.tb.x4, .int .u8 p.tb.x5, .int .u8 p.tb.x6, .int .u8 p.tb.x7, .slice Ak nk ck, .int .i64 p.s0, .int .i64 p.s1, .slice An nn cn, .slice Af nf cf] 32)).alloc (.cells #[.int .u8 0, .int .u8 0, .int .u8 0, .int .u8 0, .int .u8 0, .int .u8 0, .int .u8 0, .int .u8 0] 27)).heap[w.heap.size]? = some (.cells #[.int .u8 p.tb.x0, .int .u8 p.tb.x1, .int .u8 p.tb.x2, .int .u8 p.tb.x3, .int .u8 p.tb.x4, .int .u8 p.tb.x5, .int .u8 p.tb.x6, .int .u8 p.tb.x7, .slice Ak nk ck, .int .i64 p.s0, .int .i64 p.s1, .slice An nn cn, .slice Af nf cf] 32 (0, 0))) := block_alloc (heap_alloc_new _ _) _
 have HY0 : Hid (((w.alloc (.cells #[.int .u8 p.tb.x0, .int .u8 p.tb.x1, .int .u8 p.tb.x2, .int .u8 p.tb.x3, .int .u8 p.tb.x4, .int .u8 p.tb.x5, .int .u8 p.tb.x6, .int .u8 p.tb.x7, .slice Ak nk ck, .int .i64 p.s0, .int .i64 p.s1, .slice An nn cn, .slice Af nf cf] 32)).alloc (.cells #[.int .u8 0, .int .u8 0, .int .u8 0, .int .u8 0, .int .u8 0, .int .u8 0, .int .u8 0, .int .u8 0] 27)).heap[w.heap.size + 1]? = some (.cells #[.int .u8 0, .int .u8 0, .int .u8 0, .int .u8 0, .int .u8 0, .int .u8 0, .int .u8 0, .int .u8 0] 27 (0, 0))) := alloc_at (by simp)
 have Hb0 : Hid (Below w.heap.size w ((w.alloc (.cells #[.int .u8 p.tb.x0, .int .u8 p.tb.x1, .int .u8 p.tb.x2, .int .u8 p.tb.x3, .int .u8 p.tb.x4, .int .u8 p.tb.x5, .int .u8 p.tb.x6, .int .u8 p.tb.x7, .slice Ak nk ck, .int .i64 p.s0, .int .i64 p.s1, .slice An nn cn, .slice Af nf cf] 32)).alloc (.cells #[.int .u8 0, .int .u8 0, .int .u8 0, .int .u8 0, .int .u8 0, .int .u8 0, .int .u8 0, .int .u8 0] 27))) := below_two _ _ _
 have Hz0 : Hid (((w.alloc (.cells #[.int .u8 p.tb.x0, .int .u8 p.tb.x1, .int .u8 p.tb.x2, .int .u8 p.tb.x3, .int .u8 p.tb.x4, .int .u8 p.tb.x5, .int .u8 p.tb.x6, .int .u8 p.tb.x7, .slice Ak nk ck, .int .i64 p.s0, .int .i64 p.s1, .slice An nn cn, .slice Af nf cf] 32)).alloc (.cells #[.int .u8 0, .int .u8 0, .int .u8 0, .int .u8 0, .int .u8 0, .int .u8 0, .int .u8 0, .int .u8 0] 27)).heap.size = w.heap.size + 2) := by show _ = _; simp
 have H := Lib.hid h
 have Hl := Lib.hid h.k.dlenD; have Hln := Lib.hid h.n.ilen; have Hlf := Lib.hid h.f.ilen
 have HT := Lib.hid ht; have HK := Lib.hid hk
 have hbk := h.bk; have hbn := h.bn; have hbf := h.bf
 clear h ht hk
 go_enter Tryz.func32, Tryz.ntmps32
 go_wp2_with fail
 generalize (w.alloc (.cells #[.int .u8 p.tb.x0, .int .u8 p.tb.x1, .int .u8 p.tb.x2, .int .u8 p.tb.x3, .int .u8 p.tb.x4, .int .u8 p.tb.x5, .int .u8 p.tb.x6, .int .u8 p.tb.x7, .slice Ak nk ck, .int .i64 p.s0, .int .i64 p.s1, .slice An nn cn, .slice Af nf cf] 32)).alloc (.cells #[.int .u8 0, .int .u8 0, .int .u8 0, .int .u8 0, .int .u8 0, .int .u8 0, .int .u8 0, .int .u8 0] 27) = w0 at *
 refine (putText_any none 0 0 [] wayT _ w0 Rd.empty (by omega) (by rfl) (by rfl) (by decide)).mono ?_
 rintro e w1 ⟨A1, n1, c1, rfl, ho1, hn1, hb1⟩
 have HR1 := Lib.hid (Rd.of_own ho1); have HC1 := Lib.hid (own_cap ho1); have HN1 := Lib.hid hn1; have HX1 := Lib.hid (block_below HX0.out hb1 (block_lt HX0.out)); have HY1 := Lib.hid (block_below HY0.out hb1 (block_lt HY0.out)); have Hb1 := Lib.hid (Hb0.out.trans (hb1.mono Hb0.out.size))
 clear ho1 hn1 hb1
 have hl1 : n1 ≤ 4 := by rw [HN1.out]; decide
 have r := block_cell HX1.out
 have r0 := r 0; have r1 := r 1; have r2 := r 2; have r3 := r 3; have r4 := r 4; have r5 := r 5; have r6 := r 6; have r7 := r 7; have r8 := r 8; have r9 := r 9; have r10 := r 10; have r11 := r 11; have r12 := r 12
 simp at r0 r1 r2 r3 r4 r5 r6 r7 r8 r9 r10 r11 r12
 clear r
 go_wp2_with fail
 refine (hnum_any p.tb w1 HT.out).mono ?_
 rintro e w2 ⟨rfl, hb2⟩
 have HX2 := Lib.hid (block_below HX1.out hb2 (block_lt HX1.out)); have HY2 := Lib.hid (block_below HY1.out hb2 (block_lt HY1.out)); have Hb2 := Lib.hid (Hb1.out.trans (hb2.mono Hb1.out.size)); have HR2 := Lib.hid ((HR1.out.below hb2 (Nat.le_refl _)).more hb2.size)
 clear hb2 r0 r1 r2 r3 r4 r5 r6 r7 r8 r9 r10 r11 r12
 go_wp2_with fail
 refine (putNum_any A1 n1 c1 p.tb.num _ w2 HR2.out (by omega) (D8.num_lt HT.out)).mono ?_
 rintro e w3 ⟨A3, n3, c3, rfl, ho3, hn3, hb3⟩
 have HR3 := Lib.hid (Rd.of_own ho3); have HC3 := Lib.hid (own_cap ho3); have HN3 := Lib.hid hn3; have HX3 := Lib.hid (block_below HX2.out hb3 (block_lt HX2.out)); have HY3 := Lib.hid (block_below HY2.out hb3 (block_lt HY2.out)); have Hb3 := Lib.hid (Hb2.out.trans (hb3.mono Hb2.out.size))
 clear ho3 hn3 hb3
 have hl3 : n3 ≤ 15 := by rw [HN3.out, List.length_append, ← HN1.out]; have := encN_len p.tb.num; omega
 have r := block_cell HX3.out
 have r0 := r 0; have r1 := r 1; have r2 := r 2; have r3 := r 3; have r4 := r 4; have r5 := r 5; have r6 := r 6; have r7 := r 7; have r8 := r 8; have r9 := r 9; have r10 := r 10; have r11 := r 11; have r12 := r 12
 simp at r0 r1 r2 r3 r4 r5 r6 r7 r8 r9 r10 r11 r12
 clear r
 have hnki : (nk : Int) ≤ 1000000 := by omega
 go_wp2_with fail
 refine (putNum_any A3 n3 c3 nk _ w3 HR3.out (by omega) (by omega)).mono ?_
 rintro e w4 ⟨A4, n4, c4, rfl, ho4, hn4, hb4⟩
 have HR4 := Lib.hid (Rd.of_own ho4); have HC4 := Lib.hid (own_cap ho4); have HN4 := Lib.hid hn4; have HX4 := Lib.hid (block_below HX3.out hb4 (block_lt HX3.out)); have HY4 := Lib.hid (block_below HY3.out hb4 (block_lt HY3.out)); have Hb4 := Lib.hid (Hb3.out.trans (hb4.mono Hb3.out.size))
 clear ho4 hn4 hb4
 have hl4 : n4 ≤ 26 := by rw [HN4.out, List.length_append, ← HN3.out]; have := encN_len nk; omega
 have Hhead : Hid ([] ++ encB wayT ++ encN p.tb.num ++ encN nk = p.hd ++ encKs (p.ks.take 0)) := Lib.hid (by unfold Pl.hd encKs; rw [Hl.out]; simp)
 rw [Hhead.out] at HR4 HN4
 clear r0 r1 r2 r3 r4 r5 r6 r7 r8 r9 r10 r11 r12
 have r := block_cell HX4.out
 have r0 := r 0; have r1 := r 1; have r2 := r 2; have r3 := r 3; have r4 := r 4; have r5 := r 5; have r6 := r 6; have r7 := r 7; have r8 := r 8; have r9 := r 9; have r10 := r 10; have r11 := r 11; have r12 := r 12
 simp at r0 r1 r2 r3 r4 r5 r6 r7 r8 r9 r10 r11 r12
 clear r
 go_wp2
 go_loopw [3, 25] (fun v i wr => ∃ (k m : Nat) (A' : Option Addr) (c' : Nat), k ≤ nk ∧ i = .int .i64 k ∧ v = .slice A' m c' ∧ Hid (m ≤ 26 + 11 * k) ∧ Hid (Rd wr wr.heap.size 1 A' m (bv (p.hd ++ encKs (p.ks.take k)))) ∧ Hid (m = (p.hd ++ encKs (p.ks.take k)).length) ∧ Hid (m ≤ c') ∧ Hid (Below w.heap.size w wr) ∧ Hid (wr.heap[w.heap.size]? = some (.cells #[.int .u8 p.tb.x0, .int .u8 p.tb.x1, .int .u8 p.tb.x2, .int .u8 p.tb.x3, .int .u8 p.tb.x4, .int .u8 p.tb.x5, .int .u8 p.tb.x6, .int .u8 p.tb.x7, .slice Ak nk ck, .int .i64 p.s0, .int .i64 p.s1, .slice An nn cn, .slice Af nf cf] 32 (0, 0))) ∧ Hid (wr.heap[w.heap.size + 1]? = some (.cells #[.int .u8 0, .int .u8 0, .int .u8 0, .int .u8 0, .int .u8 0, .int .u8 0, .int .u8 0, .int .u8 0] 27 (0, 0)))) (fun _ i _ => nk - (RowKit.intOf i).toNat)
 case atStart => exact ⟨0, n4, A4, c4, by omega, rfl, rfl, Lib.hid (by omega), HR4, HN4, HC4, Hb4, HX4, HY4⟩
 case round =>
  obtain ⟨k, m, A', c', hk, rfl, rfl, Hm, HRk, HNk, HCk, Hbk, HXk, HYk⟩ := hrel
  by_cases hlt : k < nk
  ·obtain ⟨b, o, rfl, hbB, x0, x1, x2, x3, x4, x5, x6, x7⟩ := (H.out.k.below Hbk.out (Nat.le_refl _)).di8v hlt
   have hd1 : decide ((k : Int) < (nk : Int)) = true := decide_eq_true (by omega)
   have hki : (k : Int) < (nk : Int) := by omega
   have Htk := Lib.hid (encKs_take (l := p.ks) (k := k) (by rw [Hl.out]; exact hlt))
   have hok := HK.out (p.ks.getD k dz8) (by rw [List.getD_eq_getElem?_getD, List.getElem?_eq_getElem (by rw [Hl.out]; exact hlt)]; exact List.getElem_mem _)
   generalize p.ks.getD k dz8 = h at *
   have HOK := Lib.hid hok
   clear hok
   have hbk' := Hbk.out.size
   have hm900 : m ≤ 20000000 := by have := Hm.out; omega
   have hza : (wr.alloc (.cells #[.int .u8 h.x0, .int .u8 h.x1, .int .u8 h.x2, .int .u8 h.x3, .int .u8 h.x4, .int .u8 h.x5, .int .u8 h.x6, .int .u8 h.x7] 27)).heap.size = wr.heap.size + 1 := by simp
   have HX6 := Lib.hid (block_alloc HXk.out (.cells #[.int .u8 h.x0, .int .u8 h.x1, .int .u8 h.x2, .int .u8 h.x3, .int .u8 h.x4, .int .u8 h.x5, .int .u8 h.x6, .int .u8 h.x7] 27))
   have HY6 := Lib.hid (block_alloc HYk.out (.cells #[.int .u8 h.x0, .int .u8 h.x1, .int .u8 h.x2, .int .u8 h.x3, .int .u8 h.x4, .int .u8 h.x5, .int .u8 h.x6, .int .u8 h.x7] 27))
   have HZ6 := Lib.hid (heap_alloc_new wr (.cells #[.int .u8 h.x0, .int .u8 h.x1, .int .u8 h.x2, .int .u8 h.x3, .int .u8 h.x4, .int .u8 h.x5, .int .u8 h.x6, .int .u8 h.x7] 27))
   have Hb6 := Lib.hid (Hbk.out.alloc hbk' (.cells #[.int .u8 h.x0, .int .u8 h.x1, .int .u8 h.x2, .int .u8 h.x3, .int .u8 h.x4, .int .u8 h.x5, .int .u8 h.x6, .int .u8 h.x7] 27))
   have HR6 := Lib.hid ((HRk.out.alloc (Nat.le_refl _) (.cells #[.int .u8 h.x0, .int .u8 h.x1, .int .u8 h.x2, .int .u8 h.x3, .int .u8 h.x4, .int .u8 h.x5, .int .u8 h.x6, .int .u8 h.x7] 27)).more (show wr.heap.size ≤ (wr.alloc (.cells #[.int .u8 h.x0, .int .u8 h.x1, .int .u8 h.x2, .int .u8 h.x3, .int .u8 h.x4, .int .u8 h.x5, .int .u8 h.x6, .int .u8 h.x7] 27)).heap.size by simp))
   go_upto_region 7 with fail
   generalize wr.alloc (.cells #[.int .u8 h.x0, .int .u8 h.x1, .int .u8 h.x2, .int .u8 h.x3, .int .u8 h.x4, .int .u8 h.x5, .int .u8 h.x6, .int .u8 h.x7] 27) = w6 at *
   clear hza
   have z := free8 HZ6.out
   obtain ⟨zf, z0, z1, z2, z3, z4, z5, z6, z7⟩ := z
   go_wp2_with fail
   refine (hnum_any h w6 HOK.out).mono ?_
   rintro e w7 ⟨rfl, hb7⟩
   have HX7 := Lib.hid (block_below HX6.out hb7 (block_lt HX6.out)); have HY7 := Lib.hid (block_below HY6.out hb7 (block_lt HY6.out)); have Hb7 := Lib.hid (Hb6.out.trans (hb7.mono Hb6.out.size)); have HR7 := Lib.hid ((HR6.out.below hb7 (Nat.le_refl _)).more hb7.size)
   clear hb7
   go_wp2_with fail
   refine (putNum_any A' m c' h.num _ w7 HR7.out (by omega) (D8.num_lt HOK.out)).mono ?_
   rintro e w8 ⟨A8, n8, c8, rfl, ho8, hn8, hb8⟩
   have HR8 := Lib.hid (Rd.of_own ho8); have HN8 := Lib.hid hn8; have HC8 := Lib.hid (own_cap ho8); have HX8 := Lib.hid (block_below HX7.out hb8 (block_lt HX7.out)); have HY8 := Lib.hid (block_below HY7.out hb8 (block_lt HY7.out)); have Hb8 := Lib.hid (Hb7.out.trans (hb8.mono Hb7.out.size))
   clear ho8 hn8 hb8
   have Hm8 : Hid (n8 ≤ 26 + 11 * (k + 1)) := Lib.hid (by rw [HN8.out, List.length_append, ← HNk.out]; have := encN_len h.num; have := Hm.out; omega)
   have Hfin : Hid (p.hd ++ encKs (p.ks.take k) ++ encN h.num = p.hd ++ encKs (p.ks.take (k + 1))) := Lib.hid (by rw [Htk.out]; simp only [List.append_assoc])
   rw [Hfin.out] at HR8 HN8
   go_wp2
   go_roundw
   case rel => exact ⟨k + 1, n8, A8, c8, hlt, by go_num, rfl, Hm8, HR8, HN8, HC8, Hb8, HX8, HY8⟩
   case measure => simp [RowKit.intOf]; omega
  ·have hkn : k = nk := by omega
   have hd1 : decide ((k : Int) < (nk : Int)) = false := decide_eq_false (by omega)
   have Hkn := Lib.hid hkn
   clear hkn
   clear r0 r1 r2 r3 r4 r5 r6 r7 r8 r9 r10 r11 r12
   have r := block_cell HXk.out
   have r0 := r 0; have r1 := r 1; have r2 := r 2; have r3 := r 3; have r4 := r 4; have r5 := r 5; have r6 := r 6; have r7 := r 7; have r8 := r 8; have r9 := r 9; have r10 := r 10; have r11 := r 11; have r12 := r 12
   simp at r0 r1 r2 r3 r4 r5 r6 r7 r8 r9 r10 r11 r12
   clear r
   obtain ⟨wo, rfl⟩ : ∃ wo : World, wo = wr := ⟨_, rfl⟩
   rw [List.take_of_length_le (show p.ks.length ≤ k by rw [Hl.out, Hkn.out]; omega)] at HRk HNk
   have hm0 : m ≤ 11000026 := by have := Hm.out; have := Hkn.out; omega
   have i0 : ∀ w', (Instr.index 143 (.agg #[.slice (some ⟨w.heap.size, 9, none⟩) 2 2, .slice An nn cn, .slice Af nf cf]) (.int .i64 0)).run Tryz.prog w' = .ok (.slice (some ⟨w.heap.size, 9, none⟩) 2 2) w' := fun _ => by kernel_rfl
   have i1 : ∀ w', (Instr.index 143 (.agg #[.slice (some ⟨w.heap.size, 9, none⟩) 2 2, .slice An nn cn, .slice Af nf cf]) (.int .i64 1)).run Tryz.prog w' = .ok (.slice An nn cn) w' := fun _ => by kernel_rfl
   have i2 : ∀ w', (Instr.index 143 (.agg #[.slice (some ⟨w.heap.size, 9, none⟩) 2 2, .slice An nn cn, .slice Af nf cf]) (.int .i64 2)).run Tryz.prog w' = .ok (.slice Af nf cf) w' := fun _ => by kernel_rfl
   go_wp2
   go_region
   all_goals
    have HRd : Hid (Rd wo.drew wo.drew.heap.size 1 A' m (bv (p.hd ++ encKs p.ks))) := HRk
    have Hbd : Hid (Below w.heap.size w wo.drew) := Lib.hid Hbk.out.drew
    have HXd : Hid (wo.drew.heap[w.heap.size]? = some (.cells #[.int .u8 p.tb.x0, .int .u8 p.tb.x1, .int .u8 p.tb.x2, .int .u8 p.tb.x3, .int .u8 p.tb.x4, .int .u8 p.tb.x5, .int .u8 p.tb.x6, .int .u8 p.tb.x7, .slice Ak nk ck, .int .i64 p.s0, .int .i64 p.s1, .slice An nn cn, .slice Af nf cf] 32 (0, 0))) := HXk
    have HYd : Hid (wo.drew.heap[w.heap.size + 1]? = some (.cells #[.int .u8 0, .int .u8 0, .int .u8 0, .int .u8 0, .int .u8 0, .int .u8 0, .int .u8 0, .int .u8 0] 27 (0, 0))) := HYk
    clear HRk Hbk HXk HYk r0 r1 r2 r3 r4 r5 r6 r7 r8 r9 r10 r11 r12
    generalize wo.drew = wd at *
    go_wp2
    refine wp_loop_rounds 4 ?_
    rw [rounds_succ]
    go_wp2
    go_loopw [3, 46] (fun v i wr => ∃ (q m : Nat) (A' : Option Addr) (c' : Nat), q ≤ 2 ∧ i = .int .i64 q ∧ v = .slice A' m c' ∧ Hid (m ≤ 11000026 + 11 * q) ∧ Hid (Rd wr wr.heap.size 1 A' m (bv (p.hd ++ encKs p.ks ++ encIs ([p.s0, p.s1].take q)))) ∧ Hid (m = (p.hd ++ encKs p.ks ++ encIs ([p.s0, p.s1].take q)).length) ∧ Hid (m ≤ c') ∧ Hid (Below w.heap.size w wr) ∧ Hid (wr.heap[w.heap.size]? = some (.cells #[.int .u8 p.tb.x0, .int .u8 p.tb.x1, .int .u8 p.tb.x2, .int .u8 p.tb.x3, .int .u8 p.tb.x4, .int .u8 p.tb.x5, .int .u8 p.tb.x6, .int .u8 p.tb.x7, .slice Ak nk ck, .int .i64 p.s0, .int .i64 p.s1, .slice An nn cn, .slice Af nf cf] 32 (0, 0))) ∧ Hid (wr.heap[w.heap.size + 1]? = some (.cells #[.int .u8 0, .int .u8 0, .int .u8 0, .int .u8 0, .int .u8 0, .int .u8 0, .int .u8 0, .int .u8 0] 27 (0, 0)))) (fun _ i _ => 2 - (RowKit.intOf i).toNat)
    case atStart => exact ⟨0, m, A', c', by omega, rfl, rfl, Lib.hid (by omega), (by rw [encIs_zero]; exact HRd), (by rw [encIs_zero]; exact HNk), HCk, Hbd, HXd, HYd⟩
    case round =>
     obtain ⟨q1, m1, A1', c1', hq1, rfl, rfl, HmL1, HRL1, HNL1, HCL1, HbL1, HXL1, HYL1⟩ := hrel
     by_cases hlt1 : q1 < 2
     ·obtain ⟨b, o, hAe, hbB, x0⟩ := (rd_stk p.s0 p.s1 HXL1.out rfl).iat hlt1
      have hd1 : decide ((q1 : Int) < 2) = true := decide_eq_true (by omega)
      have hki : (q1 : Int) < (2 : Int) := by omega
      have Htk := Lib.hid (encIs_take (l := [p.s0, p.s1]) (k := q1) (by exact hlt1))
      have hu := u64_wrap (List.getD [p.s0, p.s1] q1 0)
      generalize List.getD [p.s0, p.s1] q1 0 = h at *
      have hm900 : m1 ≤ 100000000 := by have := HmL1.out; omega
      injection hAe with hAe; injection hAe with hAe1 hAe2; subst hAe1 hAe2
      go_wp2_with fail
      try rw [hu]
      refine (putNum_any A1' m1 c1' (u64 h) _ wr HRL1.out (by omega) (u64_lt h)).mono ?_
      rintro e w8 ⟨A8, n8, c8, rfl, ho8, hn8, hb8⟩
      have HR8 := Lib.hid (Rd.of_own ho8); have HN8 := Lib.hid hn8; have HC8 := Lib.hid (own_cap ho8); have HX8 := Lib.hid (block_below HXL1.out hb8 (block_lt HXL1.out)); have HY8 := Lib.hid (block_below HYL1.out hb8 (block_lt HYL1.out)); have Hb8 := Lib.hid (HbL1.out.trans (hb8.mono HbL1.out.size))
      clear ho8 hn8 hb8
      have Hm8 : Hid (n8 ≤ 11000026 + 11 * (q1 + 1)) := Lib.hid (by rw [HN8.out, List.length_append, ← HNL1.out]; have := encN_len (u64 h); have := HmL1.out; omega)
      have Hfin : Hid (p.hd ++ encKs p.ks ++ encIs ([p.s0, p.s1].take q1) ++ encN (u64 h) = p.hd ++ encKs p.ks ++ encIs ([p.s0, p.s1].take (q1 + 1))) := Lib.hid (by rw [Htk.out]; simp only [List.append_assoc])
      rw [Hfin.out] at HR8 HN8
      go_wp2
      go_roundw
      case rel => exact ⟨q1 + 1, n8, A8, c8, hlt1, by go_num, rfl, Hm8, HR8, HN8, HC8, Hb8, HX8, HY8⟩
      case measure => simp [RowKit.intOf]; omega
     ·have hkn1 : q1 = 2 := by omega
      have hd1 : decide ((q1 : Int) < 2) = false := decide_eq_false (by omega)
      rw [List.take_of_length_le (show [p.s0, p.s1].length ≤ q1 by show 2 ≤ q1; omega)] at HRL1 HNL1
      clear hkn1
      obtain ⟨wo1, rfl⟩ : ∃ wo : World, wo = wr := ⟨_, rfl⟩
      go_wp2
      rw [rounds_succ]
      go_wp2
      go_loopw [3, 46] (fun v i wr => ∃ (q m : Nat) (A' : Option Addr) (c' : Nat), q ≤ nn ∧ i = .int .i64 q ∧ v = .slice A' m c' ∧ Hid (m ≤ 11000048 + 11 * q) ∧ Hid (Rd wr wr.heap.size 1 A' m (bv ((p.hd ++ encKs p.ks ++ encIs [p.s0, p.s1]) ++ encIs (p.nr.take q)))) ∧ Hid (m = ((p.hd ++ encKs p.ks ++ encIs [p.s0, p.s1]) ++ encIs (p.nr.take q)).length) ∧ Hid (m ≤ c') ∧ Hid (Below w.heap.size w wr) ∧ Hid (wr.heap[w.heap.size]? = some (.cells #[.int .u8 p.tb.x0, .int .u8 p.tb.x1, .int .u8 p.tb.x2, .int .u8 p.tb.x3, .int .u8 p.tb.x4, .int .u8 p.tb.x5, .int .u8 p.tb.x6, .int .u8 p.tb.x7, .slice Ak nk ck, .int .i64 p.s0, .int .i64 p.s1, .slice An nn cn, .slice Af nf cf] 32 (0, 0))) ∧ Hid (wr.heap[w.heap.size + 1]? = some (.cells #[.int .u8 0, .int .u8 0, .int .u8 0, .int .u8 0, .int .u8 0, .int .u8 0, .int .u8 0, .int .u8 0] 27 (0, 0)))) (fun _ i _ => nn - (RowKit.intOf i).toNat)
      case atStart => exact ⟨0, m1, A1', c1', by omega, rfl, rfl, Lib.hid (by have := HmL1.out; omega), (by rw [encIs_zero]; exact HRL1), (by rw [encIs_zero]; exact HNL1), HCL1, HbL1, HXL1, HYL1⟩
      case round =>
       obtain ⟨q2, m2, A2', c2', hq2, rfl, rfl, HmL2, HRL2, HNL2, HCL2, HbL2, HXL2, HYL2⟩ := hrel
       by_cases hlt2 : q2 < nn
       ·obtain ⟨b, o, hAe, hbB, x0⟩ := (H.out.n.below HbL2.out (Nat.le_refl _)).iat hlt2
        have hd1 : decide ((q2 : Int) < (nn : Int)) = true := decide_eq_true (by omega)
        have hki : (q2 : Int) < (nn : Int) := by omega
        have Htk := Lib.hid (encIs_take (l := p.nr) (k := q2) (by rw [Hln.out]; exact hlt2))
        have hu := u64_wrap (List.getD p.nr q2 0)
        generalize List.getD p.nr q2 0 = h at *
        have hm900 : m2 ≤ 100000000 := by have := HmL2.out; omega
        subst hAe
        go_wp2_with fail
        try rw [hu]
        refine (putNum_any A2' m2 c2' (u64 h) _ wr HRL2.out (by omega) (u64_lt h)).mono ?_
        rintro e w8 ⟨A8, n8, c8, rfl, ho8, hn8, hb8⟩
        have HR8 := Lib.hid (Rd.of_own ho8); have HN8 := Lib.hid hn8; have HC8 := Lib.hid (own_cap ho8); have HX8 := Lib.hid (block_below HXL2.out hb8 (block_lt HXL2.out)); have HY8 := Lib.hid (block_below HYL2.out hb8 (block_lt HYL2.out)); have Hb8 := Lib.hid (HbL2.out.trans (hb8.mono HbL2.out.size))
        clear ho8 hn8 hb8
        have Hm8 : Hid (n8 ≤ 11000048 + 11 * (q2 + 1)) := Lib.hid (by rw [HN8.out, List.length_append, ← HNL2.out]; have := encN_len (u64 h); have := HmL2.out; omega)
        have Hfin : Hid ((p.hd ++ encKs p.ks ++ encIs [p.s0, p.s1]) ++ encIs (p.nr.take q2) ++ encN (u64 h) = (p.hd ++ encKs p.ks ++ encIs [p.s0, p.s1]) ++ encIs (p.nr.take (q2 + 1))) := Lib.hid (by rw [Htk.out]; simp only [List.append_assoc])
        rw [Hfin.out] at HR8 HN8
        go_wp2
        go_roundw
        case rel => exact ⟨q2 + 1, n8, A8, c8, hlt2, by go_num, rfl, Hm8, HR8, HN8, HC8, Hb8, HX8, HY8⟩
        case measure => simp [RowKit.intOf]; omega
       ·have hkn2 : q2 = nn := by omega
        have hd1 : decide ((q2 : Int) < (nn : Int)) = false := decide_eq_false (by omega)
        rw [List.take_of_length_le (show p.nr.length ≤ q2 by rw [Hln.out]; omega)] at HRL2 HNL2
        clear hkn2
        obtain ⟨wo2, rfl⟩ : ∃ wo : World, wo = wr := ⟨_, rfl⟩
        go_wp2
        rw [rounds_succ]
        go_wp2
        go_loopw [3, 46] (fun v i wr => ∃ (q m : Nat) (A' : Option Addr) (c' : Nat), q ≤ nf ∧ i = .int .i64 q ∧ v = .slice A' m c' ∧ Hid (m ≤ 22000048 + 11 * q) ∧ Hid (Rd wr wr.heap.size 1 A' m (bv (((p.hd ++ encKs p.ks ++ encIs [p.s0, p.s1]) ++ encIs p.nr) ++ encIs (p.fr.take q)))) ∧ Hid (m = (((p.hd ++ encKs p.ks ++ encIs [p.s0, p.s1]) ++ encIs p.nr) ++ encIs (p.fr.take q)).length) ∧ Hid (m ≤ c') ∧ Hid (Below w.heap.size w wr) ∧ Hid (wr.heap[w.heap.size]? = some (.cells #[.int .u8 p.tb.x0, .int .u8 p.tb.x1, .int .u8 p.tb.x2, .int .u8 p.tb.x3, .int .u8 p.tb.x4, .int .u8 p.tb.x5, .int .u8 p.tb.x6, .int .u8 p.tb.x7, .slice Ak nk ck, .int .i64 p.s0, .int .i64 p.s1, .slice An nn cn, .slice Af nf cf] 32 (0, 0))) ∧ Hid (wr.heap[w.heap.size + 1]? = some (.cells #[.int .u8 0, .int .u8 0, .int .u8 0, .int .u8 0, .int .u8 0, .int .u8 0, .int .u8 0, .int .u8 0] 27 (0, 0)))) (fun _ i _ => nf - (RowKit.intOf i).toNat)
        case atStart => exact ⟨0, m2, A2', c2', by omega, rfl, rfl, Lib.hid (by have := HmL2.out; omega), (by rw [encIs_zero]; exact HRL2), (by rw [encIs_zero]; exact HNL2), HCL2, HbL2, HXL2, HYL2⟩
        case round =>
         obtain ⟨q3, m3, A3', c3', hq3, rfl, rfl, HmL3, HRL3, HNL3, HCL3, HbL3, HXL3, HYL3⟩ := hrel
         by_cases hlt3 : q3 < nf
         ·obtain ⟨b, o, hAe, hbB, x0⟩ := (H.out.f.below HbL3.out (Nat.le_refl _)).iat hlt3
          have hd1 : decide ((q3 : Int) < (nf : Int)) = true := decide_eq_true (by omega)
          have hki : (q3 : Int) < (nf : Int) := by omega
          have Htk := Lib.hid (encIs_take (l := p.fr) (k := q3) (by rw [Hlf.out]; exact hlt3))
          have hu := u64_wrap (List.getD p.fr q3 0)
          generalize List.getD p.fr q3 0 = h at *
          have hm900 : m3 ≤ 100000000 := by have := HmL3.out; omega
          subst hAe
          go_wp2_with fail
          try rw [hu]
          refine (putNum_any A3' m3 c3' (u64 h) _ wr HRL3.out (by omega) (u64_lt h)).mono ?_
          rintro e w8 ⟨A8, n8, c8, rfl, ho8, hn8, hb8⟩
          have HR8 := Lib.hid (Rd.of_own ho8); have HN8 := Lib.hid hn8; have HC8 := Lib.hid (own_cap ho8); have HX8 := Lib.hid (block_below HXL3.out hb8 (block_lt HXL3.out)); have HY8 := Lib.hid (block_below HYL3.out hb8 (block_lt HYL3.out)); have Hb8 := Lib.hid (HbL3.out.trans (hb8.mono HbL3.out.size))
          clear ho8 hn8 hb8
          have Hm8 : Hid (n8 ≤ 22000048 + 11 * (q3 + 1)) := Lib.hid (by rw [HN8.out, List.length_append, ← HNL3.out]; have := encN_len (u64 h); have := HmL3.out; omega)
          have Hfin : Hid (((p.hd ++ encKs p.ks ++ encIs [p.s0, p.s1]) ++ encIs p.nr) ++ encIs (p.fr.take q3) ++ encN (u64 h) = ((p.hd ++ encKs p.ks ++ encIs [p.s0, p.s1]) ++ encIs p.nr) ++ encIs (p.fr.take (q3 + 1))) := Lib.hid (by rw [Htk.out]; simp only [List.append_assoc])
          rw [Hfin.out] at HR8 HN8
          go_wp2
          go_roundw
          case rel => exact ⟨q3 + 1, n8, A8, c8, hlt3, by go_num, rfl, Hm8, HR8, HN8, HC8, Hb8, HX8, HY8⟩
          case measure => simp [RowKit.intOf]; omega
         ·have hkn3 : q3 = nf := by omega
          have hd1 : decide ((q3 : Int) < (nf : Int)) = false := decide_eq_false (by omega)
          rw [List.take_of_length_le (show p.fr.length ≤ q3 by rw [Hlf.out]; omega)] at HRL3 HNL3
          clear hkn3
          obtain ⟨wo3, rfl⟩ : ∃ wo : World, wo = wr := ⟨_, rfl⟩
          go_wp2
          rw [rounds_succ]
          go_wp2_with fail
          have Hby : Hid (p.hd ++ encKs p.ks ++ encIs [p.s0, p.s1] ++ encIs p.nr ++ encIs p.fr = p.bytes) := Lib.hid (by unfold Pl.hd Pl.bytes; rfl)
          rw [Hby.out] at HRL3 HNL3
          have hm3 : m3 ≤ 900000000 := by have := HmL3.out; omega
          refine (hof_any A3' m3 c3' p.bytes wo3 HRL3.out (by omega) HCL3.out (p.bytes_small HT.out HK.out (by rw [Hl.out]; exact hbk))).mono ?_
          rintro e w9 ⟨rfl, hb9⟩
          have HY9 := Lib.hid (block_below HYL3.out hb9 (block_lt HYL3.out))
          have Hb9 := Lib.hid (HbL3.out.trans (hb9.mono HbL3.out.size))
          have Hdg : Hid (hashOf p.bytes = p.digest) := Lib.hid rfl
          clear hb9
          have Hbx := HY9; have Hbw := Hb9
          obtain ⟨zf, r0, r1, r2, r3, r4, r5, r6, r7⟩ := free8 HY9.out
          generalize hashOf p.bytes = d at *
          go_wp2
          clear zf r0 r1 r2 r3 r4 r5 r6 r7
          have h8 := set8 Hbx.out (.int .u8 d.x0) (.int .u8 d.x1) (.int .u8 d.x2) (.int .u8 d.x3) (.int .u8 d.x4) (.int .u8 d.x5) (.int .u8 d.x6) (.int .u8 d.x7)
          have hg8 := grown_set8 w9 (w.heap.size + 1) (.int .u8 d.x0) (.int .u8 d.x1) (.int .u8 d.x2) (.int .u8 d.x3) (.int .u8 d.x4) (.int .u8 d.x5) (.int .u8 d.x6) (.int .u8 d.x7)
          generalize ((((((((w9.setCell ⟨w.heap.size + 1, 0, none⟩ (.int .u8 d.x0)).setCell ⟨w.heap.size + 1, 1, none⟩ (.int .u8 d.x1)).setCell ⟨w.heap.size + 1, 2, none⟩ (.int .u8 d.x2)).setCell ⟨w.heap.size + 1, 3, none⟩ (.int .u8 d.x3)).setCell ⟨w.heap.size + 1, 4, none⟩ (.int .u8 d.x4)).setCell ⟨w.heap.size + 1, 5, none⟩ (.int .u8 d.x5)).setCell ⟨w.heap.size + 1, 6, none⟩ (.int .u8 d.x6)).setCell ⟨w.heap.size + 1, 7, none⟩ (.int .u8 d.x7)) = w10 at *
          obtain ⟨zf, r0, r1, r2, r3, r4, r5, r6, r7⟩ := free8 h8
          have Hb2 := Lib.hid (Hbw.out.grown hg8 Hbw.out.size (fun k hk => by injection hk with hk; omega))
          clear h8 hg8
          exact bodyPost_ret (v := .agg #[.int .u8 d.x0, .int .u8 d.x1, .int .u8 d.x2, .int .u8 d.x3, .int .u8 d.x4, .int .u8 d.x5, .int .u8 d.x6, .int .u8 d.x7]) (by simp [results, Tryz.results32, go_sem, r0, r1, r2, r3, r4, r5, r6, r7]) rfl ⟨by rw [Hdg.out], Hb2.out⟩
theorem range_below {B : Nat} {w w' : World} {b o : Nat} {vs : List Value} (h : w.rangeAt b o vs) (hb : Below B w w') (hB : b < B) : w'.rangeAt b o vs := fun j v hj => (hb.cell (p := ⟨b, o + j, none⟩) hB).trans (h j v hj)
theorem Rd.drange {w : World} {B n : Nat} {A : Option Addr} {l : List D8} (h : Rd w B 8 A n (flatD l)) {k : Nat} (hk : k < n) : ∃ b o, A = some ⟨b, o, none⟩ ∧ b < B ∧ w.rangeAt b (o + k * 8) (l.getD k dz8).cells := by
 obtain ⟨b, o, e, hb, hc⟩ := h.di hk
 refine ⟨b, o, e, hb, fun j v hj => ?_⟩
 have hj8 : j < 8 := (List.getElem?_eq_some_iff.1 hj).1
 rw [hc j hj8]; exact hj
theorem range_front {w : World} {b : Nat} {cs : Array Value} {T : TypeId} {fz : Nat × Nat} {vs : List Value} (h : w.heap[b]? = some (.cells cs T fz)) (n : Nat) (hv : cs.toList.take n = vs) : w.rangeAt b 0 vs := fun j v hj => by
 rw [Nat.zero_add, block_cell h]
 rw [← hv, List.getElem?_take] at hj
 split at hj
 ·rw [← Array.getElem?_toList]; exact hj
 ·cases hj
theorem wrapI_id {x : Int} (h0 : 0 ≤ x) (h1 : x < 10000000) : IntKind.i64.wrap x = x := by rw [IntKind.wrap_i64]; omega
theorem rd_block {w : World} {b n sz : Nat} {cs : Array Value} {T : TypeId} {fz : Nat × Nat} {xs : List Value} (h : w.heap[b]? = some (.cells cs T fz)) (he : cs.toList = xs) (hl : xs.length = n * sz) : Rd w w.heap.size sz (some ⟨b, 0, none⟩) n xs :=
 ⟨hl, fun _ => ⟨b, 0, rfl, block_lt h, fun j u hu => by
  rw [block_cell h, Nat.zero_add, ← Array.getElem?_toList, he]; exact hu⟩⟩
def GivesLk (l : Lk) (er : Int) (w : World) (e : Ending) (w' : World) : Prop :=
 ∃ A n c, e = .returned (.tuple #[.agg #[.int .i64 l.kd, .int .u8 l.hs.x0, .int .u8 l.hs.x1, .int .u8 l.hs.x2, .int .u8 l.hs.x3, .int .u8 l.hs.x4, .int .u8 l.hs.x5, .int .u8 l.hs.x6, .int .u8 l.hs.x7, .slice A n c, .int .i64 l.st, .int .i64 l.cp, .int .i64 l.un], .int .i64 er]) ∧ Rd w' w'.heap.size 8 A n (flatD l.ks) ∧ n ≤ c ∧ Below w.heap.size w w'
set_option maxRecDepth 100000 in
set_option maxHeartbeats 4000000 in
theorem pllock_ok (p : Pl) (Ak : Option Addr) (nk ck : Nat) (An : Option Addr) (nn cn : Nat) (Af : Option Addr) (nf cf : Nat) (hop : Nat) (wh : Int) (w : World) (h : p.At Ak nk ck An nn Af nf w) (h1 : hop + 1 < nk) (h2 : hop < nn) (h3 : hop < nf) (h4 : wh = 0 ∨ wh = 1) :
  Calls Tryz.prog 16 #[.agg #[.int .u8 p.tb.x0, .int .u8 p.tb.x1, .int .u8 p.tb.x2, .int .u8 p.tb.x3, .int .u8 p.tb.x4, .int .u8 p.tb.x5, .int .u8 p.tb.x6, .int .u8 p.tb.x7, .slice Ak nk ck, .int .i64 p.s0, .int .i64 p.s1, .slice An nn cn, .slice Af nf cf], .int .i64 hop, .int .i64 wh] w (GivesLk (p.lock hop wh) 0 w) := by
 have HX0 : Hid (((w.alloc (.cells #[.int .u8 p.tb.x0, .int .u8 p.tb.x1, .int .u8 p.tb.x2, .int .u8 p.tb.x3, .int .u8 p.tb.x4, .int .u8 p.tb.x5, .int .u8 p.tb.x6, .int .u8 p.tb.x7, .slice Ak nk ck, .int .i64 p.s0, .int .i64 p.s1, .slice An nn cn, .slice Af nf cf] 32)).alloc (.cells #[.int .i64 0, .int .u8 0, .int .u8 0, .int .u8 0, .int .u8 0, .int .u8 0, .int .u8 0, .int .u8 0, .int .u8 0, .slice none 0 0, .int .i64 0, .int .i64 0, .int .i64 0] 40)).heap[w.heap.size]? = some (.cells #[.int .u8 p.tb.x0, .int .u8 p.tb.x1, .int .u8 p.tb.x2, .int .u8 p.tb.x3, .int .u8 p.tb.x4, .int .u8 p.tb.x5, .int .u8 p.tb.x6, .int .u8 p.tb.x7, .slice Ak nk ck, .int .i64 p.s0, .int .i64 p.s1, .slice An nn cn, .slice Af nf cf] 32 (0, 0))) := block_alloc (heap_alloc_new _ _) _
 have HY0 : Hid (((w.alloc (.cells #[.int .u8 p.tb.x0, .int .u8 p.tb.x1, .int .u8 p.tb.x2, .int .u8 p.tb.x3, .int .u8 p.tb.x4, .int .u8 p.tb.x5, .int .u8 p.tb.x6, .int .u8 p.tb.x7, .slice Ak nk ck, .int .i64 p.s0, .int .i64 p.s1, .slice An nn cn, .slice Af nf cf] 32)).alloc (.cells #[.int .i64 0, .int .u8 0, .int .u8 0, .int .u8 0, .int .u8 0, .int .u8 0, .int .u8 0, .int .u8 0, .int .u8 0, .slice none 0 0, .int .i64 0, .int .i64 0, .int .i64 0] 40)).heap[w.heap.size + 1]? = some (.cells #[.int .i64 0, .int .u8 0, .int .u8 0, .int .u8 0, .int .u8 0, .int .u8 0, .int .u8 0, .int .u8 0, .int .u8 0, .slice none 0 0, .int .i64 0, .int .i64 0, .int .i64 0] 40 (0, 0))) := alloc_at (by simp)
 have Hb0 : Hid (Below w.heap.size w ((w.alloc (.cells #[.int .u8 p.tb.x0, .int .u8 p.tb.x1, .int .u8 p.tb.x2, .int .u8 p.tb.x3, .int .u8 p.tb.x4, .int .u8 p.tb.x5, .int .u8 p.tb.x6, .int .u8 p.tb.x7, .slice Ak nk ck, .int .i64 p.s0, .int .i64 p.s1, .slice An nn cn, .slice Af nf cf] 32)).alloc (.cells #[.int .i64 0, .int .u8 0, .int .u8 0, .int .u8 0, .int .u8 0, .int .u8 0, .int .u8 0, .int .u8 0, .int .u8 0, .slice none 0 0, .int .i64 0, .int .i64 0, .int .i64 0] 40))) := below_two _ _ _
 have Hz0 : Hid (((w.alloc (.cells #[.int .u8 p.tb.x0, .int .u8 p.tb.x1, .int .u8 p.tb.x2, .int .u8 p.tb.x3, .int .u8 p.tb.x4, .int .u8 p.tb.x5, .int .u8 p.tb.x6, .int .u8 p.tb.x7, .slice Ak nk ck, .int .i64 p.s0, .int .i64 p.s1, .slice An nn cn, .slice Af nf cf] 32)).alloc (.cells #[.int .i64 0, .int .u8 0, .int .u8 0, .int .u8 0, .int .u8 0, .int .u8 0, .int .u8 0, .int .u8 0, .int .u8 0, .slice none 0 0, .int .i64 0, .int .i64 0, .int .i64 0] 40)).heap.size = w.heap.size + 2) := by show _ = _; simp
 have H := Lib.hid h
 have hl := h.k.dlenD
 obtain ⟨b, o, hAk, hbB, hr0⟩ := h.k.drange (k := 0) (by omega)
 obtain ⟨b', o', hAk', _, hr1⟩ := h.k.drange (k := nk - 1) (by omega)
 obtain ⟨bn, on, hAn, hbn, hcn⟩ := h.n.iat h2
 obtain ⟨bf, of', hAf, hbf, hcf⟩ := h.f.iat h3
 subst hAk hAn hAf
 injection hAk' with hAk'; injection hAk' with e1 e2; subst e1 e2
 have hbk := h.bk
 obtain ⟨m, hm⟩ : ∃ m, nk = m + 1 := ⟨nk - 1, by omega⟩
 have hsub : (nk : Int) - 1 = (m : Int) := by omega
 have e1m : nk - 1 = m := by omega
 rw [e1m] at hr1
 have hks : Hid ((p.lock hop wh).ks = [p.ks.getD 0 dz8, p.ks.getD m dz8]) := by show _ = _; unfold Pl.lock; rw [hl, e1m]
 have htb : Hid (p.tb = (p.lock hop wh).hs) := Lib.hid rfl
 have c8 : ∀ w', (Below w.heap.size w w' ∧ w'.heap[w.heap.size]? = some (.cells #[.int .u8 p.tb.x0, .int .u8 p.tb.x1, .int .u8 p.tb.x2, .int .u8 p.tb.x3, .int .u8 p.tb.x4, .int .u8 p.tb.x5, .int .u8 p.tb.x6, .int .u8 p.tb.x7, .slice (some ⟨b, o, none⟩) nk ck, .int .i64 p.s0, .int .i64 p.s1, .slice (some ⟨bn, on, none⟩) nn cn, .slice (some ⟨bf, of', none⟩) nf cf] 32 (0, 0))) → w'.cell? ⟨w.heap.size, 8, none⟩ = some (.slice (some ⟨b, o, none⟩) nk ck) := fun w' hw' => by have := block_cell hw'.2 8; simpa using this
 have c9 : ∀ w', (Below w.heap.size w w' ∧ w'.heap[w.heap.size]? = some (.cells #[.int .u8 p.tb.x0, .int .u8 p.tb.x1, .int .u8 p.tb.x2, .int .u8 p.tb.x3, .int .u8 p.tb.x4, .int .u8 p.tb.x5, .int .u8 p.tb.x6, .int .u8 p.tb.x7, .slice (some ⟨b, o, none⟩) nk ck, .int .i64 p.s0, .int .i64 p.s1, .slice (some ⟨bn, on, none⟩) nn cn, .slice (some ⟨bf, of', none⟩) nf cf] 32 (0, 0))) → w'.cell? ⟨w.heap.size, 9, none⟩ = some (.int .i64 p.s0) := fun w' hw' => by have := block_cell hw'.2 9; simpa using this
 have c10 : ∀ w', (Below w.heap.size w w' ∧ w'.heap[w.heap.size]? = some (.cells #[.int .u8 p.tb.x0, .int .u8 p.tb.x1, .int .u8 p.tb.x2, .int .u8 p.tb.x3, .int .u8 p.tb.x4, .int .u8 p.tb.x5, .int .u8 p.tb.x6, .int .u8 p.tb.x7, .slice (some ⟨b, o, none⟩) nk ck, .int .i64 p.s0, .int .i64 p.s1, .slice (some ⟨bn, on, none⟩) nn cn, .slice (some ⟨bf, of', none⟩) nf cf] 32 (0, 0))) → w'.cell? ⟨w.heap.size, 10, none⟩ = some (.int .i64 p.s1) := fun w' hw' => by have := block_cell hw'.2 10; simpa using this
 have c11 : ∀ w', (Below w.heap.size w w' ∧ w'.heap[w.heap.size]? = some (.cells #[.int .u8 p.tb.x0, .int .u8 p.tb.x1, .int .u8 p.tb.x2, .int .u8 p.tb.x3, .int .u8 p.tb.x4, .int .u8 p.tb.x5, .int .u8 p.tb.x6, .int .u8 p.tb.x7, .slice (some ⟨b, o, none⟩) nk ck, .int .i64 p.s0, .int .i64 p.s1, .slice (some ⟨bn, on, none⟩) nn cn, .slice (some ⟨bf, of', none⟩) nf cf] 32 (0, 0))) → w'.cell? ⟨w.heap.size, 11, none⟩ = some (.slice (some ⟨bn, on, none⟩) nn cn) := fun w' hw' => by have := block_cell hw'.2 11; simpa using this
 have c12 : ∀ w', (Below w.heap.size w w' ∧ w'.heap[w.heap.size]? = some (.cells #[.int .u8 p.tb.x0, .int .u8 p.tb.x1, .int .u8 p.tb.x2, .int .u8 p.tb.x3, .int .u8 p.tb.x4, .int .u8 p.tb.x5, .int .u8 p.tb.x6, .int .u8 p.tb.x7, .slice (some ⟨b, o, none⟩) nk ck, .int .i64 p.s0, .int .i64 p.s1, .slice (some ⟨bn, on, none⟩) nn cn, .slice (some ⟨bf, of', none⟩) nf cf] 32 (0, 0))) → w'.cell? ⟨w.heap.size, 12, none⟩ = some (.slice (some ⟨bf, of', none⟩) nf cf) := fun w' hw' => by have := block_cell hw'.2 12; simpa using this
 have rn : ∀ w', (Below w.heap.size w w' ∧ w'.heap[w.heap.size]? = some (.cells #[.int .u8 p.tb.x0, .int .u8 p.tb.x1, .int .u8 p.tb.x2, .int .u8 p.tb.x3, .int .u8 p.tb.x4, .int .u8 p.tb.x5, .int .u8 p.tb.x6, .int .u8 p.tb.x7, .slice (some ⟨b, o, none⟩) nk ck, .int .i64 p.s0, .int .i64 p.s1, .slice (some ⟨bn, on, none⟩) nn cn, .slice (some ⟨bf, of', none⟩) nf cf] 32 (0, 0))) → w'.cell? ⟨bn, on + hop, none⟩ = some (.int .i64 (p.nr.getD hop 0)) := fun w' hw' => (hw'.1.cell (p := ⟨bn, on + hop, none⟩) hbn).trans hcn
 have rfr : ∀ w', (Below w.heap.size w w' ∧ w'.heap[w.heap.size]? = some (.cells #[.int .u8 p.tb.x0, .int .u8 p.tb.x1, .int .u8 p.tb.x2, .int .u8 p.tb.x3, .int .u8 p.tb.x4, .int .u8 p.tb.x5, .int .u8 p.tb.x6, .int .u8 p.tb.x7, .slice (some ⟨b, o, none⟩) nk ck, .int .i64 p.s0, .int .i64 p.s1, .slice (some ⟨bn, on, none⟩) nn cn, .slice (some ⟨bf, of', none⟩) nf cf] 32 (0, 0))) → w'.cell? ⟨bf, of' + hop, none⟩ = some (.int .i64 (p.fr.getD hop 0)) := fun w' hw' => (hw'.1.cell (p := ⟨bf, of' + hop, none⟩) hbf).trans hcf
 have d1 : decide ((hop : Int) < 0) = false := decide_eq_false (by omega)
 have d2 : decide ((m : Int) ≤ (hop : Int)) = false := decide_eq_false (by omega)
 have d3 : decide ((nn : Int) ≤ (hop : Int)) = false := decide_eq_false (by omega)
 have d4 : decide ((nf : Int) ≤ (hop : Int)) = false := decide_eq_false (by omega)
 have hh1 : (hop : Int) < (nn : Int) := by omega
 have hh2 : (hop : Int) < (nf : Int) := by omega
 have hh3 : (m : Int) < (nk : Int) := by omega
 have hh4 : (0 : Int) < (nk : Int) := by omega
 have hh5 : 0 < nk := by omega
 have hh6 : m < nk := by omega
 have hwm : IntKind.i64.wrap (m : Int) = (m : Int) := wrapI_id (by omega) (by omega)
 have Hm := Lib.hid hm
 have Hl := Lib.hid hl; have He1m := Lib.hid e1m
 clear hm e1m hl hcn hcf
 have hun0 : Hid (p.lock hop 0 = ⟨1, p.tb, [p.ks.getD 0 dz8, p.ks.getD m dz8], 0, p.s0, p.nr.getD hop 0⟩) := by show _ = _; unfold Pl.lock; rw [Hl.out, He1m.out]; rfl
 have hun1 : Hid (p.lock hop 1 = ⟨1, p.tb, [p.ks.getD 0 dz8, p.ks.getD m dz8], 1, p.s1, p.fr.getD hop 0⟩) := by show _ = _; unfold Pl.lock; rw [Hl.out, He1m.out]; rfl
 clear hks htb
 generalize p.nr.getD hop 0 = gn at *
 generalize p.fr.getD hop 0 = gf at *
 generalize p.ks.getD 0 dz8 = k0 at *
 generalize p.ks.getD m dz8 = k1 at *
 rcases h4 with rfl | rfl
 ·go_enter Tryz.func16, Tryz.ntmps16
  have r := block_cell HX0.out
  have r0 := r 0; have r1 := r 1; have r2 := r 2; have r3 := r 3; have r4 := r 4; have r5 := r 5; have r6 := r 6; have r7 := r 7; have r8 := r 8; have r9 := r 9; have r10 := r 10; have r11 := r 11; have r12 := r 12
  simp at r0 r1 r2 r3 r4 r5 r6 r7 r8 r9 r10 r11 r12
  clear r
  go_upto_region 5 with fail
  generalize (w.alloc (.cells #[.int .u8 p.tb.x0, .int .u8 p.tb.x1, .int .u8 p.tb.x2, .int .u8 p.tb.x3, .int .u8 p.tb.x4, .int .u8 p.tb.x5, .int .u8 p.tb.x6, .int .u8 p.tb.x7, .slice (some ⟨b, o, none⟩) nk ck, .int .i64 p.s0, .int .i64 p.s1, .slice (some ⟨bn, on, none⟩) nn cn, .slice (some ⟨bf, of', none⟩) nf cf] 32)).alloc (.cells #[.int .i64 0, .int .u8 0, .int .u8 0, .int .u8 0, .int .u8 0, .int .u8 0, .int .u8 0, .int .u8 0, .int .u8 0, .slice none 0 0, .int .i64 0, .int .i64 0, .int .i64 0] 40) = w0 at *
  refine wp_region_held_drew (S := fun w' => Below w.heap.size w w' ∧ w'.heap[w.heap.size]? = some (.cells #[.int .u8 p.tb.x0, .int .u8 p.tb.x1, .int .u8 p.tb.x2, .int .u8 p.tb.x3, .int .u8 p.tb.x4, .int .u8 p.tb.x5, .int .u8 p.tb.x6, .int .u8 p.tb.x7, .slice (some ⟨b, o, none⟩) nk ck, .int .i64 p.s0, .int .i64 p.s1, .slice (some ⟨bn, on, none⟩) nn cn, .slice (some ⟨bf, of', none⟩) nf cf] 32 (0, 0))) (by kernel_rfl) ⟨Hb0.out.drew, HX0.out⟩ (fun hHeld => ?_)
  have ix : ∀ w', (Instr.index 29 (.agg #[.int .i64 (gn), .int .i64 (gf)]) (.int .i64 0)).run Tryz.prog w' = .ok (.int .i64 (gn)) w' := fun _ => by kernel_rfl
  refine takP 0 40 ?_ rfl (by kernel_rfl) (fun _ _ _ => id) ?hy (by assumption) ?_
  case hy => intro w' h; clear h; go_simp; try with_reducible rfl
  simp only [Act.put, sT]
  refine takeK 1 (some 41) (v := .agg ([.int .u8 p.tb.x0, .int .u8 p.tb.x1, .int .u8 p.tb.x2, .int .u8 p.tb.x3, .int .u8 p.tb.x4, .int .u8 p.tb.x5, .int .u8 p.tb.x6, .int .u8 p.tb.x7] : List Value).toArray) rfl (by kernel_rfl) (by kernel_rfl) (fun _ _ _ => id) (yieldsIf_load_mid (by kernel_rfl) 27 _ (by rfl) (w.heap.size) (0) (by rfl) [.int .u8 p.tb.x0, .int .u8 p.tb.x1, .int .u8 p.tb.x2, .int .u8 p.tb.x3, .int .u8 p.tb.x4, .int .u8 p.tb.x5, .int .u8 p.tb.x6, .int .u8 p.tb.x7] _ (fun w' hw' => range_front hw'.2 8 rfl) Tryz.underlying27 rfl (by kernel_rfl)) (by assumption) ?_
  simp only [Act.put, sT]
  refine takP 2 42 ?_ rfl (by kernel_rfl) (fun _ _ _ => id) ?hy (by assumption) ?_
  case hy => intro w' h; clear h; go_simp; try with_reducible rfl
  simp only [Act.put, sT]
  refine takP 3 43 ?_ rfl (by kernel_rfl) (fun _ _ _ => id) ?hy (by assumption) ?_
  case hy => intro w' h; have hx := c8 w' h; clear h; go_simp; try with_reducible rfl
  simp only [Act.put, sT]
  refine takP 4 44 ?_ rfl (by kernel_rfl) (fun _ _ _ => id) ?hy (by assumption) ?_
  case hy => intro w' h; clear h; go_simp; try with_reducible rfl
  simp only [Act.put, sT]
  refine takeK 5 (some 45) (v := .agg ([.int .u8 k0.x0, .int .u8 k0.x1, .int .u8 k0.x2, .int .u8 k0.x3, .int .u8 k0.x4, .int .u8 k0.x5, .int .u8 k0.x6, .int .u8 k0.x7] : List Value).toArray) rfl (by kernel_rfl) (by kernel_rfl) (fun _ _ _ => id) (yieldsIf_load_mid (by kernel_rfl) 27 _ (by rfl) (b) (o + 0 * 8) (by rfl) [.int .u8 k0.x0, .int .u8 k0.x1, .int .u8 k0.x2, .int .u8 k0.x3, .int .u8 k0.x4, .int .u8 k0.x5, .int .u8 k0.x6, .int .u8 k0.x7] _ (fun w' hw' => range_below hr0 hw'.1 hbB) Tryz.underlying27 rfl (by kernel_rfl)) (by assumption) ?_
  simp only [Act.put, sT]
  refine takP 6 46 ?_ rfl (by kernel_rfl) (fun _ _ _ => id) ?hy (by assumption) ?_
  case hy => intro w' h; clear h; go_simp; try with_reducible rfl
  simp only [Act.put, sT]
  refine takP 7 47 ?_ rfl (by kernel_rfl) (fun _ _ _ => id) ?hy (by assumption) ?_
  case hy => intro w' h; have hx := c8 w' h; clear h; go_simp; try with_reducible rfl
  simp only [Act.put, sT]
  refine takP 8 48 ?_ rfl (by kernel_rfl) (fun _ _ _ => id) ?hy (by assumption) ?_
  case hy => intro w' h; clear h; go_simp; try with_reducible rfl
  simp only [Act.put, sT]
  refine takP 9 49 ?_ rfl (by kernel_rfl) (fun _ _ _ => id) ?hy (by assumption) ?_
  case hy => intro w' h; have hx := c8 w' h; clear h; go_simp; try with_reducible rfl
  simp only [Act.put, sT]
  refine takP 10 50 ?_ rfl (by kernel_rfl) (fun _ _ _ => id) ?hy (by assumption) ?_
  case hy => intro w' h; clear h; go_simp; try with_reducible rfl
  simp only [Act.put, sT]
  refine takP 11 51 ?_ rfl (by kernel_rfl) (fun _ _ _ => id) ?hy (by assumption) ?_
  case hy => intro w' h; clear h; go_simp; try with_reducible rfl
  simp only [Act.put, sT]
  refine takP 12 52 ?_ rfl (by kernel_rfl) (fun _ _ _ => id) ?hy (by assumption) ?_
  case hy => intro w' h; clear h; go_simp; try with_reducible rfl
  simp only [Act.put, sT]
  refine takeK 13 (some 53) (v := .agg ([.int .u8 k1.x0, .int .u8 k1.x1, .int .u8 k1.x2, .int .u8 k1.x3, .int .u8 k1.x4, .int .u8 k1.x5, .int .u8 k1.x6, .int .u8 k1.x7] : List Value).toArray) rfl (by kernel_rfl) (by kernel_rfl) (fun _ _ _ => id) (yieldsIf_load_mid (by kernel_rfl) 27 _ (by rfl) (b) (o + m * 8) (by rfl) [.int .u8 k1.x0, .int .u8 k1.x1, .int .u8 k1.x2, .int .u8 k1.x3, .int .u8 k1.x4, .int .u8 k1.x5, .int .u8 k1.x6, .int .u8 k1.x7] _ (fun w' hw' => range_below hr1 hw'.1 hbB) Tryz.underlying27 rfl (by kernel_rfl)) (by assumption) ?_
  simp only [Act.put, sT]
  refine takP 15 55 ?_ rfl (by kernel_rfl) (fun _ _ _ => id) ?hy (by assumption) ?_
  case hy => intro w' h; clear h; go_simp; try with_reducible rfl
  simp only [Act.put, sT]
  refine takP 16 56 ?_ rfl (by kernel_rfl) (fun _ _ _ => id) ?hy (by assumption) ?_
  case hy => intro w' h; clear h; go_simp; try with_reducible rfl
  simp only [Act.put, sT]
  refine takP 17 57 ?_ rfl (by kernel_rfl) (fun _ _ _ => id) ?hy (by assumption) ?_
  case hy => intro w' h; clear h; go_simp; try with_reducible rfl
  simp only [Act.put, sT]
  refine takP 18 58 ?_ rfl (by kernel_rfl) (fun _ _ _ => id) ?hy (by assumption) ?_
  case hy => intro w' h; clear h; go_simp; try with_reducible rfl
  simp only [Act.put, sT]
  refine takP 19 59 ?_ rfl (by kernel_rfl) (fun _ _ _ => id) ?hy (by assumption) ?_
  case hy => intro w' h; have hx := c9 w' h; clear h; go_simp; try with_reducible rfl
  simp only [Act.put, sT]
  refine takP 20 60 ?_ rfl (by kernel_rfl) (fun _ _ _ => id) ?hy (by assumption) ?_
  case hy => intro w' h; clear h; go_simp; try with_reducible rfl
  simp only [Act.put, sT]
  refine takP 21 61 ?_ rfl (by kernel_rfl) (fun _ _ _ => id) ?hy (by assumption) ?_
  case hy => intro w' h; have hx := c11 w' h; clear h; go_simp; try with_reducible rfl
  simp only [Act.put, sT]
  refine takP 22 62 ?_ rfl (by kernel_rfl) (fun _ _ _ => id) ?hy (by assumption) ?_
  case hy => intro w' h; clear h; go_simp; try with_reducible rfl
  simp only [Act.put, sT]
  refine takP 23 63 ?_ rfl (by kernel_rfl) (fun _ _ _ => id) ?hy (by assumption) ?_
  case hy => intro w' h; clear h; go_simp; try with_reducible rfl
  simp only [Act.put, sT]
  refine takP 24 64 ?_ rfl (by kernel_rfl) (fun _ _ _ => id) ?hy (by assumption) ?_
  case hy => intro w' h; have hx := rn w' h; clear h; go_simp; try with_reducible rfl
  simp only [Act.put, sT]
  refine takP 25 65 ?_ rfl (by kernel_rfl) (fun _ _ _ => id) ?hy (by assumption) ?_
  case hy => intro w' h; clear h; go_simp; try with_reducible rfl
  simp only [Act.put, sT]
  refine takP 26 66 ?_ rfl (by kernel_rfl) (fun _ _ _ => id) ?hy (by assumption) ?_
  case hy => intro w' h; have hx := c12 w' h; clear h; go_simp; try with_reducible rfl
  simp only [Act.put, sT]
  refine takP 27 67 ?_ rfl (by kernel_rfl) (fun _ _ _ => id) ?hy (by assumption) ?_
  case hy => intro w' h; clear h; go_simp; try with_reducible rfl
  simp only [Act.put, sT]
  refine takP 28 68 ?_ rfl (by kernel_rfl) (fun _ _ _ => id) ?hy (by assumption) ?_
  case hy => intro w' h; clear h; go_simp; try with_reducible rfl
  simp only [Act.put, sT]
  refine takP 29 69 ?_ rfl (by kernel_rfl) (fun _ _ _ => id) ?hy (by assumption) ?_
  case hy => intro w' h; have hx := rfr w' h; clear h; go_simp; try with_reducible rfl
  simp only [Act.put, sT]
  refine takP 30 70 ?_ rfl (by kernel_rfl) (fun _ _ _ => id) ?hy (by assumption) ?_
  case hy => intro w' h; clear h; go_simp; try with_reducible rfl
  simp only [Act.put, sT]
  refine takP 31 71 ?_ rfl (by kernel_rfl) (fun _ _ _ => id) ?hy (by assumption) ?_
  case hy => intro w' h; clear h; go_simp; try with_reducible rfl
  simp only [Act.put, sT]
  refine takP 32 72 ?_ rfl (by kernel_rfl) (fun _ _ _ => id) ?hy (by assumption) ?_
  case hy => intro w' h; clear h; go_simp; try with_reducible rfl
  simp only [Act.put, sT]
  refine wpAnyH_ready (rs := [14]) (by kernel_rfl) (by simp) ?_
  refine AllReadyH.cons rfl (fun K hK => ?_) AllReadyH.nil
  rw [if_pos (by kernel_rfl)]
  try simp only [List.getElem_toArray]
  try simp only [List.getElem_cons_succ]
  try simp only [List.getElem_cons_zero]
  go_simp
  have HA1 := Lib.hid (show ((w0.alloc (.cells #[.int .u8 k0.x0, .int .u8 k0.x1, .int .u8 k0.x2, .int .u8 k0.x3, .int .u8 k0.x4, .int .u8 k0.x5, .int .u8 k0.x6, .int .u8 k0.x7, .int .u8 k1.x0, .int .u8 k1.x1, .int .u8 k1.x2, .int .u8 k1.x3, .int .u8 k1.x4, .int .u8 k1.x5, .int .u8 k1.x6, .int .u8 k1.x7] 27)).drew).heap[w0.heap.size]? = some (.cells #[.int .u8 k0.x0, .int .u8 k0.x1, .int .u8 k0.x2, .int .u8 k0.x3, .int .u8 k0.x4, .int .u8 k0.x5, .int .u8 k0.x6, .int .u8 k0.x7, .int .u8 k1.x0, .int .u8 k1.x1, .int .u8 k1.x2, .int .u8 k1.x3, .int .u8 k1.x4, .int .u8 k1.x5, .int .u8 k1.x6, .int .u8 k1.x7] 27 (0, 0)) from heap_alloc_new w0 _)
  have HB1 := Lib.hid ((Hb0.out.alloc Hb0.out.size (.cells #[.int .u8 k0.x0, .int .u8 k0.x1, .int .u8 k0.x2, .int .u8 k0.x3, .int .u8 k0.x4, .int .u8 k0.x5, .int .u8 k0.x6, .int .u8 k0.x7, .int .u8 k1.x0, .int .u8 k1.x1, .int .u8 k1.x2, .int .u8 k1.x3, .int .u8 k1.x4, .int .u8 k1.x5, .int .u8 k1.x6, .int .u8 k1.x7] 27)).drew)
  have HX1 := Lib.hid (show ((w0.alloc (.cells #[.int .u8 k0.x0, .int .u8 k0.x1, .int .u8 k0.x2, .int .u8 k0.x3, .int .u8 k0.x4, .int .u8 k0.x5, .int .u8 k0.x6, .int .u8 k0.x7, .int .u8 k1.x0, .int .u8 k1.x1, .int .u8 k1.x2, .int .u8 k1.x3, .int .u8 k1.x4, .int .u8 k1.x5, .int .u8 k1.x6, .int .u8 k1.x7] 27)).drew).heap[w.heap.size]? = some (.cells #[.int .u8 p.tb.x0, .int .u8 p.tb.x1, .int .u8 p.tb.x2, .int .u8 p.tb.x3, .int .u8 p.tb.x4, .int .u8 p.tb.x5, .int .u8 p.tb.x6, .int .u8 p.tb.x7, .slice (some ⟨b, o, none⟩) nk ck, .int .i64 p.s0, .int .i64 p.s1, .slice (some ⟨bn, on, none⟩) nn cn, .slice (some ⟨bf, of', none⟩) nf cf] 32 (0, 0)) from block_alloc HX0.out _)
  have HY1 := Lib.hid (show ((w0.alloc (.cells #[.int .u8 k0.x0, .int .u8 k0.x1, .int .u8 k0.x2, .int .u8 k0.x3, .int .u8 k0.x4, .int .u8 k0.x5, .int .u8 k0.x6, .int .u8 k0.x7, .int .u8 k1.x0, .int .u8 k1.x1, .int .u8 k1.x2, .int .u8 k1.x3, .int .u8 k1.x4, .int .u8 k1.x5, .int .u8 k1.x6, .int .u8 k1.x7] 27)).drew).heap[w.heap.size + 1]? = some (.cells #[.int .i64 0, .int .u8 0, .int .u8 0, .int .u8 0, .int .u8 0, .int .u8 0, .int .u8 0, .int .u8 0, .int .u8 0, .slice none 0 0, .int .i64 0, .int .i64 0, .int .i64 0] 40 (0, 0)) from block_alloc HY0.out _)
  generalize (w0.alloc (.cells #[.int .u8 k0.x0, .int .u8 k0.x1, .int .u8 k0.x2, .int .u8 k0.x3, .int .u8 k0.x4, .int .u8 k0.x5, .int .u8 k0.x6, .int .u8 k0.x7, .int .u8 k1.x0, .int .u8 k1.x1, .int .u8 k1.x2, .int .u8 k1.x3, .int .u8 k1.x4, .int .u8 k1.x5, .int .u8 k1.x6, .int .u8 k1.x7] 27)).drew = w1 at *
  have hz0 : w.heap.size + 2 = w0.heap.size := Hz0.out.symm
  have hlt1 := block_lt HA1.out
  refine hK.out _ _ ⟨HB1.out, HX1.out⟩ (fun _ => ?_)
  clear hK K
  try simp only [Act.put, sT]
  refine takP 33 73 ?_ rfl (by kernel_rfl) (fun _ _ _ => id) ?hy (by assumption) ?_
  case hy => intro w' h; clear h; go_simp; try with_reducible rfl
  simp only [Act.put, sT]
  refine wpAnyH_ready (rs := [34]) (by kernel_rfl) (by simp) ?_
  refine AllReadyH.cons rfl (fun K hK => ?_) AllReadyH.nil
  rw [if_pos (by kernel_rfl)]
  try simp only [List.getElem_toArray]
  try simp only [List.getElem_cons_succ]
  try simp only [List.getElem_cons_zero]
  refine wp_store_mid 40 _ _ (by rfl) (w.heap.size + 1) (0) #[.int .i64 1, .int .u8 p.tb.x0, .int .u8 p.tb.x1, .int .u8 p.tb.x2, .int .u8 p.tb.x3, .int .u8 p.tb.x4, .int .u8 p.tb.x5, .int .u8 p.tb.x6, .int .u8 p.tb.x7, .slice (some ⟨w0.heap.size, 0, none⟩) 2 2, .int .i64 0, .int .i64 p.s0, .int .i64 gn] (by rfl) (by rfl) (there_mid HY1.out (by simp)) (by kernel_rfl) (by kernel_rfl) ?_
  obtain ⟨s1', s2'⟩ := set_all HY1.out [.int .i64 1, .int .u8 p.tb.x0, .int .u8 p.tb.x1, .int .u8 p.tb.x2, .int .u8 p.tb.x3, .int .u8 p.tb.x4, .int .u8 p.tb.x5, .int .u8 p.tb.x6, .int .u8 p.tb.x7, .slice (some ⟨w0.heap.size, 0, none⟩) 2 2, .int .i64 0, .int .i64 p.s0, .int .i64 gn] (by simp)
  have HS1 := Lib.hid s1'
  have HB2 := Lib.hid (HB1.out.grown s2' HB1.out.size (fun k hk => by cases hk; omega))
  have HA2 := Lib.hid ((s2'.block w0.heap.size (by omega) (by intro e; injection e with e; omega)).trans HA1.out)
  refine hK.out _ _ ⟨HB2.out, (s2'.block w.heap.size (by omega) (by simp)).trans HX1.out⟩ (fun _ => ?_)
  clear hK K
  simp only [Act.put]
  refine takP 35 7 ?_ rfl (by kernel_rfl) (fun _ _ _ => id) ?hy (by assumption) ?_
  case hy => intro w' h; clear h; go_simp; try with_reducible rfl
  simp only [Act.put, sT]
  refine wpAnyH_done (by kernel_rfl) ?_ _
  clear s1' s2'
  go_wp2
  refine bodyPost_ret (results_cellT 6 7 40 (w.heap.size + 1) #[.int .i64 1, .int .u8 p.tb.x0, .int .u8 p.tb.x1, .int .u8 p.tb.x2, .int .u8 p.tb.x3, .int .u8 p.tb.x4, .int .u8 p.tb.x5, .int .u8 p.tb.x6, .int .u8 p.tb.x7, .slice (some ⟨w0.heap.size, 0, none⟩) 2 2, .int .i64 0, .int .i64 p.s0, .int .i64 gn] _ _ _ rfl rfl HS1.out Tryz.underlying40 rfl (by kernel_rfl)) rfl ?_
  unfold GivesLk
  rw [hun0.out]
  exact ⟨some ⟨w0.heap.size, 0, none⟩, 2, 2, rfl, rd_block HA2.out rfl rfl, Nat.le_refl _, HB2.out⟩
 ·go_enter Tryz.func16, Tryz.ntmps16
  have r := block_cell HX0.out
  have r0 := r 0; have r1 := r 1; have r2 := r 2; have r3 := r 3; have r4 := r 4; have r5 := r 5; have r6 := r 6; have r7 := r 7; have r8 := r 8; have r9 := r 9; have r10 := r 10; have r11 := r 11; have r12 := r 12
  simp at r0 r1 r2 r3 r4 r5 r6 r7 r8 r9 r10 r11 r12
  clear r
  go_upto_region 5 with fail
  generalize (w.alloc (.cells #[.int .u8 p.tb.x0, .int .u8 p.tb.x1, .int .u8 p.tb.x2, .int .u8 p.tb.x3, .int .u8 p.tb.x4, .int .u8 p.tb.x5, .int .u8 p.tb.x6, .int .u8 p.tb.x7, .slice (some ⟨b, o, none⟩) nk ck, .int .i64 p.s0, .int .i64 p.s1, .slice (some ⟨bn, on, none⟩) nn cn, .slice (some ⟨bf, of', none⟩) nf cf] 32)).alloc (.cells #[.int .i64 0, .int .u8 0, .int .u8 0, .int .u8 0, .int .u8 0, .int .u8 0, .int .u8 0, .int .u8 0, .int .u8 0, .slice none 0 0, .int .i64 0, .int .i64 0, .int .i64 0] 40) = w0 at *
  refine wp_region_held_drew (S := fun w' => Below w.heap.size w w' ∧ w'.heap[w.heap.size]? = some (.cells #[.int .u8 p.tb.x0, .int .u8 p.tb.x1, .int .u8 p.tb.x2, .int .u8 p.tb.x3, .int .u8 p.tb.x4, .int .u8 p.tb.x5, .int .u8 p.tb.x6, .int .u8 p.tb.x7, .slice (some ⟨b, o, none⟩) nk ck, .int .i64 p.s0, .int .i64 p.s1, .slice (some ⟨bn, on, none⟩) nn cn, .slice (some ⟨bf, of', none⟩) nf cf] 32 (0, 0))) (by kernel_rfl) ⟨Hb0.out.drew, HX0.out⟩ (fun hHeld => ?_)
  have ix : ∀ w', (Instr.index 29 (.agg #[.int .i64 (gn), .int .i64 (gf)]) (.int .i64 1)).run Tryz.prog w' = .ok (.int .i64 (gf)) w' := fun _ => by kernel_rfl
  refine takP 0 40 ?_ rfl (by kernel_rfl) (fun _ _ _ => id) ?hy (by assumption) ?_
  case hy => intro w' h; clear h; go_simp; try with_reducible rfl
  simp only [Act.put, sT]
  refine takeK 1 (some 41) (v := .agg ([.int .u8 p.tb.x0, .int .u8 p.tb.x1, .int .u8 p.tb.x2, .int .u8 p.tb.x3, .int .u8 p.tb.x4, .int .u8 p.tb.x5, .int .u8 p.tb.x6, .int .u8 p.tb.x7] : List Value).toArray) rfl (by kernel_rfl) (by kernel_rfl) (fun _ _ _ => id) (yieldsIf_load_mid (by kernel_rfl) 27 _ (by rfl) (w.heap.size) (0) (by rfl) [.int .u8 p.tb.x0, .int .u8 p.tb.x1, .int .u8 p.tb.x2, .int .u8 p.tb.x3, .int .u8 p.tb.x4, .int .u8 p.tb.x5, .int .u8 p.tb.x6, .int .u8 p.tb.x7] _ (fun w' hw' => range_front hw'.2 8 rfl) Tryz.underlying27 rfl (by kernel_rfl)) (by assumption) ?_
  simp only [Act.put, sT]
  refine takP 2 42 ?_ rfl (by kernel_rfl) (fun _ _ _ => id) ?hy (by assumption) ?_
  case hy => intro w' h; clear h; go_simp; try with_reducible rfl
  simp only [Act.put, sT]
  refine takP 3 43 ?_ rfl (by kernel_rfl) (fun _ _ _ => id) ?hy (by assumption) ?_
  case hy => intro w' h; have hx := c8 w' h; clear h; go_simp; try with_reducible rfl
  simp only [Act.put, sT]
  refine takP 4 44 ?_ rfl (by kernel_rfl) (fun _ _ _ => id) ?hy (by assumption) ?_
  case hy => intro w' h; clear h; go_simp; try with_reducible rfl
  simp only [Act.put, sT]
  refine takeK 5 (some 45) (v := .agg ([.int .u8 k0.x0, .int .u8 k0.x1, .int .u8 k0.x2, .int .u8 k0.x3, .int .u8 k0.x4, .int .u8 k0.x5, .int .u8 k0.x6, .int .u8 k0.x7] : List Value).toArray) rfl (by kernel_rfl) (by kernel_rfl) (fun _ _ _ => id) (yieldsIf_load_mid (by kernel_rfl) 27 _ (by rfl) (b) (o + 0 * 8) (by rfl) [.int .u8 k0.x0, .int .u8 k0.x1, .int .u8 k0.x2, .int .u8 k0.x3, .int .u8 k0.x4, .int .u8 k0.x5, .int .u8 k0.x6, .int .u8 k0.x7] _ (fun w' hw' => range_below hr0 hw'.1 hbB) Tryz.underlying27 rfl (by kernel_rfl)) (by assumption) ?_
  simp only [Act.put, sT]
  refine takP 6 46 ?_ rfl (by kernel_rfl) (fun _ _ _ => id) ?hy (by assumption) ?_
  case hy => intro w' h; clear h; go_simp; try with_reducible rfl
  simp only [Act.put, sT]
  refine takP 7 47 ?_ rfl (by kernel_rfl) (fun _ _ _ => id) ?hy (by assumption) ?_
  case hy => intro w' h; have hx := c8 w' h; clear h; go_simp; try with_reducible rfl
  simp only [Act.put, sT]
  refine takP 8 48 ?_ rfl (by kernel_rfl) (fun _ _ _ => id) ?hy (by assumption) ?_
  case hy => intro w' h; clear h; go_simp; try with_reducible rfl
  simp only [Act.put, sT]
  refine takP 9 49 ?_ rfl (by kernel_rfl) (fun _ _ _ => id) ?hy (by assumption) ?_
  case hy => intro w' h; have hx := c8 w' h; clear h; go_simp; try with_reducible rfl
  simp only [Act.put, sT]
  refine takP 10 50 ?_ rfl (by kernel_rfl) (fun _ _ _ => id) ?hy (by assumption) ?_
  case hy => intro w' h; clear h; go_simp; try with_reducible rfl
  simp only [Act.put, sT]
  refine takP 11 51 ?_ rfl (by kernel_rfl) (fun _ _ _ => id) ?hy (by assumption) ?_
  case hy => intro w' h; clear h; go_simp; try with_reducible rfl
  simp only [Act.put, sT]
  refine takP 12 52 ?_ rfl (by kernel_rfl) (fun _ _ _ => id) ?hy (by assumption) ?_
  case hy => intro w' h; clear h; go_simp; try with_reducible rfl
  simp only [Act.put, sT]
  refine takeK 13 (some 53) (v := .agg ([.int .u8 k1.x0, .int .u8 k1.x1, .int .u8 k1.x2, .int .u8 k1.x3, .int .u8 k1.x4, .int .u8 k1.x5, .int .u8 k1.x6, .int .u8 k1.x7] : List Value).toArray) rfl (by kernel_rfl) (by kernel_rfl) (fun _ _ _ => id) (yieldsIf_load_mid (by kernel_rfl) 27 _ (by rfl) (b) (o + m * 8) (by rfl) [.int .u8 k1.x0, .int .u8 k1.x1, .int .u8 k1.x2, .int .u8 k1.x3, .int .u8 k1.x4, .int .u8 k1.x5, .int .u8 k1.x6, .int .u8 k1.x7] _ (fun w' hw' => range_below hr1 hw'.1 hbB) Tryz.underlying27 rfl (by kernel_rfl)) (by assumption) ?_
  simp only [Act.put, sT]
  refine takP 15 55 ?_ rfl (by kernel_rfl) (fun _ _ _ => id) ?hy (by assumption) ?_
  case hy => intro w' h; clear h; go_simp; try with_reducible rfl
  simp only [Act.put, sT]
  refine takP 16 56 ?_ rfl (by kernel_rfl) (fun _ _ _ => id) ?hy (by assumption) ?_
  case hy => intro w' h; clear h; go_simp; try with_reducible rfl
  simp only [Act.put, sT]
  refine takP 17 57 ?_ rfl (by kernel_rfl) (fun _ _ _ => id) ?hy (by assumption) ?_
  case hy => intro w' h; clear h; go_simp; try with_reducible rfl
  simp only [Act.put, sT]
  refine takP 18 58 ?_ rfl (by kernel_rfl) (fun _ _ _ => id) ?hy (by assumption) ?_
  case hy => intro w' h; clear h; go_simp; try with_reducible rfl
  simp only [Act.put, sT]
  refine takP 19 59 ?_ rfl (by kernel_rfl) (fun _ _ _ => id) ?hy (by assumption) ?_
  case hy => intro w' h; have hx := c10 w' h; clear h; go_simp; try with_reducible rfl
  simp only [Act.put, sT]
  refine takP 20 60 ?_ rfl (by kernel_rfl) (fun _ _ _ => id) ?hy (by assumption) ?_
  case hy => intro w' h; clear h; go_simp; try with_reducible rfl
  simp only [Act.put, sT]
  refine takP 21 61 ?_ rfl (by kernel_rfl) (fun _ _ _ => id) ?hy (by assumption) ?_
  case hy => intro w' h; have hx := c11 w' h; clear h; go_simp; try with_reducible rfl
  simp only [Act.put, sT]
  refine takP 22 62 ?_ rfl (by kernel_rfl) (fun _ _ _ => id) ?hy (by assumption) ?_
  case hy => intro w' h; clear h; go_simp; try with_reducible rfl
  simp only [Act.put, sT]
  refine takP 23 63 ?_ rfl (by kernel_rfl) (fun _ _ _ => id) ?hy (by assumption) ?_
  case hy => intro w' h; clear h; go_simp; try with_reducible rfl
  simp only [Act.put, sT]
  refine takP 24 64 ?_ rfl (by kernel_rfl) (fun _ _ _ => id) ?hy (by assumption) ?_
  case hy => intro w' h; have hx := rn w' h; clear h; go_simp; try with_reducible rfl
  simp only [Act.put, sT]
  refine takP 25 65 ?_ rfl (by kernel_rfl) (fun _ _ _ => id) ?hy (by assumption) ?_
  case hy => intro w' h; clear h; go_simp; try with_reducible rfl
  simp only [Act.put, sT]
  refine takP 26 66 ?_ rfl (by kernel_rfl) (fun _ _ _ => id) ?hy (by assumption) ?_
  case hy => intro w' h; have hx := c12 w' h; clear h; go_simp; try with_reducible rfl
  simp only [Act.put, sT]
  refine takP 27 67 ?_ rfl (by kernel_rfl) (fun _ _ _ => id) ?hy (by assumption) ?_
  case hy => intro w' h; clear h; go_simp; try with_reducible rfl
  simp only [Act.put, sT]
  refine takP 28 68 ?_ rfl (by kernel_rfl) (fun _ _ _ => id) ?hy (by assumption) ?_
  case hy => intro w' h; clear h; go_simp; try with_reducible rfl
  simp only [Act.put, sT]
  refine takP 29 69 ?_ rfl (by kernel_rfl) (fun _ _ _ => id) ?hy (by assumption) ?_
  case hy => intro w' h; have hx := rfr w' h; clear h; go_simp; try with_reducible rfl
  simp only [Act.put, sT]
  refine takP 30 70 ?_ rfl (by kernel_rfl) (fun _ _ _ => id) ?hy (by assumption) ?_
  case hy => intro w' h; clear h; go_simp; try with_reducible rfl
  simp only [Act.put, sT]
  refine takP 31 71 ?_ rfl (by kernel_rfl) (fun _ _ _ => id) ?hy (by assumption) ?_
  case hy => intro w' h; clear h; go_simp; try with_reducible rfl
  simp only [Act.put, sT]
  refine takP 32 72 ?_ rfl (by kernel_rfl) (fun _ _ _ => id) ?hy (by assumption) ?_
  case hy => intro w' h; clear h; go_simp; try with_reducible rfl
  simp only [Act.put, sT]
  refine wpAnyH_ready (rs := [14]) (by kernel_rfl) (by simp) ?_
  refine AllReadyH.cons rfl (fun K hK => ?_) AllReadyH.nil
  rw [if_pos (by kernel_rfl)]
  try simp only [List.getElem_toArray]
  try simp only [List.getElem_cons_succ]
  try simp only [List.getElem_cons_zero]
  go_simp
  have HA1 := Lib.hid (show ((w0.alloc (.cells #[.int .u8 k0.x0, .int .u8 k0.x1, .int .u8 k0.x2, .int .u8 k0.x3, .int .u8 k0.x4, .int .u8 k0.x5, .int .u8 k0.x6, .int .u8 k0.x7, .int .u8 k1.x0, .int .u8 k1.x1, .int .u8 k1.x2, .int .u8 k1.x3, .int .u8 k1.x4, .int .u8 k1.x5, .int .u8 k1.x6, .int .u8 k1.x7] 27)).drew).heap[w0.heap.size]? = some (.cells #[.int .u8 k0.x0, .int .u8 k0.x1, .int .u8 k0.x2, .int .u8 k0.x3, .int .u8 k0.x4, .int .u8 k0.x5, .int .u8 k0.x6, .int .u8 k0.x7, .int .u8 k1.x0, .int .u8 k1.x1, .int .u8 k1.x2, .int .u8 k1.x3, .int .u8 k1.x4, .int .u8 k1.x5, .int .u8 k1.x6, .int .u8 k1.x7] 27 (0, 0)) from heap_alloc_new w0 _)
  have HB1 := Lib.hid ((Hb0.out.alloc Hb0.out.size (.cells #[.int .u8 k0.x0, .int .u8 k0.x1, .int .u8 k0.x2, .int .u8 k0.x3, .int .u8 k0.x4, .int .u8 k0.x5, .int .u8 k0.x6, .int .u8 k0.x7, .int .u8 k1.x0, .int .u8 k1.x1, .int .u8 k1.x2, .int .u8 k1.x3, .int .u8 k1.x4, .int .u8 k1.x5, .int .u8 k1.x6, .int .u8 k1.x7] 27)).drew)
  have HX1 := Lib.hid (show ((w0.alloc (.cells #[.int .u8 k0.x0, .int .u8 k0.x1, .int .u8 k0.x2, .int .u8 k0.x3, .int .u8 k0.x4, .int .u8 k0.x5, .int .u8 k0.x6, .int .u8 k0.x7, .int .u8 k1.x0, .int .u8 k1.x1, .int .u8 k1.x2, .int .u8 k1.x3, .int .u8 k1.x4, .int .u8 k1.x5, .int .u8 k1.x6, .int .u8 k1.x7] 27)).drew).heap[w.heap.size]? = some (.cells #[.int .u8 p.tb.x0, .int .u8 p.tb.x1, .int .u8 p.tb.x2, .int .u8 p.tb.x3, .int .u8 p.tb.x4, .int .u8 p.tb.x5, .int .u8 p.tb.x6, .int .u8 p.tb.x7, .slice (some ⟨b, o, none⟩) nk ck, .int .i64 p.s0, .int .i64 p.s1, .slice (some ⟨bn, on, none⟩) nn cn, .slice (some ⟨bf, of', none⟩) nf cf] 32 (0, 0)) from block_alloc HX0.out _)
  have HY1 := Lib.hid (show ((w0.alloc (.cells #[.int .u8 k0.x0, .int .u8 k0.x1, .int .u8 k0.x2, .int .u8 k0.x3, .int .u8 k0.x4, .int .u8 k0.x5, .int .u8 k0.x6, .int .u8 k0.x7, .int .u8 k1.x0, .int .u8 k1.x1, .int .u8 k1.x2, .int .u8 k1.x3, .int .u8 k1.x4, .int .u8 k1.x5, .int .u8 k1.x6, .int .u8 k1.x7] 27)).drew).heap[w.heap.size + 1]? = some (.cells #[.int .i64 0, .int .u8 0, .int .u8 0, .int .u8 0, .int .u8 0, .int .u8 0, .int .u8 0, .int .u8 0, .int .u8 0, .slice none 0 0, .int .i64 0, .int .i64 0, .int .i64 0] 40 (0, 0)) from block_alloc HY0.out _)
  generalize (w0.alloc (.cells #[.int .u8 k0.x0, .int .u8 k0.x1, .int .u8 k0.x2, .int .u8 k0.x3, .int .u8 k0.x4, .int .u8 k0.x5, .int .u8 k0.x6, .int .u8 k0.x7, .int .u8 k1.x0, .int .u8 k1.x1, .int .u8 k1.x2, .int .u8 k1.x3, .int .u8 k1.x4, .int .u8 k1.x5, .int .u8 k1.x6, .int .u8 k1.x7] 27)).drew = w1 at *
  have hz0 : w.heap.size + 2 = w0.heap.size := Hz0.out.symm
  have hlt1 := block_lt HA1.out
  refine hK.out _ _ ⟨HB1.out, HX1.out⟩ (fun _ => ?_)
  clear hK K
  try simp only [Act.put, sT]
  refine takP 33 73 ?_ rfl (by kernel_rfl) (fun _ _ _ => id) ?hy (by assumption) ?_
  case hy => intro w' h; clear h; go_simp; try with_reducible rfl
  simp only [Act.put, sT]
  refine wpAnyH_ready (rs := [34]) (by kernel_rfl) (by simp) ?_
  refine AllReadyH.cons rfl (fun K hK => ?_) AllReadyH.nil
  rw [if_pos (by kernel_rfl)]
  try simp only [List.getElem_toArray]
  try simp only [List.getElem_cons_succ]
  try simp only [List.getElem_cons_zero]
  refine wp_store_mid 40 _ _ (by rfl) (w.heap.size + 1) (0) #[.int .i64 1, .int .u8 p.tb.x0, .int .u8 p.tb.x1, .int .u8 p.tb.x2, .int .u8 p.tb.x3, .int .u8 p.tb.x4, .int .u8 p.tb.x5, .int .u8 p.tb.x6, .int .u8 p.tb.x7, .slice (some ⟨w0.heap.size, 0, none⟩) 2 2, .int .i64 1, .int .i64 p.s1, .int .i64 gf] (by rfl) (by rfl) (there_mid HY1.out (by simp)) (by kernel_rfl) (by kernel_rfl) ?_
  obtain ⟨s1', s2'⟩ := set_all HY1.out [.int .i64 1, .int .u8 p.tb.x0, .int .u8 p.tb.x1, .int .u8 p.tb.x2, .int .u8 p.tb.x3, .int .u8 p.tb.x4, .int .u8 p.tb.x5, .int .u8 p.tb.x6, .int .u8 p.tb.x7, .slice (some ⟨w0.heap.size, 0, none⟩) 2 2, .int .i64 1, .int .i64 p.s1, .int .i64 gf] (by simp)
  have HS1 := Lib.hid s1'
  have HB2 := Lib.hid (HB1.out.grown s2' HB1.out.size (fun k hk => by cases hk; omega))
  have HA2 := Lib.hid ((s2'.block w0.heap.size (by omega) (by intro e; injection e with e; omega)).trans HA1.out)
  refine hK.out _ _ ⟨HB2.out, (s2'.block w.heap.size (by omega) (by simp)).trans HX1.out⟩ (fun _ => ?_)
  clear hK K
  simp only [Act.put]
  refine takP 35 7 ?_ rfl (by kernel_rfl) (fun _ _ _ => id) ?hy (by assumption) ?_
  case hy => intro w' h; clear h; go_simp; try with_reducible rfl
  simp only [Act.put, sT]
  refine wpAnyH_done (by kernel_rfl) ?_ _
  clear s1' s2'
  go_wp2
  refine bodyPost_ret (results_cellT 6 7 40 (w.heap.size + 1) #[.int .i64 1, .int .u8 p.tb.x0, .int .u8 p.tb.x1, .int .u8 p.tb.x2, .int .u8 p.tb.x3, .int .u8 p.tb.x4, .int .u8 p.tb.x5, .int .u8 p.tb.x6, .int .u8 p.tb.x7, .slice (some ⟨w0.heap.size, 0, none⟩) 2 2, .int .i64 1, .int .i64 p.s1, .int .i64 gf] _ _ _ rfl rfl HS1.out Tryz.underlying40 rfl (by kernel_rfl)) rfl ?_
  unfold GivesLk
  rw [hun1.out]
  exact ⟨some ⟨w0.heap.size, 0, none⟩, 2, 2, rfl, rd_block HA2.out rfl rfl, Nat.le_refl _, HB2.out⟩
structure Lk.good (l : Lk) : Prop where
 k : l.kd = 1
 c : 1 ≤ l.cp ∧ l.cp ≤ 1125899906842624
 u : 0 ≤ l.un ∧ l.un ≤ 1099511627776
 n : l.ks.length = 2
 s : l.st = 0 ∨ l.st = 1
set_option maxRecDepth 100000 in
set_option maxHeartbeats 4000000 in
theorem lkcheck_good (l : Lk) (A : Option Addr) (c : Nat) (w : World) (h : l.good) :
  Calls Tryz.prog 17 #[.agg #[.int .i64 l.kd, .int .u8 l.hs.x0, .int .u8 l.hs.x1, .int .u8 l.hs.x2, .int .u8 l.hs.x3, .int .u8 l.hs.x4, .int .u8 l.hs.x5, .int .u8 l.hs.x6, .int .u8 l.hs.x7, .slice A 2 c, .int .i64 l.st, .int .i64 l.cp, .int .i64 l.un]] w fun e w' => e = .returned (.int .i64 0) ∧ Below w.heap.size w w' := by
 obtain ⟨kd, hs, ks, st, cp, un⟩ := l
 obtain ⟨hk, ⟨h1, h2⟩, ⟨h3, h4⟩, hn, hs0⟩ := h
 simp only at hk h1 h2 h3 h4 hn hs0
 subst hk
 have d1 : decide (cp < 1) = false := decide_eq_false (by omega)
 have d2 : decide (1125899906842624 < cp) = false := decide_eq_false (by omega)
 have d3 : decide (un < 0) = false := decide_eq_false (by omega)
 have d4 : decide (1099511627776 < un) = false := decide_eq_false (by omega)
 rcases hs0 with rfl | rfl
 ·go_enter Tryz.func17, Tryz.ntmps17
  go_wp2
  go_ret
  exact ⟨rfl, below_one _ _⟩
 ·go_enter Tryz.func17, Tryz.ntmps17
  go_wp2
  go_ret
  exact ⟨rfl, below_one _ _⟩
theorem sttext_any (t : List Nat) (s : ByteArray) (w : World) (hs : strCells s = bv t) (hsz : s.size = t.length) (hn' : s.size ≤ 400000000) : Calls Tryz.prog 134 #[.string s] w (GivesB w (encB t)) := by
 go_enter Tryz.func134, Tryz.ntmps134
 go_wp2_with (go_at_call 57; refine (putText_any none 0 0 [] t s w Rd.empty (by omega) hs hsz hn').mono ?_; rintro e w1 ⟨A1, n1, c1, rfl, ho, hn, hb⟩; have HO := Lib.hid ho; have HN := Lib.hid hn; have HB := Lib.hid hb; clear ho hn hb)
 go_ret
 exact ⟨A1, n1, c1, rfl, HO.out, HN.out, HB.out⟩
theorem stlist_any (A : Option Addr) (n c : Nat) (x : List Nat) (w : World) (hr : Rd w w.heap.size 1 A n (bv x)) (hn : n ≤ 400000000) : Calls Tryz.prog 135 #[.slice A n c] w (GivesB w (encB x)) := by
 go_enter Tryz.func135, Tryz.ntmps135
 go_wp2_with (go_at_call 130; refine (putBytes_any none A 0 0 n c [] x w Rd.empty (by omega) hr hn).mono ?_; rintro e w1 ⟨A1, n1, c1, rfl, ho, hn, hb⟩; have HO := Lib.hid ho; have HN := Lib.hid hn; have HB := Lib.hid hb; clear ho hn hb)
 go_ret
 exact ⟨A1, n1, c1, rfl, HO.out, HN.out, HB.out⟩
theorem stcount_any (n : Nat) (w : World) (hn : n ≤ 1000000) : Calls Tryz.prog 136 #[.int .i64 n] w (GivesB w (encN n)) := by
 have hni : (n : Int) ≤ 1000000 := by omega
 go_enter Tryz.func136, Tryz.ntmps136
 go_wp2_with (go_at_call 87; refine (putNum_any none 0 0 n [] w Rd.empty (by omega) (by omega)).mono ?_; rintro e w1 ⟨A1, n1, c1, rfl, ho, hn, hb⟩; have HO := Lib.hid ho; have HN := Lib.hid hn; have HB := Lib.hid hb; clear ho hn hb)
 go_ret
 exact ⟨A1, n1, c1, rfl, HO.out, HN.out, HB.out⟩
theorem stnumber_any (x : Int) (w : World) (h2 : -9223372036854775808 ≤ x) (h3 : x ≤ 9223372036854775807) : Calls Tryz.prog 137 #[.int .i64 x] w (GivesB w (encN (foldN x))) := by
 go_enter Tryz.func137, Tryz.ntmps137
 go_wp2_with (go_at_call 163; refine (putInt_any none 0 0 x [] w Rd.empty (by omega) h2 h3).mono ?_; rintro e w1 ⟨A1, n1, c1, rfl, ho, hn, hb⟩; have HO := Lib.hid ho; have HN := Lib.hid hn; have HB := Lib.hid hb; clear ho hn hb)
 go_ret
 exact ⟨A1, n1, c1, rfl, HO.out, HN.out, HB.out⟩
set_option maxRecDepth 100000 in
set_option maxHeartbeats 2000000 in
theorem grow_any (n : Nat) (w : World) (hn : n ≤ 1000000) :
  Calls Tryz.prog 172 #[.slice none 0 0, .int .i64 n] w fun e w' => ∃ A c, e = .returned (.slice A 0 c) ∧ w'.ownsRow w.heap.size 5 1 (.slice A 0 c) 0 [] ∧ Below w.heap.size w w' := by
 obtain ⟨i0, hi, hz0, hz1, hz2⟩ := info_parts info_u8
 have h1 : ¬ ((n : Int) < 0) := by omega
 by_cases h0 : n = 0
 ·subst h0
  go_enter Tryz.func172, Tryz.ntmps172
  go_wp2
  go_ret
  exact ⟨none, 0, rfl, World.ownsRow_nil _ _ _ _, Below.refl _ _⟩
 ·have h4 : decide (0 < (n : Int)) = true := decide_eq_true (by omega)
  have hp : (0 : Int) < (n : Int) := by omega
  have hni : (n : Int) ≤ 1000000 := by omega
  have hG := grownCap_ge w n 0 5
  have hGm := grownCap_le_maxLen w n 0 5 (by unfold maxLen; omega)
  have hrz : ∀ ty, (Builtin.append_ #[46, 3] ty #[.slice none 0 0, .int .i64 n]).run Tryz.prog w =
    .ok (.slice (some ⟨w.heap.size, 0, none⟩) n (grownCap w n 0 5)) (w.drew.alloc (.cells (#[] ++ Builtin.zeroCells (Value.int .u8 0).cells n ++ Builtin.zeroCells (Value.int .u8 0).cells (grownCap w n 0 5 - n)) 5)) := fun ty => by
   have h := Lib.run_append_grow_zeros w 46 3 ty 5 i0 (.int .u8 0) .i64 .i64 Tryz.underlying46 Tryz.underlying3 hi hz0 none 0 0 [] (run_firstCells_none w.drew i0.size 0 0 0) n (by omega) (by omega) (by omega) (by omega) (by rw [hz2]; omega)
    (growslice_fits (by omega) (by rw [hz2]; omega))
   rw [Nat.zero_add] at h
   exact h
  have hsz : (#[] ++ Builtin.zeroCells (Value.int .u8 0).cells n ++ Builtin.zeroCells (Value.int .u8 0).cells (grownCap w n 0 5 - n)).size = grownCap w n 0 5 * 1 := by
   simp [size_zeroCells, Value.cells]
   omega
  generalize grownCap w n 0 5 = G at *
  generalize #[] ++ Builtin.zeroCells (Value.int .u8 0).cells n ++ Builtin.zeroCells (Value.int .u8 0).cells (G - n) = cs at *
  have hGi : (G : Int) ≤ 9223372036854775807 := by unfold maxLen at hGm; omega
  go_enter Tryz.func172, Tryz.ntmps172
  go_wp2_with (at_builtin; refine Lib.wpList_append_run _ rfl _ _ _ _ rfl _ _ rfl rfl _ _ (hrz _) ?_)
  all_goals
   go_ret
   refine ⟨some ⟨w.heap.size, 0, none⟩, G, rfl, ⟨rfl, .inr ⟨w.heap.size, G, cs, rfl, Nat.le_refl _, heap_alloc_new w.drew _, by omega, hGm, by rw [hsz], by simp⟩⟩, (Below.refl _ _).drew.alloc (Nat.le_refl _) _⟩
def totL (ss : List (List Nat)) (k : Nat) : Nat := (ss.take k).flatten.length
theorem flat_succ {ss : List (List Nat)} {k : Nat} (h : k < ss.length) : (ss.take (k + 1)).flatten = (ss.take k).flatten ++ ss.getD k [] := by
 rw [List.take_succ_eq_append_getElem h, List.flatten_append]
 simp [List.getD_eq_getElem?_getD, h]
theorem totL_succ {ss : List (List Nat)} {k : Nat} (h : k < ss.length) : totL ss (k + 1) = totL ss k + (ss.getD k []).length := by
 unfold totL
 rw [flat_succ h, List.length_append]
theorem totL_le {ss : List (List Nat)} (hl : ∀ s ∈ ss, s.length ≤ 1000) : ∀ k, k ≤ ss.length → totL ss k ≤ 1000 * k
 | 0, _ => by simp [totL]
 | k + 1, hk => by
  rw [totL_succ (by omega)]
  have := totL_le hl k (by omega)
  have h2 := hl (ss.getD k []) (by rw [List.getD_eq_getElem?_getD, List.getElem?_eq_getElem (show k < ss.length by omega)]; exact List.getElem_mem _)
  omega
theorem SigRd.elem {w : World} {B n k : Nat} {A : Option Addr} {ss : List (List Nat)} (h : SigRd w B A n ss) (hk : k < n) : ∃ b o A' m c, A = some ⟨b, o, none⟩ ∧ b < B ∧ w.cell? ⟨b, o + k, none⟩ = some (.slice A' m c) ∧ Rd w B 1 A' m (bv (ss.getD k [])) := by
 obtain ⟨b, o, e, hb, hc⟩ := h.2 (by omega)
 obtain ⟨A', m, c, h1, h2⟩ := hc k hk
 exact ⟨b, o, A', m, c, e, hb, h1, h2⟩
set_option maxRecDepth 100000 in
set_option maxHeartbeats 2000000 in
theorem concat_any (A : Option Addr) (n c : Nat) (ss : List (List Nat)) (w : World) (h : SigRd w w.heap.size A n ss) (hn : n ≤ 100) (hl : ∀ s ∈ ss, s.length ≤ 1000) :
  Calls Tryz.prog 164 #[.slice A n c] w (GivesB w ss.flatten) := by
 have hlen := h.1
 have H := Lib.hid h
 have Hlen := Lib.hid hlen
 have HT := Lib.hid (totL_le hl)
 clear h
 go_enter Tryz.func164, Tryz.ntmps164
 go_wp2
 go_loopw [3, 11] (fun v i wr => wr = w ∧ ∃ k : Nat, k ≤ n ∧ i = .int .i64 k ∧ v = .int .i64 ((totL ss k : Nat) : Int)) (fun _ i _ => n - (RowKit.intOf i).toNat)
 case atStart => exact ⟨rfl, 0, by omega, rfl, by simp [totL]⟩
 case round =>
  obtain ⟨rfl, k, hk, rfl, rfl⟩ := hrel
  by_cases hlt : k < n
  ·obtain ⟨b, o, A', m, c', rfl, hbB, hx, hr⟩ := H.out.elem hlt
   have hd1 : decide ((k : Int) < (n : Int)) = true := decide_eq_true (by omega)
   have hki : (k : Int) < (n : Int) := by omega
   have ht1 := HT.out k (by rw [Hlen.out]; omega)
   have ht2 := HT.out (k + 1) (by rw [Hlen.out]; omega)
   have hs := totL_succ (ss := ss) (k := k) (by rw [Hlen.out]; exact hlt)
   have hm : (ss.getD k []).length = m := hr.blen
   rw [hm] at hs
   have HsQ := Lib.hid hs
   clear hr hm hs
   generalize ht0 : totL ss k = q at *
   have Ht0 := Lib.hid ht0
   clear ht0
   have hmi : (q : Int) + (m : Int) ≤ 1000000 := by have := HsQ.out; omega
   have hq0 : decide ((q : Int) + (m : Int) < 0) = false := decide_eq_false (by omega)
   go_wp2
   go_roundw
   case rel => exact ⟨trivial, k + 1, hlt, by go_num, by rw [HsQ.out]; go_num⟩
   case measure => simp [RowKit.intOf]; omega
  ·have hkn : k = n := by omega
   subst hkn
   have hd1 : decide ((k : Int) < (k : Int)) = false := decide_eq_false (by omega)
   have ht1 := HT.out k (by rw [Hlen.out]; omega)
   obtain ⟨i0, hi, hz0, hz1, hz2⟩ := info_parts info_u8
   have HI := Lib.hid (And.intro hi (And.intro hz0 (And.intro hz1 hz2))); clear hi hz0 hz1 hz2
   generalize totL ss k = q at *
   clear hlt hlen
   obtain ⟨w1, rfl⟩ : ∃ w1 : World, w1 = wr := ⟨_, rfl⟩
   go_wp2_with fail
   refine (grow_any q w1 (by omega)).mono ?_
   rintro e w2 ⟨A2, c2, rfl, ho2, hb2⟩
   have HO2 := Lib.hid ho2; have HB2 := Lib.hid hb2
   clear ho2 hb2
   go_wp2
   go_loopw [6, 27] (fun v i wr => ∃ (j m : Nat) (A' : Option Addr) (c' : Nat), j ≤ k ∧ i = .int .i64 j ∧ v = .slice A' m c' ∧ Hid (m = (ss.take j).flatten.length) ∧ Hid (wr.ownsRow w1.heap.size 5 1 (.slice A' m c') m (bv (ss.take j).flatten)) ∧ Hid (Below w1.heap.size w1 wr)) (fun _ i _ => k - (RowKit.intOf i).toNat)
   case atStart => exact ⟨0, 0, A2, c2, by omega, rfl, rfl, Lib.hid (by simp), Lib.hid (by simpa [bv] using HO2.out), HB2⟩
   case round =>
    obtain ⟨j, m, A', c', hj, rfl, rfl, Hm, HO, HB⟩ := hrel
    by_cases hlt : j < k
    ·obtain ⟨b, o, A3, m3, c3, rfl, hbB, hx, hr⟩ := (H.out.below HB.out (Nat.le_refl _)).elem hlt
     have hd1 : decide ((j : Int) < (k : Int)) = true := decide_eq_true (by omega)
     have hki : (j : Int) < (k : Int) := by omega
     have ht2 := HT.out j (by rw [Hlen.out]; omega)
     have ht3 := HT.out (j + 1) (by rw [Hlen.out]; omega)
     have hs := flat_succ (ss := ss) (k := j) (by rw [Hlen.out]; exact hlt)
     have hm3 : (ss.getD j []).length = m3 := hr.blen
     have Hr := Lib.hid hr
     have hmm : m + m3 ≤ 100000 := by
      have e1 := Hm.out
      unfold totL at ht3
      rw [hs, List.length_append, hm3] at ht3
      omega
     have HsQ := Lib.hid hs
     have Hm3 := Lib.hid hm3
     clear hr hs hm3 ht2 ht3
     have hbs := HB.out.size
     go_wp2_with (at_builtin; go_must (refine wpList_append_rd wr (by rfl) _ _ 46 (by rfl) w1.heap.size 5 i0 (.int .u8 0) 1 1 Tryz.underlying46 HI.out rfl (by decide) _ _ _ (by rfl) HO.out w1.heap.size A3 m3 c3 _ (by rfl) Hr.out (bv_one _) (by omega) (by omega) hbs ?_); intro v4 w4 ho4 hb4; obtain ⟨A4, c4, rfl⟩ := own_form ho4; have HO4 := Lib.hid ho4; have HB4 := Lib.hid (HB.out.trans hb4); clear ho4 hb4)
     go_roundw
     case rel => exact ⟨j + 1, m + m3, A4, c4, hlt, by go_num, rfl, Lib.hid (by rw [HsQ.out, List.length_append, Hm3.out, ← Hm.out]), Lib.hid (by rw [HsQ.out, bv_append]; exact HO4.out), HB4⟩
     case measure => simp [RowKit.intOf]; omega
    ·have hkn : j = k := by omega
     subst hkn
     have hd1 : decide ((j : Int) < (j : Int)) = false := decide_eq_false (by omega)
     clear hlt
     go_wp2
     go_ret
     have e : ss.take j = ss := List.take_of_length_le (by rw [Hlen.out]; omega)
     have h1 := HO.out; have h2 := Hm.out
     rw [e] at h1 h2
     exact ⟨A', m, c', rfl, h1, h2, HB.out⟩
theorem join_any (A : Option Addr) (n c : Nat) (ss : List (List Nat)) (w : World) (h : SigRd w w.heap.size A n ss) (hn : n ≤ 100) (hl : ∀ s ∈ ss, s.length ≤ 1000) :
  Calls Tryz.prog 138 #[.slice A n c] w (GivesB w ss.flatten) := by
 go_enter Tryz.func138, Tryz.ntmps138
 go_wp2_with (go_at_call 164; refine (concat_any A n c ss w h hn hl).mono ?_; rintro e w1 ⟨A1, n1, c1, rfl, ho, hn, hb⟩; have HO := Lib.hid ho; have HN := Lib.hid hn; have HB := Lib.hid hb; clear ho hn hb)
 go_ret
 exact ⟨A1, n1, c1, rfl, HO.out, HN.out, HB.out⟩
theorem sigrd_of_own {w : World} {C n c : Nat} {A : Option Addr} {vs : List Value} {ss : List (List Nat)} (h : w.ownsRow C 46 1 (.slice A n c) n vs) (hl : ss.length = n)
  (hk : ∀ k, k < n → ∃ A' m c', vs[k]? = some (.slice A' m c') ∧ Rd w w.heap.size 1 A' m (bv (ss.getD k []))) : SigRd w w.heap.size A n ss := by
 refine ⟨hl, fun hn => ?_⟩
 obtain ⟨b, o, e, hb, hc⟩ := (Rd.of_own h).2 hn
 refine ⟨b, o, e, hb, fun k hk1 => ?_⟩
 obtain ⟨A', m, c', h1, h2⟩ := hk k hk1
 exact ⟨A', m, c', hc k _ h1, h2⟩
theorem own_apart {w : World} {b1 b2 s1 s2 n1 n2 : Nat} {e1 e2 : TypeId} {v1 v2 : Value} {x1 x2 : List Value} (h1 : w.ownsRow b1 e1 s1 v1 n1 x1) (h2 : w.ownsRow b2 e2 s2 v2 n2 x2) (he : e1 ≠ e2) : v1.ownBlock = none ∨ v1.ownBlock ≠ v2.ownBlock := by
 cases hv : v1.ownBlock with
 | none => exact .inl rfl
 | some g =>
  right
  intro e
  rcases h2.2 with ⟨rfl, _⟩ | ⟨g', cap, cur, rfl, _, hg, _⟩
  ·simp [Value.ownBlock] at e
  ·have e' : g = g' := by simpa [Value.ownBlock] using e
   subst e'
   exact own_ne h1 hg (by first | exact he | exact fun q => he q.symm) hv.symm
theorem info_bytes : (Tryz.prog.info? 46).map (fun i => (i.zero, i.size, i.bytes)) = some (some (.slice none 0 0), 1, 24) := by kernel_rfl
def okPay (a : Int) : Prop := 0 ≤ a ∧ a ≤ 1125899906842624
theorem pay_flat (tb : D8) (a b : Int) : [encB payT, encB tb.bytes, encN 2, encN (foldN a), encN (foldN b)].flatten = payB tb [a, b] := by
 unfold payB encPs
 simp
theorem pay_256 {tb : D8} {a b : Int} (ht : tb.ok) (ha : okPay a) (hb : okPay b) : ∀ x ∈ payB tb [a, b], x < 256 := by
 obtain ⟨h1, h2⟩ := ha; obtain ⟨h3, h4⟩ := hb
 unfold payB encPs
 refine app_256 (app_256 (app_256 (encB_256 (by decide) (by decide)) (d8bytes_256 ht)) (encN_256 (show 2 < 18446744073709551616 by decide))) (flat_256 fun n hn => encN_256 (foldN_lt ?_ ?_))
 ·simp at hn; rcases hn with rfl | rfl <;> omega
 ·simp at hn; rcases hn with rfl | rfl <;> omega
set_option maxRecDepth 100000 in
set_option maxHeartbeats 4000000 in
theorem payd_any (tb : D8) (a b : Int) (A : Option Addr) (c : Nat) (w : World) (ht : tb.ok) (ha : okPay a) (hb : okPay b) (hr : Rd w w.heap.size 1 A 2 (ivs [a, b])) :
  Calls Tryz.prog 75 #[.agg #[.int .u8 tb.x0, .int .u8 tb.x1, .int .u8 tb.x2, .int .u8 tb.x3, .int .u8 tb.x4, .int .u8 tb.x5, .int .u8 tb.x6, .int .u8 tb.x7, .slice A 2 c]] w fun e w' => e = .returned (.agg #[.int .u8 (payD tb [a, b]).x0, .int .u8 (payD tb [a, b]).x1, .int .u8 (payD tb [a, b]).x2, .int .u8 (payD tb [a, b]).x3, .int .u8 (payD tb [a, b]).x4, .int .u8 (payD tb [a, b]).x5, .int .u8 (payD tb [a, b]).x6, .int .u8 (payD tb [a, b]).x7]) ∧ Below w.heap.size w w' := by
 have HX0 : Hid (((w.alloc (.cells #[.int .u8 tb.x0, .int .u8 tb.x1, .int .u8 tb.x2, .int .u8 tb.x3, .int .u8 tb.x4, .int .u8 tb.x5, .int .u8 tb.x6, .int .u8 tb.x7, .slice A 2 c] 132)).alloc (.cells #[.int .u8 0, .int .u8 0, .int .u8 0, .int .u8 0, .int .u8 0, .int .u8 0, .int .u8 0, .int .u8 0] 27)).heap[w.heap.size]? = some (.cells #[.int .u8 tb.x0, .int .u8 tb.x1, .int .u8 tb.x2, .int .u8 tb.x3, .int .u8 tb.x4, .int .u8 tb.x5, .int .u8 tb.x6, .int .u8 tb.x7, .slice A 2 c] 132 (0, 0))) := block_alloc (heap_alloc_new _ _) _
 have HY0 : Hid (((w.alloc (.cells #[.int .u8 tb.x0, .int .u8 tb.x1, .int .u8 tb.x2, .int .u8 tb.x3, .int .u8 tb.x4, .int .u8 tb.x5, .int .u8 tb.x6, .int .u8 tb.x7, .slice A 2 c] 132)).alloc (.cells #[.int .u8 0, .int .u8 0, .int .u8 0, .int .u8 0, .int .u8 0, .int .u8 0, .int .u8 0, .int .u8 0] 27)).heap[w.heap.size + 1]? = some (.cells #[.int .u8 0, .int .u8 0, .int .u8 0, .int .u8 0, .int .u8 0, .int .u8 0, .int .u8 0, .int .u8 0] 27 (0, 0))) := alloc_at (by simp)
 have Hb0 : Hid (Below w.heap.size w ((w.alloc (.cells #[.int .u8 tb.x0, .int .u8 tb.x1, .int .u8 tb.x2, .int .u8 tb.x3, .int .u8 tb.x4, .int .u8 tb.x5, .int .u8 tb.x6, .int .u8 tb.x7, .slice A 2 c] 132)).alloc (.cells #[.int .u8 0, .int .u8 0, .int .u8 0, .int .u8 0, .int .u8 0, .int .u8 0, .int .u8 0, .int .u8 0] 27))) := below_two _ _ _
 have Hz0 : Hid (((w.alloc (.cells #[.int .u8 tb.x0, .int .u8 tb.x1, .int .u8 tb.x2, .int .u8 tb.x3, .int .u8 tb.x4, .int .u8 tb.x5, .int .u8 tb.x6, .int .u8 tb.x7, .slice A 2 c] 132)).alloc (.cells #[.int .u8 0, .int .u8 0, .int .u8 0, .int .u8 0, .int .u8 0, .int .u8 0, .int .u8 0, .int .u8 0] 27)).heap.size = w.heap.size + 2) := by show _ = _; simp
 obtain ⟨pb, po, rfl, hpb, hp0⟩ := hr.iat (k := 0) (by omega)
 obtain ⟨pb', po', e', _, hp1⟩ := hr.iat (k := 1) (by omega)
 injection e' with e'; injection e' with e1 e2; subst e1 e2
 simp only [Nat.add_zero, List.getD_cons_zero, List.getD_cons_succ] at hp0 hp1
 clear hr
 obtain ⟨i0, hi, hz0, hz1, hz2⟩ := info_parts info_bytes
 have HI := Lib.hid (And.intro hi (And.intro hz0 (And.intro hz1 hz2))); clear hi hz0 hz1 hz2
 have HT := Lib.hid ht; have HA := Lib.hid ha; have HB := Lib.hid hb
 clear ht ha hb
 go_enter Tryz.func75, Tryz.ntmps75
 go_upto_region 1 with fail
 generalize (w.alloc (.cells #[.int .u8 tb.x0, .int .u8 tb.x1, .int .u8 tb.x2, .int .u8 tb.x3, .int .u8 tb.x4, .int .u8 tb.x5, .int .u8 tb.x6, .int .u8 tb.x7, .slice (some ⟨pb, po, none⟩) 2 c] 132)).alloc (.cells #[.int .u8 0, .int .u8 0, .int .u8 0, .int .u8 0, .int .u8 0, .int .u8 0, .int .u8 0, .int .u8 0] 27) = w0 at *
 have hzl : w.heap.size < w0.heap.size := by have := Hz0.out; omega
 have hzl2 : w.heap.size + 1 < w0.heap.size := by have := Hz0.out; omega
 refine wp_region_held_drew (S := fun w' => Below w0.heap.size w0 w') (by kernel_rfl) (Below.refl _ _).drew (fun hHeld => ?_)
 have c8 : ∀ w', Below w0.heap.size w0 w' → w'.cell? ⟨w.heap.size, 8, none⟩ = some (.slice (some ⟨pb, po, none⟩) 2 c) := fun w' hw' => by have := block_cell (block_below HX0.out hw' hzl) 8; simpa using this
 refine takP 1 7 ?_ rfl (by kernel_rfl) (fun _ _ _ => id) ?hy (by assumption) ?_
 case hy => intro w' h; clear h; go_simp; try with_reducible rfl
 simp only [Act.put, sT]
 refine takP 2 8 ?_ rfl (by kernel_rfl) (fun _ _ _ => id) ?hy (by assumption) ?_
 case hy => intro w' h; clear h; go_simp; try with_reducible rfl
 simp only [Act.put, sT]
 refine takP 4 10 ?_ rfl (by kernel_rfl) (fun _ _ _ => id) ?hy (by assumption) ?_
 case hy => intro w' h; clear h; go_simp; try with_reducible rfl
 simp only [Act.put, sT]
 refine takP 5 11 ?_ rfl (by kernel_rfl) (fun _ _ _ => id) ?hy (by assumption) ?_
 case hy => intro w' h; have hx := c8 w' h; clear h; go_simp; try with_reducible rfl
 simp only [Act.put, sT]
 refine takP 6 12 ?_ rfl (by kernel_rfl) (fun _ _ _ => id) ?hy (by assumption) ?_
 case hy => intro w' h; clear h; go_simp; try with_reducible rfl
 simp only [Act.put, sT]
 refine wpAnyH_ready (rs := [0]) (by kernel_rfl) (by simp) ?_
 refine AllReadyH.cons rfl (fun K hK => ?_) AllReadyH.nil
 rw [if_pos (by kernel_rfl)]
 try simp only [List.getElem_toArray]
 try simp only [List.getElem_cons_succ]
 try simp only [List.getElem_cons_zero]
 go_simp
 go_at_call 134
 refine (sttext_any payT _ w0.drew (by rfl) (by rfl) (by decide)).mono ?_
 rintro e w1 ⟨A1, n1, c1, rfl, ho1, hn1, hb1⟩
 have HB1 := Lib.hid ((Below.refl w0.heap.size w0).drew.trans hb1)
 have HR1 := Lib.hid (Rd.of_own ho1)
 clear ho1 hb1 hn1
 refine hK.out _ _ HB1.out (fun _ => ?_)
 clear hK K
 try simp only [Act.put, sT]
 refine wpAnyH_ready (rs := [3]) (by kernel_rfl) (by simp) ?_
 refine AllReadyH.cons rfl (fun K hK => ?_) AllReadyH.nil
 rw [if_pos (by kernel_rfl)]
 try simp only [List.getElem_toArray]
 try simp only [List.getElem_cons_succ]
 try simp only [List.getElem_cons_zero]
 go_simp
 go_at_call 135
 refine (stlist_any (some ⟨w.heap.size, 0, none⟩) 8 8 tb.bytes w1 (rd_bytes (o := 0) tb (block_below HX0.out HB1.out hzl) rfl) (by omega)).mono ?_
 rintro e w2 ⟨A2, n2, c2, rfl, ho2, hn2, hb2⟩
 have HB2 := Lib.hid (HB1.out.trans (hb2.mono HB1.out.size))
 have HR2 := Lib.hid (Rd.of_own ho2)
 have HR12 := Lib.hid ((HR1.out.below hb2 (Nat.le_refl _)).more hb2.size)
 clear ho2 hb2 hn2
 refine hK.out _ _ HB2.out (fun _ => ?_)
 clear hK K
 try simp only [Act.put, sT]
 refine wpAnyH_ready (rs := [7]) (by kernel_rfl) (by simp) ?_
 refine AllReadyH.cons rfl (fun K hK => ?_) AllReadyH.nil
 rw [if_pos (by kernel_rfl)]
 try simp only [List.getElem_toArray]
 try simp only [List.getElem_cons_succ]
 try simp only [List.getElem_cons_zero]
 go_simp
 go_at_call 136
 refine (stcount_any 2 w2 (by omega)).mono ?_
 rintro e w3 ⟨A3, n3, c3, rfl, ho3, hn3, hb3⟩
 have HB3 := Lib.hid (HB2.out.trans (hb3.mono HB2.out.size))
 have HR3 := Lib.hid (Rd.of_own ho3)
 have HR13 := Lib.hid ((HR12.out.below hb3 (Nat.le_refl _)).more hb3.size)
 have HR23 := Lib.hid ((HR2.out.below hb3 (Nat.le_refl _)).more hb3.size)
 clear ho3 hb3 hn3
 refine hK.out _ _ HB3.out (fun _ => ?_)
 clear hK K
 try simp only [Act.put, sT]
 refine wpAnyH_ready (rs := [8]) (by kernel_rfl) (by simp) ?_
 refine AllReadyH.cons rfl (fun K hK => ?_) AllReadyH.nil
 rw [if_pos (by kernel_rfl)]
 try simp only [List.getElem_toArray]
 try simp only [List.getElem_cons_succ]
 try simp only [List.getElem_cons_zero]
 go_simp
 have HB4 := Lib.hid (HB3.out.alloc HB3.out.size (.cells #[.slice A1 n1 c1, .slice A2 n2 c2, .slice A3 n3 c3] 46))
 have hO4 : (w3.alloc (.cells #[.slice A1 n1 c1, .slice A2 n2 c2, .slice A3 n3 c3] 46)).ownsRow w3.heap.size 46 1 (.slice (some ⟨w3.heap.size, 0, none⟩) 3 3) 3 [.slice A1 n1 c1, .slice A2 n2 c2, .slice A3 n3 c3] :=
  ⟨rfl, .inr ⟨w3.heap.size, 3, #[.slice A1 n1 c1, .slice A2 n2 c2, .slice A3 n3 c3], rfl, Nat.le_refl _, heap_alloc_new _ _, Nat.le_refl _, by simp [maxLen], rfl, rfl⟩⟩
 have HO4 := Lib.hid hO4
 clear hO4
 have HBa := Lib.hid (h_one w3 (.cells #[.slice A1 n1 c1, .slice A2 n2 c2, .slice A3 n3 c3] 46))
 generalize w3.alloc (.cells #[.slice A1 n1 c1, .slice A2 n2 c2, .slice A3 n3 c3] 46) = w4 at *
 refine hK.out _ _ HB4.out (fun _ => ?_)
 clear hK K
 try simp only [Act.put, sT]
 refine takP 9 3 ?_ rfl (by kernel_rfl) (fun _ _ _ => id) ?hy (by assumption) ?_
 case hy => intro w' h; clear h; go_simp; try with_reducible rfl
 simp only [Act.put, sT]
 refine wpAnyH_done (by kernel_rfl) ?_ _
 have r8 := c8 _ HB4.out
 have q0 := (HB4.out.cell (p := ⟨pb, po, none⟩) (by show pb < _; omega)).trans ((Hb0.out.cell (p := ⟨pb, po, none⟩) hpb).trans hp0)
 have q1 := (HB4.out.cell (p := ⟨pb, po + 1, none⟩) (by show pb < _; omega)).trans ((Hb0.out.cell (p := ⟨pb, po + 1, none⟩) hpb).trans hp1)
 obtain ⟨ha1, ha2⟩ := HA.out
 obtain ⟨hb1, hb2⟩ := HB.out
 go_wp2
 refine wp_loop_rounds 3 ?_
 rw [rounds_succ]
 go_wp2_with fail
 refine (stnumber_any a w4 (by omega) (by omega)).mono ?_
 rintro e w5 ⟨A5, n5, c5, rfl, ho5, hn5, hb5⟩
 have HB5 := Lib.hid (HB4.out.trans (hb5.mono HB4.out.size))
 have HQ5 := Lib.hid ho5
 have HO5 := Lib.hid (own_below HO4.out hb5)
 have Hb5 := Lib.hid (HBa.out.trans (hb5.mono HBa.out.size))
 clear ho5 hn5 hb5 q0
 have h35 := Hb5.out.size
 go_wp2_with (at_builtin; go_must (refine append_at w5 (by rfl) _ _ 57 (by rfl) w3.heap.size 46 i0 (.slice none 0 0) 1 24 Tryz.underlying57 HI.out rfl (by decide) _ _ _ (by rfl) HO5.out 1 1 #[.slice A5 n5 c5] 46 (by rfl) rfl (by simp [Value.oneCell']) (by omega) (by omega) h35 ?_); intro v6 w6 ho6 hb6 hg6 _; obtain ⟨A6, c6, rfl⟩ := own_form ho6; have HO6 := Lib.hid ho6; have Hb6 := Lib.hid (Hb5.out.trans hb6); have HQ6 := Lib.hid ((World.ownsRow.alloc HQ5.out (.cells #[.slice A5 n5 c5] 46)).kept hg6 (own_apart HQ5.out HO5.out (by decide))); clear ho6 hb6 hg6)
 have h36 := Hb6.out.size
 have h03 := HB3.out.size
 have q1 := (Hb6.out.cell (p := ⟨pb, po + 1, none⟩) (by show pb < _; omega)).trans ((HB3.out.cell (p := ⟨pb, po + 1, none⟩) (by show pb < _; omega)).trans ((Hb0.out.cell (p := ⟨pb, po + 1, none⟩) hpb).trans hp1))
 rw [rounds_succ]
 go_wp2_with fail
 refine (stnumber_any b w6 (by omega) (by omega)).mono ?_
 rintro e w7 ⟨A7, n7, c7, rfl, ho7, hn7, hb7⟩
 have HQ7 := Lib.hid ho7
 have HO7 := Lib.hid (own_below HO6.out hb7)
 have HQ57 := Lib.hid (own_below HQ6.out hb7)
 have Hb7 := Lib.hid (Hb6.out.trans (hb7.mono Hb6.out.size))
 clear ho7 hn7 hb7 q1 h36
 have h37 := Hb7.out.size
 go_wp2_with (at_builtin; go_must (refine append_at w7 (by rfl) _ _ 57 (by rfl) w3.heap.size 46 i0 (.slice none 0 0) 1 24 Tryz.underlying57 HI.out rfl (by decide) _ _ _ (by rfl) HO7.out 1 1 #[.slice A7 n7 c7] 46 (by rfl) rfl (by simp [Value.oneCell']) (by omega) (by omega) h37 ?_); intro v8 w8 ho8 hb8 hg8 _; obtain ⟨A8, c8', rfl⟩ := own_form ho8; have HO8 := Lib.hid ho8; have Hb8 := Lib.hid (Hb7.out.trans hb8); have HQ58 := Lib.hid ((World.ownsRow.alloc HQ57.out (.cells #[.slice A7 n7 c7] 46)).kept hg8 (own_apart HQ57.out HO7.out (by decide))); have HQ78 := Lib.hid ((World.ownsRow.alloc HQ7.out (.cells #[.slice A7 n7 c7] 46)).kept hg8 (own_apart HQ7.out HO7.out (by decide))); clear ho8 hb8 hg8)
 rw [rounds_succ]
 have HS : Hid (SigRd w8 w8.heap.size A8 5 [encB payT, encB tb.bytes, encN 2, encN (foldN a), encN (foldN b)]) := Lib.hid (sigrd_of_own HO8.out rfl (fun k hk => by
  have hsz := Hb8.out.size
  match k, hk with
  | 0, _ => exact ⟨A1, n1, c1, rfl, (HR13.out.below Hb8.out (Nat.le_refl _)).more hsz⟩
  | 1, _ => exact ⟨A2, n2, c2, rfl, (HR23.out.below Hb8.out (Nat.le_refl _)).more hsz⟩
  | 2, _ => exact ⟨A3, n3, c3, rfl, (HR3.out.below Hb8.out (Nat.le_refl _)).more hsz⟩
  | 3, _ => exact ⟨A5, n5, c5, rfl, Rd.of_own HQ58.out⟩
  | 4, _ => exact ⟨A7, n7, c7, rfl, Rd.of_own HQ78.out⟩))
 go_wp2_with fail
 refine (join_any A8 5 c8' _ w8 HS.out (by omega) (by
  intro s hs
  have e1 := encN_len (foldN a); have e2 := encN_len (foldN b)
  simp only [List.mem_cons, List.not_mem_nil, or_false] at hs
  rcases hs with rfl | rfl | rfl | rfl | rfl
  ·decide
  ·have := encB8 tb; omega
  ·have := encN_len 2; omega
  ·omega
  ·omega)).mono ?_
 rintro e w9 ⟨A9, n9, c9, rfl, ho9, hn9, hb9⟩
 rw [pay_flat] at ho9 hn9
 have HR9 := Lib.hid (Rd.of_own ho9)
 have hcap := own_cap ho9
 have hl9 : n9 ≤ 1000 := by
  rw [hn9, ← pay_flat]
  have e1 := encN_len (foldN a); have e2 := encN_len (foldN b); have e3 := encB8 tb; have e4 := encN_len 2
  have e5 : (encB payT).length = 4 := rfl
  simp only [List.flatten_cons, List.flatten_nil, List.length_append, List.length_nil]
  omega
 have HBz : Hid (Below w0.heap.size w0 w9) := Lib.hid (HB3.out.trans ((Hb8.out.mono h03).trans (hb9.mono (by have := Hb8.out.size; omega))))
 clear ho9 hn9 hb9
 go_wp2_with fail
 refine (hof_any A9 n9 c9 (payB tb [a, b]) w9 HR9.out (by omega) hcap (pay_256 HT.out HA.out HB.out)).mono ?_
 rintro e w10 ⟨rfl, hb10⟩
 have Hbx := Lib.hid (block_below HY0.out (HBz.out.trans (hb10.mono HBz.out.size)) hzl2)
 have Hbw := Lib.hid (Hb0.out.trans ((HBz.out.trans (hb10.mono HBz.out.size)).mono Hb0.out.size))
 have Hdg : Hid (hashOf (payB tb [a, b]) = payD tb [a, b]) := Lib.hid rfl
 clear hb10
 obtain ⟨zf, r0, r1, r2, r3, r4, r5, r6, r7⟩ := free8 Hbx.out
 generalize hashOf (payB tb [a, b]) = d at *
 go_wp2
 clear zf r0 r1 r2 r3 r4 r5 r6 r7
 have h8 := set8 Hbx.out (.int .u8 d.x0) (.int .u8 d.x1) (.int .u8 d.x2) (.int .u8 d.x3) (.int .u8 d.x4) (.int .u8 d.x5) (.int .u8 d.x6) (.int .u8 d.x7)
 have hg8 := grown_set8 w10 (w.heap.size + 1) (.int .u8 d.x0) (.int .u8 d.x1) (.int .u8 d.x2) (.int .u8 d.x3) (.int .u8 d.x4) (.int .u8 d.x5) (.int .u8 d.x6) (.int .u8 d.x7)
 generalize ((((((((w10.setCell ⟨w.heap.size + 1, 0, none⟩ (.int .u8 d.x0)).setCell ⟨w.heap.size + 1, 1, none⟩ (.int .u8 d.x1)).setCell ⟨w.heap.size + 1, 2, none⟩ (.int .u8 d.x2)).setCell ⟨w.heap.size + 1, 3, none⟩ (.int .u8 d.x3)).setCell ⟨w.heap.size + 1, 4, none⟩ (.int .u8 d.x4)).setCell ⟨w.heap.size + 1, 5, none⟩ (.int .u8 d.x5)).setCell ⟨w.heap.size + 1, 6, none⟩ (.int .u8 d.x6)).setCell ⟨w.heap.size + 1, 7, none⟩ (.int .u8 d.x7)) = w11 at *
 obtain ⟨zf, r0, r1, r2, r3, r4, r5, r6, r7⟩ := free8 h8
 have Hb2 := Lib.hid (Hbw.out.grown hg8 Hbw.out.size (fun k hk => by injection hk with hk; omega))
 clear h8 hg8
 exact bodyPost_ret (v := .agg #[.int .u8 d.x0, .int .u8 d.x1, .int .u8 d.x2, .int .u8 d.x3, .int .u8 d.x4, .int .u8 d.x5, .int .u8 d.x6, .int .u8 d.x7]) (by simp [results, Tryz.results75, go_sem, r0, r1, r2, r3, r4, r5, r6, r7]) rfl ⟨by rw [Hdg.out], Hb2.out⟩
end Go.Proofs.YthhiookcknnmdaaGreat
