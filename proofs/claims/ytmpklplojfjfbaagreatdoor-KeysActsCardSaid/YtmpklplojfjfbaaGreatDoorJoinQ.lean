/- Plain laws of layer 1's bytes: what is read is what was put, and there is one writing. No program in them, so there is no condition. A ring's bytes read: the walks of Open's two functions. Condition: none. A ring of bytes: the walk of Open. Condition: bounds on how many bytes. What a ring's bytes are read as, plainly. Nothing of the program stands in it, so there is no condition. -/
import Derived.Test.YtmpklplojfjfbaaGreatDoorJoinV
import Derived.Test.YtmpklplojfjfbaaGreatDoorJoinA
import Derived.Test.YtmpklplojfjfbaaGreatDoorKgI
import Derived.Test.YtmpklplojfjfbaaGreatDoorKgS
import Derived.Test.YtmpklplojfjfbaaGreatDoorJoinK
namespace Go.Proofs.YtmpklplojfjfbaaGreatDoor
theorem bytesRS_step {l : List Nat} {at_ most : Nat} {x r : List Nat} (hd : l.drop at_ = encB x ++ r) (hv : x.length < 18446744073709551616) (hm : x.length ≤ most) :
    bytesRS ⟨l, at_, 0⟩ most = (⟨l, at_ + (encB x).length, 0⟩, x) ∧ l.drop (at_ + (encB x).length) = r := by
  have hd2 : l.drop at_ = encN x.length ++ (x ++ r) := by rw [hd]; unfold encB; rw [List.append_assoc]
  have ht : takeB (l.drop at_) most = ((encN x.length).length + x.length, 0, x) := by
    rw [hd2]
    unfold takeB
    rw [encN_look hv]
    simp only
    rw [if_neg (by simp), if_neg (by omega), if_neg (by simp only [List.length_append]; omega), List.drop_left, List.take_left]
  refine ⟨?_, by rw [← List.drop_drop, hd, List.drop_left]⟩
  unfold bytesRS
  simp only
  rw [if_neg (by simp), ht]
  simp only
  rw [if_neg (by simp)]
  unfold encB
  rw [List.length_append]
theorem bytesRS_one {s : RS} {m : Nat} (hb : ∀ x ∈ s.l, x < 256) (h : (bytesRS s m).1.err = 0) : s.err = 0 ∧ s.l.drop s.at_ = encB (bytesRS s m).2 ++ s.l.drop (bytesRS s m).1.at_ := by
  obtain ⟨l, at_, err⟩ := s
  unfold bytesRS at h ⊢
  by_cases he : err = 0
  · refine ⟨he, ?_⟩
    rw [if_neg (by simpa using he)] at h ⊢
    split
    · rename_i ht
      rw [if_pos ht] at h
      exact absurd h ht
    · rename_i ht
      simp only
      generalize hd : l.drop at_ = r at *
      have hbr : ∀ x ∈ r, x < 256 := fun x hx => hb x (by rw [← hd] at hx; exact List.mem_of_mem_drop hx)
      unfold takeB at ht ⊢
      by_cases h1 : (lookN r).2.2 = 0
      · rw [if_neg (by simp [h1])] at ht ⊢
        split
        · rename_i h4; rw [if_pos h4] at ht; simp at ht
        · rename_i h4
          rw [if_neg h4] at ht
          split
          · rename_i h5; rw [if_pos h5] at ht; simp at ht
          · rename_i h5
            simp only
            have e1 := look_one hbr h1
            have hk := lookN_len r
            have hlen : ((r.drop (lookN r).2.1).take (lookN r).1).length = (lookN r).1 := by rw [List.length_take, List.length_drop]; omega
            unfold encB
            rw [hlen, ← e1, List.append_assoc, ← List.drop_drop, hd]
            have : (r.drop (lookN r).2.1).take (lookN r).1 ++ r.drop ((lookN r).2.1 + (lookN r).1) = r.drop (lookN r).2.1 := by
              rw [← List.drop_drop, List.take_append_drop]
            rw [this, List.take_append_drop]
      · rw [if_pos (by simpa using h1)] at ht
        exact absurd h1 (by simpa using ht)
  · rw [if_pos (by simpa using he)] at h
    exact absurd h he
end Go.Proofs.YtmpklplojfjfbaaGreatDoor
namespace Go.Proofs.YtmpklplojfjfbaaGreatDoor
open Go.RowKit Go.Lib



theorem Chg.new {F : Nat → Prop} {w w1 w2 : World} {g : Nat} (h : Chg F w w1) (hg : w1.grownBy w2 (some g)) (hn : F g ∨ w.heap.size ≤ g) : Chg F w w2 :=
  ⟨hg.os.trans h.os, hg.tape.trans h.tape, hg.output.trans h.output, Nat.le_trans h.size hg.size, fun k hk hf => (hg.block k (Nat.lt_of_lt_of_le hk h.size) (by
    intro e; injection e with e; subst e
    rcases hn with hn | hn
    · exact hf hn
    · omega)).trans (h.block k hk hf)⟩
/-- What is read, and what is wrong. -/
structure OSt (w : World) (bi be b : Nat) (s : RS) (err : Int) : Prop where
  inn : w.heap[bi]? = some (.cells #[.pointer (some ⟨b, 0, none⟩)] 101 (0, 0))
  er : w.heap[be]? = some (.cells #[.int .i64 err] 43 (0, 0))
  rd : RdAt w b s
  lt : b < bi
  lt2 : bi < be
def orF (b be : Nat) : Nat → Prop := fun k => k = b ∨ k = be
theorem OSt.same {w w' : World} {bi be b : Nat} {s : RS} {err : Int} (o : OSt w bi be b s err) (h : ∀ k, k ≤ be → w'.heap[k]? = w.heap[k]?) : OSt w' bi be b s err :=
  ⟨(h bi (by have := o.lt2; omega)).trans o.inn, (h be (Nat.le_refl _)).trans o.er, o.rd.same (fun k hk => h k (by have := o.lt; have := o.lt2; omega)), o.lt, o.lt2⟩
theorem OSt.below {w w' : World} {bi be b : Nat} {s : RS} {err : Int} (o : OSt w bi be b s err) (h : Below w.heap.size w w') : OSt w' bi be b s err :=
  o.same (fun k hk => h.block k (by have := block_lt o.er; omega))
theorem OSt.set {w : World} {bi be b : Nat} {s : RS} {err : Int} (o : OSt w bi be b s err) (v : Int) : OSt (w.setCell ⟨be, 0, none⟩ (.int .i64 v)) bi be b s v := by
  have g := grown_set1 w be 0 (.int .i64 v)
  have h1 := o.lt; have h2 := o.lt2
  refine ⟨(g.block bi (block_lt o.inn) (by intro e; injection e with e; omega)).trans o.inn, ?_, o.rd.grown g (by omega), h1, h2⟩
  have := Joins.block_setCell (i := 0) o.er (.int .i64 v)
  simpa using this
def digestS (s : RS) : RS × Int × D8 :=
  ((bytesRS s 8).1, (if (bytesRS s 8).1.err ≠ 0 then (bytesRS s 8).1.err else if (bytesRS s 8).2.length ≠ 8 then 3 else 0),
   (if (bytesRS s 8).1.err ≠ 0 then D8.zero else if (bytesRS s 8).2.length ≠ 8 then D8.zero else chunk (bytesRS s 8).2 0))
theorem bytesRS_lt {s : RS} (h : ∀ x ∈ s.l, x < 256) (m : Nat) : ∀ x ∈ (bytesRS s m).2, x < 256 := by
  unfold bytesRS
  split
  · simp
  · split
    · simp
    · unfold takeB
      split
      · simp
      · simp only
        split
        · simp
        · split
          · simp
          · intro x hx
            exact h x (List.mem_of_mem_drop (List.mem_of_mem_drop (List.mem_of_mem_take hx)))
theorem digestS_ok {s : RS} (h : ∀ x ∈ s.l, x < 256) : (digestS s).2.2.ok := by
  unfold digestS
  simp only
  split
  · exact D8.zero_ok
  · split
    · exact D8.zero_ok
    · exact chunk_ok (bytesRS_lt h 8) 0
set_option maxRecDepth 100000 in
set_option maxHeartbeats 4000000 in
theorem digest_any {w : World} {bi be b : Nat} {s : RS} {err : Int} (o : OSt w bi be b s err) :
    Calls Tryz.prog 47 #[.pointer (some ⟨bi, 0, none⟩), .pointer (some ⟨be, 0, none⟩)] w fun e w' => e = .returned (.agg #[.int .u8 ((digestS s).2.2.x0 : Int), .int .u8 ((digestS s).2.2.x1 : Int), .int .u8 ((digestS s).2.2.x2 : Int), .int .u8 ((digestS s).2.2.x3 : Int), .int .u8 ((digestS s).2.2.x4 : Int), .int .u8 ((digestS s).2.2.x5 : Int), .int .u8 ((digestS s).2.2.x6 : Int), .int .u8 ((digestS s).2.2.x7 : Int)]) ∧ OSt w' bi be b (digestS s).1 (digestS s).2.1 ∧ Chg (orF b be) w w' := by
  have HX0 : Hid ((w.alloc (.cells #[.int .u8 0, .int .u8 0, .int .u8 0, .int .u8 0, .int .u8 0, .int .u8 0, .int .u8 0, .int .u8 0] 38)).heap[w.heap.size]? = some (.cells #[.int .u8 0, .int .u8 0, .int .u8 0, .int .u8 0, .int .u8 0, .int .u8 0, .int .u8 0, .int .u8 0] 38 (0, 0))) := heap_alloc_new w _
  have hb0 := h_one w (.cells #[.int .u8 0, .int .u8 0, .int .u8 0, .int .u8 0, .int .u8 0, .int .u8 0, .int .u8 0, .int .u8 0] 38)
  have HO0 := Lib.hid (o.below hb0); have Hc0 : Hid (Chg (orF b be) w (w.alloc (.cells #[.int .u8 0, .int .u8 0, .int .u8 0, .int .u8 0, .int .u8 0, .int .u8 0, .int .u8 0, .int .u8 0] 38))) := Lib.hid (Chg.of_below hb0)
  have hbe := block_lt o.er
  have hbw : b < w.heap.size := o.rd.lt
  clear o hb0
  have hds : Hid (digestS s = ((bytesRS s 8).1, (if (bytesRS s 8).1.err ≠ 0 then (bytesRS s 8).1.err else if (bytesRS s 8).2.length ≠ 8 then 3 else 0), (if (bytesRS s 8).1.err ≠ 0 then D8.zero else if (bytesRS s 8).2.length ≠ 8 then D8.zero else chunk (bytesRS s 8).2 0))) := Lib.hid rfl
  go_enter Tryz.func47, Tryz.ntmps47
  go_upto_region 1 with fail
  generalize w.alloc (.cells #[.int .u8 0, .int .u8 0, .int .u8 0, .int .u8 0, .int .u8 0, .int .u8 0, .int .u8 0, .int .u8 0] 38) = v0 at *
  have c0 : v0.cell? ⟨bi, 0, none⟩ = some (.pointer (some ⟨b, 0, none⟩)) := (block_cell HO0.out.inn 0).trans rfl
  have hl0 := block_lt HO0.out.inn
  go_wp2_with fail
  refine (bytes_any b 8 s v0 HO0.out.rd (by decide)).mono ?_
  rintro e v1 ⟨A, n, c, rfl, ho1, hn1, hr1, hg1⟩
  have hlt := HO0.out.lt; have hlt2 := HO0.out.lt2
  have HO1 : Hid (OSt v1 bi be b (bytesRS s 8).1 err) := Lib.hid ⟨(hg1.block bi hl0 (by intro e; injection e with e; omega)).trans HO0.out.inn, (hg1.block be (block_lt HO0.out.er) (by intro e; injection e with e; omega)).trans HO0.out.er, hr1, hlt, hlt2⟩
  have HX1 := Lib.hid ((hg1.block _ (block_lt HX0.out) (by intro e; injection e with e; omega)).trans HX0.out)
  have Hc1 := Lib.hid (Hc0.out.new hg1 (.inl (.inl rfl)))
  have HW1 := Lib.hid ho1; have Hn1 := Lib.hid hn1
  have hbe0 : be < v0.heap.size := block_lt HO0.out.er
  clear ho1 hn1 hr1 hg1 HO0 HX0 Hc0 c0
  generalize (bytesRS s 8).1 = s1 at *
  generalize (bytesRS s 8).2 = x1 at *
  have c1 : v1.cell? ⟨bi, 0, none⟩ = some (.pointer (some ⟨b, 0, none⟩)) := (block_cell HO1.out.inn 0).trans rfl
  have hl1 := block_lt HO1.out.inn
  have c2 : v1.cell? ⟨be, 0, none⟩ = some (.int .i64 err) := (block_cell HO1.out.er 0).trans rfl
  have f2 := block_free HO1.out.er
  have hl2 := block_lt HO1.out.er
  go_wp2_with fail
  refine (err_any b s1 v1 HO1.out.rd).mono ?_
  rintro e w' ⟨rfl, rfl⟩
  have HO2 := Lib.hid (HO1.out.set s1.err)
  have g2 := grown_set1 v1 be 0 (.int .i64 s1.err)
  have HX2 := Lib.hid ((g2.block _ (block_lt HX1.out) (by intro e; injection e with e; omega)).trans HX1.out)
  have Hc2 := Lib.hid (Hc1.out.new g2 (.inl (.inr rfl)))
  have HR2 := Lib.hid (Rd.of_own (own_keep HW1.out (fun g hg => g2.block g (HW1.out.lt g hg).2 (by intro e; injection e with e; have := (HW1.out.lt g hg).1; omega))))
  go_upto_region 3 with fail
  generalize v1.setCell ⟨be, 0, none⟩ (.int .i64 s1.err) = v2 at *
  clear c1 c2 f2 hl1 hl2 g2 HO1 HX1 Hc1 HW1 hbe0
  have c2 : v2.cell? ⟨be, 0, none⟩ = some (.int .i64 s1.err) := (block_cell HO2.out.er 0).trans rfl
  have f2 := block_free HO2.out.er
  have hl2 := block_lt HO2.out.er
  have hlX := block_lt HX2.out
  by_cases he : s1.err ≠ 0
  · have b1 : (s1.err == 0) = false := by rw [beq_eq_false_iff_ne]; exact he
    have b2 : (s1.err != 0) = true := by rw [bne_iff_ne]; exact he
    have hd := hds.out
    rw [if_pos he, if_pos he] at hd
    have Hd := Lib.hid hd
    obtain ⟨zf, r0, r1, r2, r3, r4, r5, r6, r7⟩ := free8 HX2.out
    have Hbx := HX2
    clear he hd hds
    go_wp2
    clear zf r0 r1 r2 r3 r4 r5 r6 r7
    have h8 := set8 Hbx.out (.int .u8 0) (.int .u8 0) (.int .u8 0) (.int .u8 0) (.int .u8 0) (.int .u8 0) (.int .u8 0) (.int .u8 0)
    have g8 := grown_set8 v2 w.heap.size (.int .u8 0) (.int .u8 0) (.int .u8 0) (.int .u8 0) (.int .u8 0) (.int .u8 0) (.int .u8 0) (.int .u8 0)
    generalize ((((((((v2.setCell ⟨w.heap.size, 0, none⟩ (.int .u8 0)).setCell ⟨w.heap.size, 1, none⟩ (.int .u8 0)).setCell ⟨w.heap.size, 2, none⟩ (.int .u8 0)).setCell ⟨w.heap.size, 3, none⟩ (.int .u8 0)).setCell ⟨w.heap.size, 4, none⟩ (.int .u8 0)).setCell ⟨w.heap.size, 5, none⟩ (.int .u8 0)).setCell ⟨w.heap.size, 6, none⟩ (.int .u8 0)).setCell ⟨w.heap.size, 7, none⟩ (.int .u8 0)) = v3 at *
    obtain ⟨zf, r0, r1, r2, r3, r4, r5, r6, r7⟩ := free8 h8
    refine bodyPost_ret (v := .agg #[.int .u8 0, .int .u8 0, .int .u8 0, .int .u8 0, .int .u8 0, .int .u8 0, .int .u8 0, .int .u8 0]) (by simp [results, Tryz.results47, go_sem, r0, r1, r2, r3, r4, r5, r6, r7]) rfl ⟨by rw [Hd.out]; rfl, ?_, Hc2.out.new g8 (.inr (Nat.le_refl _))⟩
    rw [Hd.out]
    exact HO2.out.same (fun k hk => g8.block k (by omega) (by intro e; injection e with e; omega))
  have b1 : (s1.err == 0) = true := by rw [beq_iff_eq]; omega
  have he0 : s1.err = 0 := by omega
  have hd := hds.out
  rw [if_neg he, if_neg he] at hd
  clear he hds
  by_cases hn : n = 8
  · subst hn
    have hd2 := hd
    rw [if_neg (by rw [← Hn1.out]; simp), if_neg (by rw [← Hn1.out]; simp)] at hd2
    have Hd := Lib.hid hd2
    obtain ⟨b3, o3, rfl, hbB, hcc⟩ := chunk_rd (k := 0) HR2.out (by omega)
    have x0 : v2.cell? ⟨b3, o3, none⟩ = some (.int .u8 ((chunk x1 0).x0 : Int)) := hcc 0 (by decide)
    have x1' : v2.cell? ⟨b3, o3 + 1, none⟩ = some (.int .u8 ((chunk x1 0).x1 : Int)) := hcc 1 (by decide)
    have x2 : v2.cell? ⟨b3, o3 + 2, none⟩ = some (.int .u8 ((chunk x1 0).x2 : Int)) := hcc 2 (by decide)
    have x3 : v2.cell? ⟨b3, o3 + 3, none⟩ = some (.int .u8 ((chunk x1 0).x3 : Int)) := hcc 3 (by decide)
    have x4 : v2.cell? ⟨b3, o3 + 4, none⟩ = some (.int .u8 ((chunk x1 0).x4 : Int)) := hcc 4 (by decide)
    have x5 : v2.cell? ⟨b3, o3 + 5, none⟩ = some (.int .u8 ((chunk x1 0).x5 : Int)) := hcc 5 (by decide)
    have x6 : v2.cell? ⟨b3, o3 + 6, none⟩ = some (.int .u8 ((chunk x1 0).x6 : Int)) := hcc 6 (by decide)
    have x7 : v2.cell? ⟨b3, o3 + 7, none⟩ = some (.int .u8 ((chunk x1 0).x7 : Int)) := hcc 7 (by decide)
    have hra := run_arr
    clear hcc hd hd2 Hn1
    generalize chunk x1 0 = d at *
    obtain ⟨zf, r0, r1, r2, r3, r4, r5, r6, r7⟩ := free8 HX2.out
    rw [he0] at c2
    clear b1
    go_wp2
    have Hbx := HX2
    have Hbw : Hid (Below 0 v2 v2) := Lib.hid (Below.refl _ _)
    clear zf r0 r1 r2 r3 r4 r5 r6 r7
    have h8 := set8 Hbx.out (.int .u8 (d.x0 : Int)) (.int .u8 (d.x1 : Int)) (.int .u8 (d.x2 : Int)) (.int .u8 (d.x3 : Int)) (.int .u8 (d.x4 : Int)) (.int .u8 (d.x5 : Int)) (.int .u8 (d.x6 : Int)) (.int .u8 (d.x7 : Int))
    have g8 := grown_set8 v2 w.heap.size (.int .u8 (d.x0 : Int)) (.int .u8 (d.x1 : Int)) (.int .u8 (d.x2 : Int)) (.int .u8 (d.x3 : Int)) (.int .u8 (d.x4 : Int)) (.int .u8 (d.x5 : Int)) (.int .u8 (d.x6 : Int)) (.int .u8 (d.x7 : Int))
    generalize ((((((((v2.setCell ⟨w.heap.size, 0, none⟩ (.int .u8 (d.x0 : Int))).setCell ⟨w.heap.size, 1, none⟩ (.int .u8 (d.x1 : Int))).setCell ⟨w.heap.size, 2, none⟩ (.int .u8 (d.x2 : Int))).setCell ⟨w.heap.size, 3, none⟩ (.int .u8 (d.x3 : Int))).setCell ⟨w.heap.size, 4, none⟩ (.int .u8 (d.x4 : Int))).setCell ⟨w.heap.size, 5, none⟩ (.int .u8 (d.x5 : Int))).setCell ⟨w.heap.size, 6, none⟩ (.int .u8 (d.x6 : Int))).setCell ⟨w.heap.size, 7, none⟩ (.int .u8 (d.x7 : Int))) = v3 at *
    obtain ⟨zf, r0, r1, r2, r3, r4, r5, r6, r7⟩ := free8 h8
    refine bodyPost_ret (v := .agg #[.int .u8 (d.x0 : Int), .int .u8 (d.x1 : Int), .int .u8 (d.x2 : Int), .int .u8 (d.x3 : Int), .int .u8 (d.x4 : Int), .int .u8 (d.x5 : Int), .int .u8 (d.x6 : Int), .int .u8 (d.x7 : Int)]) (by simp [results, Tryz.results47, go_sem, r0, r1, r2, r3, r4, r5, r6, r7]) rfl ⟨by rw [Hd.out], ?_, Hc2.out.new g8 (.inr (Nat.le_refl _))⟩
    rw [Hd.out]
    have := HO2.out.same (w' := v3) (fun k hk => g8.block k (by omega) (by intro e; injection e with e; omega))
    rwa [he0] at this
  · have b3 : ((n : Int) != 8) = true := by rw [bne_iff_ne]; omega
    rw [if_pos (by rw [← Hn1.out]; exact hn), if_pos (by rw [← Hn1.out]; exact hn)] at hd
    have Hd := Lib.hid hd
    rw [he0] at c2
    have HO3 := Lib.hid (HO2.out.set 3)
    have g3 := grown_set1 v2 be 0 (.int .i64 3)
    have HX3 := Lib.hid ((g3.block _ hlX (by intro e; injection e with e; omega)).trans HX2.out)
    have Hc3 := Lib.hid (Hc2.out.new g3 (.inl (.inr rfl)))
    clear hd hn Hn1 b1 HR2
    go_upto_region 5 with fail
    generalize v2.setCell ⟨be, 0, none⟩ (.int .i64 3) = v3 at *
    clear c2 f2 hl2 hlX g3 HO2 HX2 Hc2
    have c3 : v3.cell? ⟨be, 0, none⟩ = some (.int .i64 3) := (block_cell HO3.out.er 0).trans rfl
    have hl3 := block_lt HO3.out.er
    obtain ⟨zf, r0, r1, r2, r3, r4, r5, r6, r7⟩ := free8 HX3.out
    have hlX := block_lt HX3.out
    go_wp2
    clear zf r0 r1 r2 r3 r4 r5 r6 r7
    have h8 := set8 HX3.out (.int .u8 0) (.int .u8 0) (.int .u8 0) (.int .u8 0) (.int .u8 0) (.int .u8 0) (.int .u8 0) (.int .u8 0)
    have g8 := grown_set8 v3 w.heap.size (.int .u8 0) (.int .u8 0) (.int .u8 0) (.int .u8 0) (.int .u8 0) (.int .u8 0) (.int .u8 0) (.int .u8 0)
    generalize ((((((((v3.setCell ⟨w.heap.size, 0, none⟩ (.int .u8 0)).setCell ⟨w.heap.size, 1, none⟩ (.int .u8 0)).setCell ⟨w.heap.size, 2, none⟩ (.int .u8 0)).setCell ⟨w.heap.size, 3, none⟩ (.int .u8 0)).setCell ⟨w.heap.size, 4, none⟩ (.int .u8 0)).setCell ⟨w.heap.size, 5, none⟩ (.int .u8 0)).setCell ⟨w.heap.size, 6, none⟩ (.int .u8 0)).setCell ⟨w.heap.size, 7, none⟩ (.int .u8 0)) = v4 at *
    obtain ⟨zf, r0, r1, r2, r3, r4, r5, r6, r7⟩ := free8 h8
    refine bodyPost_ret (v := .agg #[.int .u8 0, .int .u8 0, .int .u8 0, .int .u8 0, .int .u8 0, .int .u8 0, .int .u8 0, .int .u8 0]) (by simp [results, Tryz.results47, go_sem, r0, r1, r2, r3, r4, r5, r6, r7]) rfl ⟨by rw [Hd.out]; rfl, ?_, Hc3.out.new g8 (.inr (Nat.le_refl _))⟩
    rw [Hd.out]
    exact HO3.out.same (fun k hk => g8.block k (by omega) (by intro e; injection e with e; omega))
/-- A number that is read, unless something is wrong. -/
def numberS (s : RS) (err : Int) (most : Nat) : RS × Int × Nat := if err ≠ 0 then (s, err, 0) else ((numRS s most).1, (numRS s most).1.err, (numRS s most).2)
set_option maxRecDepth 100000 in
set_option maxHeartbeats 4000000 in
theorem number_any2 {w : World} {bi be b : Nat} {s : RS} {err : Int} (m : Nat) (o : OSt w bi be b s err) (hm : m ≤ 1000000) :
    Calls Tryz.prog 50 #[.int .i64 (m : Int), .pointer (some ⟨be, 0, none⟩), .pointer (some ⟨bi, 0, none⟩)] w fun e w' => e = .returned (.int .i64 ((numberS s err m).2.2 : Int)) ∧ OSt w' bi be b (numberS s err m).1 (numberS s err m).2.1 ∧ Chg (orF b be) w w' := by
  have c0 : w.cell? ⟨be, 0, none⟩ = some (.int .i64 err) := (block_cell o.er 0).trans rfl
  have hl0 := block_lt o.er
  have c1 : w.cell? ⟨bi, 0, none⟩ = some (.pointer (some ⟨b, 0, none⟩)) := (block_cell o.inn 0).trans rfl
  have hl1 := block_lt o.inn
  have hlt := o.lt; have hlt2 := o.lt2
  have HO := Lib.hid o
  have hds : Hid (numberS s err m = if err ≠ 0 then (s, err, 0) else ((numRS s m).1, (numRS s m).1.err, (numRS s m).2)) := Lib.hid rfl
  by_cases he : err ≠ 0
  · have b2 : (err != 0) = true := by rw [bne_iff_ne]; exact he
    have hd := hds.out
    rw [if_pos he] at hd
    have Hd := Lib.hid hd
    clear he hd hds o
    go_enter Tryz.func50, Tryz.ntmps50
    go_wp2
    go_ret
    exact ⟨by rw [Hd.out]; rfl, by rw [Hd.out]; exact HO.out, Chg.refl _ _⟩
  have b2 : (err != 0) = false := by simp at he; simp [he]
  have hd := hds.out
  rw [if_neg he] at hd
  have Hd := Lib.hid hd
  have hle := numRS_le s m
  have hw64 : IntKind.u64.wrap (m : Int) = (m : Int) := by rw [IntKind.wrap_u64]; omega
  have Hnum := Lib.hid (num_any b m s w o.rd)
  clear he hd hds o
  generalize (numRS s m).2 = v at *
  generalize (numRS s m).1 = s1 at *
  have hw65 : IntKind.i64.wrap (v : Int) = (v : Int) := by rw [IntKind.wrap_i64]; omega
  go_enter Tryz.func50, Tryz.ntmps50
  go_wp2_with fail
  refine Hnum.out.mono ?_
  rintro e w1 ⟨rfl, hr1, hg1⟩
  have HO1 : Hid (OSt w1 bi be b s1 err) := Lib.hid ⟨(hg1.block bi hl1 (by intro e; injection e with e; omega)).trans HO.out.inn, (hg1.block be hl0 (by intro e; injection e with e; omega)).trans HO.out.er, hr1, hlt, hlt2⟩
  have Hc1 : Hid (Chg (orF b be) w w1) := Lib.hid (Chg.of_grown hg1 (.inl rfl))
  clear hr1 hg1 c0 c1 hl0 hl1 HO Hnum
  have c1 : w1.cell? ⟨bi, 0, none⟩ = some (.pointer (some ⟨b, 0, none⟩)) := (block_cell HO1.out.inn 0).trans rfl
  have hl1 := block_lt HO1.out.inn
  have c2 : w1.cell? ⟨be, 0, none⟩ = some (.int .i64 err) := (block_cell HO1.out.er 0).trans rfl
  have f2 := block_free HO1.out.er
  have hl2 := block_lt HO1.out.er
  go_wp2_with fail
  refine (err_any b s1 w1 HO1.out.rd).mono ?_
  rintro e w' ⟨rfl, rfl⟩
  have HO2 := Lib.hid (HO1.out.set s1.err)
  have g2 := grown_set1 w1 be 0 (.int .i64 s1.err)
  have Hc2 := Lib.hid (Hc1.out.new g2 (.inl (.inr rfl)))
  go_wp2
  go_ret
  exact ⟨by rw [Hd.out]; rfl, by rw [Hd.out]; exact HO2.out, Hc2.out⟩
end Go.Proofs.YtmpklplojfjfbaaGreatDoor
namespace Go.Proofs.YtmpklplojfjfbaaGreatDoor
open Go.RowKit Go.Lib



def openL (s : RS) (led : List D8) : Nat → RS × List D8 × Int
  | 0 => (s, led, 0)
  | k + 1 => if (digestS s).2.1 ≠ 0 then ((digestS s).1, led, (digestS s).2.1) else if posD led (digestS s).2.2 ≠ none then ((digestS s).1, led, 7) else openL (digestS s).1 (led ++ [(digestS s).2.2]) k
/-- What is read ahead of the ledger. -/
def openH (l : List Nat) : RS × Int × D8 × Nat × Nat :=
  let x1 := digestS ⟨l, 0, 0⟩
  let x2 := numberS x1.1 x1.2.1 8
  let x3 := numberS x2.1 x2.2.1 (2 ^ x2.2.2)
  (x3.1, x3.2.1, x1.2.2, x2.2.2, x3.2.2)
def openN (l : List Nat) : Option RingM × Int :=
  let x := openH l
  let y := if x.2.1 ≠ 0 then (x.1, [], x.2.1) else openL x.1 [] x.2.2.2.2
  let e := if y.2.2 ≠ 0 then y.2.2 else endRS y.1
  if e ≠ 0 then (none, e) else (some ⟨x.2.2.1, x.2.2.2.1, y.2.1⟩, 0)
def lenOf : Option Value → Nat
  | some (.slice _ n _) => n
  | _ => 0
def GivesO (w : World) (l : List Nat) (e : Ending) (w' : World) : Prop :=
  Below w.heap.size w w' ∧ match (openN l).1 with
    | none => e = .returned (.tuple #[.pointer none, .int .i64 (openN l).2])
    | some r => ∃ br F T0 T1, e = .returned (.tuple #[.pointer (some ⟨br, 0, none⟩), .int .i64 0]) ∧ RingAt w' w.heap.size F T0 T1 br r
set_option maxRecDepth 100000 in
set_option maxHeartbeats 4000000 in
theorem open_any (A : Option Addr) (n c : Nat) (l : List Nat) (w : World) (hr : Rd w w.heap.size 1 A n (bv l)) (hn : n ≤ 1000000) (hlt : ∀ x ∈ l, x < 256) :
    Calls Tryz.prog 20 #[.slice A n c] w (GivesO w l) := by
  have Hr := Lib.hid hr; have Hlt := Lib.hid hlt
  have hmm := @run_makeMap Tryz.prog
  clear hr hlt
  go_enter Tryz.func20, Tryz.ntmps20
  go_wp2_with fail
  refine (newReader_any A n c l w Hr.out (by omega) Hlt.out).mono ?_
  rintro e w1 ⟨b, rfl, hb1, hbl, hw1⟩
  have H2 : Hid (OSt ((w1.alloc (.cells #[.pointer (some ⟨b, 0, none⟩)] 101)).alloc (.cells #[.int .i64 0] 43)) w1.heap.size (w1.heap.size + 1) b ⟨l, 0, 0⟩ 0) := by
    obtain ⟨p1, p2, p3, p4⟩ := alloc2 w1 (.cells #[.pointer (some ⟨b, 0, none⟩)] 101) (.cells #[.int .i64 0] 43)
    exact ⟨p1, p2, hb1.below p3 hb1.lt, hb1.lt, by omega⟩
  have Hw2 : Hid (Below w.heap.size w ((w1.alloc (.cells #[.pointer (some ⟨b, 0, none⟩)] 101)).alloc (.cells #[.int .i64 0] 43))) := by
    obtain ⟨p1, p2, p3, p4⟩ := alloc2 w1 (.cells #[.pointer (some ⟨b, 0, none⟩)] 101) (.cells #[.int .i64 0] 43)
    exact hw1.trans (p3.mono hw1.size)
  have hbl2 := hw1.size
  have hbl0 : w.heap.size ≤ b := Nat.le_trans (Nat.le_refl _) hbl
  clear hb1 hw1 Hr Hlt
  go_upto_region 4 with fail
  generalize (w1.alloc (.cells _ 101)).alloc (.cells _ 43) = w2 at *
  have hwb : w.heap.size ≤ w1.heap.size := hbl2
  generalize w1.heap.size + 1 = be at *
  generalize w1.heap.size = bi at *
  have hOF : ∀ k, orF b be k → w.heap.size ≤ k := by
    have h1 := H2.out.lt; have h2 := H2.out.lt2
    rintro k (rfl | rfl) <;> omega
  have HOF := Lib.hid hOF
  clear hOF
  have Hop : Hid (openN l = (let x := openH l; let y := if x.2.1 ≠ 0 then (x.1, [], x.2.1) else openL x.1 [] x.2.2.2.2; let e := if y.2.2 ≠ 0 then y.2.2 else endRS y.1; if e ≠ 0 then (none, e) else (some ⟨x.2.2.1, x.2.2.2.1, y.2.1⟩, 0))) := Lib.hid rfl
  have Hoh : Hid (openH l = (let x1 := digestS ⟨l, 0, 0⟩; let x2 := numberS x1.1 x1.2.1 8; let x3 := numberS x2.1 x2.2.1 (2 ^ x2.2.2); (x3.1, x3.2.1, x1.2.2, x2.2.2, x3.2.2))) := Lib.hid rfl
  have Hd1 := Lib.hid (digestS_ok (s := ⟨l, 0, 0⟩) (by obtain ⟨_, _, _, _, _, _, _, _, k⟩ := H2.out.rd; exact k))
  go_wp2_with fail
  refine (digest_any H2.out).mono ?_
  rintro e w3 ⟨rfl, ho3, hc3⟩
  have hw3 := Hw2.out.trans (hc3.below HOF.out Hw2.out.size)
  generalize hx1 : digestS ⟨l, 0, 0⟩ = x1 at *
  have hb4 := h_one w3 (.cells #[.int .u8 (x1.2.2.x0 : Int), .int .u8 (x1.2.2.x1 : Int), .int .u8 (x1.2.2.x2 : Int), .int .u8 (x1.2.2.x3 : Int), .int .u8 (x1.2.2.x4 : Int), .int .u8 (x1.2.2.x5 : Int), .int .u8 (x1.2.2.x6 : Int), .int .u8 (x1.2.2.x7 : Int)] 38)
  have HO4 := Lib.hid (ho3.below hb4)
  have Hw4 := Lib.hid (hw3.trans (hb4.mono hw3.size))
  have HX4 : Hid ((w3.alloc (.cells #[.int .u8 (x1.2.2.x0 : Int), .int .u8 (x1.2.2.x1 : Int), .int .u8 (x1.2.2.x2 : Int), .int .u8 (x1.2.2.x3 : Int), .int .u8 (x1.2.2.x4 : Int), .int .u8 (x1.2.2.x5 : Int), .int .u8 (x1.2.2.x6 : Int), .int .u8 (x1.2.2.x7 : Int)] 38)).heap[w3.heap.size]? = some (.cells #[.int .u8 (x1.2.2.x0 : Int), .int .u8 (x1.2.2.x1 : Int), .int .u8 (x1.2.2.x2 : Int), .int .u8 (x1.2.2.x3 : Int), .int .u8 (x1.2.2.x4 : Int), .int .u8 (x1.2.2.x5 : Int), .int .u8 (x1.2.2.x6 : Int), .int .u8 (x1.2.2.x7 : Int)] 38 (0, 0))) := heap_alloc_new w3 _
  have hws3 := hw3.size
  have hbe3 : be < w3.heap.size := block_lt ho3.er
  have Hx1 := Lib.hid hx1
  clear ho3 hc3 hw3 hb4 H2 Hw2 hx1
  go_upto_region 5 with fail
  generalize w3.alloc (.cells #[.int .u8 (x1.2.2.x0 : Int), .int .u8 (x1.2.2.x1 : Int), .int .u8 (x1.2.2.x2 : Int), .int .u8 (x1.2.2.x3 : Int), .int .u8 (x1.2.2.x4 : Int), .int .u8 (x1.2.2.x5 : Int), .int .u8 (x1.2.2.x6 : Int), .int .u8 (x1.2.2.x7 : Int)] 38) = w4 at *
  generalize w3.heap.size = bs at *
  go_wp2_with fail
  refine (number_any2 8 HO4.out (by decide)).mono ?_
  rintro e w5 ⟨rfl, ho5, hc5⟩
  have HO5 := Lib.hid ho5
  have Hw5 := Lib.hid (Hw4.out.trans (hc5.below HOF.out Hw4.out.size))
  have HX5 := Lib.hid ((hc5.block _ (block_lt HX4.out) (by have h1 := HO4.out.lt; have h2 := HO4.out.lt2; rintro (e | e) <;> omega)).trans HX4.out)
  have hh8 : (numberS x1.1 x1.2.1 8).2.2 ≤ 8 := by
    unfold numberS
    split
    · exact Nat.zero_le _
    · exact numRS_le _ _
  generalize hx2 : numberS x1.1 x1.2.1 8 = x2 at *
  have Hx2 := Lib.hid hx2
  obtain ⟨h, hh⟩ : ∃ h, h = x2.2.2 := ⟨_, rfl⟩
  rw [← hh] at hh8 ⊢
  have Hh := Lib.hid hh
  clear ho5 hc5 HO4 Hw4 HX4 hx2 hh
  have hh0 : decide ((h : Int) < 0) = false := by simp
  go_wp2_with fail
  first | rw [wrap_pow hh8] | rw [show IntKind.i64.wrap ((2 : Int) ^ h) = ((2 ^ h : Nat) : Int) from shl_one hh8] | rw [show ((2 : Int) ^ h) = ((2 ^ h : Nat) : Int) by simp]
  refine (number_any2 (2 ^ h) HO5.out (by have := (pow_le8 hh8).2; exact Nat.le_trans this (by decide))).mono ?_
  rintro e w6 ⟨rfl, ho6, hc6⟩
  have hcnt : (numberS x2.1 x2.2.1 (2 ^ h)).2.2 ≤ 2 ^ h := by
    unfold numberS
    split
    · exact Nat.zero_le _
    · exact numRS_le _ _
  have hw6 := Hw5.out.trans (hc6.below HOF.out Hw5.out.size)
  have hx6 := (hc6.block _ (block_lt HX5.out) (by have h1 := HO5.out.lt; have h2 := HO5.out.lt2; rintro (e | e) <;> omega)).trans HX5.out
  generalize hx3 : numberS x2.1 x2.2.1 (2 ^ h) = x3 at *
  have Hx3 := Lib.hid hx3
  obtain ⟨cnt, hc⟩ : ∃ cnt, cnt = x3.2.2 := ⟨_, rfl⟩
  rw [← hc] at hcnt ⊢
  have Hcc := Lib.hid hc; have Hcnt := Lib.hid hcnt
  have hcb : cnt ≤ 256 := Nat.le_trans hcnt (pow_le8 hh8).2
  have hcv : x3.1.l = x3.1.l := rfl
  have hY : Hid (∃ Y : RS × List D8 × Int, Y = if x3.2.1 ≠ 0 then (x3.1, [], x3.2.1) else openL x3.1 [] cnt) := ⟨_, rfl⟩
  obtain ⟨Y, hY⟩ := hY.out
  have HY := Lib.hid hY
  have Hop2 : Hid (openN l = (if (if Y.2.2 ≠ 0 then Y.2.2 else endRS Y.1) ≠ 0 then (none, (if Y.2.2 ≠ 0 then Y.2.2 else endRS Y.1)) else (some ⟨x1.2.2, h, Y.2.1⟩, 0))) := by
    have e1 : openH l = (x3.1, x3.2.1, x1.2.2, h, cnt) := by
      rw [Hoh.out]
      simp only [← Hh.out, Hx3.out, ← Hcc.out]
    rw [Hop.out]
    simp only [e1]
    rw [← HY.out]
    exact Lib.hid rfl
  clear Hop Hoh Hx1 Hx2 Hx3 hx3 hY hcv hc hcnt Hcc
  have hbe6 : be < w6.heap.size := block_lt ho6.er
  have hbs6 : bs < w6.heap.size := block_lt hx6
  obtain ⟨hM7, hR7, hw7, hz7⟩ := alloc2 w6 (.map #[] 0) (.cells #[.int .u8 0, .int .u8 0, .int .u8 0, .int .u8 0, .int .u8 0, .int .u8 0, .int .u8 0, .int .u8 0, .int .i64 0, .pointer none, .slice none 0 0, .map (some w6.heap.size)] 91)
  have HM7 := Lib.hid hM7; have HR7 := Lib.hid hR7; have HO7 := Lib.hid (ho6.below hw7); have Hw7 := Lib.hid (hw6.trans (hw7.mono hw6.size)); have HX7 := Lib.hid (block_below hx6 hw7 (block_lt hx6))
  have hs7 := hz7
  have hws6 := hw6.size
  clear hM7 hR7 hw7 hz7 ho6 hw6 hx6 HO5 Hw5 HX5 hc6
  go_upto_block 0 with fail
  clear hmm
  generalize (w6.alloc (.map #[] 0)).alloc (.cells _ 91) = w7 at *
  obtain ⟨bh, hbh⟩ : ∃ bh, bh = w6.heap.size + 1 := ⟨_, rfl⟩
  have hR7 : w7.heap[w6.heap.size + 1]? = some (.cells (ringC D8.zero 0 (.pointer none) (.slice none 0 0) w6.heap.size) 91 (0, 0)) := HR7.out
  rw [← hbh] at hR7 ⊢
  have hmbh : w6.heap.size < bh := by omega
  have hbh7 : bh < w7.heap.size := block_lt hR7
  have hbsb : bs ≠ be := by have := HO7.out.lt2; omega
  clear HR7 hs7 hbh
  generalize w6.heap.size = mb at *
  have Hin : Hid ((x3.2.1 = 0 ∧ LedAt w7 w.heap.size (fun k => k = mb ∨ k = bh) bh mb D8.zero 0 (.pointer none) [] ∧ openL x3.1 [] (cnt - 0) = Y) ∨ (x3.2.1 ≠ 0 ∧ Y.2.2 = x3.2.1)) := by
    by_cases he : x3.2.1 = 0
    · refine .inl ⟨he, ⟨⟨none, 0, hR7, World.ownsRow_nil _ _ _ _, fun g hg => by simp [Value.ownBlock] at hg⟩, ⟨#[], 0, HM7.out, rfl⟩, List.nodup_nil, fun d hd => by simp at hd, .inr rfl, .inl rfl, ?_⟩, by rw [HY.out, if_neg (by rw [he]; simp)]; rfl⟩
      rintro k (rfl | rfl) <;> omega
    · exact .inr ⟨he, by rw [HY.out, if_pos he]⟩
  have HR7 := Lib.hid hR7
  clear hR7
  go_cut [] (fun wx => ∃ (s : RS) (err : Int), OSt wx bi be b s err ∧ Below w.heap.size w wx ∧ wx.heap[bs]? = some (.cells #[.int .u8 (x1.2.2.x0 : Int), .int .u8 (x1.2.2.x1 : Int), .int .u8 (x1.2.2.x2 : Int), .int .u8 (x1.2.2.x3 : Int), .int .u8 (x1.2.2.x4 : Int), .int .u8 (x1.2.2.x5 : Int), .int .u8 (x1.2.2.x6 : Int), .int .u8 (x1.2.2.x7 : Int)] 38 (0, 0)) ∧ Y.2.2 = err ∧ (err = 0 → s = Y.1 ∧ Y.2.1.length ≤ cnt ∧ ∃ G, LedAt wx w.heap.size G bh mb D8.zero 0 (.pointer none) Y.2.1 ∧ ∀ k, G k → be < k ∧ k ≠ bs))
  case first =>
    go_wp2
    go_loopw [12] (fun _ wr => ∃ (s : RS) (err : Int) (L : List D8) (A' : Option Addr) (n' c' : Nat) (G : Nat → Prop), OSt wr bi be b s err ∧ Below w.heap.size w wr ∧ wr.heap[bs]? = some (.cells #[.int .u8 (x1.2.2.x0 : Int), .int .u8 (x1.2.2.x1 : Int), .int .u8 (x1.2.2.x2 : Int), .int .u8 (x1.2.2.x3 : Int), .int .u8 (x1.2.2.x4 : Int), .int .u8 (x1.2.2.x5 : Int), .int .u8 (x1.2.2.x6 : Int), .int .u8 (x1.2.2.x7 : Int)] 38 (0, 0)) ∧ wr.heap[bh]? = some (.cells (ringC D8.zero 0 (.pointer none) (.slice A' n' c') mb) 91 (0, 0)) ∧ (∀ k, G k → be < k ∧ k ≠ bs) ∧
      ((err = 0 ∧ LedAt wr w.heap.size G bh mb D8.zero 0 (.pointer none) L ∧ n' = L.length ∧ L.length ≤ cnt ∧ openL s L (cnt - L.length) = Y) ∨ (err ≠ 0 ∧ Y.2.2 = err))) (fun _ wr => cnt - lenOf (wr.cell? ⟨bh, 10, none⟩))
    case atStart => exact ⟨x3.1, x3.2.1, [], none, 0, 0, (fun k => k = mb ∨ k = bh), HO7.out, Hw7.out, HX7.out, HR7.out, by rintro k (rfl | rfl) <;> omega, by
      rcases Hin.out with ⟨h1, h2, h3⟩ | h
      · exact .inl ⟨h1, h2, rfl, Nat.zero_le _, h3⟩
      · exact .inr h⟩
    case round =>
      obtain ⟨s, err, L, A', n', c', G, ho, hw, hx, hR, hG, hst⟩ := hrel
      have HO := Lib.hid ho; have Hw := Lib.hid hw; have HX := Lib.hid hx; have HR := Lib.hid hR; have HG := Lib.hid hG
      obtain ⟨yf, y0, y1, y2, y3, y4, y5, y6, y7, y8, y9, y10, y11⟩ := freeR hR
      have c0 : wr.cell? ⟨be, 0, none⟩ = some (.int .i64 err) := (block_cell ho.er 0).trans rfl
      have hl0 := block_lt ho.er
      have hlR := block_lt hR
      clear ho hw hx hR hG y0 y1 y2 y3 y4 y5 y6 y7 y8 y9 HO7 Hw7 HX7 HR7 HM7 Hin
      rcases hst with ⟨rfl, hled, rfl, hLc, hopn⟩ | ⟨herr, hYe⟩
      · have HL := Lib.hid hled; have Hopn := Lib.hid hopn
        clear hled hopn
        by_cases hlt : L.length < cnt
        · have hd1 : decide ((L.length : Int) < (cnt : Int)) = true := decide_eq_true (by omega)
          have hki : (L.length : Int) < (cnt : Int) := by omega
          have hlen0 : lenOf (wr.cell? ⟨bh, 10, none⟩) = L.length := by rw [y10]; rfl
          have Hlen0 := Lib.hid hlen0
          have Hk := Lib.hid hlt
          have Hdk := Lib.hid (digestS_ok (s := s) (by obtain ⟨_, _, _, _, _, _, _, _, k⟩ := HO.out.rd; exact k))
          have Hopn2 : Hid ((if (digestS s).2.1 ≠ 0 then ((digestS s).1, L, (digestS s).2.1) else if posD L (digestS s).2.2 ≠ none then ((digestS s).1, L, 7) else openL (digestS s).1 (L ++ [(digestS s).2.2]) (cnt - (L.length + 1))) = Y) := by
            have := Hopn.out
            rw [show cnt - L.length = (cnt - (L.length + 1)) + 1 by omega] at this
            exact this
          clear Hopn hlen0
          go_wp2_with fail
          refine (digest_any HO.out).mono ?_
          rintro e w8 ⟨rfl, ho8, hc8⟩
          have hOFG : ∀ k, G k → ¬ orF b be k := by
            have h1 := HO.out.lt; have h2 := HO.out.lt2
            intro k hk
            have := (HG.out k hk).1
            rintro (e | e) <;> omega
          have hL8 := HL.out.kept hc8.size (fun k hk => hc8.block k (HL.out.fl k hk).2 (hOFG k hk))
          have hx8 := (hc8.block bs (block_lt HX.out) (by have h1 := HO.out.lt; have h2 := HO.out.lt2; rintro (e | e) <;> omega)).trans HX.out
          have hw8 := Hw.out.trans (hc8.below HOF.out Hw.out.size)
          have hs8 : wr.heap.size ≤ w8.heap.size := hc8.size
          generalize hd : digestS s = x at *
          obtain ⟨s', e', d⟩ := x
          simp only at Hdk Hopn2 ho8 ⊢
          have hb9 := h_one w8 (.cells #[.int .u8 (d.x0 : Int), .int .u8 (d.x1 : Int), .int .u8 (d.x2 : Int), .int .u8 (d.x3 : Int), .int .u8 (d.x4 : Int), .int .u8 (d.x5 : Int), .int .u8 (d.x6 : Int), .int .u8 (d.x7 : Int)] 38)
          have HL9 := Lib.hid (hL8.below hb9); have HO9 := Lib.hid (ho8.below hb9); have HX9 := Lib.hid (block_below hx8 hb9 (block_lt hx8)); have Hw9 := Lib.hid (hw8.trans (hb9.mono hw8.size))
          have HD9 : Hid ((w8.alloc (.cells #[.int .u8 (d.x0 : Int), .int .u8 (d.x1 : Int), .int .u8 (d.x2 : Int), .int .u8 (d.x3 : Int), .int .u8 (d.x4 : Int), .int .u8 (d.x5 : Int), .int .u8 (d.x6 : Int), .int .u8 (d.x7 : Int)] 38)).heap[w8.heap.size]? = some (.cells #[.int .u8 (d.x0 : Int), .int .u8 (d.x1 : Int), .int .u8 (d.x2 : Int), .int .u8 (d.x3 : Int), .int .u8 (d.x4 : Int), .int .u8 (d.x5 : Int), .int .u8 (d.x6 : Int), .int .u8 (d.x7 : Int)] 38 (0, 0))) := heap_alloc_new w8 _
          have hlen : L.length < 60000 := by omega
          have hbs8 : bs < w8.heap.size := block_lt hx8
          clear ho8 hc8 hL8 hx8 hw8 hb9 hd HO HL HX HR Hw hOFG c0 hl0 hlR y10 yf
          go_upto_region 10 with fail
          generalize hw9e : w8.alloc (.cells #[.int .u8 (d.x0 : Int), .int .u8 (d.x1 : Int), .int .u8 (d.x2 : Int), .int .u8 (d.x3 : Int), .int .u8 (d.x4 : Int), .int .u8 (d.x5 : Int), .int .u8 (d.x6 : Int), .int .u8 (d.x7 : Int)] 38) = w9 at *
          have hs9 : w8.heap.size < w9.heap.size := block_lt HD9.out
          clear hw9e
          obtain ⟨A8, c8, hb8, _, _⟩ := HL9.out.cells
          obtain ⟨yf, y0, y1, y2, y3, y4, y5, y6, y7, y8, y9, y10, y11⟩ := freeR hb8
          have hl9 := block_lt hb8
          have hlook := look_placesD (w := w9.drew) (HL9.out.map.same rfl) HL9.out.nodup HL9.out.ok d Hdk.out
          simp only [D8.V] at hlook
          obtain ⟨zf, z0, z1, z2, z3, z4, z5, z6, z7⟩ := free8 HD9.out
          clear hb8 y0 y1 y2 y3 y4 y5 y6 y7 y8 y9 y10
          by_cases he : e' = 0
          · subst he
            have hop := Hopn2.out
            rw [if_neg (by simp)] at hop
            have c9 : w9.cell? ⟨be, 0, none⟩ = some (.int .i64 0) := (block_cell HO9.out.er 0).trans rfl
            have f9 := block_free HO9.out.er
            have hl92 := block_lt HO9.out.er
            cases hp : posD L d with
            | some i =>
              rw [hp] at hlook
              rw [if_pos (by rw [hp]; simp)] at hop
              simp only at hlook
              have HY7 := Lib.hid (show Y.2.2 = 7 by rw [← hop])
              have ho10 := HO9.out.set 7
              have g10 := grown_set1 w9 be 0 (.int .i64 7)
              have hne : ∀ k, be < k → some k ≠ some be := fun k hk e => by injection e with e; omega
              have HO10 : Hid (OSt (w9.setCell ⟨be, 0, none⟩ (.int .i64 7)).drew bi be b s' 7) := Lib.hid (ho10.below (Below.refl _ _).drew)
              have hgg : w9.grownBy (w9.setCell ⟨be, 0, none⟩ (.int .i64 7)).drew (some be) := ⟨g10.os, g10.tape, g10.output, g10.size, g10.block⟩
              have HL10 := Lib.hid (HL9.out.kept hgg.size (fun k hk => hgg.block k (HL9.out.fl k hk).2 (hne k (HG.out k hk).1)))
              have HX10 := Lib.hid ((hgg.block bs (by omega) (by intro e; injection e with e; omega)).trans HX9.out)
              have HD10 := Lib.hid ((hgg.block w8.heap.size hs9 (by intro e; injection e with e; omega)).trans HD9.out)
              have Hw10 := Lib.hid (Hw9.out.grown hgg Hw9.out.size (fun q hq => by injection hq with hq; have := HOF.out be (.inr rfl); omega))
              clear hop hp ho10 g10 hgg Hopn2
              have hw10s : (w9.setCell ⟨be, 0, none⟩ (.int .i64 7)).drew.heap.size = w9.heap.size := by show (w9.setCell ⟨be, 0, none⟩ (.int .i64 7)).heap.size = _; simp
              go_region
              all_goals
                go_wp2_with fail
                generalize (w9.setCell ⟨be, 0, none⟩ (.int .i64 7)).drew = w10 at *
                clear zf z0 z1 z2 z3 z4 z5 z6 z7 yf y11 c9 f9 hl92 hlook
                refine (take_led d HL10.out Hdk.out Hw10.out.size hlen).mono ?_
                rintro e w11 ⟨rfl, hc11, ⟨A11, c11, hb11⟩, _⟩
                have hle10 : w8.heap.size ≤ w10.heap.size := by omega
                have HO11 := Lib.hid (HO10.out.same (fun k hk => hc11.block k (by have := block_lt HO10.out.er; omega) (fun hf => by have := (HG.out k hf).1; omega)))
                have HX11 := Lib.hid ((hc11.block bs (by omega) (fun hf => (HG.out bs hf).2 rfl)).trans HX10.out)
                have HB11 := Lib.hid hb11
                have Hw11 := Lib.hid (Hw10.out.trans (hc11.below (fun k hk => (HL10.out.fl k hk).1) Hw10.out.size))
                clear hc11 hb11 HO10 HX10 HL10 Hw10 HD10
                go_wp2
                go_roundw
                case rel => exact ⟨s', 7, L, A11, L.length + 1, c11, G, HO11.out, Hw11.out, HX11.out, HB11.out, HG.out, .inr ⟨by decide, HY7.out⟩⟩
                case measure =>
                  have := Hk.out
                  rw [Hlen0.out, block_cell HB11.out 10]
                  show cnt - (L.length + 1) < _
                  omega
            | none =>
              rw [hp] at hlook
              rw [if_neg (by rw [hp]; simp)] at hop
              simp only at hlook
              have Hop3 := Lib.hid hop; have Hp := Lib.hid hp
              have HL10 : Hid (LedAt w9.drew w.heap.size G bh mb D8.zero 0 (.pointer none) L) := Lib.hid (HL9.out.below (Below.refl _ _).drew)
              have HO10 : Hid (OSt w9.drew bi be b s' 0) := Lib.hid (HO9.out.below (Below.refl _ _).drew)
              have HX10 : Hid (w9.drew.heap[bs]? = some (.cells #[.int .u8 (x1.2.2.x0 : Int), .int .u8 (x1.2.2.x1 : Int), .int .u8 (x1.2.2.x2 : Int), .int .u8 (x1.2.2.x3 : Int), .int .u8 (x1.2.2.x4 : Int), .int .u8 (x1.2.2.x5 : Int), .int .u8 (x1.2.2.x6 : Int), .int .u8 (x1.2.2.x7 : Int)] 38 (0, 0))) := HX9
              have Hw10 : Hid (Below w.heap.size w w9.drew) := Lib.hid Hw9.out.drew
              clear hop hp Hopn2
              go_region
              all_goals
                clear hlook
                go_wp2_with fail
                refine (take_led d HL10.out Hdk.out Hw10.out.size hlen).mono ?_
                rintro e w11 ⟨rfl, hc11, ⟨A11, c11, hb11⟩, hl11⟩
                have hl11 := hl11 Hp.out
                have hle10 : w8.heap.size ≤ w9.drew.heap.size := by show _ ≤ w9.heap.size; omega
                have hbe9 : be < w9.drew.heap.size := block_lt HO10.out.er
                have HO11 := Lib.hid (HO10.out.same (fun k hk => hc11.block k (by omega) (fun hf => by have := (HG.out k hf).1; omega)))
                have HX11 := Lib.hid ((hc11.block bs (by omega) (fun hf => (HG.out bs hf).2 rfl)).trans HX10.out)
                have HB11 := Lib.hid hb11; have HL11 := Lib.hid hl11
                have Hw11 := Lib.hid (Hw10.out.trans (hc11.below (fun k hk => (HL10.out.fl k hk).1) Hw10.out.size))
                have HG2 : Hid (∀ k, more G w9.drew w11 k → be < k ∧ k ≠ bs) := Lib.hid (by
                  rintro k (h | h)
                  · exact HG.out k h
                  · omega)
                clear hc11 hb11 hl11 HO10 HX10 HL10 Hw10 HD9
                go_wp2
                go_roundw
                case rel => exact ⟨s', 0, L ++ [d], A11, L.length + 1, c11, _, HO11.out, Hw11.out, HX11.out, HB11.out, HG2.out, .inl ⟨rfl, HL11.out, by simp, by have := Hk.out; simp; omega, by rw [List.length_append]; exact Hop3.out⟩⟩
                case measure =>
                  have := Hk.out
                  rw [Hlen0.out, block_cell HB11.out 10]
                  show cnt - (L.length + 1) < _
                  omega
          · have hop := Hopn2.out
            rw [if_pos he] at hop
            have HYe := Lib.hid (show Y.2.2 = e' by rw [← hop])
            have b1 : (e' == 0) = false := by rw [beq_eq_false_iff_ne]; exact he
            have He := Lib.hid he
            have c9 : w9.cell? ⟨be, 0, none⟩ = some (.int .i64 e') := (block_cell HO9.out.er 0).trans rfl
            have hl92 := block_lt HO9.out.er
            have HL10 : Hid (LedAt w9.drew w.heap.size G bh mb D8.zero 0 (.pointer none) L) := Lib.hid (HL9.out.below (Below.refl _ _).drew)
            have HO10 : Hid (OSt w9.drew bi be b s' e') := Lib.hid (HO9.out.below (Below.refl _ _).drew)
            have HX10 : Hid (w9.drew.heap[bs]? = some (.cells #[.int .u8 (x1.2.2.x0 : Int), .int .u8 (x1.2.2.x1 : Int), .int .u8 (x1.2.2.x2 : Int), .int .u8 (x1.2.2.x3 : Int), .int .u8 (x1.2.2.x4 : Int), .int .u8 (x1.2.2.x5 : Int), .int .u8 (x1.2.2.x6 : Int), .int .u8 (x1.2.2.x7 : Int)] 38 (0, 0))) := HX9
            have Hw10 : Hid (Below w.heap.size w w9.drew) := Lib.hid Hw9.out.drew
            have HD10 : Hid (w9.drew.heap[w8.heap.size]? = some (.cells #[.int .u8 (d.x0 : Int), .int .u8 (d.x1 : Int), .int .u8 (d.x2 : Int), .int .u8 (d.x3 : Int), .int .u8 (d.x4 : Int), .int .u8 (d.x5 : Int), .int .u8 (d.x6 : Int), .int .u8 (d.x7 : Int)] 38 (0, 0))) := HD9
            clear hop Hopn2 he
            cases hp : posD L d with
            | some i =>
              rw [hp] at hlook
              simp only at hlook
              clear hp
              go_region
              all_goals
                clear hlook
                go_wp2_with fail
                go_upto_region 13 with fail
                obtain ⟨w10, hw10⟩ : ∃ w10, w10 = w9.drew := ⟨_, rfl⟩
                have hw10s : w10.heap.size = w9.heap.size := by rw [hw10]; rfl
                rw [← hw10] at HL10 HO10 HX10 Hw10 HD10 ⊢
                clear hw10 zf z0 z1 z2 z3 z4 z5 z6 z7 yf y11 c9 hl92
                obtain ⟨zf, z0, z1, z2, z3, z4, z5, z6, z7⟩ := free8 HD10.out
                have hl8 := block_lt HD10.out
                refine (take_led d HL10.out Hdk.out Hw10.out.size hlen).mono ?_
                rintro e w11 ⟨rfl, hc11, ⟨A11, c11, hb11⟩, _⟩
                have hle10 : w8.heap.size ≤ w10.heap.size := by omega
                have HO11 := Lib.hid (HO10.out.same (fun k hk => hc11.block k (by have := block_lt HO10.out.er; omega) (fun hf => by have := (HG.out k hf).1; omega)))
                have HX11 := Lib.hid ((hc11.block bs (by omega) (fun hf => (HG.out bs hf).2 rfl)).trans HX10.out)
                have HB11 := Lib.hid hb11
                have Hw11 := Lib.hid (Hw10.out.trans (hc11.below (fun k hk => (HL10.out.fl k hk).1) Hw10.out.size))
                clear hc11 hb11 HO10 HX10 HL10 Hw10 HD10
                go_wp2
                go_roundw
                case rel => exact ⟨s', e', L, A11, L.length + 1, c11, G, HO11.out, Hw11.out, HX11.out, HB11.out, HG.out, .inr ⟨He.out, HYe.out⟩⟩
                case measure =>
                  have := Hk.out
                  rw [Hlen0.out, block_cell HB11.out 10]
                  show cnt - (L.length + 1) < _
                  omega
            | none =>
              rw [hp] at hlook
              simp only at hlook
              clear hp
              go_region
              all_goals
                clear hlook
                go_wp2_with fail
                go_upto_region 13 with fail
                obtain ⟨w10, hw10⟩ : ∃ w10, w10 = w9.drew := ⟨_, rfl⟩
                have hw10s : w10.heap.size = w9.heap.size := by rw [hw10]; rfl
                rw [← hw10] at HL10 HO10 HX10 Hw10 HD10 ⊢
                clear hw10 zf z0 z1 z2 z3 z4 z5 z6 z7 yf y11 c9 hl92
                obtain ⟨zf, z0, z1, z2, z3, z4, z5, z6, z7⟩ := free8 HD10.out
                have hl8 := block_lt HD10.out
                refine (take_led d HL10.out Hdk.out Hw10.out.size hlen).mono ?_
                rintro e w11 ⟨rfl, hc11, ⟨A11, c11, hb11⟩, _⟩
                have hle10 : w8.heap.size ≤ w10.heap.size := by omega
                have HO11 := Lib.hid (HO10.out.same (fun k hk => hc11.block k (by have := block_lt HO10.out.er; omega) (fun hf => by have := (HG.out k hf).1; omega)))
                have HX11 := Lib.hid ((hc11.block bs (by omega) (fun hf => (HG.out bs hf).2 rfl)).trans HX10.out)
                have HB11 := Lib.hid hb11
                have Hw11 := Lib.hid (Hw10.out.trans (hc11.below (fun k hk => (HL10.out.fl k hk).1) Hw10.out.size))
                clear hc11 hb11 HO10 HX10 HL10 Hw10 HD10
                go_wp2
                go_roundw
                case rel => exact ⟨s', e', L, A11, L.length + 1, c11, G, HO11.out, Hw11.out, HX11.out, HB11.out, HG.out, .inr ⟨He.out, HYe.out⟩⟩
                case measure =>
                  have := Hk.out
                  rw [Hlen0.out, block_cell HB11.out 10]
                  show cnt - (L.length + 1) < _
                  omega
        · have hd1 : decide ((L.length : Int) < (cnt : Int)) = false := decide_eq_false (by omega)
          have hki : ¬ ((L.length : Int) < (cnt : Int)) := by omega
          have hz : cnt - L.length = 0 := by omega
          have hop := Hopn.out
          rw [hz] at hop
          have Hop3 : Hid (Y = (s, L, 0)) := Lib.hid hop.symm
          clear hlt hop hz Hopn
          go_wp2
          go_meet
          refine ⟨s, 0, HO.out, Hw.out, HX.out, by rw [Hop3.out], fun _ => ?_⟩
          rw [Hop3.out]
          exact ⟨rfl, hLc, G, HL.out, HG.out⟩
      · have b1 : (err == 0) = false := by rw [beq_eq_false_iff_ne]; exact herr
        have Herr := Lib.hid herr
        have HYe := Lib.hid hYe
        clear herr hYe
        cases hd : decide ((n' : Int) < (cnt : Int)) with
        | true =>
          have hki : (n' : Int) < (cnt : Int) := of_decide_eq_true hd
          go_wp2
          go_meet
          exact ⟨s, err, HO.out, Hw.out, HX.out, HYe.out, fun h => absurd h Herr.out⟩
        | false =>
          have hki : ¬ ((n' : Int) < (cnt : Int)) := of_decide_eq_false hd
          go_wp2
          go_meet
          exact ⟨s, err, HO.out, Hw.out, HX.out, HYe.out, fun h => absurd h Herr.out⟩
  case rest =>
    obtain ⟨s, err, ho, hw, hx, hYe, hend⟩ := hcut
    obtain ⟨w8, rfl⟩ : ∃ w8 : World, w8 = wc := ⟨_, rfl⟩
    have HO := Lib.hid ho; have Hw := Lib.hid hw; have HX := Lib.hid hx; have HYe := Lib.hid hYe; have He := Lib.hid hend
    have c0 : w8.cell? ⟨be, 0, none⟩ = some (.int .i64 err) := (block_cell ho.er 0).trans rfl
    have hl0 := block_lt ho.er
    clear ho hw hx hYe hend HO7 Hw7 HX7 HR7 HM7 Hin
    by_cases herr : err ≠ 0
    · have b1 : (err == 0) = false := by rw [beq_eq_false_iff_ne]; exact herr
      have b2 : (err != 0) = true := by rw [bne_iff_ne]; exact herr
      have ho : openN l = (none, err) := by rw [Hop2.out, HYe.out, if_pos herr, if_pos herr]
      have Ho := Lib.hid ho
      clear herr ho
      go_wp2
      all_goals (try go_region)
      all_goals (try go_wp2)
      all_goals
        go_ret2
        refine ⟨Hw.out.drew, ?_⟩
        rw [Ho.out]
        exact rfl
    have he0 : err = 0 := by simp at herr; exact herr
    subst he0
    obtain ⟨hsY, hYl, G, hled, hG⟩ := He.out rfl
    subst hsY
    have c1 : w8.cell? ⟨bi, 0, none⟩ = some (.pointer (some ⟨b, 0, none⟩)) := (block_cell HO.out.inn 0).trans rfl
    have hl1 := block_lt HO.out.inn
    have f0 := block_free HO.out.er
    have HL := Lib.hid hled
    clear herr hled He
    go_wp2_with fail
    refine (end_any b Y.1 w8 HO.out.rd).mono ?_
    rintro e w9 ⟨rfl, kd, rfl⟩
    have ho8 : OSt (w8.drewN kd) bi be b Y.1 0 := HO.out.same (fun k hk => rfl)
    have hl8 : LedAt (w8.drewN kd) w.heap.size G bh mb D8.zero 0 (.pointer none) Y.2.1 := HL.out.kept (Nat.le_refl _) (fun k hk => rfl)
    have hx8 : (w8.drewN kd).heap[bs]? = some (.cells #[.int .u8 (x1.2.2.x0 : Int), .int .u8 (x1.2.2.x1 : Int), .int .u8 (x1.2.2.x2 : Int), .int .u8 (x1.2.2.x3 : Int), .int .u8 (x1.2.2.x4 : Int), .int .u8 (x1.2.2.x5 : Int), .int .u8 (x1.2.2.x6 : Int), .int .u8 (x1.2.2.x7 : Int)] 38 (0, 0)) := HX.out
    have hw8 := below_drewN Hw.out kd
    clear c0 c1 hl1 HL HO Hw HX f0 hl0
    generalize w8.drewN kd = w8' at *
    have c0 : w8'.cell? ⟨be, 0, none⟩ = some (.int .i64 0) := (block_cell ho8.er 0).trans rfl
    have hl0 := block_lt ho8.er
    have f0 := block_free ho8.er
    have HO9 := Lib.hid (ho8.set (endRS Y.1))
    have g9 := grown_set1 w8' be 0 (.int .i64 (endRS Y.1))
    have HL9 := Lib.hid (hl8.kept g9.size (fun k hk => g9.block k (hl8.fl k hk).2 (by intro e; injection e with e; have := (hG k hk).1; omega)))
    have HX9 := Lib.hid ((g9.block bs (block_lt hx8) (by intro e; injection e with e; omega)).trans hx8)
    have Hw9 := Lib.hid (hw8.grown g9 hw8.size (fun q hq => by injection hq with hq; have := HOF.out be (.inr rfl); omega))
    clear ho8 g9 hl8 hx8 hw8
    go_upto_region 16 with fail
    generalize w8'.setCell ⟨be, 0, none⟩ (.int .i64 (endRS Y.1)) = w9 at *
    clear c0 f0 hl0
    have c0 : w9.cell? ⟨be, 0, none⟩ = some (.int .i64 (endRS Y.1)) := (block_cell HO9.out.er 0).trans rfl
    have hl0 := block_lt HO9.out.er
    have f0 := block_free HO9.out.er
    have he0 : (if (0 : Int) ≠ 0 then (0 : Int) else endRS Y.1) = endRS Y.1 := by simp
    by_cases hE : endRS Y.1 ≠ 0
    · have b2 : (endRS Y.1 != 0) = true := by rw [bne_iff_ne]; exact hE
      have ho : openN l = (none, endRS Y.1) := by rw [Hop2.out, HYe.out, he0, if_pos hE]
      have Ho := Lib.hid ho
      clear hE ho he0
      go_wp2
      all_goals (try go_region)
      all_goals (try go_wp2)
      all_goals
        go_ret2
        refine ⟨Hw9.out.drew, ?_⟩
        rw [Ho.out]
        exact rfl
    have hE0 : endRS Y.1 = 0 := by simp at hE; exact hE
    have ho : openN l = (some ⟨x1.2.2, h, Y.2.1⟩, 0) := by rw [Hop2.out, HYe.out, he0, if_neg hE]
    have Ho := Lib.hid ho
    rw [hE0] at c0
    clear hE ho hE0 he0
    obtain ⟨zf, z0, z1, z2, z3, z4, z5, z6, z7⟩ := free8 HX9.out
    have hlx := block_lt HX9.out
    go_wp2_with fail
    refine (new_any x1.2.2 h w9 Hd1.out hh8).mono ?_
    rintro e w10 ⟨br, F', T0, T1, rfl, ha, hb⟩
    have HA := Lib.hid ha
    have HL10 := Lib.hid (HL9.out.below hb); have HO10 := Lib.hid ((HO9.out.below hb).set 0); have Hw10 := Lib.hid (Hw9.out.trans (hb.mono Hw9.out.size))
    have g11 := grown_set1 w10 be 0 (.int .i64 0)
    have hbel : be < w9.heap.size := hl0
    have HA11 := Lib.hid (ha.kept g11.size (fun k hk => g11.block k (ha.foot_lt k hk).2 (by intro e; injection e with e; have := (ha.foot_lt k hk).1; omega)))
    have HL11 := Lib.hid (HL10.out.kept g11.size (fun k hk => g11.block k (HL10.out.fl k hk).2 (by intro e; injection e with e; have := (hG k hk).1; omega)))
    have Hw11 := Lib.hid (Hw10.out.grown g11 Hw10.out.size (fun q hq => by injection hq with hq; have := HOF.out be (.inr rfl); omega))
    have hGl : ∀ k, G k → k < w9.heap.size := fun k hk => (HL9.out.fl k hk).2
    have c10 : w10.cell? ⟨be, 0, none⟩ = some (.int .i64 (endRS Y.1)) := (World.cell?_of_block (hb.block be hl0)).trans ((block_cell HO9.out.er 0).trans rfl)
    have f10 : ∀ j, w10.frozen? ⟨be, j, none⟩ = false := block_free (block_below HO9.out.er hb hl0)
    have hl10 : be < w10.heap.size := Nat.lt_of_lt_of_le hl0 hb.size
    have hs9 := Hw9.out.size
    clear zf z0 z1 z2 z3 z4 z5 z6 z7 c0 f0 hl0 ha hb g11 HL10 Hw10 HA
    go_upto_region 19 with fail
    have c11 : (w10.setCell ⟨be, 0, none⟩ (.int .i64 0)).cell? ⟨be, 0, none⟩ = some (.int .i64 0) := (block_cell HO10.out.er 0).trans rfl
    have hl11 := block_lt HO10.out.er
    generalize w10.setCell ⟨be, 0, none⟩ (.int .i64 0) = w11 at *
    clear c10 f10 hl10
    obtain ⟨mb', bt, lN, htN⟩ := HA11.out.led
    obtain ⟨A', cA, hbN, _, _⟩ := lN.cells
    obtain ⟨AL, cL, hbH, hoH, hgH⟩ := HL11.out.cells
    have hbr9 := (lN.fl br lN.fb).1
    have HBN := Lib.hid hbN; have HTN := Lib.hid htN; have HoH := Lib.hid hoH; have HgH := Lib.hid hgH
    have hapN := HA11.out.apart br lN.fb
    obtain ⟨yf, y0, y1, y2, y3, y4, y5, y6, y7, y8, y9, y10, y11⟩ := freeR hbN
    obtain ⟨uf, u0, u1, u2, u3, u4, u5, u6, u7, u8, u9, u10, u11⟩ := freeR hbH
    have hlN := block_lt hbN
    have hlH := block_lt hbH
    have hbh9 : bh < w9.heap.size := hGl bh HL11.out.fb
    have hT0 := HA11.out.b0
    have hT1 := HA11.out.b1
    have hFin : Hid (∀ w13 : World, w11.grownBy w13 (some br) → w13.heap[br]? = some (.cells (ringC x1.2.2 h (.pointer (some ⟨bt, 0, none⟩)) (.slice AL Y.2.1.length cL) mb) 91 (0, 0)) → RingAt w13 w.heap.size (fun k => (G k ∨ k = br)) T0 T1 br ⟨x1.2.2, h, Y.2.1⟩) := Lib.hid (fun w13 g13 hb13 => by
      have hGk : ∀ k, G k → w13.heap[k]? = w11.heap[k]? := fun k hk => g13.block k (HL11.out.fl k hk).2 (by intro e; injection e with e; have := hGl k hk; omega)
      refine ⟨⟨mb, bt, ⟨⟨AL, cL, hb13, own_same HoH.out (fun g hg => hGk g (HgH.out g hg)), fun g hg => .inl (HgH.out g hg)⟩, HL11.out.map.same (hGk mb HL11.out.fm), HL11.out.nodup, HL11.out.ok, .inr rfl, .inl HL11.out.fm, ?_⟩, HTN.out.kept (fun k h1 h2 => g13.block k (by omega) (by intro e; injection e with e; subst e; exact hapN ⟨h1, h2⟩)) g13.size⟩, ?_, by omega, Nat.le_trans hT1 g13.size, ⟨Hd1.out, hh8, HL11.out.nodup, HL11.out.ok, Nat.le_trans hYl Hcnt.out⟩⟩
      · have := g13.size
        rintro k (hk | rfl)
        · have := HL11.out.fl k hk; omega
        · omega
      · rintro k (hk | rfl) ht
        · have := hGl k hk; omega
        · exact hapN ht)
    clear lN htN hbN hbH hoH hgH y0 y1 y2 y3 y4 y5 y6 y7 y8 y9 u0 u1 u2 u3 u4 u5 u6 u7 u8 u9
    go_wp2
    go_region
    all_goals
      go_wp2
      have h1 := Joins.block_setCell (i := 10) HBN.out (.slice AL Y.2.1.length cL)
      have h2 := Joins.block_setCell (i := 11) h1 (.map (some mb))
      have h3 : ((w11.setCell ⟨br, 10, none⟩ (.slice AL Y.2.1.length cL)).setCell ⟨br, 11, none⟩ (.map (some mb))).heap[br]? = some (.cells (ringC x1.2.2 h (.pointer (some ⟨bt, 0, none⟩)) (.slice AL Y.2.1.length cL) mb) 91 (0, 0)) := h2
      have g3 := (grown_set1 w11 br 10 (.slice AL Y.2.1.length cL)).trans (grown_set1 _ br 11 (.map (some mb)))
      have hfin := hFin.out _ g3 h3
      have hwf := Hw11.out.grown g3 Hw11.out.size (fun q hq => by injection hq with hq; omega)
      clear h1 h2 h3 g3
      go_ret2
      refine ⟨hwf.drew, ?_⟩
      rw [Ho.out]
      exact ⟨br, _, T0, T1, rfl, hfin.below (Below.refl _ _).drew⟩
end Go.Proofs.YtmpklplojfjfbaaGreatDoor
namespace Go.Proofs.YtmpklplojfjfbaaGreatDoor
open Go.RowKit Go.Lib
theorem digestS_step {l : List Nat} {at_ : Nat} {d : D8} {r : List Nat} (hd : l.drop at_ = encB d.bytes ++ r) : digestS ⟨l, at_, 0⟩ = (⟨l, at_ + (encB d.bytes).length, 0⟩, 0, d) := by
  have h := bytesRS_step (most := 8) hd (by rw [bytes_len]; decide) (by rw [bytes_len]; decide)
  unfold digestS
  rw [h.1]
  rfl
theorem drop_step {l a r : List Nat} {at_ : Nat} (h : l.drop at_ = a ++ r) : l.drop (at_ + a.length) = r := by
  rw [← List.drop_drop, h, List.drop_left]
theorem openL_all {l : List Nat} : ∀ (rest : List D8) (led : List D8) (at_ : Nat), l.drop at_ = rest.flatMap (fun d => encB d.bytes) → (led ++ rest).Nodup → ∃ at', openL ⟨l, at_, 0⟩ led rest.length = (⟨l, at', 0⟩, led ++ rest, 0) ∧ l.drop at' = []
  | [], led, at_, hd, _ => ⟨at_, by simp [openL], hd⟩
  | d :: rest, led, at_, hd, hn => by
    rw [List.flatMap_cons] at hd
    have hs := digestS_step hd
    have hnd : posD led d = none := by
      rw [posD_none]
      intro hm
      have := List.nodup_append.1 hn
      exact this.2.2 d hm d (by simp) rfl
    obtain ⟨at', h1, h2⟩ := openL_all rest (led ++ [d]) _ (drop_step hd) (by rw [List.append_assoc]; exact hn)
    refine ⟨at', ?_, h2⟩
    show (if (digestS ⟨l, at_, 0⟩).2.1 ≠ 0 then _ else if posD led (digestS ⟨l, at_, 0⟩).2.2 ≠ none then _ else openL (digestS ⟨l, at_, 0⟩).1 (led ++ [(digestS ⟨l, at_, 0⟩).2.2]) rest.length) = _
    rw [hs]
    simp only [ne_eq, not_true_eq_false, if_false, hnd]
    rw [h1, List.append_assoc]
    rfl
theorem open_save {r : RingM} (h : r.ok) : openN (saveB r) = (some r, 0) := by
  obtain ⟨h1, h2, h3, h4, h5⟩ := h
  have hp := pow_le8 h2
  obtain ⟨l, hl⟩ : ∃ l, l = saveB r := ⟨_, rfl⟩
  rw [← hl]
  have hd0 : l.drop 0 = encB r.secret.bytes ++ (encN r.h ++ (encN r.led.length ++ r.led.flatMap fun d => encB d.bytes)) := by
    rw [hl]; simp [saveB, saveH]
  have e1 := digestS_step hd0
  have hd1 := drop_step hd0
  have e2 := numRS_step (most := 8) hd1 (by omega) h2
  have hd2 := drop_step hd1
  have e3 := numRS_step (most := 2 ^ r.h) hd2 (by omega) h5
  have hd3 := drop_step hd2
  obtain ⟨at', e4, e5⟩ := openL_all r.led [] _ hd3 (by simpa using h3)
  have e6 : endRS ⟨l, at', 0⟩ = 0 := by
    have : l.length ≤ at' := List.drop_eq_nil_iff.1 e5
    unfold endRS
    simp only [ne_eq, not_true_eq_false, if_false]
    rw [if_neg (by omega)]
  have eh : openH l = (⟨l, 0 + (encB r.secret.bytes).length + (encN r.h).length + (encN r.led.length).length, 0⟩, 0, r.secret, r.h, r.led.length) := by
    unfold openH
    simp only [e1]
    unfold numberS
    simp only [ne_eq, not_true_eq_false, if_false, e2.1, e3.1]
  unfold openN
  simp only [eh, ne_eq, not_true_eq_false, if_false, e4, e6, List.nil_append]
theorem enc_lt2 {i : Nat} (h : i < 16384) : ∀ x ∈ encN i, x < 256 := by
  unfold encN
  by_cases h1 : i < 128
  · rw [enc7_small h1]; intro x hx; simp at hx; omega
  · rw [enc7_big h1, enc7_small (show i / 128 < 128 by omega)]; intro x hx; simp at hx; omega
theorem saveB_lt {r : RingM} (h : r.ok) : ∀ x ∈ saveB r, x < 256 := by
  obtain ⟨h1, h2, h3, h4, h5⟩ := h
  have hp := (pow_le8 h2).2
  have he : ∀ d : D8, d.ok → ∀ x ∈ encB d.bytes, x < 256 := fun d hd x hx => by
    unfold encB at hx
    rcases List.mem_append.1 hx with hx | hx
    · exact enc_lt2 (by rw [bytes_len]; decide) x hx
    · exact D8.bytes_lt hd x hx
  have hl : r.led.length < 16384 := Nat.lt_of_le_of_lt (Nat.le_trans h5 hp) (by decide)
  intro x hx
  simp only [saveB, saveH, List.mem_append] at hx
  rcases hx with ((hx | hx) | hx) | hx
  · exact he _ h1 x hx
  · exact enc_lt2 (by omega) x hx
  · exact enc_lt2 hl x hx
  · simp only [List.mem_flatMap] at hx
    obtain ⟨d, hd, hx⟩ := hx
    exact he d (h4 d hd) x hx
theorem saveB_len {r : RingM} (h : r.ok) : (saveB r).length ≤ 5000 := by
  have hp := (pow_le8 h.2.1).2
  have h5 := Nat.le_trans h.2.2.2.2 hp
  have := saveH_len r
  have := flatEB_len r.led
  unfold saveB
  rw [List.length_append]
  omega
end Go.Proofs.YtmpklplojfjfbaaGreatDoor
