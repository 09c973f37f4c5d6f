/- A ring's bytes read: the walks of Open's two functions. Condition: none. -/
import Derived.Test.YtmpklplojfjfbaaKgI
import Derived.Test.YtmpklplojfjfbaaJoinA
namespace Go.Proofs.Ytmpklplojfjfbaa
open Go.RowKit Go.Lib



theorem Chg.new {F : Nat → Prop} {w w1 w2 : World} {g : Nat} (h : Chg F w w1) (hg : w1.grownBy w2 (some g)) (hn : F g ∨ w.heap.size ≤ g) : Chg F w w2 :=
  ⟨hg.os.trans h.os, hg.tape.trans h.tape, hg.output.trans h.output, Nat.le_trans h.size hg.size, fun k hk hf => (hg.block k (Nat.lt_of_lt_of_le hk h.size) (by
    intro e; injection e with e; subst e
    rcases hn with hn | hn
    · exact hf hn
    · omega)).trans (h.block k hk hf)⟩
/-- What is read, and what is wrong. -/
structure OSt (w : World) (bi be b : Nat) (s : RS) (err : Int) : Prop where
  inn : w.heap[bi]? = some (.cells #[.pointer (some ⟨b, 0, none⟩)] 79 (0, 0))
  er : w.heap[be]? = some (.cells #[.int .i64 err] 26 (0, 0))
  rd : RdAt w b s
  lt : b < bi
  lt2 : bi < be
def orF (b be : Nat) : Nat → Prop := fun k => k = b ∨ k = be
theorem OSt.same {w w' : World} {bi be b : Nat} {s : RS} {err : Int} (o : OSt w bi be b s err) (h : ∀ k, k ≤ be → w'.heap[k]? = w.heap[k]?) : OSt w' bi be b s err :=
  ⟨(h bi (by have := o.lt2; omega)).trans o.inn, (h be (Nat.le_refl _)).trans o.er, o.rd.same (fun k hk => h k (by have := o.lt; have := o.lt2; omega)), o.lt, o.lt2⟩
theorem OSt.below {w w' : World} {bi be b : Nat} {s : RS} {err : Int} (o : OSt w bi be b s err) (h : Below w.heap.size w w') : OSt w' bi be b s err :=
  o.same (fun k hk => h.block k (by have := block_lt o.er; omega))
theorem OSt.set {w : World} {bi be b : Nat} {s : RS} {err : Int} (o : OSt w bi be b s err) (v : Int) : OSt (w.setCell ⟨be, 0, none⟩ (.int .i64 v)) bi be b s v := by
  have g := grown_set1 w be 0 (.int .i64 v)
  have h1 := o.lt; have h2 := o.lt2
  refine ⟨(g.block bi (block_lt o.inn) (by intro e; injection e with e; omega)).trans o.inn, ?_, o.rd.grown g (by omega), h1, h2⟩
  have := Joins.block_setCell (i := 0) o.er (.int .i64 v)
  simpa using this
def digestS (s : RS) : RS × Int × D8 :=
  ((bytesRS s 8).1, (if (bytesRS s 8).1.err ≠ 0 then (bytesRS s 8).1.err else if (bytesRS s 8).2.length ≠ 8 then 3 else 0),
   (if (bytesRS s 8).1.err ≠ 0 then D8.zero else if (bytesRS s 8).2.length ≠ 8 then D8.zero else chunk (bytesRS s 8).2 0))
theorem bytesRS_lt {s : RS} (h : ∀ x ∈ s.l, x < 256) (m : Nat) : ∀ x ∈ (bytesRS s m).2, x < 256 := by
  unfold bytesRS
  split
  · simp
  · split
    · simp
    · unfold takeB
      split
      · simp
      · simp only
        split
        · simp
        · split
          · simp
          · intro x hx
            exact h x (List.mem_of_mem_drop (List.mem_of_mem_drop (List.mem_of_mem_take hx)))
theorem digestS_ok {s : RS} (h : ∀ x ∈ s.l, x < 256) : (digestS s).2.2.ok := by
  unfold digestS
  simp only
  split
  · exact D8.zero_ok
  · split
    · exact D8.zero_ok
    · exact chunk_ok (bytesRS_lt h 8) 0
set_option maxRecDepth 100000 in
set_option maxHeartbeats 4000000 in
theorem digest_any {w : World} {bi be b : Nat} {s : RS} {err : Int} (o : OSt w bi be b s err) :
    Calls Try.prog 37 #[.pointer (some ⟨bi, 0, none⟩), .pointer (some ⟨be, 0, none⟩)] w fun e w' => e = .returned (.agg #[.int .u8 ((digestS s).2.2.x0 : Int), .int .u8 ((digestS s).2.2.x1 : Int), .int .u8 ((digestS s).2.2.x2 : Int), .int .u8 ((digestS s).2.2.x3 : Int), .int .u8 ((digestS s).2.2.x4 : Int), .int .u8 ((digestS s).2.2.x5 : Int), .int .u8 ((digestS s).2.2.x6 : Int), .int .u8 ((digestS s).2.2.x7 : Int)]) ∧ OSt w' bi be b (digestS s).1 (digestS s).2.1 ∧ Chg (orF b be) w w' := by
  have HX0 : Hid ((w.alloc (.cells #[.int .u8 0, .int .u8 0, .int .u8 0, .int .u8 0, .int .u8 0, .int .u8 0, .int .u8 0, .int .u8 0] 29)).heap[w.heap.size]? = some (.cells #[.int .u8 0, .int .u8 0, .int .u8 0, .int .u8 0, .int .u8 0, .int .u8 0, .int .u8 0, .int .u8 0] 29 (0, 0))) := heap_alloc_new w _
  have hb0 := h_one w (.cells #[.int .u8 0, .int .u8 0, .int .u8 0, .int .u8 0, .int .u8 0, .int .u8 0, .int .u8 0, .int .u8 0] 29)
  have HO0 := Lib.hid (o.below hb0); have Hc0 : Hid (Chg (orF b be) w (w.alloc (.cells #[.int .u8 0, .int .u8 0, .int .u8 0, .int .u8 0, .int .u8 0, .int .u8 0, .int .u8 0, .int .u8 0] 29))) := Lib.hid (Chg.of_below hb0)
  have hbe := block_lt o.er
  have hbw : b < w.heap.size := o.rd.lt
  clear o hb0
  have hds : Hid (digestS s = ((bytesRS s 8).1, (if (bytesRS s 8).1.err ≠ 0 then (bytesRS s 8).1.err else if (bytesRS s 8).2.length ≠ 8 then 3 else 0), (if (bytesRS s 8).1.err ≠ 0 then D8.zero else if (bytesRS s 8).2.length ≠ 8 then D8.zero else chunk (bytesRS s 8).2 0))) := Lib.hid rfl
  go_enter Try.func37, Try.ntmps37
  go_upto_region 1 with fail
  generalize w.alloc (.cells #[.int .u8 0, .int .u8 0, .int .u8 0, .int .u8 0, .int .u8 0, .int .u8 0, .int .u8 0, .int .u8 0] 29) = v0 at *
  have c0 : v0.cell? ⟨bi, 0, none⟩ = some (.pointer (some ⟨b, 0, none⟩)) := (block_cell HO0.out.inn 0).trans rfl
  have hl0 := block_lt HO0.out.inn
  go_wp2_with fail
  refine (bytes_any b 8 s v0 HO0.out.rd (by decide)).mono ?_
  rintro e v1 ⟨A, n, c, rfl, ho1, hn1, hr1, hg1⟩
  have hlt := HO0.out.lt; have hlt2 := HO0.out.lt2
  have HO1 : Hid (OSt v1 bi be b (bytesRS s 8).1 err) := Lib.hid ⟨(hg1.block bi hl0 (by intro e; injection e with e; omega)).trans HO0.out.inn, (hg1.block be (block_lt HO0.out.er) (by intro e; injection e with e; omega)).trans HO0.out.er, hr1, hlt, hlt2⟩
  have HX1 := Lib.hid ((hg1.block _ (block_lt HX0.out) (by intro e; injection e with e; omega)).trans HX0.out)
  have Hc1 := Lib.hid (Hc0.out.new hg1 (.inl (.inl rfl)))
  have HW1 := Lib.hid ho1; have Hn1 := Lib.hid hn1
  have hbe0 : be < v0.heap.size := block_lt HO0.out.er
  clear ho1 hn1 hr1 hg1 HO0 HX0 Hc0 c0
  generalize (bytesRS s 8).1 = s1 at *
  generalize (bytesRS s 8).2 = x1 at *
  have c1 : v1.cell? ⟨bi, 0, none⟩ = some (.pointer (some ⟨b, 0, none⟩)) := (block_cell HO1.out.inn 0).trans rfl
  have hl1 := block_lt HO1.out.inn
  have c2 : v1.cell? ⟨be, 0, none⟩ = some (.int .i64 err) := (block_cell HO1.out.er 0).trans rfl
  have f2 := block_free HO1.out.er
  have hl2 := block_lt HO1.out.er
  go_wp2_with fail
  refine (err_any b s1 v1 HO1.out.rd).mono ?_
  rintro e w' ⟨rfl, rfl⟩
  have HO2 := Lib.hid (HO1.out.set s1.err)
  have g2 := grown_set1 v1 be 0 (.int .i64 s1.err)
  have HX2 := Lib.hid ((g2.block _ (block_lt HX1.out) (by intro e; injection e with e; omega)).trans HX1.out)
  have Hc2 := Lib.hid (Hc1.out.new g2 (.inl (.inr rfl)))
  have HR2 := Lib.hid (Rd.of_own (own_keep HW1.out (fun g hg => g2.block g (HW1.out.lt g hg).2 (by intro e; injection e with e; have := (HW1.out.lt g hg).1; omega))))
  go_upto_region 3 with fail
  generalize v1.setCell ⟨be, 0, none⟩ (.int .i64 s1.err) = v2 at *
  clear c1 c2 f2 hl1 hl2 g2 HO1 HX1 Hc1 HW1 hbe0
  have c2 : v2.cell? ⟨be, 0, none⟩ = some (.int .i64 s1.err) := (block_cell HO2.out.er 0).trans rfl
  have f2 := block_free HO2.out.er
  have hl2 := block_lt HO2.out.er
  have hlX := block_lt HX2.out
  by_cases he : s1.err ≠ 0
  · have b1 : (s1.err == 0) = false := by rw [beq_eq_false_iff_ne]; exact he
    have b2 : (s1.err != 0) = true := by rw [bne_iff_ne]; exact he
    have hd := hds.out
    rw [if_pos he, if_pos he] at hd
    have Hd := Lib.hid hd
    obtain ⟨zf, r0, r1, r2, r3, r4, r5, r6, r7⟩ := free8 HX2.out
    have Hbx := HX2
    clear he hd hds
    go_wp2
    clear zf r0 r1 r2 r3 r4 r5 r6 r7
    have h8 := set8 Hbx.out (.int .u8 0) (.int .u8 0) (.int .u8 0) (.int .u8 0) (.int .u8 0) (.int .u8 0) (.int .u8 0) (.int .u8 0)
    have g8 := grown_set8 v2 w.heap.size (.int .u8 0) (.int .u8 0) (.int .u8 0) (.int .u8 0) (.int .u8 0) (.int .u8 0) (.int .u8 0) (.int .u8 0)
    generalize ((((((((v2.setCell ⟨w.heap.size, 0, none⟩ (.int .u8 0)).setCell ⟨w.heap.size, 1, none⟩ (.int .u8 0)).setCell ⟨w.heap.size, 2, none⟩ (.int .u8 0)).setCell ⟨w.heap.size, 3, none⟩ (.int .u8 0)).setCell ⟨w.heap.size, 4, none⟩ (.int .u8 0)).setCell ⟨w.heap.size, 5, none⟩ (.int .u8 0)).setCell ⟨w.heap.size, 6, none⟩ (.int .u8 0)).setCell ⟨w.heap.size, 7, none⟩ (.int .u8 0)) = v3 at *
    obtain ⟨zf, r0, r1, r2, r3, r4, r5, r6, r7⟩ := free8 h8
    refine bodyPost_ret (v := .agg #[.int .u8 0, .int .u8 0, .int .u8 0, .int .u8 0, .int .u8 0, .int .u8 0, .int .u8 0, .int .u8 0]) (by simp [results, Try.results37, go_sem, r0, r1, r2, r3, r4, r5, r6, r7]) rfl ⟨by rw [Hd.out]; rfl, ?_, Hc2.out.new g8 (.inr (Nat.le_refl _))⟩
    rw [Hd.out]
    exact HO2.out.same (fun k hk => g8.block k (by omega) (by intro e; injection e with e; omega))
  have b1 : (s1.err == 0) = true := by rw [beq_iff_eq]; omega
  have he0 : s1.err = 0 := by omega
  have hd := hds.out
  rw [if_neg he, if_neg he] at hd
  clear he hds
  by_cases hn : n = 8
  · subst hn
    have hd2 := hd
    rw [if_neg (by rw [← Hn1.out]; simp), if_neg (by rw [← Hn1.out]; simp)] at hd2
    have Hd := Lib.hid hd2
    obtain ⟨b3, o3, rfl, hbB, hcc⟩ := chunk_rd (k := 0) HR2.out (by omega)
    have x0 : v2.cell? ⟨b3, o3, none⟩ = some (.int .u8 ((chunk x1 0).x0 : Int)) := hcc 0 (by decide)
    have x1' : v2.cell? ⟨b3, o3 + 1, none⟩ = some (.int .u8 ((chunk x1 0).x1 : Int)) := hcc 1 (by decide)
    have x2 : v2.cell? ⟨b3, o3 + 2, none⟩ = some (.int .u8 ((chunk x1 0).x2 : Int)) := hcc 2 (by decide)
    have x3 : v2.cell? ⟨b3, o3 + 3, none⟩ = some (.int .u8 ((chunk x1 0).x3 : Int)) := hcc 3 (by decide)
    have x4 : v2.cell? ⟨b3, o3 + 4, none⟩ = some (.int .u8 ((chunk x1 0).x4 : Int)) := hcc 4 (by decide)
    have x5 : v2.cell? ⟨b3, o3 + 5, none⟩ = some (.int .u8 ((chunk x1 0).x5 : Int)) := hcc 5 (by decide)
    have x6 : v2.cell? ⟨b3, o3 + 6, none⟩ = some (.int .u8 ((chunk x1 0).x6 : Int)) := hcc 6 (by decide)
    have x7 : v2.cell? ⟨b3, o3 + 7, none⟩ = some (.int .u8 ((chunk x1 0).x7 : Int)) := hcc 7 (by decide)
    have hra := run_arr
    clear hcc hd hd2 Hn1
    generalize chunk x1 0 = d at *
    obtain ⟨zf, r0, r1, r2, r3, r4, r5, r6, r7⟩ := free8 HX2.out
    rw [he0] at c2
    clear b1
    go_wp2
    have Hbx := HX2
    have Hbw : Hid (Below 0 v2 v2) := Lib.hid (Below.refl _ _)
    clear zf r0 r1 r2 r3 r4 r5 r6 r7
    have h8 := set8 Hbx.out (.int .u8 (d.x0 : Int)) (.int .u8 (d.x1 : Int)) (.int .u8 (d.x2 : Int)) (.int .u8 (d.x3 : Int)) (.int .u8 (d.x4 : Int)) (.int .u8 (d.x5 : Int)) (.int .u8 (d.x6 : Int)) (.int .u8 (d.x7 : Int))
    have g8 := grown_set8 v2 w.heap.size (.int .u8 (d.x0 : Int)) (.int .u8 (d.x1 : Int)) (.int .u8 (d.x2 : Int)) (.int .u8 (d.x3 : Int)) (.int .u8 (d.x4 : Int)) (.int .u8 (d.x5 : Int)) (.int .u8 (d.x6 : Int)) (.int .u8 (d.x7 : Int))
    generalize ((((((((v2.setCell ⟨w.heap.size, 0, none⟩ (.int .u8 (d.x0 : Int))).setCell ⟨w.heap.size, 1, none⟩ (.int .u8 (d.x1 : Int))).setCell ⟨w.heap.size, 2, none⟩ (.int .u8 (d.x2 : Int))).setCell ⟨w.heap.size, 3, none⟩ (.int .u8 (d.x3 : Int))).setCell ⟨w.heap.size, 4, none⟩ (.int .u8 (d.x4 : Int))).setCell ⟨w.heap.size, 5, none⟩ (.int .u8 (d.x5 : Int))).setCell ⟨w.heap.size, 6, none⟩ (.int .u8 (d.x6 : Int))).setCell ⟨w.heap.size, 7, none⟩ (.int .u8 (d.x7 : Int))) = v3 at *
    obtain ⟨zf, r0, r1, r2, r3, r4, r5, r6, r7⟩ := free8 h8
    refine bodyPost_ret (v := .agg #[.int .u8 (d.x0 : Int), .int .u8 (d.x1 : Int), .int .u8 (d.x2 : Int), .int .u8 (d.x3 : Int), .int .u8 (d.x4 : Int), .int .u8 (d.x5 : Int), .int .u8 (d.x6 : Int), .int .u8 (d.x7 : Int)]) (by simp [results, Try.results37, go_sem, r0, r1, r2, r3, r4, r5, r6, r7]) rfl ⟨by rw [Hd.out], ?_, Hc2.out.new g8 (.inr (Nat.le_refl _))⟩
    rw [Hd.out]
    have := HO2.out.same (w' := v3) (fun k hk => g8.block k (by omega) (by intro e; injection e with e; omega))
    rwa [he0] at this
  · have b3 : ((n : Int) != 8) = true := by rw [bne_iff_ne]; omega
    rw [if_pos (by rw [← Hn1.out]; exact hn), if_pos (by rw [← Hn1.out]; exact hn)] at hd
    have Hd := Lib.hid hd
    rw [he0] at c2
    have HO3 := Lib.hid (HO2.out.set 3)
    have g3 := grown_set1 v2 be 0 (.int .i64 3)
    have HX3 := Lib.hid ((g3.block _ hlX (by intro e; injection e with e; omega)).trans HX2.out)
    have Hc3 := Lib.hid (Hc2.out.new g3 (.inl (.inr rfl)))
    clear hd hn Hn1 b1 HR2
    go_upto_region 5 with fail
    generalize v2.setCell ⟨be, 0, none⟩ (.int .i64 3) = v3 at *
    clear c2 f2 hl2 hlX g3 HO2 HX2 Hc2
    have c3 : v3.cell? ⟨be, 0, none⟩ = some (.int .i64 3) := (block_cell HO3.out.er 0).trans rfl
    have hl3 := block_lt HO3.out.er
    obtain ⟨zf, r0, r1, r2, r3, r4, r5, r6, r7⟩ := free8 HX3.out
    have hlX := block_lt HX3.out
    go_wp2
    clear zf r0 r1 r2 r3 r4 r5 r6 r7
    have h8 := set8 HX3.out (.int .u8 0) (.int .u8 0) (.int .u8 0) (.int .u8 0) (.int .u8 0) (.int .u8 0) (.int .u8 0) (.int .u8 0)
    have g8 := grown_set8 v3 w.heap.size (.int .u8 0) (.int .u8 0) (.int .u8 0) (.int .u8 0) (.int .u8 0) (.int .u8 0) (.int .u8 0) (.int .u8 0)
    generalize ((((((((v3.setCell ⟨w.heap.size, 0, none⟩ (.int .u8 0)).setCell ⟨w.heap.size, 1, none⟩ (.int .u8 0)).setCell ⟨w.heap.size, 2, none⟩ (.int .u8 0)).setCell ⟨w.heap.size, 3, none⟩ (.int .u8 0)).setCell ⟨w.heap.size, 4, none⟩ (.int .u8 0)).setCell ⟨w.heap.size, 5, none⟩ (.int .u8 0)).setCell ⟨w.heap.size, 6, none⟩ (.int .u8 0)).setCell ⟨w.heap.size, 7, none⟩ (.int .u8 0)) = v4 at *
    obtain ⟨zf, r0, r1, r2, r3, r4, r5, r6, r7⟩ := free8 h8
    refine bodyPost_ret (v := .agg #[.int .u8 0, .int .u8 0, .int .u8 0, .int .u8 0, .int .u8 0, .int .u8 0, .int .u8 0, .int .u8 0]) (by simp [results, Try.results37, go_sem, r0, r1, r2, r3, r4, r5, r6, r7]) rfl ⟨by rw [Hd.out]; rfl, ?_, Hc3.out.new g8 (.inr (Nat.le_refl _))⟩
    rw [Hd.out]
    exact HO3.out.same (fun k hk => g8.block k (by omega) (by intro e; injection e with e; omega))
/-- A number that is read, unless something is wrong. -/
def numberS (s : RS) (err : Int) (most : Nat) : RS × Int × Nat := if err ≠ 0 then (s, err, 0) else ((numRS s most).1, (numRS s most).1.err, (numRS s most).2)
set_option maxRecDepth 100000 in
set_option maxHeartbeats 4000000 in
theorem number_any2 {w : World} {bi be b : Nat} {s : RS} {err : Int} (m : Nat) (o : OSt w bi be b s err) (hm : m ≤ 1000000) :
    Calls Try.prog 40 #[.int .i64 (m : Int), .pointer (some ⟨be, 0, none⟩), .pointer (some ⟨bi, 0, none⟩)] w fun e w' => e = .returned (.int .i64 ((numberS s err m).2.2 : Int)) ∧ OSt w' bi be b (numberS s err m).1 (numberS s err m).2.1 ∧ Chg (orF b be) w w' := by
  have c0 : w.cell? ⟨be, 0, none⟩ = some (.int .i64 err) := (block_cell o.er 0).trans rfl
  have hl0 := block_lt o.er
  have c1 : w.cell? ⟨bi, 0, none⟩ = some (.pointer (some ⟨b, 0, none⟩)) := (block_cell o.inn 0).trans rfl
  have hl1 := block_lt o.inn
  have hlt := o.lt; have hlt2 := o.lt2
  have HO := Lib.hid o
  have hds : Hid (numberS s err m = if err ≠ 0 then (s, err, 0) else ((numRS s m).1, (numRS s m).1.err, (numRS s m).2)) := Lib.hid rfl
  by_cases he : err ≠ 0
  · have b2 : (err != 0) = true := by rw [bne_iff_ne]; exact he
    have hd := hds.out
    rw [if_pos he] at hd
    have Hd := Lib.hid hd
    clear he hd hds o
    go_enter Try.func40, Try.ntmps40
    go_wp2
    go_ret
    exact ⟨by rw [Hd.out]; rfl, by rw [Hd.out]; exact HO.out, Chg.refl _ _⟩
  have b2 : (err != 0) = false := by simp at he; simp [he]
  have hd := hds.out
  rw [if_neg he] at hd
  have Hd := Lib.hid hd
  have hle := numRS_le s m
  have hw64 : IntKind.u64.wrap (m : Int) = (m : Int) := by rw [IntKind.wrap_u64]; omega
  have Hnum := Lib.hid (num_any b m s w o.rd)
  clear he hd hds o
  generalize (numRS s m).2 = v at *
  generalize (numRS s m).1 = s1 at *
  have hw65 : IntKind.i64.wrap (v : Int) = (v : Int) := by rw [IntKind.wrap_i64]; omega
  go_enter Try.func40, Try.ntmps40
  go_wp2_with fail
  refine Hnum.out.mono ?_
  rintro e w1 ⟨rfl, hr1, hg1⟩
  have HO1 : Hid (OSt w1 bi be b s1 err) := Lib.hid ⟨(hg1.block bi hl1 (by intro e; injection e with e; omega)).trans HO.out.inn, (hg1.block be hl0 (by intro e; injection e with e; omega)).trans HO.out.er, hr1, hlt, hlt2⟩
  have Hc1 : Hid (Chg (orF b be) w w1) := Lib.hid (Chg.of_grown hg1 (.inl rfl))
  clear hr1 hg1 c0 c1 hl0 hl1 HO Hnum
  have c1 : w1.cell? ⟨bi, 0, none⟩ = some (.pointer (some ⟨b, 0, none⟩)) := (block_cell HO1.out.inn 0).trans rfl
  have hl1 := block_lt HO1.out.inn
  have c2 : w1.cell? ⟨be, 0, none⟩ = some (.int .i64 err) := (block_cell HO1.out.er 0).trans rfl
  have f2 := block_free HO1.out.er
  have hl2 := block_lt HO1.out.er
  go_wp2_with fail
  refine (err_any b s1 w1 HO1.out.rd).mono ?_
  rintro e w' ⟨rfl, rfl⟩
  have HO2 := Lib.hid (HO1.out.set s1.err)
  have g2 := grown_set1 w1 be 0 (.int .i64 s1.err)
  have Hc2 := Lib.hid (Hc1.out.new g2 (.inl (.inr rfl)))
  go_wp2
  go_ret
  exact ⟨by rw [Hd.out]; rfl, by rw [Hd.out]; exact HO2.out, Hc2.out⟩
end Go.Proofs.Ytmpklplojfjfbaa
