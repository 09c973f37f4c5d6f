/- The reference's eight: eight bytes as a digest. Conditions: bounds. The reference's Open, plainly: its reader holds what is wrong. Nothing of the program stands in it, so there is no condition. The reference's Open. Conditions: bounds. -/
import Derived.Test.YtmpklplojfjfbaaJoinR
import Derived.Test.YtmpklplojfjfbaaKgO
import Derived.Test.YtmpklplojfjfbaaJoinA
import Derived.Test.YtmpklplojfjfbaaJoinK
namespace Go.Proofs.Ytmpklplojfjfbaa
open Go.RowKit Go.Lib





/-- What is read as a digest, by the reference: the reader, with what is wrong. -/
def eightS (s : RS) : RS × D8 := (⟨(digestS s).1.l, (digestS s).1.at_, (digestS s).2.1⟩, (digestS s).2.2)
def GivesE8 (A : Option Addr) (n c : Nat) (w : World) (x : RS × D8) (e : Ending) (w' : World) : Prop :=
  e = .returned (.tuple #[.agg #[.slice A n c, .int .i64 (x.1.at_ : Int), .int .i64 x.1.err], .agg #[.int .u8 (x.2.x0 : Int), .int .u8 (x.2.x1 : Int), .int .u8 (x.2.x2 : Int), .int .u8 (x.2.x3 : Int), .int .u8 (x.2.x4 : Int), .int .u8 (x.2.x5 : Int), .int .u8 (x.2.x6 : Int), .int .u8 (x.2.x7 : Int)]]) ∧ Below w.heap.size w w'
theorem bytesRS_nil {s : RS} {m : Nat} (h : (bytesRS s m).1.err ≠ 0) : (bytesRS s m).2 = [] := by
  unfold bytesRS at h ⊢
  split
  · rfl
  · rename_i h1
    rw [if_neg h1] at h
    split
    · rfl
    · rename_i h2
      rw [if_neg h2] at h
      exact absurd rfl h
set_option maxRecDepth 100000 in
set_option maxHeartbeats 4000000 in
theorem eightr_any (A : Option Addr) (n c : Nat) (s : RS) (w : World) (hr : Rd w w.heap.size 1 A n (bv s.l)) (hnc : n ≤ c) (hn : n ≤ 1000000000) (hat : s.at_ ≤ n) (hb : ∀ x ∈ s.l, x < 256) :
    Calls Try.prog 43 #[.agg #[.slice A n c, .int .i64 (s.at_ : Int), .int .i64 s.err]] w (GivesE8 A n c w (eightS s)) := by
  obtain ⟨hx0, hx1, hx2, hw0, hz0⟩ := alloc3 w (.cells #[.slice A n c, .int .i64 (s.at_ : Int), .int .i64 s.err] 86) (.cells #[.slice none 0 0, .int .i64 0, .int .i64 0] 86) (.cells #[.int .u8 0, .int .u8 0, .int .u8 0, .int .u8 0, .int .u8 0, .int .u8 0, .int .u8 0, .int .u8 0] 22)
  have HX0 := Lib.hid hx0; have HR0 := Lib.hid hx1; have HE0 := Lib.hid hx2; have Hw0 := Lib.hid hw0
  have Hsm := Lib.hid (fun (u : World) (hbu : Below w.heap.size w u) => some_at A n c 8 s u ((hr.below hbu (Nat.le_refl _)).more hbu.size) hnc hn hat hb (by decide) (by decide))
  have Hes : Hid (eightS s = (⟨(bytesRS s 8).1.l, (bytesRS s 8).1.at_, (if (bytesRS s 8).1.err ≠ 0 then (bytesRS s 8).1.err else if (bytesRS s 8).2.length ≠ 8 then 3 else 0)⟩, (if (bytesRS s 8).1.err ≠ 0 then D8.zero else if (bytesRS s 8).2.length ≠ 8 then D8.zero else chunk (bytesRS s 8).2 0))) := Lib.hid rfl
  have Hb8 := Lib.hid (bytesRS_lt hb 8)
  clear hr hx0 hx1 hx2 hw0 hz0 hnc hn hat hb
  go_enter Try.func43, Try.ntmps43
  go_upto_region 1 with fail
  generalize ((w.alloc (.cells #[.slice A n c, .int .i64 (s.at_ : Int), .int .i64 s.err] 86)).alloc (.cells #[.slice none 0 0, .int .i64 0, .int .i64 0] 86)).alloc (.cells #[.int .u8 0, .int .u8 0, .int .u8 0, .int .u8 0, .int .u8 0, .int .u8 0, .int .u8 0, .int .u8 0] 22) = v0 at *
  have HD1 : Hid ((v0.alloc (.cells #[.int .u8 0, .int .u8 0, .int .u8 0, .int .u8 0, .int .u8 0, .int .u8 0, .int .u8 0, .int .u8 0] 22)).heap[v0.heap.size]? = some (.cells #[.int .u8 0, .int .u8 0, .int .u8 0, .int .u8 0, .int .u8 0, .int .u8 0, .int .u8 0, .int .u8 0] 22 (0, 0))) := heap_alloc_new v0 _
  have HX1 := Lib.hid (block_alloc HX0.out (.cells #[.int .u8 0, .int .u8 0, .int .u8 0, .int .u8 0, .int .u8 0, .int .u8 0, .int .u8 0, .int .u8 0] 22)); have HR1 := Lib.hid (block_alloc HR0.out (.cells #[.int .u8 0, .int .u8 0, .int .u8 0, .int .u8 0, .int .u8 0, .int .u8 0, .int .u8 0, .int .u8 0] 22)); have HE1 := Lib.hid (block_alloc HE0.out (.cells #[.int .u8 0, .int .u8 0, .int .u8 0, .int .u8 0, .int .u8 0, .int .u8 0, .int .u8 0, .int .u8 0] 22)); have Hw1 := Lib.hid (Hw0.out.alloc Hw0.out.size (.cells #[.int .u8 0, .int .u8 0, .int .u8 0, .int .u8 0, .int .u8 0, .int .u8 0, .int .u8 0, .int .u8 0] 22))
  have hbd : w.heap.size + 2 < v0.heap.size := block_lt HE0.out
  clear HX0 HR0 HE0 Hw0
  go_upto_region 2 with fail
  generalize v0.alloc (.cells #[.int .u8 0, .int .u8 0, .int .u8 0, .int .u8 0, .int .u8 0, .int .u8 0, .int .u8 0, .int .u8 0] 22) = v1 at *
  generalize v0.heap.size = bd at *
  obtain ⟨zf, r0, r1, r2⟩ := free3 HX1.out
  have hlx := block_lt HX1.out
  clear zf
  go_wp2_with fail
  refine (Hsm.out v1 Hw1.out).mono ?_
  rintro e v2 ⟨A2, n2, c2, rfl, ho2, hn2, hb2⟩
  rw [show ((8 : Int).toNat) = 8 from rfl] at *
  have hnil := bytesRS_nil (s := s) (m := 8)
  generalize (bytesRS s 8).1 = x at *
  generalize (bytesRS s 8).2 = bl at *
  have HX2 := Lib.hid (block_below HX1.out hb2 hlx); have HR2 := Lib.hid (block_below HR1.out hb2 (block_lt HR1.out)); have HE2 := Lib.hid (block_below HE1.out hb2 (block_lt HE1.out)); have HD2 := Lib.hid (block_below HD1.out hb2 (block_lt HD1.out)); have Hw2 := Lib.hid (Hw1.out.trans (hb2.mono Hw1.out.size))
  have HOw := Lib.hid ho2; have Hv1s : Hid (bd < v1.heap.size) := Lib.hid (block_lt HD1.out); have Hn2 := Lib.hid hn2; have Hnil := Lib.hid hnil
  obtain ⟨zf, z0, z1, z2⟩ := free3 HX2.out
  have hlx2 := block_lt HX2.out
  have h3 := set3 HX2.out (.slice A n c) (.int .i64 (x.at_ : Int)) (.int .i64 x.err)
  have hg3 := grown_set3 v2 w.heap.size (.slice A n c) (.int .i64 (x.at_ : Int)) (.int .i64 x.err)
  clear r0 r1 r2 hlx ho2 hn2 hb2 hnil HX1 HR1 HE1 HD1 Hw1 Hsm
  go_upto_region 3 with fail
  have HXf := Lib.hid h3
  have HRf := Lib.hid ((hg3.block _ (block_lt HR2.out) (by intro e; injection e with e; omega)).trans HR2.out); have HEf := Lib.hid ((hg3.block _ (block_lt HE2.out) (by intro e; injection e with e; omega)).trans HE2.out); have HD3 := Lib.hid ((hg3.block _ (block_lt HD2.out) (by intro e; injection e with e; omega)).trans HD2.out)
  have Hwf := Lib.hid (Hw2.out.grown hg3 Hw2.out.size (fun k hk => by injection hk with hk; omega))
  have HO3 := Lib.hid (own_keep HOw.out (fun g hg => hg3.block g (HOw.out.lt g hg).2 (by intro e; injection e with e; have := (HOw.out.lt g hg).1; have := Hv1s.out; omega)))
  generalize (((v2.setCell ⟨w.heap.size, 0, none⟩ (.slice A n c)).setCell ⟨w.heap.size, 1, none⟩ (.int .i64 (x.at_ : Int))).setCell ⟨w.heap.size, 2, none⟩ (.int .i64 x.err)) = v3 at *
  clear zf z0 z1 z2 hlx2 h3 hg3 HX2 HR2 HE2 HD2 Hw2
  by_cases he : x.err = 0
  · have e1 : (x.err == 0) = true := by simp [he]
    have e2 : decide (x.err = 0) = true := decide_eq_true he
    obtain ⟨zf, r0, r1, r2⟩ := free3 HXf.out
    have hlx := block_lt HXf.out
    clear zf
    by_cases h8 : n2 = 8
    · have e3 : ((n2 : Int) != 8) = false := by simp; omega
      have hbl8 : bl.length = 8 := by have := Hn2.out; omega
      have Hres : Hid (eightS s = (⟨x.l, x.at_, 0⟩, chunk bl 0)) := Lib.hid (by rw [Hes.out, if_neg (by simpa using he), if_neg (by simpa using hbl8), if_neg (by simpa using he), if_neg (by simpa using hbl8)])
      subst h8
      obtain ⟨g, rfl, hgl⟩ : ∃ g, A2 = some ⟨g, 0, none⟩ ∧ v1.heap.size ≤ g := by
        rcases HO3.out.2 with ⟨hv, _⟩ | ⟨g, cap, cur, hv, hb, _, _⟩
        · cases hv
        · injection hv with q1
          exact ⟨g, q1, hb⟩
      obtain ⟨b3, o3, q3, _, hcc⟩ := chunk_rd (k := 0) (Rd.of_own HO3.out) (by decide)
      injection q3 with q3
      injection q3 with q4 q5
      subst q4; subst q5
      have x0 : v3.cell? ⟨g, 0, none⟩ = some (.int .u8 ((chunk bl 0).x0 : Int)) := hcc 0 (by decide)
      have x1 : v3.cell? ⟨g, 1, none⟩ = some (.int .u8 ((chunk bl 0).x1 : Int)) := hcc 1 (by decide)
      have x2 : v3.cell? ⟨g, 2, none⟩ = some (.int .u8 ((chunk bl 0).x2 : Int)) := hcc 2 (by decide)
      have x3 : v3.cell? ⟨g, 3, none⟩ = some (.int .u8 ((chunk bl 0).x3 : Int)) := hcc 3 (by decide)
      have x4 : v3.cell? ⟨g, 4, none⟩ = some (.int .u8 ((chunk bl 0).x4 : Int)) := hcc 4 (by decide)
      have x5 : v3.cell? ⟨g, 5, none⟩ = some (.int .u8 ((chunk bl 0).x5 : Int)) := hcc 5 (by decide)
      have x6 : v3.cell? ⟨g, 6, none⟩ = some (.int .u8 ((chunk bl 0).x6 : Int)) := hcc 6 (by decide)
      have x7 : v3.cell? ⟨g, 7, none⟩ = some (.int .u8 ((chunk bl 0).x7 : Int)) := hcc 7 (by decide)
      have hgb : g ≠ bd := by have := Hv1s.out; omega
      have hgw : w.heap.size ≠ bd := by omega
      generalize chunk bl 0 = d at *
      obtain ⟨zf, z0, z1, z2, z3, z4, z5, z6, z7⟩ := free8 HD3.out
      have hld := block_lt HD3.out
      have h8 := set8 HD3.out (.int .u8 (d.x0 : Int)) (.int .u8 (d.x1 : Int)) (.int .u8 (d.x2 : Int)) (.int .u8 (d.x3 : Int)) (.int .u8 (d.x4 : Int)) (.int .u8 (d.x5 : Int)) (.int .u8 (d.x6 : Int)) (.int .u8 (d.x7 : Int))
      have hg8 := grown_set8 v3 bd (.int .u8 (d.x0 : Int)) (.int .u8 (d.x1 : Int)) (.int .u8 (d.x2 : Int)) (.int .u8 (d.x3 : Int)) (.int .u8 (d.x4 : Int)) (.int .u8 (d.x5 : Int)) (.int .u8 (d.x6 : Int)) (.int .u8 (d.x7 : Int))
      clear hcc HOw Hn2 Hnil hbl8
      go_wp2
      refine wp_loop_rounds 9 ?_
      iterate 9 (rw [rounds_succ]; go_wp2)
      have HX4 := Lib.hid ((hg8.block _ hlx (by intro e; injection e with e; omega)).trans HXf.out); have HR4 := Lib.hid ((hg8.block _ (block_lt HRf.out) (by intro e; injection e with e; omega)).trans HRf.out); have HE4 := Lib.hid ((hg8.block _ (block_lt HEf.out) (by intro e; injection e with e; omega)).trans HEf.out)
      have Hw4 := Lib.hid (Hwf.out.grown hg8 Hwf.out.size (fun k hk => by injection hk with hk; omega))
      have HDf := Lib.hid h8
      rw [he] at HX4
      clear h8 hg8 x0 x1 x2 x3 x4 x5 x6 x7 z0 z1 z2 z3 z4 z5 z6 z7 zf r0 r1 r2 hlx hld HO3 HXf HRf HEf HD3 Hwf e1 e2 e3 he hgb hgw
      generalize ((((((((v3.setCell ⟨bd, 0, none⟩ (.int .u8 (d.x0 : Int))).setCell ⟨bd, 1, none⟩ (.int .u8 (d.x1 : Int))).setCell ⟨bd, 2, none⟩ (.int .u8 (d.x2 : Int))).setCell ⟨bd, 3, none⟩ (.int .u8 (d.x3 : Int))).setCell ⟨bd, 4, none⟩ (.int .u8 (d.x4 : Int))).setCell ⟨bd, 5, none⟩ (.int .u8 (d.x5 : Int))).setCell ⟨bd, 6, none⟩ (.int .u8 (d.x6 : Int))).setCell ⟨bd, 7, none⟩ (.int .u8 (d.x7 : Int))) = v4 at *
      have HXf := HX4; have HRf := HR4; have HEf := HE4; have Hwf := Hw4
      clear HX4 HR4 HE4 Hw4
      obtain ⟨zf, r0, r1, r2⟩ := free3 HXf.out
      obtain ⟨zg, u0, u1, u2⟩ := free3 HRf.out
      obtain ⟨yf, y0, y1, y2, y3, y4, y5, y6, y7⟩ := free8 HDf.out
      obtain ⟨xf, x0, x1, x2, x3, x4, x5, x6, x7⟩ := free8 HEf.out
      have hl1 := block_lt HXf.out; have hl2 := block_lt HRf.out; have hl3 := block_lt HDf.out; have hl4 := block_lt HEf.out
      have h3 := set3 HRf.out (.slice A n c) (.int .i64 (x.at_ : Int)) (.int .i64 0)
      have hg3 := grown_set3 v4 (w.heap.size + 1) (.slice A n c) (.int .i64 (x.at_ : Int)) (.int .i64 0)
      have hE3 := (hg3.block _ hl4 (by intro e; injection e with e; omega)).trans HEf.out
      go_wp2_with fail
      go_region
      generalize (((v4.setCell ⟨w.heap.size + 1, 0, none⟩ (.slice A n c)).setCell ⟨w.heap.size + 1, 1, none⟩ (.int .i64 (x.at_ : Int))).setCell ⟨w.heap.size + 1, 2, none⟩ (.int .i64 0)) = wz at *
      have h8 := set8 hE3 (.int .u8 (d.x0 : Int)) (.int .u8 (d.x1 : Int)) (.int .u8 (d.x2 : Int)) (.int .u8 (d.x3 : Int)) (.int .u8 (d.x4 : Int)) (.int .u8 (d.x5 : Int)) (.int .u8 (d.x6 : Int)) (.int .u8 (d.x7 : Int))
      have hg8 := grown_set8 wz (w.heap.size + 1 + 1) (.int .u8 (d.x0 : Int)) (.int .u8 (d.x1 : Int)) (.int .u8 (d.x2 : Int)) (.int .u8 (d.x3 : Int)) (.int .u8 (d.x4 : Int)) (.int .u8 (d.x5 : Int)) (.int .u8 (d.x6 : Int)) (.int .u8 (d.x7 : Int))
      generalize ((((((((wz.setCell ⟨w.heap.size + 1 + 1, 0, none⟩ (.int .u8 (d.x0 : Int))).setCell ⟨w.heap.size + 1 + 1, 1, none⟩ (.int .u8 (d.x1 : Int))).setCell ⟨w.heap.size + 1 + 1, 2, none⟩ (.int .u8 (d.x2 : Int))).setCell ⟨w.heap.size + 1 + 1, 3, none⟩ (.int .u8 (d.x3 : Int))).setCell ⟨w.heap.size + 1 + 1, 4, none⟩ (.int .u8 (d.x4 : Int))).setCell ⟨w.heap.size + 1 + 1, 5, none⟩ (.int .u8 (d.x5 : Int))).setCell ⟨w.heap.size + 1 + 1, 6, none⟩ (.int .u8 (d.x6 : Int))).setCell ⟨w.heap.size + 1 + 1, 7, none⟩ (.int .u8 (d.x7 : Int))) = wy at *
      have h3y := (hg8.block _ (block_lt h3) (by intro e; injection e with e; omega)).trans h3
      have Hwy := Lib.hid ((Hwf.out.grown hg3 Hwf.out.size (fun k hk => by injection hk with hk; omega)).grown hg8 (Nat.le_trans Hwf.out.size hg3.size) (fun k hk => by injection hk with hk; omega))
      clear zf r0 r1 r2 zg u0 u1 u2 yf y0 y1 y2 y3 y4 y5 y6 y7 xf x0 x1 x2 x3 x4 x5 x6 x7 hl1 hl2 hl3 hl4 hg3 hg8 hE3
      obtain ⟨zg, u0, u1, u2⟩ := free3 h3y
      obtain ⟨xf, x0, x1, x2, x3, x4, x5, x6, x7⟩ := free8 h8
      go_wp2
      refine bodyPost_ret (v := .tuple #[.agg #[.slice A n c, .int .i64 (x.at_ : Int), .int .i64 0], .agg #[.int .u8 (d.x0 : Int), .int .u8 (d.x1 : Int), .int .u8 (d.x2 : Int), .int .u8 (d.x3 : Int), .int .u8 (d.x4 : Int), .int .u8 (d.x5 : Int), .int .u8 (d.x6 : Int), .int .u8 (d.x7 : Int)]]) (by simp [results, Try.results43, go_sem, u0, u1, u2, x0, x1, x2, x3, x4, x5, x6, x7]) rfl ⟨by rw [Hres.out], Hwy.out.drew⟩
    · have e3 : ((n2 : Int) != 8) = true := by simp; omega
      have hbl8 : bl.length ≠ 8 := by have := Hn2.out; omega
      have Hres : Hid (eightS s = (⟨x.l, x.at_, 3⟩, D8.zero)) := Lib.hid (by rw [Hes.out, if_neg (by simpa using he), if_pos hbl8, if_neg (by simpa using he), if_pos hbl8])
      have Hh8 := Lib.hid h8
      clear h8 hbl8
      go_wp2_with fail
      refine (fail_any A n c (x.at_ : Int) 0 3 v3).mono ?_
      rintro e v4 ⟨rfl, hb4⟩
      have HX4 := Lib.hid (block_below HXf.out hb4 hlx); have HR4 := Lib.hid (block_below HRf.out hb4 (block_lt HRf.out)); have HE4 := Lib.hid (block_below HEf.out hb4 (block_lt HEf.out)); have HD4 := Lib.hid (block_below HD3.out hb4 (block_lt HD3.out)); have Hw4 := Lib.hid (Hwf.out.trans (hb4.mono Hwf.out.size))
      clear r0 r1 r2 hlx hb4 HXf HRf HEf HD3 Hwf
      obtain ⟨zf, z0, z1, z2⟩ := free3 HX4.out
      have hlx2 := block_lt HX4.out
      have h3 := set3 HX4.out (.slice A n c) (.int .i64 (x.at_ : Int)) (.int .i64 3)
      have hg3 := grown_set3 v4 w.heap.size (.slice A n c) (.int .i64 (x.at_ : Int)) (.int .i64 3)
      go_upto_region 5 with fail
      have HXf := Lib.hid h3
      have HRf := Lib.hid ((hg3.block _ (block_lt HR4.out) (by intro e; injection e with e; omega)).trans HR4.out); have HEf := Lib.hid ((hg3.block _ (block_lt HE4.out) (by intro e; injection e with e; omega)).trans HE4.out)
      have HDf : Hid (((v4.setCell ⟨w.heap.size, 0, none⟩ (.slice A n c)).setCell ⟨w.heap.size, 1, none⟩ (.int .i64 (x.at_ : Int))).setCell ⟨w.heap.size, 2, none⟩ (.int .i64 3) |>.heap[bd]? = some (.cells #[.int .u8 (D8.zero.x0 : Int), .int .u8 (D8.zero.x1 : Int), .int .u8 (D8.zero.x2 : Int), .int .u8 (D8.zero.x3 : Int), .int .u8 (D8.zero.x4 : Int), .int .u8 (D8.zero.x5 : Int), .int .u8 (D8.zero.x6 : Int), .int .u8 (D8.zero.x7 : Int)] 22 (0, 0))) := Lib.hid ((hg3.block _ (block_lt HD4.out) (by intro e; injection e with e; omega)).trans HD4.out)
      have Hwf := Lib.hid (Hw4.out.grown hg3 Hw4.out.size (fun k hk => by injection hk with hk; omega))
      generalize (((v4.setCell ⟨w.heap.size, 0, none⟩ (.slice A n c)).setCell ⟨w.heap.size, 1, none⟩ (.int .i64 (x.at_ : Int))).setCell ⟨w.heap.size, 2, none⟩ (.int .i64 3)) = v5 at *
      clear zf z0 z1 z2 hlx2 h3 hg3 HX4 HR4 HE4 HD4 Hw4 e1 e2 he
      obtain ⟨zf, r0, r1, r2⟩ := free3 HXf.out
      have hlx := block_lt HXf.out
      clear zf r0 r1
      go_wp2
      go_loopw [6] (fun i wr => i = .int .i64 0 ∧ wr = v5) (fun _ _ => 0)
      case atStart => exact ⟨rfl, rfl⟩
      case round =>
        obtain ⟨rfl, rfl⟩ := hrel
        by_cases hpos : 0 < n2
        · have d1 : decide ((0 : Int) < (n2 : Int)) = true := decide_eq_true (by omega)
          go_upto_region 9 with fail
          clear r2 hlx
          obtain ⟨zf, r0, r1, r2⟩ := free3 HXf.out
          obtain ⟨zg, u0, u1, u2⟩ := free3 HRf.out
          obtain ⟨yf, y0, y1, y2, y3, y4, y5, y6, y7⟩ := free8 HDf.out
          obtain ⟨xf, x0, x1, x2, x3, x4, x5, x6, x7⟩ := free8 HEf.out
          have hl1 := block_lt HXf.out; have hl2 := block_lt HRf.out; have hl3 := block_lt HDf.out; have hl4 := block_lt HEf.out
          have h3 := set3 HRf.out (.slice A n c) (.int .i64 (x.at_ : Int)) (.int .i64 3)
          have hg3 := grown_set3 wr (w.heap.size + 1) (.slice A n c) (.int .i64 (x.at_ : Int)) (.int .i64 3)
          have hE3 := (hg3.block _ hl4 (by intro e; injection e with e; omega)).trans HEf.out
          go_wp2_with fail
          go_region
          generalize (((wr.setCell ⟨w.heap.size + 1, 0, none⟩ (.slice A n c)).setCell ⟨w.heap.size + 1, 1, none⟩ (.int .i64 (x.at_ : Int))).setCell ⟨w.heap.size + 1, 2, none⟩ (.int .i64 3)) = wz at *
          have h8 := set8 hE3 (.int .u8 (D8.zero.x0 : Int)) (.int .u8 (D8.zero.x1 : Int)) (.int .u8 (D8.zero.x2 : Int)) (.int .u8 (D8.zero.x3 : Int)) (.int .u8 (D8.zero.x4 : Int)) (.int .u8 (D8.zero.x5 : Int)) (.int .u8 (D8.zero.x6 : Int)) (.int .u8 (D8.zero.x7 : Int))
          have hg8 := grown_set8 wz (w.heap.size + 1 + 1) (.int .u8 (D8.zero.x0 : Int)) (.int .u8 (D8.zero.x1 : Int)) (.int .u8 (D8.zero.x2 : Int)) (.int .u8 (D8.zero.x3 : Int)) (.int .u8 (D8.zero.x4 : Int)) (.int .u8 (D8.zero.x5 : Int)) (.int .u8 (D8.zero.x6 : Int)) (.int .u8 (D8.zero.x7 : Int))
          generalize ((((((((wz.setCell ⟨w.heap.size + 1 + 1, 0, none⟩ (.int .u8 (D8.zero.x0 : Int))).setCell ⟨w.heap.size + 1 + 1, 1, none⟩ (.int .u8 (D8.zero.x1 : Int))).setCell ⟨w.heap.size + 1 + 1, 2, none⟩ (.int .u8 (D8.zero.x2 : Int))).setCell ⟨w.heap.size + 1 + 1, 3, none⟩ (.int .u8 (D8.zero.x3 : Int))).setCell ⟨w.heap.size + 1 + 1, 4, none⟩ (.int .u8 (D8.zero.x4 : Int))).setCell ⟨w.heap.size + 1 + 1, 5, none⟩ (.int .u8 (D8.zero.x5 : Int))).setCell ⟨w.heap.size + 1 + 1, 6, none⟩ (.int .u8 (D8.zero.x6 : Int))).setCell ⟨w.heap.size + 1 + 1, 7, none⟩ (.int .u8 (D8.zero.x7 : Int))) = wy at *
          have h3y := (hg8.block _ (block_lt h3) (by intro e; injection e with e; omega)).trans h3
          have Hwy := Lib.hid ((Hwf.out.grown hg3 Hwf.out.size (fun k hk => by injection hk with hk; omega)).grown hg8 (Nat.le_trans Hwf.out.size hg3.size) (fun k hk => by injection hk with hk; omega))
          clear zf r0 r1 r2 zg u0 u1 u2 yf y0 y1 y2 y3 y4 y5 y6 y7 xf x0 x1 x2 x3 x4 x5 x6 x7 hl1 hl2 hl3 hl4 hg3 hg8 hE3
          obtain ⟨zg, u0, u1, u2⟩ := free3 h3y
          obtain ⟨xf, x0, x1, x2, x3, x4, x5, x6, x7⟩ := free8 h8
          go_wp2
          refine bodyPost_ret (v := .tuple #[.agg #[.slice A n c, .int .i64 (x.at_ : Int), .int .i64 3], .agg #[.int .u8 (D8.zero.x0 : Int), .int .u8 (D8.zero.x1 : Int), .int .u8 (D8.zero.x2 : Int), .int .u8 (D8.zero.x3 : Int), .int .u8 (D8.zero.x4 : Int), .int .u8 (D8.zero.x5 : Int), .int .u8 (D8.zero.x6 : Int), .int .u8 (D8.zero.x7 : Int)]]) (by simp [results, Try.results43, go_sem, u0, u1, u2, x0, x1, x2, x3, x4, x5, x6, x7]) rfl ⟨by rw [Hres.out], Hwy.out.drew⟩
        · have d1 : decide ((0 : Int) < (n2 : Int)) = false := decide_eq_false (by omega)
          go_upto_region 9 with fail
          clear r2 hlx
          obtain ⟨zf, r0, r1, r2⟩ := free3 HXf.out
          obtain ⟨zg, u0, u1, u2⟩ := free3 HRf.out
          obtain ⟨yf, y0, y1, y2, y3, y4, y5, y6, y7⟩ := free8 HDf.out
          obtain ⟨xf, x0, x1, x2, x3, x4, x5, x6, x7⟩ := free8 HEf.out
          have hl1 := block_lt HXf.out; have hl2 := block_lt HRf.out; have hl3 := block_lt HDf.out; have hl4 := block_lt HEf.out
          have h3 := set3 HRf.out (.slice A n c) (.int .i64 (x.at_ : Int)) (.int .i64 3)
          have hg3 := grown_set3 wr (w.heap.size + 1) (.slice A n c) (.int .i64 (x.at_ : Int)) (.int .i64 3)
          have hE3 := (hg3.block _ hl4 (by intro e; injection e with e; omega)).trans HEf.out
          go_wp2_with fail
          go_region
          generalize (((wr.setCell ⟨w.heap.size + 1, 0, none⟩ (.slice A n c)).setCell ⟨w.heap.size + 1, 1, none⟩ (.int .i64 (x.at_ : Int))).setCell ⟨w.heap.size + 1, 2, none⟩ (.int .i64 3)) = wz at *
          have h8 := set8 hE3 (.int .u8 (D8.zero.x0 : Int)) (.int .u8 (D8.zero.x1 : Int)) (.int .u8 (D8.zero.x2 : Int)) (.int .u8 (D8.zero.x3 : Int)) (.int .u8 (D8.zero.x4 : Int)) (.int .u8 (D8.zero.x5 : Int)) (.int .u8 (D8.zero.x6 : Int)) (.int .u8 (D8.zero.x7 : Int))
          have hg8 := grown_set8 wz (w.heap.size + 1 + 1) (.int .u8 (D8.zero.x0 : Int)) (.int .u8 (D8.zero.x1 : Int)) (.int .u8 (D8.zero.x2 : Int)) (.int .u8 (D8.zero.x3 : Int)) (.int .u8 (D8.zero.x4 : Int)) (.int .u8 (D8.zero.x5 : Int)) (.int .u8 (D8.zero.x6 : Int)) (.int .u8 (D8.zero.x7 : Int))
          generalize ((((((((wz.setCell ⟨w.heap.size + 1 + 1, 0, none⟩ (.int .u8 (D8.zero.x0 : Int))).setCell ⟨w.heap.size + 1 + 1, 1, none⟩ (.int .u8 (D8.zero.x1 : Int))).setCell ⟨w.heap.size + 1 + 1, 2, none⟩ (.int .u8 (D8.zero.x2 : Int))).setCell ⟨w.heap.size + 1 + 1, 3, none⟩ (.int .u8 (D8.zero.x3 : Int))).setCell ⟨w.heap.size + 1 + 1, 4, none⟩ (.int .u8 (D8.zero.x4 : Int))).setCell ⟨w.heap.size + 1 + 1, 5, none⟩ (.int .u8 (D8.zero.x5 : Int))).setCell ⟨w.heap.size + 1 + 1, 6, none⟩ (.int .u8 (D8.zero.x6 : Int))).setCell ⟨w.heap.size + 1 + 1, 7, none⟩ (.int .u8 (D8.zero.x7 : Int))) = wy at *
          have h3y := (hg8.block _ (block_lt h3) (by intro e; injection e with e; omega)).trans h3
          have Hwy := Lib.hid ((Hwf.out.grown hg3 Hwf.out.size (fun k hk => by injection hk with hk; omega)).grown hg8 (Nat.le_trans Hwf.out.size hg3.size) (fun k hk => by injection hk with hk; omega))
          clear zf r0 r1 r2 zg u0 u1 u2 yf y0 y1 y2 y3 y4 y5 y6 y7 xf x0 x1 x2 x3 x4 x5 x6 x7 hl1 hl2 hl3 hl4 hg3 hg8 hE3
          obtain ⟨zg, u0, u1, u2⟩ := free3 h3y
          obtain ⟨xf, x0, x1, x2, x3, x4, x5, x6, x7⟩ := free8 h8
          go_wp2
          refine bodyPost_ret (v := .tuple #[.agg #[.slice A n c, .int .i64 (x.at_ : Int), .int .i64 3], .agg #[.int .u8 (D8.zero.x0 : Int), .int .u8 (D8.zero.x1 : Int), .int .u8 (D8.zero.x2 : Int), .int .u8 (D8.zero.x3 : Int), .int .u8 (D8.zero.x4 : Int), .int .u8 (D8.zero.x5 : Int), .int .u8 (D8.zero.x6 : Int), .int .u8 (D8.zero.x7 : Int)]]) (by simp [results, Try.results43, go_sem, u0, u1, u2, x0, x1, x2, x3, x4, x5, x6, x7]) rfl ⟨by rw [Hres.out], Hwy.out.drew⟩
  · have e1 : (x.err == 0) = false := by simpa using he
    have e2 : decide (x.err = 0) = false := decide_eq_false he
    have hbl := Hnil.out he
    subst hbl
    obtain rfl : n2 = 0 := Hn2.out
    have Hres : Hid (eightS s = (⟨x.l, x.at_, x.err⟩, D8.zero)) := Lib.hid (by rw [Hes.out, if_pos he, if_pos he])
    have HDf : Hid (v3.heap[bd]? = some (.cells #[.int .u8 (D8.zero.x0 : Int), .int .u8 (D8.zero.x1 : Int), .int .u8 (D8.zero.x2 : Int), .int .u8 (D8.zero.x3 : Int), .int .u8 (D8.zero.x4 : Int), .int .u8 (D8.zero.x5 : Int), .int .u8 (D8.zero.x6 : Int), .int .u8 (D8.zero.x7 : Int)] 22 (0, 0))) := HD3
    obtain ⟨zf, r0, r1, r2⟩ := free3 HXf.out
    have hlx := block_lt HXf.out
    clear zf r0 r1
    go_wp2
    go_loopw [6] (fun i wr => i = .int .i64 0 ∧ wr = v3) (fun _ _ => 0)
    case atStart => exact ⟨rfl, rfl⟩
    case round =>
      obtain ⟨rfl, rfl⟩ := hrel
      clear r2 hlx
      go_upto_region 9 with fail
      obtain ⟨zf, r0, r1, r2⟩ := free3 HXf.out
      obtain ⟨zg, u0, u1, u2⟩ := free3 HRf.out
      obtain ⟨yf, y0, y1, y2, y3, y4, y5, y6, y7⟩ := free8 HDf.out
      obtain ⟨xf, x0, x1, x2, x3, x4, x5, x6, x7⟩ := free8 HEf.out
      have hl1 := block_lt HXf.out; have hl2 := block_lt HRf.out; have hl3 := block_lt HDf.out; have hl4 := block_lt HEf.out
      have h3 := set3 HRf.out (.slice A n c) (.int .i64 (x.at_ : Int)) (.int .i64 x.err)
      have hg3 := grown_set3 wr (w.heap.size + 1) (.slice A n c) (.int .i64 (x.at_ : Int)) (.int .i64 x.err)
      have hE3 := (hg3.block _ hl4 (by intro e; injection e with e; omega)).trans HEf.out
      go_wp2_with fail
      go_region
      generalize (((wr.setCell ⟨w.heap.size + 1, 0, none⟩ (.slice A n c)).setCell ⟨w.heap.size + 1, 1, none⟩ (.int .i64 (x.at_ : Int))).setCell ⟨w.heap.size + 1, 2, none⟩ (.int .i64 x.err)) = wz at *
      have h8 := set8 hE3 (.int .u8 (D8.zero.x0 : Int)) (.int .u8 (D8.zero.x1 : Int)) (.int .u8 (D8.zero.x2 : Int)) (.int .u8 (D8.zero.x3 : Int)) (.int .u8 (D8.zero.x4 : Int)) (.int .u8 (D8.zero.x5 : Int)) (.int .u8 (D8.zero.x6 : Int)) (.int .u8 (D8.zero.x7 : Int))
      have hg8 := grown_set8 wz (w.heap.size + 1 + 1) (.int .u8 (D8.zero.x0 : Int)) (.int .u8 (D8.zero.x1 : Int)) (.int .u8 (D8.zero.x2 : Int)) (.int .u8 (D8.zero.x3 : Int)) (.int .u8 (D8.zero.x4 : Int)) (.int .u8 (D8.zero.x5 : Int)) (.int .u8 (D8.zero.x6 : Int)) (.int .u8 (D8.zero.x7 : Int))
      generalize ((((((((wz.setCell ⟨w.heap.size + 1 + 1, 0, none⟩ (.int .u8 (D8.zero.x0 : Int))).setCell ⟨w.heap.size + 1 + 1, 1, none⟩ (.int .u8 (D8.zero.x1 : Int))).setCell ⟨w.heap.size + 1 + 1, 2, none⟩ (.int .u8 (D8.zero.x2 : Int))).setCell ⟨w.heap.size + 1 + 1, 3, none⟩ (.int .u8 (D8.zero.x3 : Int))).setCell ⟨w.heap.size + 1 + 1, 4, none⟩ (.int .u8 (D8.zero.x4 : Int))).setCell ⟨w.heap.size + 1 + 1, 5, none⟩ (.int .u8 (D8.zero.x5 : Int))).setCell ⟨w.heap.size + 1 + 1, 6, none⟩ (.int .u8 (D8.zero.x6 : Int))).setCell ⟨w.heap.size + 1 + 1, 7, none⟩ (.int .u8 (D8.zero.x7 : Int))) = wy at *
      have h3y := (hg8.block _ (block_lt h3) (by intro e; injection e with e; omega)).trans h3
      have Hwy := Lib.hid ((Hwf.out.grown hg3 Hwf.out.size (fun k hk => by injection hk with hk; omega)).grown hg8 (Nat.le_trans Hwf.out.size hg3.size) (fun k hk => by injection hk with hk; omega))
      clear zf r0 r1 r2 zg u0 u1 u2 yf y0 y1 y2 y3 y4 y5 y6 y7 xf x0 x1 x2 x3 x4 x5 x6 x7 hl1 hl2 hl3 hl4 hg3 hg8 hE3
      obtain ⟨zg, u0, u1, u2⟩ := free3 h3y
      obtain ⟨xf, x0, x1, x2, x3, x4, x5, x6, x7⟩ := free8 h8
      go_wp2
      refine bodyPost_ret (v := .tuple #[.agg #[.slice A n c, .int .i64 (x.at_ : Int), .int .i64 x.err], .agg #[.int .u8 (D8.zero.x0 : Int), .int .u8 (D8.zero.x1 : Int), .int .u8 (D8.zero.x2 : Int), .int .u8 (D8.zero.x3 : Int), .int .u8 (D8.zero.x4 : Int), .int .u8 (D8.zero.x5 : Int), .int .u8 (D8.zero.x6 : Int), .int .u8 (D8.zero.x7 : Int)]]) (by simp [results, Try.results43, go_sem, u0, u1, u2, x0, x1, x2, x3, x4, x5, x6, x7]) rfl ⟨by rw [Hres.out], Hwy.out.drew⟩
end Go.Proofs.Ytmpklplojfjfbaa
namespace Go.Proofs.Ytmpklplojfjfbaa
open Go.RowKit Go.Lib
/-- A reader with what is wrong. -/
def rN (s : RS) (e : Int) : RS := ⟨s.l, s.at_, e⟩
theorem rN_self {s : RS} (h : s.err = 0) : rN s 0 = s := by
  obtain ⟨l, a, e⟩ := s
  simp only at h
  subst h
  rfl
theorem digestS_err {s : RS} (h : (digestS s).2.1 = 0) : (digestS s).1.err = 0 := by
  unfold digestS at h ⊢
  simp only at h ⊢
  by_cases he : (bytesRS s 8).1.err = 0
  · exact he
  · rw [if_pos he] at h; exact absurd h he
theorem numberS_err {s : RS} {e : Int} {m : Nat} (hs : e = 0 → s.err = 0) (h : (numberS s e m).2.1 = 0) : (numberS s e m).1.err = 0 := by
  unfold numberS at h ⊢
  by_cases he : e = 0
  · rw [if_neg (by simpa using he)] at h ⊢
    exact h
  · rw [if_pos he] at h; exact absurd h he
theorem eightS_rN (s : RS) : eightS s = (rN (digestS s).1 (digestS s).2.1, (digestS s).2.2) := rfl
theorem numR_rN {s : RS} {e : Int} (m : Nat) (hs : e = 0 → s.err = 0) : numRS (rN s e) m = (rN (numberS s e m).1 (numberS s e m).2.1, (numberS s e m).2.2) := by
  unfold numberS
  by_cases he : e = 0
  · subst he
    rw [if_neg (by simp), rN_self (hs rfl)]
    simp only
    rfl
  · rw [if_pos he]
    unfold numRS rN
    rw [if_pos he]
theorem endR_rN {s : RS} {e : Int} (hs : e = 0 → s.err = 0) : endRS (rN s e) = if e ≠ 0 then e else endRS s := by
  by_cases he : e = 0
  · subst he
    rw [if_neg (by simp), rN_self (hs rfl)]
  · rw [if_pos he]
    unfold endRS rN
    rw [if_pos he]
/-- What the reference reads ahead of the ledger: the reader, the secret, the height, how many. -/
theorem openH_rN (l : List Nat) :
    (eightS ⟨l, 0, 0⟩).2 = (openH l).2.2.1 ∧ (numRS (eightS ⟨l, 0, 0⟩).1 8).2 = (openH l).2.2.2.1 ∧
    ((numRS (eightS ⟨l, 0, 0⟩).1 8).1.err = 0 → numRS (numRS (eightS ⟨l, 0, 0⟩).1 8).1 (2 ^ (numRS (eightS ⟨l, 0, 0⟩).1 8).2) = (rN (openH l).1 (openH l).2.1, (openH l).2.2.2.2)) ∧
    ((numRS (eightS ⟨l, 0, 0⟩).1 8).1.err ≠ 0 → (numRS (eightS ⟨l, 0, 0⟩).1 8).1 = rN (openH l).1 (openH l).2.1 ∧ (openH l).2.2.2.2 = 0) ∧ ((openH l).2.1 = 0 → (openH l).1.err = 0) := by
  have e1 := eightS_rN ⟨l, 0, 0⟩
  have h1 : (digestS ⟨l, 0, 0⟩).2.1 = 0 → (digestS ⟨l, 0, 0⟩).1.err = 0 := digestS_err
  unfold openH
  simp only
  rw [e1]
  generalize digestS ⟨l, 0, 0⟩ = x1 at *
  simp only
  have e2 := numR_rN 8 h1
  have h2 : (numberS x1.1 x1.2.1 8).2.1 = 0 → (numberS x1.1 x1.2.1 8).1.err = 0 := numberS_err h1
  rw [e2]
  generalize numberS x1.1 x1.2.1 8 = x2 at *
  simp only
  have e3 := numR_rN (2 ^ x2.2.2) h2
  have h3 : (numberS x2.1 x2.2.1 (2 ^ x2.2.2)).2.1 = 0 → (numberS x2.1 x2.2.1 (2 ^ x2.2.2)).1.err = 0 := numberS_err h2
  refine ⟨trivial, trivial, fun _ => e3, fun he => ?_, h3⟩
  have he2 : x2.2.1 ≠ 0 := he
  unfold numberS
  rw [if_pos he2]
  exact ⟨rfl, rfl⟩
/-- One more digest read. -/
theorem openL_step {s : RS} {led : List D8} {k : Nat} : openL s led (k + 1) = if (digestS s).2.1 ≠ 0 then ((digestS s).1, led, (digestS s).2.1) else if posD led (digestS s).2.2 ≠ none then ((digestS s).1, led, 7) else openL (digestS s).1 (led ++ [(digestS s).2.2]) k := rfl
theorem openL_err : ∀ (k : Nat) {s : RS} {led : List D8}, s.err = 0 → (openL s led k).2.2 = 0 → (openL s led k).1.err = 0
  | 0, _, _, hs, _ => hs
  | k + 1, s, led, hs, h => by
    rw [openL_step] at h ⊢
    by_cases h1 : (digestS s).2.1 = 0
    · rw [if_neg (by simpa using h1)] at h ⊢
      by_cases h2 : posD led (digestS s).2.2 = none
      · rw [if_neg (by simpa using h2)] at h ⊢
        exact openL_err k (digestS_err h1) h
      · rw [if_pos h2] at h; cases h
    · rw [if_pos h1] at h; exact absurd h h1
/-- What is read of a ledger: the reader, the digests, what is wrong. -/
def openY (l : List Nat) : RS × List D8 × Int := if (openH l).2.1 ≠ 0 then ((openH l).1, [], (openH l).2.1) else openL (openH l).1 [] (openH l).2.2.2.2
theorem openY_err (l : List Nat) : (openY l).2.2 = 0 → (openY l).1.err = 0 := by
  have h5 := (openH_rN l).2.2.2.2
  unfold openY
  by_cases h : (openH l).2.1 = 0
  · rw [if_neg (by simpa using h)]
    exact fun h2 => openL_err _ (h5 h) h2
  · rw [if_pos h]
    exact fun h2 => absurd h2 h
/-- The ring that bytes are, by the reference's reader. -/
theorem openN_ref (l : List Nat) : openN l = if endRS (rN (openY l).1 (openY l).2.2) ≠ 0 then (none, endRS (rN (openY l).1 (openY l).2.2)) else (some ⟨(openH l).2.2.1, (openH l).2.2.2.1, (openY l).2.1⟩, 0) := by
  rw [endR_rN (openY_err l)]
  rfl
end Go.Proofs.Ytmpklplojfjfbaa
namespace Go.Proofs.Ytmpklplojfjfbaa
open Go.RowKit Go.Lib





def GivesOR (w : World) (l : List Nat) (e : Ending) (w' : World) : Prop :=
  Below w.heap.size w w' ∧ match (openN l).1 with
    | none => e = .returned (.tuple #[rgZ, .int .i64 (openN l).2])
    | some r => ∃ (A : Option Addr) (n c : Nat), e = .returned (.tuple #[.agg #[.int .u8 (r.secret.x0 : Int), .int .u8 (r.secret.x1 : Int), .int .u8 (r.secret.x2 : Int), .int .u8 (r.secret.x3 : Int), .int .u8 (r.secret.x4 : Int), .int .u8 (r.secret.x5 : Int), .int .u8 (r.secret.x6 : Int), .int .u8 (r.secret.x7 : Int), .int .i64 (r.h : Int), (.slice A n c)], .int .i64 0]) ∧ Rd w' w'.heap.size 8 A n (flatD r.led)
theorem numRS_at {s : RS} {m : Nat} (h : s.at_ ≤ s.l.length) : (numRS s m).1.at_ ≤ s.l.length := by
  have := take1_len (s.l.drop s.at_) m
  rw [List.length_drop] at this
  unfold numRS
  split
  · exact h
  · split
    · exact h
    · simp only; omega
theorem bytesRS_at {s : RS} {m : Nat} (h : s.at_ ≤ s.l.length) : (bytesRS s m).1.at_ ≤ s.l.length := by
  have := takeB_len (s.l.drop s.at_) m
  rw [List.length_drop] at this
  unfold bytesRS
  split
  · exact h
  · split
    · exact h
    · simp only; omega
theorem eightS_at {s : RS} (h : s.at_ ≤ s.l.length) : (eightS s).1.at_ ≤ s.l.length := bytesRS_at h
theorem eightS_l (s : RS) : (eightS s).1.l = s.l := digestS_l s
theorem open_round {l : List Nat} {s : RS} {L : List D8} {k cnt : Nat} (hk : k < cnt) (h : openL s L (cnt - k) = openY l) :
    ((eightS s).1.err ≠ 0 → (eightS s).1 = rN (openY l).1 (openY l).2.2 ∧ L = (openY l).2.1) ∧
    ((eightS s).1.err = 0 → posD L (eightS s).2 ≠ none → rN (eightS s).1 7 = rN (openY l).1 (openY l).2.2 ∧ L = (openY l).2.1) ∧
    ((eightS s).1.err = 0 → posD L (eightS s).2 = none → openL (eightS s).1 (L ++ [(eightS s).2]) (cnt - (k + 1)) = openY l) := by
  rw [show cnt - k = (cnt - (k + 1)) + 1 by omega, openL_step] at h
  rw [eightS_rN]
  have hn : ∀ {e : Int}, (rN (digestS s).1 e).err = e := rfl
  simp only [hn]
  refine ⟨fun he => ?_, fun he hp => ?_, fun he hp => ?_⟩
  · rw [if_pos he] at h
    rw [← h]
    exact ⟨rfl, rfl⟩
  · rw [if_neg (by simpa using he), if_pos hp] at h
    rw [← h]
    exact ⟨rfl, rfl⟩
  · rw [if_neg (by simpa using he), if_neg (by simpa using hp)] at h
    rw [he, rN_self (digestS_err he)]
    exact h
theorem open_stop {l : List Nat} {s : RS} {L : List D8} {cnt : Nat} (he : s.err = 0) (h : openL s L (cnt - cnt) = openY l) : s = rN (openY l).1 (openY l).2.2 ∧ L = (openY l).2.1 := by
  rw [Nat.sub_self] at h
  have h : (s, L, (0 : Int)) = openY l := h
  rw [← h]
  exact ⟨(rN_self he).symm, rfl⟩
theorem info_T8k : (Try.prog.info? 22).map (fun i => (i.zero, i.size, i.bytes)) = some (some (.agg #[.int .u8 0, .int .u8 0, .int .u8 0, .int .u8 0, .int .u8 0, .int .u8 0, .int .u8 0, .int .u8 0]), 8, 8) := by kernel_rfl
set_option maxRecDepth 100000 in
set_option maxHeartbeats 8000000 in
theorem openr_any (A : Option Addr) (n c : Nat) (l : List Nat) (w : World) (hr : Rd w w.heap.size 1 A n (bv l)) (hnc : n ≤ c) (hn : n ≤ 1000000) (hlt : ∀ x ∈ l, x < 256) :
    Calls Try.prog 17 #[.slice A n c] w (GivesOR w l) := by
  have HX0 : Hid ((w.alloc (.cells #[.int .u8 0, .int .u8 0, .int .u8 0, .int .u8 0, .int .u8 0, .int .u8 0, .int .u8 0, .int .u8 0, .int .i64 0, .slice none 0 0] 39)).heap[w.heap.size]? = some (.cells #[.int .u8 0, .int .u8 0, .int .u8 0, .int .u8 0, .int .u8 0, .int .u8 0, .int .u8 0, .int .u8 0, .int .i64 0, .slice none 0 0] 39 (0, 0))) := heap_alloc_new w _
  have Hw0 := Lib.hid (h_one w (.cells #[.int .u8 0, .int .u8 0, .int .u8 0, .int .u8 0, .int .u8 0, .int .u8 0, .int .u8 0, .int .u8 0, .int .i64 0, .slice none 0 0] 39))
  have Hr := Lib.hid hr
  have HE8 : Hid (∀ (u : World) (s : RS), Below w.heap.size w u → s.l = l → s.at_ ≤ n → Calls Try.prog 43 #[.agg #[.slice A n c, .int .i64 (s.at_ : Int), .int .i64 s.err]] u (GivesE8 A n c u (eightS s))) := Lib.hid fun u s hb hl hat => eightr_any A n c s u (by rw [hl]; exact (hr.below hb (Nat.le_refl _)).more hb.size) hnc (by omega) hat (by rw [hl]; exact hlt)
  have HRN : Hid (∀ (u : World) (s : RS) (m : Nat), Below w.heap.size w u → s.l = l → s.at_ ≤ n → Calls Try.prog 44 #[.agg #[.slice A n c, .int .i64 (s.at_ : Int), .int .i64 s.err], .int .u64 (m : Int)] u (GivesRS A n c u (numRS s m).1 (numRS s m).2)) := Lib.hid fun u s m hb hl hat => readr_any A n c m s u (by rw [hl]; exact (hr.below hb (Nat.le_refl _)).more hb.size) hnc (by omega) hat (by rw [hl]; exact hlt)
  have Hl := Lib.hid hr.blen
  clear hr hnc hlt
  go_enter Try.func17, Try.ntmps17
  go_upto_region 1 with fail
  generalize w.alloc (.cells #[.int .u8 0, .int .u8 0, .int .u8 0, .int .u8 0, .int .u8 0, .int .u8 0, .int .u8 0, .int .u8 0, .int .i64 0, .slice none 0 0] 39) = v0 at *
  go_wp2_with fail
  refine (HE8.out v0 ⟨l, 0, 0⟩ Hw0.out rfl (Nat.zero_le _)).mono ?_
  rintro e v1 ⟨rfl, hb1⟩
  have hX1l := eightS_l ⟨l, 0, 0⟩
  obtain ⟨X1, hX1⟩ : ∃ X, X = eightS ⟨l, 0, 0⟩ := ⟨_, rfl⟩
  rw [← hX1] at hX1l ⊢
  have HX1 := Lib.hid hX1; have HX1l := Lib.hid hX1l
  have HXr1 := Lib.hid (block_below HX0.out hb1 (block_lt HX0.out)); have Hw1 := Lib.hid (Hw0.out.trans (hb1.mono Hw0.out.size))
  have hbr : w.heap.size < v1.heap.size := block_lt HXr1.out
  obtain ⟨hx2, hs2, hw2, hz2⟩ := alloc2 v1 (.cells #[.slice A n c, .int .i64 (X1.1.at_ : Int), .int .i64 X1.1.err] 86) (.cells #[.int .u8 (X1.2.x0 : Int), .int .u8 (X1.2.x1 : Int), .int .u8 (X1.2.x2 : Int), .int .u8 (X1.2.x3 : Int), .int .u8 (X1.2.x4 : Int), .int .u8 (X1.2.x5 : Int), .int .u8 (X1.2.x6 : Int), .int .u8 (X1.2.x7 : Int)] 22)
  have HX2 := Lib.hid hx2; have HS2 := Lib.hid hs2; have HXr2 := Lib.hid (block_below HXr1.out hw2 (block_lt HXr1.out)); have Hw2 := Lib.hid (Hw1.out.trans (hw2.mono Hw1.out.size)); have Hz2 := Lib.hid hz2
  clear hX1 hX1l hb1 hx2 hs2 hw2 hz2 HX0 Hw0 HXr1 Hw1
  go_upto_region 2 with fail
  generalize (v1.alloc (.cells #[.slice A n c, .int .i64 (X1.1.at_ : Int), .int .i64 X1.1.err] 86)).alloc (.cells #[.int .u8 (X1.2.x0 : Int), .int .u8 (X1.2.x1 : Int), .int .u8 (X1.2.x2 : Int), .int .u8 (X1.2.x3 : Int), .int .u8 (X1.2.x4 : Int), .int .u8 (X1.2.x5 : Int), .int .u8 (X1.2.x6 : Int), .int .u8 (X1.2.x7 : Int)] 22) = v2 at *
  generalize v1.heap.size = bx at *
  obtain ⟨zf, r0, r1, r2⟩ := free3 HX2.out
  have hlx := block_lt HX2.out
  have HX1a : Hid (X1.1.at_ ≤ n) := Lib.hid (by rw [HX1.out, ← Hl.out]; exact eightS_at (s := ⟨l, 0, 0⟩) (Nat.zero_le _))
  clear zf
  go_wp2_with fail
  refine (HRN.out v2 X1.1 8 Hw2.out HX1l.out HX1a.out).mono ?_
  rintro e v3 ⟨rfl, hb3⟩
  obtain ⟨X2, hX2⟩ : ∃ X, X = numRS X1.1 8 := ⟨_, rfl⟩
  rw [← hX2]
  have HX2e := Lib.hid hX2
  have HX2l : Hid (X2.1.l = l) := Lib.hid (by rw [hX2, numRS_l]; exact HX1l.out)
  have HX2a : Hid (X2.1.at_ ≤ n) := Lib.hid (by rw [hX2, ← Hl.out, ← HX1l.out]; exact numRS_at (by rw [HX1l.out, Hl.out]; exact HX1a.out))
  have hh8 : X2.2 ≤ 8 := by rw [hX2]; exact numRS_le _ _
  have HX3 := Lib.hid (block_below HX2.out hb3 hlx); have HS3 := Lib.hid (block_below HS2.out hb3 (block_lt HS2.out)); have HXr3 := Lib.hid (block_below HXr2.out hb3 (block_lt HXr2.out)); have Hw3 := Lib.hid (Hw2.out.trans (hb3.mono Hw2.out.size))
  clear hX2 hb3 r0 r1 r2 hlx HX2 HS2 HXr2 Hw2
  obtain ⟨zf, r0, r1, r2⟩ := free3 HX3.out
  have hlx := block_lt HX3.out
  have h4 := set3 HX3.out (.slice A n c) (.int .i64 (X2.1.at_ : Int)) (.int .i64 X2.1.err)
  have hg4 := grown_set3 v3 bx (.slice A n c) (.int .i64 (X2.1.at_ : Int)) (.int .i64 X2.1.err)
  go_upto_region 3 with fail
  have HX4 := Lib.hid h4
  have HS4 := Lib.hid ((hg4.block _ (block_lt HS3.out) (by intro e; injection e with e; omega)).trans HS3.out); have HXr4 := Lib.hid ((hg4.block _ (block_lt HXr3.out) (by intro e; injection e with e; omega)).trans HXr3.out)
  have Hw4 := Lib.hid (Hw3.out.grown hg4 Hw3.out.size (fun k hk => by injection hk with hk; omega))
  generalize (((v3.setCell ⟨bx, 0, none⟩ (.slice A n c)).setCell ⟨bx, 1, none⟩ (.int .i64 (X2.1.at_ : Int))).setCell ⟨bx, 2, none⟩ (.int .i64 X2.1.err)) = v4 at *
  clear zf r0 r1 r2 hlx h4 hg4 HX3 HS3 HXr3 Hw3
  obtain ⟨zf, y0, y1, y2, y3, y4, y5, y6, y7⟩ := free8 HS4.out
  have hls := block_lt HS4.out
  have hwh : IntKind.i64.wrap (X2.2 : Int) = (X2.2 : Int) := by rw [IntKind.wrap_i64]; omega
  have HQ5 : Hid ((v4.alloc (.cells #[.int .u8 (X1.2.x0 : Int), .int .u8 (X1.2.x1 : Int), .int .u8 (X1.2.x2 : Int), .int .u8 (X1.2.x3 : Int), .int .u8 (X1.2.x4 : Int), .int .u8 (X1.2.x5 : Int), .int .u8 (X1.2.x6 : Int), .int .u8 (X1.2.x7 : Int), .int .i64 (X2.2 : Int), (.slice none 0 0)] 39)).heap[v4.heap.size]? = some (.cells #[.int .u8 (X1.2.x0 : Int), .int .u8 (X1.2.x1 : Int), .int .u8 (X1.2.x2 : Int), .int .u8 (X1.2.x3 : Int), .int .u8 (X1.2.x4 : Int), .int .u8 (X1.2.x5 : Int), .int .u8 (X1.2.x6 : Int), .int .u8 (X1.2.x7 : Int), .int .i64 (X2.2 : Int), (.slice none 0 0)] 39 (0, 0))) := heap_alloc_new v4 _
  have HX5 := Lib.hid (block_alloc HX4.out (.cells #[.int .u8 (X1.2.x0 : Int), .int .u8 (X1.2.x1 : Int), .int .u8 (X1.2.x2 : Int), .int .u8 (X1.2.x3 : Int), .int .u8 (X1.2.x4 : Int), .int .u8 (X1.2.x5 : Int), .int .u8 (X1.2.x6 : Int), .int .u8 (X1.2.x7 : Int), .int .i64 (X2.2 : Int), (.slice none 0 0)] 39)); have HXr5 := Lib.hid (block_alloc HXr4.out (.cells #[.int .u8 (X1.2.x0 : Int), .int .u8 (X1.2.x1 : Int), .int .u8 (X1.2.x2 : Int), .int .u8 (X1.2.x3 : Int), .int .u8 (X1.2.x4 : Int), .int .u8 (X1.2.x5 : Int), .int .u8 (X1.2.x6 : Int), .int .u8 (X1.2.x7 : Int), .int .i64 (X2.2 : Int), (.slice none 0 0)] 39)); have Hw5 := Lib.hid (Hw4.out.alloc Hw4.out.size (.cells #[.int .u8 (X1.2.x0 : Int), .int .u8 (X1.2.x1 : Int), .int .u8 (X1.2.x2 : Int), .int .u8 (X1.2.x3 : Int), .int .u8 (X1.2.x4 : Int), .int .u8 (X1.2.x5 : Int), .int .u8 (X1.2.x6 : Int), .int .u8 (X1.2.x7 : Int), .int .i64 (X2.2 : Int), (.slice none 0 0)] 39))
  have hbxl : bx < v4.heap.size := block_lt HX4.out
  go_upto_region 5 with fail
  generalize v4.alloc (.cells #[.int .u8 (X1.2.x0 : Int), .int .u8 (X1.2.x1 : Int), .int .u8 (X1.2.x2 : Int), .int .u8 (X1.2.x3 : Int), .int .u8 (X1.2.x4 : Int), .int .u8 (X1.2.x5 : Int), .int .u8 (X1.2.x6 : Int), .int .u8 (X1.2.x7 : Int), .int .i64 (X2.2 : Int), (.slice none 0 0)] 39) = v5 at *
  generalize v4.heap.size = bq at *
  clear zf y0 y1 y2 y3 y4 y5 y6 y7 hls HX4 HS4 HXr4 Hw4
  have hH := openH_rN l
  rw [← HX1.out, ← HX2e.out] at hH
  obtain ⟨g1, g2, g3, g4, g5⟩ := hH
  obtain ⟨X3, hX3⟩ : ∃ X, X = rN (openH l).1 (openH l).2.1 := ⟨_, rfl⟩
  obtain ⟨cnt, hcnt⟩ : ∃ k, k = (openH l).2.2.2.2 := ⟨_, rfl⟩
  obtain ⟨N, hN⟩ : ∃ N, N = 2 ^ X2.2 := ⟨_, rfl⟩
  have hNp := pow_le8 hh8
  rw [← hX3, ← hcnt, ← hN] at g3
  rw [← hX3, ← hcnt] at g4
  rw [← hN] at hNp
  have G1 := Lib.hid g1; have G2 := Lib.hid g2; have G3 := Lib.hid g3; have G4 := Lib.hid g4; have G5 := Lib.hid g5; have HX3d := Lib.hid hX3; have Hcnt := Lib.hid hcnt; have HN := Lib.hid hN
  clear g1 g2 g3 g4 g5 hX3 hcnt hN
  have hlx := block_lt HX5.out
  obtain ⟨zf, r0, r1, r2⟩ := free3 HX5.out
  clear zf r0 r1
  go_upto_if 29 with fail
  go_cut [8] (fun s8 wx => s8 = .int .u64 (cnt : Int) ∧ wx.heap[bx]? = some (.cells #[.slice A n c, .int .i64 (X3.at_ : Int), .int .i64 X3.err] 86 (0, 0)) ∧ wx.heap[bq]? = some (.cells #[.int .u8 (X1.2.x0 : Int), .int .u8 (X1.2.x1 : Int), .int .u8 (X1.2.x2 : Int), .int .u8 (X1.2.x3 : Int), .int .u8 (X1.2.x4 : Int), .int .u8 (X1.2.x5 : Int), .int .u8 (X1.2.x6 : Int), .int .u8 (X1.2.x7 : Int), .int .i64 (X2.2 : Int), (.slice none 0 0)] 39 (0, 0)) ∧ wx.heap[w.heap.size]? = some (.cells #[.int .u8 0, .int .u8 0, .int .u8 0, .int .u8 0, .int .u8 0, .int .u8 0, .int .u8 0, .int .u8 0, .int .i64 0, .slice none 0 0] 39 (0, 0)) ∧ Below w.heap.size w wx)
  case first =>
    by_cases he : X2.1.err = 0
    · have e1 : (X2.1.err == 0) = true := by simp [he]
      have e2 : decide (X2.1.err = 0) = true := decide_eq_true he
      have hG3 := G3.out he
      have hwN : IntKind.u64.wrap (N : Int) = (N : Int) := by rw [IntKind.wrap_u64]; omega
      have hq8 : v5.cell? ⟨bq, 8, none⟩ = some (.int .i64 (X2.2 : Int)) := (block_cell HQ5.out 8).trans rfl
      have hlq := block_lt HQ5.out
      have Hrd := Lib.hid (HRN.out v5.drew X2.1 N Hw5.out.drew HX2l.out HX2a.out)
      rw [hG3, he] at Hrd
      have Hmn : Hid (Calls Try.prog 32 #[.int .i64 (X2.2 : Int)] v5.drew fun e w' => e = .returned (.int .i64 (N : Int)) ∧ w' = v5.drew) := by rw [HN.out]; exact Lib.hid (manyr_any X2.2 v5.drew hh8)
      clear hG3
      go_upto_region 6 with fail
      have hS0 : ∀ k, k < v5.heap.size → k ≠ bx → v5.drew.heap[k]? = v5.heap[k]? := fun _ _ _ => rfl
      refine wp_region_held_drew (S := fun w' => ∀ k, k < v5.heap.size → k ≠ bx → w'.heap[k]? = v5.heap[k]?) (by kernel_rfl) hS0 (fun hHeld => ?_)
      rw [show Array.replicate _ false = (#[false, false, false, false, false, false, false, false, false, false, false] : Array Bool) from rfl]
      have hbq : bq ≠ bx := by omega
      have hL2 : ∀ w' : World, (∀ k, k < v5.heap.size → k ≠ bx → w'.heap[k]? = v5.heap[k]?) → w'.cell? ⟨bq, 8, none⟩ = some (.int .i64 (X2.2 : Int)) := fun w' h => (block_cell ((h bq hlq hbq).trans HQ5.out) 8).trans rfl
      refine takeH 1 (some 32) (v := ?_) rfl (by kernel_rfl) (by kernel_rfl) (by kernel_rfl) (by kernel_rfl) (fun _ _ _ h => h) (Or.inl ⟨by kernel_rfl, ?hy⟩) (by assumption) ?_
      case hy =>
        intro w' hSw
        clear hSw
        first
          | (go_simp; done)
          | (go_simp; with_reducible rfl)
      simp only [Act.put, List.setIfInBounds_toArray, List.set_cons_zero, List.set_cons_succ]
      refine takeH 2 (some 33) (v := ?_) rfl (by kernel_rfl) (by kernel_rfl) (by kernel_rfl) (by kernel_rfl) (fun _ _ _ h => h) (Or.inl ⟨by kernel_rfl, ?hy⟩) (by assumption) ?_
      case hy =>
        intro w' hSw
        have hx := hL2 w' hSw
        clear hSw
        first
          | (go_simp; done)
          | (go_simp; with_reducible rfl)
      simp only [Act.put, List.setIfInBounds_toArray, List.set_cons_zero, List.set_cons_succ]
      have hxd : v5.drew.heap[bx]? = some (.cells #[.slice A n c, .int .i64 (X2.1.at_ : Int), .int .i64 X2.1.err] 86 (0, 0)) := HX5.out
      refine wpAnyH_ready (rs := [0, 3]) (by kernel_rfl) (by simp) ?_
      refine AllReadyH.cons rfl (fun K hK => ?_) (AllReadyH.cons rfl (fun K hK => ?_) AllReadyH.nil)
      · rw [if_pos (by kernel_rfl)]
        obtain ⟨zf, r0, r1, r2⟩ := free3 hxd
        go_simp
        refine hK.out _ _ hS0 (fun _ => ?_)
        clear hK K
        simp only [List.setIfInBounds_toArray, List.set_cons_zero, List.set_cons_succ]
        clear zf r0 r1 r2
        refine wpAnyH_ready (rs := [3]) (by kernel_rfl) (by simp) ?_
        refine AllReadyH.cons rfl (fun K hK => ?_) AllReadyH.nil
        rw [if_pos (by kernel_rfl)]
        go_simp
        refine Hmn.out.mono ?_
        rintro e w1 ⟨rfl, rfl⟩
        refine hK.out _ _ hS0 (fun _ => ?_)
        clear hK K
        simp only [List.setIfInBounds_toArray, List.set_cons_zero, List.set_cons_succ]
        refine takeH 4 (some 35) (v := ?_) rfl (by kernel_rfl) (by kernel_rfl) (by kernel_rfl) (by kernel_rfl) (fun _ _ _ h => h) (Or.inl ⟨by kernel_rfl, ?hy⟩) (by assumption) ?_
        case hy =>
          intro w' hSw
          clear hSw
          first
            | (go_simp; done)
            | (go_simp; with_reducible rfl)
        simp only [Act.put, List.setIfInBounds_toArray, List.set_cons_zero, List.set_cons_succ]
        refine wpAnyH_ready (rs := [5]) (by kernel_rfl) (by simp) ?_
        refine AllReadyH.cons rfl (fun K hK => ?_) AllReadyH.nil
        rw [if_pos (by kernel_rfl)]
        go_simp
        refine Hrd.out.mono ?_
        rintro e w6 ⟨rfl, hb6⟩
        have hS6 : ∀ k, k < v5.heap.size → k ≠ bx → w6.heap[k]? = v5.heap[k]? := fun k hk _ => hb6.block k hk
        have hx6 := block_below (w := v5.drew) hxd hb6 hlx
        have HX6 := Lib.hid hx6; have Hw6 := Lib.hid (Hw5.out.drew.trans (hb6.mono Hw5.out.drew.size)); have Hz6 := Lib.hid hb6.size
        clear hb6
        refine hK.out _ _ hS6 (fun _ => ?_)
        clear hK K
        simp only [List.setIfInBounds_toArray, List.set_cons_zero, List.set_cons_succ]
        refine takeH 6 (some 30) (v := ?_) rfl (by kernel_rfl) (by kernel_rfl) (by kernel_rfl) (by kernel_rfl) (fun _ _ _ h => h) (Or.inl ⟨by kernel_rfl, ?hy⟩) (by assumption) ?_
        case hy =>
          intro w' hSw
          clear hSw
          first
            | (go_simp; done)
            | (go_simp; with_reducible rfl)
        simp only [Act.put, List.setIfInBounds_toArray, List.set_cons_zero, List.set_cons_succ]
        refine takeH 7 (some 37) (v := ?_) rfl (by kernel_rfl) (by kernel_rfl) (by kernel_rfl) (by kernel_rfl) (fun _ _ _ h => h) (Or.inl ⟨by kernel_rfl, ?hy⟩) (by assumption) ?_
        case hy =>
          intro w' hSw
          clear hSw
          first
            | (go_simp; done)
            | (go_simp; with_reducible rfl)
        simp only [Act.put, List.setIfInBounds_toArray, List.set_cons_zero, List.set_cons_succ]
        refine takeH 8 (some 38) (v := ?_) rfl (by kernel_rfl) (by kernel_rfl) (by kernel_rfl) (by kernel_rfl) (fun _ _ _ h => h) (Or.inl ⟨by kernel_rfl, ?hy⟩) (by assumption) ?_
        case hy =>
          intro w' hSw
          clear hSw
          first
            | (go_simp; done)
            | (go_simp; with_reducible rfl)
        simp only [Act.put, List.setIfInBounds_toArray, List.set_cons_zero, List.set_cons_succ]
        obtain ⟨zf, r0, r1, r2⟩ := free3 hx6
        have hl6 := block_lt hx6
        have h7 := set3 hx6 (.slice A n c) (.int .i64 (X3.at_ : Int)) (.int .i64 X3.err)
        have hg7 := grown_set3 w6 bx (.slice A n c) (.int .i64 (X3.at_ : Int)) (.int .i64 X3.err)
        refine wpAnyH_ready (rs := [9]) (by kernel_rfl) (by simp) ?_
        refine AllReadyH.cons rfl (fun K hK => ?_) AllReadyH.nil
        rw [if_pos (by kernel_rfl)]
        go_simp
        have hS7 : ∀ k, k < v5.heap.size → k ≠ bx → (((w6.setCell ⟨bx, 0, none⟩ (.slice A n c)).setCell ⟨bx, 1, none⟩ (.int .i64 (X3.at_ : Int))).setCell ⟨bx, 2, none⟩ (.int .i64 X3.err)).heap[k]? = v5.heap[k]? := fun k hk hne => (hg7.block k (Nat.lt_of_lt_of_le hk Hz6.out) (by intro e; injection e with e; exact hne e)).trans (hS6 k hk hne)
        refine hK.out _ _ hS7 (fun _ => ?_)
        clear hK K
        simp only [List.setIfInBounds_toArray, List.set_cons_zero, List.set_cons_succ]
        have Hw7 := Lib.hid (Hw6.out.grown hg7 Hw6.out.size (fun k hk => by injection hk with hk; omega))
        generalize (((w6.setCell ⟨bx, 0, none⟩ (.slice A n c)).setCell ⟨bx, 1, none⟩ (.int .i64 (X3.at_ : Int))).setCell ⟨bx, 2, none⟩ (.int .i64 X3.err)) = w7 at *
        have H7 := Lib.hid h7; have HQ7 := Lib.hid ((hS7 bq hlq hbq).trans HQ5.out); have HXr7 := Lib.hid ((hS7 w.heap.size (block_lt HXr5.out) (by omega)).trans HXr5.out)
        refine takeH 10 (some 8) (v := ?_) rfl (by kernel_rfl) (by kernel_rfl) (by kernel_rfl) (by kernel_rfl) (fun _ _ _ h => h) (Or.inl ⟨by kernel_rfl, ?hy⟩) (by assumption) ?_
        case hy =>
          intro w' hSw
          clear hSw
          first
            | (go_simp; done)
            | (go_simp; with_reducible rfl)
        simp only [Act.put, List.setIfInBounds_toArray, List.set_cons_zero, List.set_cons_succ]
        refine wpAnyH_done (by kernel_rfl) ?_ _
        clear hS0 hS6 hS7 hL2
        go_wp2
        go_meet
        exact ⟨rfl, H7.out, HQ7.out, HXr7.out, Hw7.out⟩
      · rw [if_pos (by kernel_rfl)]
        go_simp
        refine Hmn.out.mono ?_
        rintro e w1 ⟨rfl, rfl⟩
        refine hK.out _ _ hS0 (fun _ => ?_)
        clear hK K
        simp only [List.setIfInBounds_toArray, List.set_cons_zero, List.set_cons_succ]
        refine takeH 4 (some 35) (v := ?_) rfl (by kernel_rfl) (by kernel_rfl) (by kernel_rfl) (by kernel_rfl) (fun _ _ _ h => h) (Or.inl ⟨by kernel_rfl, ?hy⟩) (by assumption) ?_
        case hy =>
          intro w' hSw
          clear hSw
          first
            | (go_simp; done)
            | (go_simp; with_reducible rfl)
        simp only [Act.put, List.setIfInBounds_toArray, List.set_cons_zero, List.set_cons_succ]
        obtain ⟨zf, r0, r1, r2⟩ := free3 hxd
        refine wpAnyH_ready (rs := [0]) (by kernel_rfl) (by simp) ?_
        refine AllReadyH.cons rfl (fun K hK => ?_) AllReadyH.nil
        rw [if_pos (by kernel_rfl)]
        go_simp
        refine hK.out _ _ hS0 (fun _ => ?_)
        clear hK K
        simp only [List.setIfInBounds_toArray, List.set_cons_zero, List.set_cons_succ]
        clear zf r0 r1 r2
        refine wpAnyH_ready (rs := [5]) (by kernel_rfl) (by simp) ?_
        refine AllReadyH.cons rfl (fun K hK => ?_) AllReadyH.nil
        rw [if_pos (by kernel_rfl)]
        go_simp
        refine Hrd.out.mono ?_
        rintro e w6 ⟨rfl, hb6⟩
        have hS6 : ∀ k, k < v5.heap.size → k ≠ bx → w6.heap[k]? = v5.heap[k]? := fun k hk _ => hb6.block k hk
        have hx6 := block_below (w := v5.drew) hxd hb6 hlx
        have HX6 := Lib.hid hx6; have Hw6 := Lib.hid (Hw5.out.drew.trans (hb6.mono Hw5.out.drew.size)); have Hz6 := Lib.hid hb6.size
        clear hb6
        refine hK.out _ _ hS6 (fun _ => ?_)
        clear hK K
        simp only [List.setIfInBounds_toArray, List.set_cons_zero, List.set_cons_succ]
        refine takeH 6 (some 30) (v := ?_) rfl (by kernel_rfl) (by kernel_rfl) (by kernel_rfl) (by kernel_rfl) (fun _ _ _ h => h) (Or.inl ⟨by kernel_rfl, ?hy⟩) (by assumption) ?_
        case hy =>
          intro w' hSw
          clear hSw
          first
            | (go_simp; done)
            | (go_simp; with_reducible rfl)
        simp only [Act.put, List.setIfInBounds_toArray, List.set_cons_zero, List.set_cons_succ]
        refine takeH 7 (some 37) (v := ?_) rfl (by kernel_rfl) (by kernel_rfl) (by kernel_rfl) (by kernel_rfl) (fun _ _ _ h => h) (Or.inl ⟨by kernel_rfl, ?hy⟩) (by assumption) ?_
        case hy =>
          intro w' hSw
          clear hSw
          first
            | (go_simp; done)
            | (go_simp; with_reducible rfl)
        simp only [Act.put, List.setIfInBounds_toArray, List.set_cons_zero, List.set_cons_succ]
        refine takeH 8 (some 38) (v := ?_) rfl (by kernel_rfl) (by kernel_rfl) (by kernel_rfl) (by kernel_rfl) (fun _ _ _ h => h) (Or.inl ⟨by kernel_rfl, ?hy⟩) (by assumption) ?_
        case hy =>
          intro w' hSw
          clear hSw
          first
            | (go_simp; done)
            | (go_simp; with_reducible rfl)
        simp only [Act.put, List.setIfInBounds_toArray, List.set_cons_zero, List.set_cons_succ]
        obtain ⟨zf, r0, r1, r2⟩ := free3 hx6
        have hl6 := block_lt hx6
        have h7 := set3 hx6 (.slice A n c) (.int .i64 (X3.at_ : Int)) (.int .i64 X3.err)
        have hg7 := grown_set3 w6 bx (.slice A n c) (.int .i64 (X3.at_ : Int)) (.int .i64 X3.err)
        refine wpAnyH_ready (rs := [9]) (by kernel_rfl) (by simp) ?_
        refine AllReadyH.cons rfl (fun K hK => ?_) AllReadyH.nil
        rw [if_pos (by kernel_rfl)]
        go_simp
        have hS7 : ∀ k, k < v5.heap.size → k ≠ bx → (((w6.setCell ⟨bx, 0, none⟩ (.slice A n c)).setCell ⟨bx, 1, none⟩ (.int .i64 (X3.at_ : Int))).setCell ⟨bx, 2, none⟩ (.int .i64 X3.err)).heap[k]? = v5.heap[k]? := fun k hk hne => (hg7.block k (Nat.lt_of_lt_of_le hk Hz6.out) (by intro e; injection e with e; exact hne e)).trans (hS6 k hk hne)
        refine hK.out _ _ hS7 (fun _ => ?_)
        clear hK K
        simp only [List.setIfInBounds_toArray, List.set_cons_zero, List.set_cons_succ]
        have Hw7 := Lib.hid (Hw6.out.grown hg7 Hw6.out.size (fun k hk => by injection hk with hk; omega))
        generalize (((w6.setCell ⟨bx, 0, none⟩ (.slice A n c)).setCell ⟨bx, 1, none⟩ (.int .i64 (X3.at_ : Int))).setCell ⟨bx, 2, none⟩ (.int .i64 X3.err)) = w7 at *
        have H7 := Lib.hid h7; have HQ7 := Lib.hid ((hS7 bq hlq hbq).trans HQ5.out); have HXr7 := Lib.hid ((hS7 w.heap.size (block_lt HXr5.out) (by omega)).trans HXr5.out)
        refine takeH 10 (some 8) (v := ?_) rfl (by kernel_rfl) (by kernel_rfl) (by kernel_rfl) (by kernel_rfl) (fun _ _ _ h => h) (Or.inl ⟨by kernel_rfl, ?hy⟩) (by assumption) ?_
        case hy =>
          intro w' hSw
          clear hSw
          first
            | (go_simp; done)
            | (go_simp; with_reducible rfl)
        simp only [Act.put, List.setIfInBounds_toArray, List.set_cons_zero, List.set_cons_succ]
        refine wpAnyH_done (by kernel_rfl) ?_ _
        clear hS0 hS6 hS7 hL2
        go_wp2
        go_meet
        exact ⟨rfl, H7.out, HQ7.out, HXr7.out, Hw7.out⟩
    · have e1 : (X2.1.err == 0) = false := by simpa using he
      have e2 : decide (X2.1.err = 0) = false := decide_eq_false he
      obtain ⟨q1, q2⟩ := G4.out he
      go_wp2
      go_meet
      exact ⟨by rw [q2]; rfl, by rw [← q1]; exact HX5.out, HQ5.out, HXr5.out, Hw5.out⟩
  case rest =>
    obtain ⟨rfl, hx, hq, hz, hw⟩ := hcut
    obtain ⟨v6, rfl⟩ : ∃ v6 : World, v6 = wc := ⟨_, rfl⟩
    have HX6 := Lib.hid hx; have HQ6 := Lib.hid hq; have HZ6 := Lib.hid hz; have Hw6 := Lib.hid hw
    clear hx hq hz hw HX5 HQ5 HXr5 Hw5
    have HX3l : Hid (X3.l = l ∧ X3.at_ ≤ n) := Lib.hid (by
      by_cases he : X2.1.err = 0
      · have := G3.out he
        have e1 : X3 = (numRS X2.1 N).1 := by rw [this]
        rw [e1]
        exact ⟨(numRS_l _ _).trans HX2l.out, by have h := numRS_at (s := X2.1) (m := N) (by rw [HX2l.out, Hl.out]; exact HX2a.out); rw [HX2l.out, Hl.out] at h; exact h⟩
      · rw [← (G4.out he).1]
        exact ⟨HX2l.out, HX2a.out⟩)
    have Hst : Hid ((X3.err = 0 ∧ openL X3 [] cnt = openY l) ∨ (X3.err ≠ 0 ∧ X3 = rN (openY l).1 (openY l).2.2 ∧ [] = (openY l).2.1)) := Lib.hid (by
      rw [HX3d.out, Hcnt.out]
      unfold openY
      by_cases he : (openH l).2.1 = 0
      · refine .inl ⟨he, ?_⟩
        rw [if_neg (by simpa using he), he, rN_self (G5.out he)]
      · refine .inr ⟨he, ?_⟩
        rw [if_pos he]
        exact ⟨rfl, rfl⟩)
    have Hcb : Hid (cnt ≤ 256) := Lib.hid (by
      by_cases he : X2.1.err = 0
      · have h1 := numRS_le X2.1 N
        rw [G3.out he] at h1
        exact Nat.le_trans h1 hNp.2
      · rw [(G4.out he).2]; exact Nat.zero_le _)
    go_upto_block 0 with fail
    go_cut [] (fun wx => ∃ (x : RS) (A' : Option Addr) (c' : Nat), x.l = l ∧ x = rN (openY l).1 (openY l).2.2 ∧ wx.heap[bx]? = some (.cells #[.slice A n c, .int .i64 (x.at_ : Int), .int .i64 x.err] 86 (0, 0)) ∧ wx.heap[bq]? = some (.cells #[.int .u8 (X1.2.x0 : Int), .int .u8 (X1.2.x1 : Int), .int .u8 (X1.2.x2 : Int), .int .u8 (X1.2.x3 : Int), .int .u8 (X1.2.x4 : Int), .int .u8 (X1.2.x5 : Int), .int .u8 (X1.2.x6 : Int), .int .u8 (X1.2.x7 : Int), .int .i64 (X2.2 : Int), (.slice A' (openY l).2.1.length c')] 39 (0, 0)) ∧ wx.ownsRow w.heap.size 22 8 (.slice A' (openY l).2.1.length c') (openY l).2.1.length (flatD (openY l).2.1) ∧ wx.heap[w.heap.size]? = some (.cells #[.int .u8 0, .int .u8 0, .int .u8 0, .int .u8 0, .int .u8 0, .int .u8 0, .int .u8 0, .int .u8 0, .int .i64 0, .slice none 0 0] 39 (0, 0)) ∧ Below w.heap.size w wx)
    case first =>
      go_wp2
      go_loopw [9] (fun i wr => ∃ (k : Nat) (x : RS) (L : List D8) (A' : Option Addr) (c' : Nat), i = .int .u64 (k : Int) ∧ x.l = l ∧ x.at_ ≤ n ∧ k ≤ cnt ∧ wr.heap[bx]? = some (.cells #[.slice A n c, .int .i64 (x.at_ : Int), .int .i64 x.err] 86 (0, 0)) ∧ wr.heap[bq]? = some (.cells #[.int .u8 (X1.2.x0 : Int), .int .u8 (X1.2.x1 : Int), .int .u8 (X1.2.x2 : Int), .int .u8 (X1.2.x3 : Int), .int .u8 (X1.2.x4 : Int), .int .u8 (X1.2.x5 : Int), .int .u8 (X1.2.x6 : Int), .int .u8 (X1.2.x7 : Int), .int .i64 (X2.2 : Int), (.slice A' L.length c')] 39 (0, 0)) ∧ wr.ownsRow w.heap.size 22 8 (.slice A' L.length c') L.length (flatD L) ∧ wr.heap[w.heap.size]? = some (.cells #[.int .u8 0, .int .u8 0, .int .u8 0, .int .u8 0, .int .u8 0, .int .u8 0, .int .u8 0, .int .u8 0, .int .i64 0, .slice none 0 0] 39 (0, 0)) ∧ Below w.heap.size w wr ∧ ((x.err = 0 ∧ k = L.length ∧ openL x L (cnt - k) = openY l) ∨ (x.err ≠ 0 ∧ x = rN (openY l).1 (openY l).2.2 ∧ L = (openY l).2.1))) (fun i _ => cnt - (RowKit.intOf i).toNat)
      case atStart =>
        refine ⟨0, X3, [], none, 0, rfl, HX3l.out.1, HX3l.out.2, Nat.zero_le _, HX6.out, HQ6.out, World.ownsRow_nil _ _ _ _, HZ6.out, Hw6.out, ?_⟩
        rcases Hst.out with ⟨h1, h2⟩ | h
        · exact .inl ⟨h1, rfl, h2⟩
        · exact .inr h
      case round =>
        obtain ⟨k, ⟨xl, xa, xe⟩, L, A', c', rfl, hxl, hxa, hkc, hx, hq, ho, hz, hw, hst⟩ := hrel
        simp only at hxl hxa hst
        subst xl
        obtain ⟨i0, hi, hz0, hz1, hz2⟩ := info_parts info_T8k
        have HI := Lib.hid (And.intro hi (And.intro hz0 (And.intro hz1 hz2))); clear hi hz0 hz1 hz2
        have HXa := Lib.hid hx; have HQa := Lib.hid hq; have HOa := Lib.hid ho; have HZa := Lib.hid hz; have Hwa := Lib.hid hw; have Hxa := Lib.hid hxa; have Hkc := Lib.hid hkc
        obtain ⟨zf, r0, r1, r2⟩ := free3 hx
        have hlx := block_lt hx
        have hcb := Hcb.out
        clear zf r0 r1 hx hq ho hz hw hxa HX6 HQ6 HZ6 Hw6 Hst HX3l
        by_cases he : xe = 0
        · subst xe
          obtain ⟨hkL, hop⟩ : k = L.length ∧ openL ⟨l, xa, 0⟩ L (cnt - k) = openY l := by
            rcases hst with ⟨_, h⟩ | ⟨h, _⟩
            · exact h
            · exact absurd rfl h
          clear hst
          by_cases hlt : k < cnt
          · have hd1 : decide ((k : Int) < (cnt : Int)) = true := decide_eq_true (by omega)
            have hki : (k : Int) < (cnt : Int) := by omega
            obtain ⟨f1, f2, f3⟩ := open_round hlt hop
            have HkL := Lib.hid hkL; have Hk := Lib.hid hlt
            have HEX := Lib.hid (HE8.out (wr.alloc (.cells #[.int .u8 0, .int .u8 0, .int .u8 0, .int .u8 0, .int .u8 0, .int .u8 0, .int .u8 0, .int .u8 0] 22)) ⟨l, xa, 0⟩ (Hwa.out.alloc Hwa.out.size _) rfl Hxa.out)
            have hEl := eightS_l ⟨l, xa, 0⟩
            have hEa : (eightS ⟨l, xa, 0⟩).1.at_ ≤ n := by rw [← Hl.out]; exact eightS_at (s := ⟨l, xa, 0⟩) (by rw [Hl.out]; exact Hxa.out)
            generalize eightS ⟨l, xa, 0⟩ = X at *
            obtain ⟨⟨Xl, Xa, Xe⟩, d⟩ := X
            simp only at f1 f2 f3 hEl hEa HEX
            subst Xl
            have F1 := Lib.hid f1; have F2 := Lib.hid f2; have F3 := Lib.hid f3; have HEa := Lib.hid hEa
            have HDb : Hid ((wr.alloc (.cells #[.int .u8 0, .int .u8 0, .int .u8 0, .int .u8 0, .int .u8 0, .int .u8 0, .int .u8 0, .int .u8 0] 22)).heap[wr.heap.size]? = some (.cells #[.int .u8 0, .int .u8 0, .int .u8 0, .int .u8 0, .int .u8 0, .int .u8 0, .int .u8 0, .int .u8 0] 22 (0, 0))) := heap_alloc_new wr _
            have HXb := Lib.hid (block_alloc HXa.out (.cells #[.int .u8 0, .int .u8 0, .int .u8 0, .int .u8 0, .int .u8 0, .int .u8 0, .int .u8 0, .int .u8 0] 22)); have HQb := Lib.hid (block_alloc HQa.out (.cells #[.int .u8 0, .int .u8 0, .int .u8 0, .int .u8 0, .int .u8 0, .int .u8 0, .int .u8 0, .int .u8 0] 22)); have HOb := Lib.hid (HOa.out.alloc (.cells #[.int .u8 0, .int .u8 0, .int .u8 0, .int .u8 0, .int .u8 0, .int .u8 0, .int .u8 0, .int .u8 0] 22)); have HZb := Lib.hid (block_alloc HZa.out (.cells #[.int .u8 0, .int .u8 0, .int .u8 0, .int .u8 0, .int .u8 0, .int .u8 0, .int .u8 0, .int .u8 0] 22)); have Hwb := Lib.hid (Hwa.out.alloc Hwa.out.size (.cells #[.int .u8 0, .int .u8 0, .int .u8 0, .int .u8 0, .int .u8 0, .int .u8 0, .int .u8 0, .int .u8 0] 22))
            have HOdd : Hid (∀ g, (Value.slice A' L.length c').ownBlock = some g → g ≠ wr.heap.size) := Lib.hid fun g hg => by have := (HOa.out.lt g hg).2; omega
            have hdq : bq < wr.heap.size := block_lt HQa.out
            have hdz : w.heap.size < wr.heap.size := block_lt HZa.out
            have hlx2 : bx < wr.heap.size := hlx
            clear f1 f2 f3 hEa hop hlt hkL HXa HQa HOa HZa Hwa
            go_upto_region 11 with fail
            clear hlx r2
            generalize wr.alloc (.cells #[.int .u8 0, .int .u8 0, .int .u8 0, .int .u8 0, .int .u8 0, .int .u8 0, .int .u8 0, .int .u8 0] 22) = u1 at *
            generalize wr.heap.size = bd at *
            obtain ⟨zf, r0, r1, r2⟩ := free3 HXb.out
            have hlx := block_lt HXb.out
            clear zf
            go_wp2_with fail
            refine HEX.out.mono ?_
            rintro e u2 ⟨rfl, hb2⟩
            have HXc := Lib.hid (block_below HXb.out hb2 hlx); have HQc := Lib.hid (block_below HQb.out hb2 (block_lt HQb.out)); have HOc := Lib.hid (own_below HOb.out hb2); have HZc := Lib.hid (block_below HZb.out hb2 (block_lt HZb.out)); have HDc := Lib.hid (block_below HDb.out hb2 (block_lt HDb.out)); have Hwc := Lib.hid (Hwb.out.trans (hb2.mono Hwb.out.size))
            clear hb2 HEX HXb HQb HOb HZb HDb Hwb r0 r1 r2 hlx
            obtain ⟨zf, r0, r1, r2⟩ := free3 HXc.out
            have hlx := block_lt HXc.out; have hld := block_lt HDc.out
            obtain ⟨yf, y0, y1, y2, y3, y4, y5, y6, y7⟩ := free8 HDc.out
            go_upto_region 12 with fail
            have h3 := set3 HXc.out (.slice A n c) (.int .i64 (Xa : Int)) (.int .i64 Xe)
            have hg3 := grown_set3 u2 bx (.slice A n c) (.int .i64 (Xa : Int)) (.int .i64 Xe)
            have hD3 := (hg3.block _ hld (by intro e; injection e with e; omega)).trans HDc.out
            have hQ3 := (hg3.block _ (block_lt HQc.out) (by intro e; injection e with e; omega)).trans HQc.out
            have hZ3 := (hg3.block _ (block_lt HZc.out) (by intro e; injection e with e; omega)).trans HZc.out
            have hO3 := own_keep HOc.out (fun g hg => hg3.block g (HOc.out.lt g hg).2 (fun e => own_ne HOc.out HXc.out (by decide) (by rw [hg]; exact e.symm)))
            have hw3 := Hwc.out.grown hg3 Hwc.out.size (fun k hk => by injection hk with hk; omega)
            have hz3 := hg3.size
            generalize (((u2.setCell ⟨bx, 0, none⟩ (.slice A n c)).setCell ⟨bx, 1, none⟩ (.int .i64 (Xa : Int))).setCell ⟨bx, 2, none⟩ (.int .i64 Xe)) = u3 at *
            have h8 := set8 hD3 (.int .u8 (d.x0 : Int)) (.int .u8 (d.x1 : Int)) (.int .u8 (d.x2 : Int)) (.int .u8 (d.x3 : Int)) (.int .u8 (d.x4 : Int)) (.int .u8 (d.x5 : Int)) (.int .u8 (d.x6 : Int)) (.int .u8 (d.x7 : Int))
            have hg8 := grown_set8 u3 bd (.int .u8 (d.x0 : Int)) (.int .u8 (d.x1 : Int)) (.int .u8 (d.x2 : Int)) (.int .u8 (d.x3 : Int)) (.int .u8 (d.x4 : Int)) (.int .u8 (d.x5 : Int)) (.int .u8 (d.x6 : Int)) (.int .u8 (d.x7 : Int))
            have HX4 := Lib.hid ((hg8.block _ (block_lt h3) (by intro e; injection e with e; omega)).trans h3)
            have HQ4 := Lib.hid ((hg8.block _ (block_lt hQ3) (by intro e; injection e with e; omega)).trans hQ3)
            have HZ4 := Lib.hid ((hg8.block _ (block_lt hZ3) (by intro e; injection e with e; omega)).trans hZ3)
            have HO4 := Lib.hid (own_keep hO3 (fun g hg => hg8.block g (hO3.lt g hg).2 (fun e => HOdd.out g hg (by injection e))))
            have Hw4 := Lib.hid (hw3.grown hg8 hw3.size (fun k hk => by injection hk with hk; omega))
            have HD4 := Lib.hid h8
            generalize ((((((((u3.setCell ⟨bd, 0, none⟩ (.int .u8 (d.x0 : Int))).setCell ⟨bd, 1, none⟩ (.int .u8 (d.x1 : Int))).setCell ⟨bd, 2, none⟩ (.int .u8 (d.x2 : Int))).setCell ⟨bd, 3, none⟩ (.int .u8 (d.x3 : Int))).setCell ⟨bd, 4, none⟩ (.int .u8 (d.x4 : Int))).setCell ⟨bd, 5, none⟩ (.int .u8 (d.x5 : Int))).setCell ⟨bd, 6, none⟩ (.int .u8 (d.x6 : Int))).setCell ⟨bd, 7, none⟩ (.int .u8 (d.x7 : Int))) = u4 at *
            clear zf r0 r1 r2 yf y0 y1 y2 y3 y4 y5 y6 y7 h3 hg3 hD3 hQ3 hZ3 hO3 hw3 hz3 h8 hg8 HXc HQc HOc HZc HDc Hwc hlx hld
            by_cases hxe : Xe = 0
            · subst Xe
              obtain ⟨zf, r0, r1, r2⟩ := free3 HX4.out
              obtain ⟨yf, y0, y1, y2, y3, y4, y5, y6, y7, y8, y9⟩ := free10 HQ4.out
              obtain ⟨zg, z0, z1, z2, z3, z4, z5, z6, z7⟩ := free8 HD4.out
              have hlx := block_lt HX4.out; have hlq := block_lt HQ4.out; have hld := block_lt HD4.out
              have Hrr := Lib.hid (Rd.of_own HO4.out)
              clear zf yf zg
              go_wp2_with fail
              refine (leafr_any X1.2 X2.2 A' L.length c' L d u4 Hrr.out (by have := HkL.out; have := Hk.out; omega)).mono ?_
              rintro e u5 ⟨rfl, hb5⟩
              have HX5 := Lib.hid (block_below HX4.out hb5 hlx); have HQ5 := Lib.hid (block_below HQ4.out hb5 hlq); have HD5 := Lib.hid (block_below HD4.out hb5 hld); have HO5 := Lib.hid (own_below HO4.out hb5); have HZ5 := Lib.hid (block_below HZ4.out hb5 (block_lt HZ4.out)); have Hw5 := Lib.hid (Hw4.out.trans (hb5.mono Hw4.out.size))
              clear hb5 Hrr HX4 HQ4 HD4 HO4 HZ4 Hw4 r0 r1 r2 y0 y1 y2 y3 y4 y5 y6 y7 y8 y9 z0 z1 z2 z3 z4 z5 z6 z7 hlx hlq hld
              cases hp : posD L d with
              | some i =>
                have Hi : Hid (leafI L d = (i : Int)) := Lib.hid (by unfold leafI; rw [hp])
                rw [Hi.out]
                have hd0 : decide ((0 : Int) ≤ (i : Int)) = true := by simp
                have HB := Lib.hid (F2.out (by simp) (by rw [hp]; simp))
                clear hp
                obtain ⟨zf, r0, r1, r2⟩ := free3 HX5.out
                have hlx := block_lt HX5.out
                clear zf
                go_wp2_with fail
                refine (fail_any A n c (Xa : Int) 0 7 u5).mono ?_
                rintro e u6 ⟨rfl, hb6⟩
                have HX6 := Lib.hid (block_below HX5.out hb6 hlx); have HQ6 := Lib.hid (block_below HQ5.out hb6 (block_lt HQ5.out)); have HO6 := Lib.hid (own_below HO5.out hb6); have HZ6 := Lib.hid (block_below HZ5.out hb6 (block_lt HZ5.out)); have Hw6 := Lib.hid (Hw5.out.trans (hb6.mono Hw5.out.size))
                clear hb6 r0 r1 r2 hlx HX5 HQ5 HO5 HZ5 Hw5 HD5
                obtain ⟨zf, r0, r1, r2⟩ := free3 HX6.out
                have hlx := block_lt HX6.out
                have h3 := set3 HX6.out (.slice A n c) (.int .i64 (Xa : Int)) (.int .i64 7)
                have hg3 := grown_set3 u6 bx (.slice A n c) (.int .i64 (Xa : Int)) (.int .i64 7)
                go_upto_region 14 with fail
                have HX7 := Lib.hid h3
                have HQ7 := Lib.hid ((hg3.block _ (block_lt HQ6.out) (by intro e; injection e with e; omega)).trans HQ6.out)
                have HZ7 := Lib.hid ((hg3.block _ (block_lt HZ6.out) (by intro e; injection e with e; omega)).trans HZ6.out)
                have HO7 := Lib.hid (own_keep HO6.out (fun g hg => hg3.block g (HO6.out.lt g hg).2 (fun e => own_ne HO6.out HX6.out (by decide) (by rw [hg]; exact e.symm))))
                have Hw7 := Lib.hid (Hw6.out.grown hg3 Hw6.out.size (fun k hk => by injection hk with hk; omega))
                generalize (((u6.setCell ⟨bx, 0, none⟩ (.slice A n c)).setCell ⟨bx, 1, none⟩ (.int .i64 (Xa : Int))).setCell ⟨bx, 2, none⟩ (.int .i64 7)) = u7 at *
                clear zf r0 r1 r2 hlx h3 hg3 HX6 HQ6 HO6 HZ6 Hw6
                obtain ⟨zf, r0, r1, r2⟩ := free3 HX7.out
                have hlx := block_lt HX7.out
                clear zf r0 r1
                go_wp2
                go_roundw
                case rel => exact ⟨k + 1, ⟨l, Xa, 7⟩, L, A', c', by go_num, rfl, HEa.out, Hk.out, HX7.out, HQ7.out, HO7.out, HZ7.out, Hw7.out, .inr ⟨(by show (7 : Int) ≠ 0; decide), HB.out.1, HB.out.2⟩⟩
                case measure => have := Hk.out; simp [RowKit.intOf]; omega
              | none =>
                have Hi : Hid (leafI L d = -1) := Lib.hid (by unfold leafI; rw [hp])
                rw [Hi.out]
                have HC := Lib.hid (F3.out (by simp) hp)
                clear hp
                obtain ⟨zf, r0, r1, r2⟩ := free3 HX5.out
                obtain ⟨zg, z0, z1, z2, z3, z4, z5, z6, z7⟩ := free8 HD5.out
                have y9 : u5.cell? ⟨bq, 9, none⟩ = some (.slice A' L.length c') := (block_cell HQ5.out 9).trans rfl
                have hlx := block_lt HX5.out; have hlq := block_lt HQ5.out; have hld := block_lt HD5.out
                have HO6 := Lib.hid (HO5.out.alloc (.cells #[.int .u8 (d.x0 : Int), .int .u8 (d.x1 : Int), .int .u8 (d.x2 : Int), .int .u8 (d.x3 : Int), .int .u8 (d.x4 : Int), .int .u8 (d.x5 : Int), .int .u8 (d.x6 : Int), .int .u8 (d.x7 : Int)] 22)); have HX6 := Lib.hid (block_alloc HX5.out (.cells #[.int .u8 (d.x0 : Int), .int .u8 (d.x1 : Int), .int .u8 (d.x2 : Int), .int .u8 (d.x3 : Int), .int .u8 (d.x4 : Int), .int .u8 (d.x5 : Int), .int .u8 (d.x6 : Int), .int .u8 (d.x7 : Int)] 22)); have HQ6 := Lib.hid (block_alloc HQ5.out (.cells #[.int .u8 (d.x0 : Int), .int .u8 (d.x1 : Int), .int .u8 (d.x2 : Int), .int .u8 (d.x3 : Int), .int .u8 (d.x4 : Int), .int .u8 (d.x5 : Int), .int .u8 (d.x6 : Int), .int .u8 (d.x7 : Int)] 22)); have HZ6 := Lib.hid (block_alloc HZ5.out (.cells #[.int .u8 (d.x0 : Int), .int .u8 (d.x1 : Int), .int .u8 (d.x2 : Int), .int .u8 (d.x3 : Int), .int .u8 (d.x4 : Int), .int .u8 (d.x5 : Int), .int .u8 (d.x6 : Int), .int .u8 (d.x7 : Int)] 22)); have Hw6 := Lib.hid (Hw5.out.alloc Hw5.out.size (.cells #[.int .u8 (d.x0 : Int), .int .u8 (d.x1 : Int), .int .u8 (d.x2 : Int), .int .u8 (d.x3 : Int), .int .u8 (d.x4 : Int), .int .u8 (d.x5 : Int), .int .u8 (d.x6 : Int), .int .u8 (d.x7 : Int)] 22))
                have HRl : Hid (Rd (u5.alloc (.cells #[.int .u8 (d.x0 : Int), .int .u8 (d.x1 : Int), .int .u8 (d.x2 : Int), .int .u8 (d.x3 : Int), .int .u8 (d.x4 : Int), .int .u8 (d.x5 : Int), .int .u8 (d.x6 : Int), .int .u8 (d.x7 : Int)] 22)) (u5.alloc (.cells #[.int .u8 (d.x0 : Int), .int .u8 (d.x1 : Int), .int .u8 (d.x2 : Int), .int .u8 (d.x3 : Int), .int .u8 (d.x4 : Int), .int .u8 (d.x5 : Int), .int .u8 (d.x6 : Int), .int .u8 (d.x7 : Int)] 22)).heap.size 8 (some ⟨u5.heap.size, 0, none⟩) 1 (flatD [d])) := Rd.newA (n := 1) (sz := 8) (xs := flatD [d]) u5 22 #[.int .u8 (d.x0 : Int), .int .u8 (d.x1 : Int), .int .u8 (d.x2 : Int), .int .u8 (d.x3 : Int), .int .u8 (d.x4 : Int), .int .u8 (d.x5 : Int), .int .u8 (d.x6 : Int), .int .u8 (d.x7 : Int)] rfl rfl
                have hbs : w.heap.size ≤ (u5.alloc (.cells #[.int .u8 (d.x0 : Int), .int .u8 (d.x1 : Int), .int .u8 (d.x2 : Int), .int .u8 (d.x3 : Int), .int .u8 (d.x4 : Int), .int .u8 (d.x5 : Int), .int .u8 (d.x6 : Int), .int .u8 (d.x7 : Int)] 22)).heap.size := by rw [World.size_alloc]; have := Hw5.out.size; omega
                clear zf zg r0 r1
                go_wp2_with (at_builtin; go_must (refine wpList_append_rdg (u5.alloc (.cells #[.int .u8 (d.x0 : Int), .int .u8 (d.x1 : Int), .int .u8 (d.x2 : Int), .int .u8 (d.x3 : Int), .int .u8 (d.x4 : Int), .int .u8 (d.x5 : Int), .int .u8 (d.x6 : Int), .int .u8 (d.x7 : Int)] 22)) (by rfl) _ _ 23 (by rfl) w.heap.size 22 i0 (.agg #[.int .u8 0, .int .u8 0, .int .u8 0, .int .u8 0, .int .u8 0, .int .u8 0, .int .u8 0, .int .u8 0]) 8 8 Try.underlying23 HI.out rfl (by decide) _ _ _ (by rfl) HO6.out (u5.alloc (.cells #[.int .u8 (d.x0 : Int), .int .u8 (d.x1 : Int), .int .u8 (d.x2 : Int), .int .u8 (d.x3 : Int), .int .u8 (d.x4 : Int), .int .u8 (d.x5 : Int), .int .u8 (d.x6 : Int), .int .u8 (d.x7 : Int)] 22)).heap.size (some ⟨u5.heap.size, 0, none⟩) 1 1 _ (by rfl) HRl.out (flatD_one _) (by have := HkL.out; have := Hk.out; omega) (by have := HkL.out; have := Hk.out; omega) hbs ?_); intro v7 u7 ho7 hb7 hg7; (obtain ⟨A7, c7, rfl⟩ := own_form ho7); rw [← flatD_append] at ho7; have HO7 := Lib.hid ho7; have HX7 := Lib.hid (block_grown HX6.out hg7 (own_ne HO6.out HX6.out (by decide))); have HQ7 := Lib.hid (block_grown HQ6.out hg7 (own_ne HO6.out HQ6.out (by decide))); have HZ7 := Lib.hid (block_grown HZ6.out hg7 (own_ne HO6.out HZ6.out (by decide))); have Hw7 := Lib.hid (Hw6.out.trans hb7); have q9 : u7.cell? ⟨bq, 9, none⟩ = some (.slice A' L.length c') := (block_cell HQ7.out 9).trans rfl; have qf := block_free HQ7.out; have hlq7 := block_lt HQ7.out; clear ho7 hb7 hg7)
                have hg9 := grown_set1 u7 bq 9 (.slice A7 (L.length + 1) c7)
                have HQ9 : Hid ((u7.setCell ⟨bq, 9, none⟩ (.slice A7 (L.length + 1) c7)).heap[bq]? = some (.cells #[.int .u8 (X1.2.x0 : Int), .int .u8 (X1.2.x1 : Int), .int .u8 (X1.2.x2 : Int), .int .u8 (X1.2.x3 : Int), .int .u8 (X1.2.x4 : Int), .int .u8 (X1.2.x5 : Int), .int .u8 (X1.2.x6 : Int), .int .u8 (X1.2.x7 : Int), .int .i64 (X2.2 : Int), (.slice A7 (L.length + 1) c7)] 39 (0, 0))) := Lib.hid (by simpa using Joins.block_setCell (i := 9) HQ7.out (.slice A7 (L.length + 1) c7))
                have HX9 := Lib.hid ((hg9.block _ (block_lt HX7.out) (by intro e; injection e with e; omega)).trans HX7.out)
                have HZ9 := Lib.hid ((hg9.block _ (block_lt HZ7.out) (by intro e; injection e with e; omega)).trans HZ7.out)
                have HO9 := Lib.hid (own_keep HO7.out (fun g hg => hg9.block g (HO7.out.lt g hg).2 (fun e => own_ne HO7.out HQ7.out (by decide) (by rw [hg]; exact e.symm))))
                have Hw9 := Lib.hid (Hw7.out.grown hg9 Hw7.out.size (fun k hk => by injection hk with hk; omega))
                go_roundw
                case rel => exact ⟨k + 1, ⟨l, Xa, 0⟩, L ++ [d], A7, c7, by go_num, rfl, HEa.out, Hk.out, HX9.out, by rw [List.length_append]; exact HQ9.out, by rw [List.length_append]; exact HO9.out, HZ9.out, Hw9.out, .inl ⟨rfl, by rw [List.length_append, HkL.out]; rfl, HC.out⟩⟩
                case measure => have := Hk.out; simp [RowKit.intOf]; omega
            · have b1 : (Xe == 0) = false := by simpa using hxe
              have b2 : decide (Xe = 0) = false := decide_eq_false hxe
              have HB := Lib.hid (F1.out hxe); have Hxe := Lib.hid hxe
              clear hxe
              obtain ⟨zf, r0, r1, r2⟩ := free3 HX4.out
              have hlx := block_lt HX4.out
              clear zf r0 r1
              go_wp2
              go_roundw
              case rel => exact ⟨k + 1, ⟨l, Xa, Xe⟩, L, A', c', by go_num, rfl, HEa.out, Hk.out, HX4.out, HQ4.out, HO4.out, HZ4.out, Hw4.out, .inr ⟨Hxe.out, HB.out.1, HB.out.2⟩⟩
              case measure => have := Hk.out; simp [RowKit.intOf]; omega
          · obtain rfl : k = cnt := by omega
            have hd1 : decide ((k : Int) < (k : Int)) = false := by simp
            have hs := open_stop (s := ⟨l, xa, 0⟩) rfl hop
            have hs1 := hs.1
            have hs2 := hs.2
            have Hs1 := Lib.hid hs1
            clear hlt hop hs hs1 hkL
            subst hs2
            go_wp2
            go_meet
            exact ⟨⟨l, xa, 0⟩, A', c', rfl, Hs1.out, HXa.out, HQa.out, HOa.out, HZa.out, Hwa.out⟩
        · have b1 : (xe == 0) = false := by simpa using he
          have b2 : decide (xe = 0) = false := decide_eq_false he
          obtain ⟨hs1, hs2⟩ : (⟨l, xa, xe⟩ : RS) = rN (openY l).1 (openY l).2.2 ∧ L = (openY l).2.1 := by
            rcases hst with ⟨h, _⟩ | ⟨_, h⟩
            · exact absurd h he
            · exact h
          have Hs1 := Lib.hid hs1
          clear hst hs1 he
          subst hs2
          by_cases hlt : k < cnt
          · have hd1 : decide ((k : Int) < (cnt : Int)) = true := decide_eq_true (by omega)
            have hki : (k : Int) < (cnt : Int) := by omega
            go_wp2
            go_meet
            exact ⟨⟨l, xa, xe⟩, A', c', rfl, Hs1.out, HXa.out, HQa.out, HOa.out, HZa.out, Hwa.out⟩
          · have hd1 : decide ((k : Int) < (cnt : Int)) = false := decide_eq_false (by omega)
            have hki : ¬ ((k : Int) < (cnt : Int)) := by omega
            go_wp2
            go_meet
            exact ⟨⟨l, xa, xe⟩, A', c', rfl, Hs1.out, HXa.out, HQa.out, HOa.out, HZa.out, Hwa.out⟩
    case rest =>
      obtain ⟨⟨xl, xa, xe⟩, A', c', hxl, hx, hX, hQ, hO, hZ, hW⟩ := hcut
      simp only at hxl
      subst xl
      obtain ⟨u1, rfl⟩ : ∃ u1 : World, u1 = wc := ⟨_, rfl⟩
      have hN := openN_ref l
      rw [← hx, ← G1.out, ← G2.out] at hN
      have HN9 := Lib.hid hN
      clear hN hx Hst HX3l HX6 HQ6 HZ6 Hw6 r2 G1 G2 G3 G4 G5
      generalize (openY l).2.1 = L at *
      have HXa := Lib.hid hX; have HQa := Lib.hid hQ; have HOa := Lib.hid hO; have HZa := Lib.hid hZ; have Hwa := Lib.hid hW
      obtain ⟨zf, r0, r1, r2⟩ := free3 hX
      have hlx := block_lt hX
      clear zf hX hQ hO hZ hW
      go_wp2_with fail
      refine (endr_any A n c ⟨l, xa, xe⟩ u1 Hl.out).mono ?_
      rintro e u2 ⟨rfl, hb2⟩
      have HQb := Lib.hid (block_below HQa.out hb2 (block_lt HQa.out)); have HOb := Lib.hid (own_below HOa.out hb2); have HZb := Lib.hid (block_below HZa.out hb2 (block_lt HZa.out)); have Hbw := Lib.hid (Hwa.out.trans (hb2.mono Hwa.out.size))
      clear hb2 HXa HQa HOa HZa Hwa r0 r1 r2 hlx
      generalize endRS ⟨l, xa, xe⟩ = er at *
      obtain ⟨zf, r0, r1, r2, r3, r4, r5, r6, r7, r8, r9⟩ := free10 HQb.out
      obtain ⟨yf, x0, x1, x2, x3, x4, x5, x6, x7, x8, x9⟩ := free10 (s := D8.zero) (h := 0) HZb.out
      have hl0 := block_lt HQb.out; have hlz := block_lt HZb.out
      have HX := Lib.hid HZb.out
      clear zf
      by_cases her : er = 0
      · subst er
        have Hres : Hid (openN l = (some ⟨X1.2, X2.2, L⟩, 0)) := Lib.hid (by rw [HN9.out, if_neg (by simp)])
        clear HN9
        go_wp2
        clear yf x0 x1 x2 x3 x4 x5 x6 x7 x8 x9 r0 r1 r2 r3 r4 r5 r6 r7 r8 r9
        have h10 := set10 HX.out (.int .u8 (X1.2.x0 : Int)) (.int .u8 (X1.2.x1 : Int)) (.int .u8 (X1.2.x2 : Int)) (.int .u8 (X1.2.x3 : Int)) (.int .u8 (X1.2.x4 : Int)) (.int .u8 (X1.2.x5 : Int)) (.int .u8 (X1.2.x6 : Int)) (.int .u8 (X1.2.x7 : Int)) (.int .i64 (X2.2 : Int)) (.slice A' L.length c')
        have hg10 := grown_set10 u2 (w.heap.size) (.int .u8 (X1.2.x0 : Int)) (.int .u8 (X1.2.x1 : Int)) (.int .u8 (X1.2.x2 : Int)) (.int .u8 (X1.2.x3 : Int)) (.int .u8 (X1.2.x4 : Int)) (.int .u8 (X1.2.x5 : Int)) (.int .u8 (X1.2.x6 : Int)) (.int .u8 (X1.2.x7 : Int)) (.int .i64 (X2.2 : Int)) (.slice A' L.length c')
        generalize ((((((((((u2.setCell ⟨w.heap.size, 0, none⟩ (.int .u8 (X1.2.x0 : Int))).setCell ⟨w.heap.size, 1, none⟩ (.int .u8 (X1.2.x1 : Int))).setCell ⟨w.heap.size, 2, none⟩ (.int .u8 (X1.2.x2 : Int))).setCell ⟨w.heap.size, 3, none⟩ (.int .u8 (X1.2.x3 : Int))).setCell ⟨w.heap.size, 4, none⟩ (.int .u8 (X1.2.x4 : Int))).setCell ⟨w.heap.size, 5, none⟩ (.int .u8 (X1.2.x5 : Int))).setCell ⟨w.heap.size, 6, none⟩ (.int .u8 (X1.2.x6 : Int))).setCell ⟨w.heap.size, 7, none⟩ (.int .u8 (X1.2.x7 : Int))).setCell ⟨w.heap.size, 8, none⟩ (.int .i64 (X2.2 : Int))).setCell ⟨w.heap.size, 9, none⟩ (.slice A' L.length c')) = u3 at *
        obtain ⟨zf, r0, r1, r2, r3, r4, r5, r6, r7, r8, r9⟩ := free10 h10
        have Hb2 := Lib.hid (Hbw.out.grown hg10 Hbw.out.size (fun k hk => by injection hk with hk; omega))
        have HG10 := Lib.hid hg10
        clear h10 hg10
        have hO3 := own_keep HOb.out (fun g hg => HG10.out.block g (HOb.out.lt g hg).2 (fun e => own_ne HOb.out HZb.out (by decide) (by rw [hg]; exact e.symm)))
        refine bodyPost_ret (v := .tuple #[.agg #[.int .u8 (X1.2.x0 : Int), .int .u8 (X1.2.x1 : Int), .int .u8 (X1.2.x2 : Int), .int .u8 (X1.2.x3 : Int), .int .u8 (X1.2.x4 : Int), .int .u8 (X1.2.x5 : Int), .int .u8 (X1.2.x6 : Int), .int .u8 (X1.2.x7 : Int), .int .i64 (X2.2 : Int), (.slice A' L.length c')], .int .i64 0]) (by simp [results, Try.results17, go_sem, r0, r1, r2, r3, r4, r5, r6, r7, r8, r9]) rfl ⟨Hb2.out, ?_⟩
        rw [Hres.out]
        exact ⟨A', L.length, c', rfl, Rd.of_own hO3⟩
      · have b1 : (er != 0) = true := by simpa using her
        have b2 : decide (er = 0) = false := decide_eq_false her
        have Hres : Hid (openN l = (none, er)) := Lib.hid (by rw [HN9.out, if_pos her])
        clear HN9 her
        go_wp2
        clear yf x0 x1 x2 x3 x4 x5 x6 x7 x8 x9 r0 r1 r2 r3 r4 r5 r6 r7 r8 r9
        have h10 := set10 HX.out (.int .u8 0) (.int .u8 0) (.int .u8 0) (.int .u8 0) (.int .u8 0) (.int .u8 0) (.int .u8 0) (.int .u8 0) (.int .i64 0) (.slice none 0 0)
        have hg10 := grown_set10 u2 (w.heap.size) (.int .u8 0) (.int .u8 0) (.int .u8 0) (.int .u8 0) (.int .u8 0) (.int .u8 0) (.int .u8 0) (.int .u8 0) (.int .i64 0) (.slice none 0 0)
        generalize ((((((((((u2.setCell ⟨w.heap.size, 0, none⟩ (.int .u8 0)).setCell ⟨w.heap.size, 1, none⟩ (.int .u8 0)).setCell ⟨w.heap.size, 2, none⟩ (.int .u8 0)).setCell ⟨w.heap.size, 3, none⟩ (.int .u8 0)).setCell ⟨w.heap.size, 4, none⟩ (.int .u8 0)).setCell ⟨w.heap.size, 5, none⟩ (.int .u8 0)).setCell ⟨w.heap.size, 6, none⟩ (.int .u8 0)).setCell ⟨w.heap.size, 7, none⟩ (.int .u8 0)).setCell ⟨w.heap.size, 8, none⟩ (.int .i64 0)).setCell ⟨w.heap.size, 9, none⟩ (.slice none 0 0)) = u3 at *
        obtain ⟨zf, r0, r1, r2, r3, r4, r5, r6, r7, r8, r9⟩ := free10 (s := D8.zero) (h := 0) h10
        change _ = some (Value.int .u8 0) at r0 r1 r2 r3 r4 r5 r6 r7
        have Hb2 := Lib.hid (Hbw.out.grown hg10 Hbw.out.size (fun k hk => by injection hk with hk; omega))
        have HG10 := Lib.hid hg10
        clear h10 hg10
        refine bodyPost_ret (v := .tuple #[rgZ, .int .i64 er]) (by simp [results, Try.results17, go_sem, rgZ, r0, r1, r2, r3, r4, r5, r6, r7, r8, r9]) rfl ⟨Hb2.out, ?_⟩
        rw [Hres.out]
end Go.Proofs.Ytmpklplojfjfbaa
