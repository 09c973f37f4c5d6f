/- The law's agree. Conditions: its world lies in memory; room in the book. The law's outcome: what both players sign that they are paid. Conditions: the law's world lies in memory; room in the book; pays that may be. -/
import Derived.Test.YthhiookcknnmdaaGreatJoinUah
namespace Go.Proofs.YthhiookcknnmdaaGreat
open Go.RowKit Go.Lib
theorem Wy.Ok.setp {y : Wy} (h : y.Ok) (k : Nat) (p : Pu) : ({ y with pu := y.pu.set k p } : Wy).Ok := ⟨h.pl, by show (y.pu.set k p).length + 1 = _; rw [List.length_set]; exact h.np, h.na⟩
theorem fit_set {l : List Pu} (h : ∀ p ∈ l, p.check = 0) {k : Nat} {q : Pu} (hq : q.check = 0) : ∀ p ∈ l.set k q, p.check = 0 := fun p hp => by
 rcases List.mem_or_eq_of_mem_set hp with hp | rfl
 ·exact h p hp
 ·exact hq
theorem Wy.Ok.lock {y : Wy} (h : y.Ok) (hop now : Int) : (y.lock hop now).2.Ok := by
 unfold Wy.lock
 split
 ·exact ⟨h.pl, by show (y.pu.set _ _).length + 1 = _; rw [List.length_set]; exact h.np, h.na⟩
 ·exact h
theorem Wy.Ok.open_ {y : Wy} (h : y.Ok) (L : List En) (hop wh now : Int) (o : Ou) : (y.open_ L hop wh now o).2.Ok := by
 unfold Wy.open_
 split
 ·exact ⟨h.pl, by show (y.pu.set _ _).length + 1 = _; rw [List.length_set]; exact h.np, h.na⟩
 ·exact h
theorem Wy.Ok.back {y : Wy} (h : y.Ok) (hop wh now : Int) : (y.back hop wh now).2.Ok := by
 unfold Wy.back
 split
 ·exact ⟨h.pl, by show (y.pu.set _ _).length + 1 = _; rw [List.length_set]; exact h.np, h.na⟩
 ·exact h
theorem Wy.Ok.agree {y : Wy} (h : y.Ok) (L : List En) (party : Int) (s : List Nat) : (y.agree L party s).2.Ok := by
 unfold Wy.agree
 split
 ·exact ⟨h.pl, h.np, by show (y.ag.set _ _).length = _; rw [List.length_set]; exact h.na⟩
 ·exact h
theorem fit_lock {y : Wy} (h : ∀ p ∈ y.pu, p.check = 0) (hop now : Int) : ∀ p ∈ (y.lock hop now).2.pu, p.check = 0 := by
 unfold Wy.lock
 split
 ·rename_i e
  refine fit_set h ?_
  have e1 := Wy.lockI_yes e
  rw [e1] at e ⊢
  exact (keep_hold e).fits
 ·exact h
theorem fit_open {y : Wy} (h : ∀ p ∈ y.pu, p.check = 0) (L : List En) (hop wh now : Int) (o : Ou) : ∀ p ∈ (y.open_ L hop wh now o).2.pu, p.check = 0 := by
 unfold Wy.open_
 split
 ·rename_i e
  refine fit_set h ?_
  have e1 := Wy.openI_yes e
  rw [e1] at e ⊢
  exact (keep_free e).fits
 ·exact h
theorem fit_back {y : Wy} (h : ∀ p ∈ y.pu, p.check = 0) (hop wh now : Int) : ∀ p ∈ (y.back hop wh now).2.pu, p.check = 0 := by
 unfold Wy.back
 split
 ·rename_i e
  refine fit_set h ?_
  have e1 := Wy.backI_yes e
  rw [e1] at e ⊢
  exact (keep_back e).fits
 ·exact h
theorem fit_agree {y : Wy} (h : ∀ p ∈ y.pu, p.check = 0) (L : List En) (party : Int) (s : List Nat) : ∀ p ∈ (y.agree L party s).2.pu, p.check = 0 := by
 unfold Wy.agree
 split
 ·exact h
 ·exact h
theorem lock_pl (y : Wy) (hop now : Int) : (y.lock hop now).2.pl = y.pl := by unfold Wy.lock; split <;> rfl
theorem open_pl (y : Wy) (L : List En) (hop wh now : Int) (o : Ou) : (y.open_ L hop wh now o).2.pl = y.pl := by unfold Wy.open_; split <;> rfl
theorem back_pl (y : Wy) (hop wh now : Int) : (y.back hop wh now).2.pl = y.pl := by unfold Wy.back; split <;> rfl
theorem agree_pl (y : Wy) (L : List En) (party : Int) (s : List Nat) : (y.agree L party s).2.pl = y.pl := by unfold Wy.agree; split <;> rfl
theorem signE_len (L : List En) (e : En) : (signE L e).1.length ≤ L.length + 1 := by
 unfold signE
 split
 ·simp
 ·simp
def lawAgree (y : Wy) (L : List En) (n : Nat) : Int × Wy × List En :=
 ((y.agree (signE L ⟨keyD n, y.pl.digest⟩).1 n (sigL (signE L ⟨keyD n, y.pl.digest⟩).2)).1, (y.agree (signE L ⟨keyD n, y.pl.digest⟩).1 n (sigL (signE L ⟨keyD n, y.pl.digest⟩).2)).2, (signE L ⟨keyD n, y.pl.digest⟩).1)
theorem agree_one (y : Wy) (L : List En) (party : Int) (s : List Nat) : (y.agree L party s).1 = y.agreeI L party s := by
 unfold Wy.agree
 split
 ·rename_i e; exact e.symm
 ·rfl
theorem range_part {w : World} {b : Nat} {cs : Array Value} {T : TypeId} {fz : Nat × Nat} {vs : List Value} (h : w.heap[b]? = some (.cells cs T fz)) (o n : Nat) (hv : (cs.toList.drop o).take n = vs) : w.rangeAt b o vs := fun j v hj => by
 rw [block_cell h]
 rw [← hv, List.getElem?_take] at hj
 split at hj
 ·rw [List.getElem?_drop] at hj; rw [← Array.getElem?_toList]; exact hj
 ·cases hj
theorem sigAt_rd {w : World} {g i : Nat} (h : SigAt w g i) : Rd w w.heap.size 1 (some ⟨g, 0, none⟩) 2 (bv (sigL i)) := sig_rd h
theorem BookAt.wchg {w w' : World} {Bb B wb bk mb : Nat} {y : Wy} {a : WyA} {L : List En} (h : BookAt w Bb bk mb L) (hw : WyAt w B wb bk y a) (hB : Bb ≤ B) (hc : WChg a.F w w') : BookAt w' Bb bk mb L := by
 obtain ⟨A, n, c, h1, h2⟩ := h.book
 have hF : ∀ k, k < Bb → ¬ a.F k := fun k hk hf => by have := hw.F_ge hf; omega
 have hbk := h.hB
 refine ⟨⟨A, n, c, (hc.block _ (block_lt h1) (hF _ h.lb)).trans h1, own_keepV h2 fun g hg => ?_⟩, h.places.same (hc.block _ h.places.lt (hF _ h.lm)), h.lb, h.lm, Nat.le_trans h.hB hc.size, h.nodup, h.ok⟩
 obtain ⟨_, cs, e⟩ := own_block h2 hg
 exact hc.block _ (block_lt e) (hw.notF e (by decide) (by decide))
section
variable {w w' : World} {B Bb wob wb bk mb : Nat} {y : Wy} {a : WyA} {L : List En} {Ak : Option Addr} {nk ck : Nat} {An : Option Addr} {nn cn : Nat} {Af : Option Addr} {nf cf : Nat} {vp : Value}
set_option maxRecDepth 100000 in
set_option maxHeartbeats 4000000 in
theorem lagree_any (h : LwAt w B Bb wob wb bk mb y a L Ak nk ck An nn cn Af nf cf vp) (n : Nat) (hn : n ≤ 200) (hlen : L.length < 50000) : Calls Tryz.prog 24 #[.pointer (some ⟨wob, 0, none⟩), .int .i64 n] w fun e w' =>
  e = .returned (.int .i64 (lawAgree y L n).1) ∧ ∃ a', LwAt w' B Bb wob wb bk mb (lawAgree y L n).2.1 a' (lawAgree y L n).2.2 Ak nk ck An nn cn Af nf cf vp ∧ a.sameF a' ∧ LChg a bk mb w w' := by
 have hwo := block_lt h.box
 have HBx : Hid (∀ w', Below w.heap.size w w' → w'.heap[wob]? = some (.cells #[.pointer (some ⟨wb, 0, none⟩), .int .u8 y.pl.tb.x0, .int .u8 y.pl.tb.x1, .int .u8 y.pl.tb.x2, .int .u8 y.pl.tb.x3, .int .u8 y.pl.tb.x4, .int .u8 y.pl.tb.x5, .int .u8 y.pl.tb.x6, .int .u8 y.pl.tb.x7, .slice Ak nk ck, .int .i64 y.pl.s0, .int .i64 y.pl.s1, .slice An nn cn, .slice Af nf cf, .pointer (some ⟨bk, 0, none⟩), .int .i64 10, vp] 54 (0, 0))) := Lib.hid fun w' hw' => block_below h.box hw' hwo
 have H := Lib.hid h
 have hbk : wob ≠ bk := h.ne_bk h.box (by decide)
 have hLA : Hid (lawAgree y L n = ((y.agree (signE L ⟨keyD n, y.pl.digest⟩).1 n (sigL (signE L ⟨keyD n, y.pl.digest⟩).2)).1, (y.agree (signE L ⟨keyD n, y.pl.digest⟩).1 n (sigL (signE L ⟨keyD n, y.pl.digest⟩).2)).2, (signE L ⟨keyD n, y.pl.digest⟩).1)) := Lib.hid rfl
 have hko : (keyD n).ok := byD_ok (by omega)
 have hdo : y.pl.digest.ok := hashOf_ok _
 have hle := signE_len L ⟨keyD n, y.pl.digest⟩
 have HKo := Lib.hid hko; have HDo := Lib.hid hdo; have HLe := Lib.hid hle
 clear h hko hdo hle
 go_enter Tryz.func24, Tryz.ntmps24
 go_upto_region 1 with fail
 refine wp_region_held_drew (S := fun w' => w'.heap[wob]? = some (.cells #[.pointer (some ⟨wb, 0, none⟩), .int .u8 y.pl.tb.x0, .int .u8 y.pl.tb.x1, .int .u8 y.pl.tb.x2, .int .u8 y.pl.tb.x3, .int .u8 y.pl.tb.x4, .int .u8 y.pl.tb.x5, .int .u8 y.pl.tb.x6, .int .u8 y.pl.tb.x7, .slice Ak nk ck, .int .i64 y.pl.s0, .int .i64 y.pl.s1, .slice An nn cn, .slice Af nf cf, .pointer (some ⟨bk, 0, none⟩), .int .i64 10, vp] 54 (0, 0))) (by kernel_rfl) (HBx.out _ (Below.refl _ _).drew) (fun hHeld => ?_)
 have q1 : ∀ w' : World, w'.heap[wob]? = some (.cells #[.pointer (some ⟨wb, 0, none⟩), .int .u8 y.pl.tb.x0, .int .u8 y.pl.tb.x1, .int .u8 y.pl.tb.x2, .int .u8 y.pl.tb.x3, .int .u8 y.pl.tb.x4, .int .u8 y.pl.tb.x5, .int .u8 y.pl.tb.x6, .int .u8 y.pl.tb.x7, .slice Ak nk ck, .int .i64 y.pl.s0, .int .i64 y.pl.s1, .slice An nn cn, .slice Af nf cf, .pointer (some ⟨bk, 0, none⟩), .int .i64 10, vp] 54 (0, 0)) → w'.cell? ⟨wob, 14, none⟩ = some (.pointer (some ⟨bk, 0, none⟩)) := fun w' hw' => by have := block_cell hw' 14; simpa using this
 refine takP 0 8 ?_ rfl (by kernel_rfl) (fun _ _ _ => id) ?hy (by assumption) ?_
 case hy => intro w' h; clear h; go_simp; try with_reducible rfl
 simp only [Act.put, sT]
 refine takP 1 9 ?_ rfl (by kernel_rfl) (fun _ _ _ => id) ?hy (by assumption) ?_
 case hy => intro w' h; clear h; go_simp; try with_reducible rfl
 simp only [Act.put, sT]
 refine takP 2 10 ?_ rfl (by kernel_rfl) (fun _ _ _ => id) ?hy (by assumption) ?_
 case hy => intro w' h; clear h; go_simp; try with_reducible rfl
 simp only [Act.put, sT]
 refine takP 3 11 ?_ rfl (by kernel_rfl) (fun _ _ _ => id) ?hy (by assumption) ?_
 case hy => intro w' h; have hx := q1 w' h; clear h; go_simp; try with_reducible rfl
 simp only [Act.put, sT]
 refine takP 4 12 ?_ rfl (by kernel_rfl) (fun _ _ _ => id) ?hy (by assumption) ?_
 case hy => intro w' h; clear h; go_simp; try with_reducible rfl
 simp only [Act.put, sT]
 refine takP 7 15 ?_ rfl (by kernel_rfl) (fun _ _ _ => id) ?hy (by assumption) ?_
 case hy => intro w' h; clear h; go_simp; try with_reducible rfl
 simp only [Act.put, sT]
 refine takP 8 16 ?_ rfl (by kernel_rfl) (fun _ _ _ => id) ?hy (by assumption) ?_
 case hy => intro w' h; clear h; go_simp; try with_reducible rfl
 simp only [Act.put, sT]
 refine takP 9 17 ?_ rfl (by kernel_rfl) (fun _ _ _ => id) ?hy (by assumption) ?_
 case hy => intro w' h; clear h; go_simp; try with_reducible rfl
 simp only [Act.put, sT]
 refine takeK 10 (some 18) (v := .agg ([.int .u8 y.pl.tb.x0, .int .u8 y.pl.tb.x1, .int .u8 y.pl.tb.x2, .int .u8 y.pl.tb.x3, .int .u8 y.pl.tb.x4, .int .u8 y.pl.tb.x5, .int .u8 y.pl.tb.x6, .int .u8 y.pl.tb.x7, .slice Ak nk ck, .int .i64 y.pl.s0, .int .i64 y.pl.s1, .slice An nn cn, .slice Af nf cf] : List Value).toArray) rfl (by kernel_rfl) (by kernel_rfl) (fun _ _ _ => id) (yieldsIf_load_mid (by kernel_rfl) 32 _ (by rfl) (wob) (1) (by rfl) [.int .u8 y.pl.tb.x0, .int .u8 y.pl.tb.x1, .int .u8 y.pl.tb.x2, .int .u8 y.pl.tb.x3, .int .u8 y.pl.tb.x4, .int .u8 y.pl.tb.x5, .int .u8 y.pl.tb.x6, .int .u8 y.pl.tb.x7, .slice Ak nk ck, .int .i64 y.pl.s0, .int .i64 y.pl.s1, .slice An nn cn, .slice Af nf cf] _ (fun w' hw' => range_part hw' 1 13 rfl) Tryz.underlying32 rfl (by kernel_rfl)) (by assumption) ?_
 simp only [Act.put, sT]
 refine wpAnyH_ready (rs := [5]) (by kernel_rfl) (by simp) ?_
 refine AllReadyH.cons rfl (fun K hK => ?_) AllReadyH.nil
 rw [if_pos (by kernel_rfl)]
 try simp only [List.getElem_toArray]
 try simp only [List.getElem_cons_succ]
 try simp only [List.getElem_cons_zero]
 go_simp
 go_at_call 11
 refine (key_any n hn w.drew).mono ?_
 rintro e w1 ⟨rfl, hb1⟩
 have HB1 := Lib.hid ((Below.refl w.heap.size w).drew.trans hb1)
 clear hb1
 generalize hkd : keyD n = kd at *
 have HKd := Lib.hid hkd
 clear hkd
 refine hK.out _ _ (HBx.out _ HB1.out) (fun _ => ?_)
 clear hK K
 try simp only [Act.put, sT]
 refine wpAnyH_ready (rs := [6]) (by kernel_rfl) (by simp) ?_
 refine AllReadyH.cons rfl (fun K hK => ?_) AllReadyH.nil
 rw [if_pos (by kernel_rfl)]
 try simp only [List.getElem_toArray]
 try simp only [List.getElem_cons_succ]
 try simp only [List.getElem_cons_zero]
 go_simp
 go_at_call 74
 refine (signer_any kd bk w1).mono ?_
 rintro e w2 ⟨rfl, hb2⟩
 have HB2 := Lib.hid (HB1.out.trans (hb2.mono HB1.out.size))
 clear hb2
 refine hK.out _ _ (HBx.out _ HB2.out) (fun _ => ?_)
 clear hK K
 try simp only [Act.put, sT]
 have hna : ∀ w : World, (nilAhead 347 186 (.agg #[.pointer (some ⟨bk, 0, none⟩), .int .u8 kd.x0, .int .u8 kd.x1, .int .u8 kd.x2, .int .u8 kd.x3, .int .u8 kd.x4, .int .u8 kd.x5, .int .u8 kd.x6, .int .u8 kd.x7]) "Sign").run Tryz.prog w = .ok (some false) w := fun _ => by kernel_rfl
 have hme : ∀ w : World, (method 347 186 (.agg #[.pointer (some ⟨bk, 0, none⟩), .int .u8 kd.x0, .int .u8 kd.x1, .int .u8 kd.x2, .int .u8 kd.x3, .int .u8 kd.x4, .int .u8 kd.x5, .int .u8 kd.x6, .int .u8 kd.x7]) "Sign").run Tryz.prog w = .ok (201, .agg #[.pointer (some ⟨bk, 0, none⟩), .int .u8 kd.x0, .int .u8 kd.x1, .int .u8 kd.x2, .int .u8 kd.x3, .int .u8 kd.x4, .int .u8 kd.x5, .int .u8 kd.x6, .int .u8 kd.x7]) w := fun _ => by kernel_rfl
 refine takP 12 20 ?_ rfl (by kernel_rfl) (fun _ _ _ => id) ?hy (by assumption) ?_
 case hy => intro w' h; clear h; go_simp; try with_reducible rfl
 simp only [Act.put, sT]
 refine takP 13 21 ?_ rfl (by kernel_rfl) (fun _ _ _ => id) ?hy (by assumption) ?_
 case hy => intro w' h; clear h; go_simp; try with_reducible rfl
 simp only [Act.put, sT]
 refine takP 14 22 ?_ rfl (by kernel_rfl) (fun _ _ _ => id) ?hy (by assumption) ?_
 case hy => intro w' h; clear h; go_simp; try with_reducible rfl
 simp only [Act.put, sT]
 refine wpAnyH_ready (rs := [11]) (by kernel_rfl) (by simp) ?_
 refine AllReadyH.cons rfl (fun K hK => ?_) AllReadyH.nil
 rw [if_pos (by kernel_rfl)]
 try simp only [List.getElem_toArray]
 try simp only [List.getElem_cons_succ]
 try simp only [List.getElem_cons_zero]
 go_simp
 go_at_call 32
 refine (pldigest_any y.pl _ _ _ _ _ _ _ _ _ w2 (H.out.below HB2.out).pl.at_ H.out.ok.pl.tb H.out.ok.pl.ko).mono ?_
 rintro e w3 ⟨rfl, hb3⟩
 have HB3 := Lib.hid (HB2.out.trans (hb3.mono HB2.out.size))
 clear hb3
 generalize hdg : y.pl.digest = dg at *
 have HDg := Lib.hid hdg
 clear hdg
 refine hK.out _ _ (HBx.out _ HB3.out) (fun _ => ?_)
 clear hK K
 try simp only [Act.put, sT]
 refine wpAnyH_ready (rs := [15]) (by kernel_rfl) (by simp) ?_
 refine AllReadyH.cons rfl (fun K hK => ?_) AllReadyH.nil
 rw [if_pos (by kernel_rfl)]
 try simp only [List.getElem_toArray]
 try simp only [List.getElem_cons_succ]
 try simp only [List.getElem_cons_zero]
 go_simp
 go_at_call 201
 refine (wsign_any Bb bk mb L kd dg w3 (H.out.book.below HB3.out) HKo.out HDo.out (by omega)).mono ?_
 rintro e w4 ⟨g, rfl, hg, hsig, hbook, hkept⟩
 generalize hse : signE L ⟨kd, dg⟩ = se at *
 have HSe := Lib.hid hse
 have h4 := (H.out.below HB3.out).kept hkept hbook
 have HBx4 := Lib.hid h4.box
 have HSig := Lib.hid (sigAt_rd hsig); have H4 := Lib.hid h4
 have HL4 : Hid (LChg a bk mb w w4) := Lib.hid ((LChg.of_below HB3.out).trans (LChg.of_kept hkept))
 clear hse hsig hbook hkept h4 hna hme
 refine hK.out _ _ HBx4.out (fun _ => ?_)
 clear hK K
 try simp only [Act.put, sT]
 refine takP 16 7 ?_ rfl (by kernel_rfl) (fun _ _ _ => id) ?hy (by assumption) ?_
 case hy => intro w' h; clear h; go_simp; try with_reducible rfl
 simp only [Act.put, sT]
 refine takP 17 24 ?_ rfl (by kernel_rfl) (fun _ _ _ => id) ?hy (by assumption) ?_
 case hy => intro w' h; clear h; go_simp; try with_reducible rfl
 simp only [Act.put, sT]
 refine takP 18 25 ?_ rfl (by kernel_rfl) (fun _ _ _ => id) ?hy (by assumption) ?_
 case hy => intro w' h; clear h; go_simp; try with_reducible rfl
 simp only [Act.put, sT]
 refine takP 19 5 ?_ rfl (by kernel_rfl) (fun _ _ _ => id) ?hy (by assumption) ?_
 case hy => intro w' h; clear h; go_simp; try with_reducible rfl
 simp only [Act.put, sT]
 refine takP 20 6 ?_ rfl (by kernel_rfl) (fun _ _ _ => id) ?hy (by assumption) ?_
 case hy => intro w' h; clear h; go_simp; try with_reducible rfl
 simp only [Act.put, sT]
 refine wpAnyH_done (by kernel_rfl) ?_ _
 have c0 : w4.cell? ⟨wob, 0, none⟩ = some (.pointer (some ⟨wb, 0, none⟩)) := by have := block_cell HBx4.out 0; simpa using this
 have hsl : ∀ x ∈ sigL se.2, x < 256 := sigL_lt _
 have HSl := Lib.hid hsl
 clear hsl hHeld q1
 go_wp2_with fail
 refine (agree_any (A := some ⟨g, 0, none⟩) (m := 2) (c := 2) H4.out.way H4.out.ok H4.out.book (by have := HLe.out; omega) (n : Int) (sigL se.2) HSig.out (by omega) HSl.out).mono ?_
 rintro e w5 ⟨rfl, a5, hw5, hsf, hch⟩
 have HW5 := Lib.hid hw5; have HSf := Lib.hid hsf; have HCh := Lib.hid hch
 clear hw5 hsf hch c0
 generalize hai : y.agreeI se.1 (n : Int) (sigL se.2) = ai at *
 have HAi := Lib.hid hai
 clear hai
 go_wp2
 go_ret
 have hA : lawAgree y L n = (ai, (y.agree se.1 n (sigL se.2)).2, se.1) := by rw [hLA.out, agree_one, HAi.out]
 rw [hA]
 refine ⟨rfl, a5, ?_, HSf.out, HL4.out.trans (.of_wchg HCh.out)⟩
 have hbk5 : BookAt w5 Bb bk mb se.1 := H4.out.book.wchg H4.out.way H4.out.hB HCh.out
 exact H4.out.chg (.of_wchg HCh.out) HW5.out (agree_pl _ _ _ _) (H4.out.ok.agree _ _ _) (fit_agree H4.out.fit _ _ _) hbk5
end
def ptI (n k : Nat) : Nat := if k = 0 then 0 else n - 1
def outS (L : List En) (d : D8) (n : Nat) : Nat → List En × List (List Nat)
 | 0 => (L, [])
 | k + 1 => ((signE (outS L d n k).1 ⟨keyD (ptI n k), d⟩).1, (outS L d n k).2 ++ [sigL (signE (outS L d n k).1 ⟨keyD (ptI n k), d⟩).2])
def outD (L : List En) (n : Nat) (a b : Int) : Ou × List En := (⟨[a, b], (outS L (payD tabD [a, b]) n 2).2⟩, (outS L (payD tabD [a, b]) n 2).1)
theorem outS_len (L : List En) (d : D8) (n : Nat) : ∀ k, (outS L d n k).1.length ≤ L.length + k ∧ (outS L d n k).2.length = k
 | 0 => ⟨Nat.le_refl _, rfl⟩
 | k + 1 => by
  have h := outS_len L d n k
  have h2 := signE_len (outS L d n k).1 ⟨keyD (ptI n k), d⟩
  exact ⟨by show (signE _ _).1.length ≤ _; omega, by show ((outS L d n k).2 ++ [_]).length = _; rw [List.length_append, h.2]; rfl⟩
theorem sigL_len (q : Nat) : (sigL q).length = 2 := rfl
theorem outS_sig (L : List En) (d : D8) (n : Nat) : ∀ k, ∀ s ∈ (outS L d n k).2, s.length ≤ 1000 ∧ ∀ x ∈ s, x < 256
 | 0 => fun s hs => by simp [outS] at hs
 | k + 1 => fun s hs => by
  rcases List.mem_append.1 hs with h | h
  ·exact outS_sig L d n k s h
  ·rw [List.mem_singleton] at h; subst h; exact ⟨by rw [sigL_len]; omega, sigL_lt _⟩
theorem payd_d {tb d : D8} {a b : Int} (hd : payD tb [a, b] = d) (A : Option Addr) (c : Nat) (w : World) (ht : tb.ok) (ha : okPay a) (hb : okPay b) (hr : Rd w w.heap.size 1 A 2 (ivs [a, b])) :
  Calls Tryz.prog 75 #[.agg #[.int .u8 tb.x0, .int .u8 tb.x1, .int .u8 tb.x2, .int .u8 tb.x3, .int .u8 tb.x4, .int .u8 tb.x5, .int .u8 tb.x6, .int .u8 tb.x7, .slice A 2 c]] w fun e w' => e = .returned (.agg #[.int .u8 d.x0, .int .u8 d.x1, .int .u8 d.x2, .int .u8 d.x3, .int .u8 d.x4, .int .u8 d.x5, .int .u8 d.x6, .int .u8 d.x7]) ∧ Below w.heap.size w w' := by
 subst hd; exact payd_any tb a b A c w ht ha hb hr
theorem row_new (w : World) (T : TypeId) (cs : Array Value) (n : Nat) (hn : cs.size = n) (hm : n ≤ 1000) : (w.alloc (.cells cs T)).ownsRow w.heap.size T 1 (.slice (some ⟨w.heap.size, 0, none⟩) n n) n cs.toList :=
 ⟨by simp [hn], .inr ⟨w.heap.size, n, cs, rfl, Nat.le_refl _, heap_alloc_new _ _, Nat.le_refl _, by simp only [maxLen]; omega, by rw [hn]; omega, by rw [Nat.mul_one, ← hn, ← Array.length_toList, List.take_length]⟩⟩
theorem row_block {w : World} {B b n : Nat} {T : TypeId} {cs : Array Value} (h : w.heap[b]? = some (.cells cs T (0, 0))) (hB : B ≤ b) (hn : cs.size = n) (hm : n ≤ 1000) : w.ownsRow B T 1 (.slice (some ⟨b, 0, none⟩) n n) n cs.toList :=
 ⟨by simp [hn], .inr ⟨b, n, cs, rfl, hB, h, Nat.le_refl _, by simp only [maxLen]; omega, by rw [hn]; omega, by rw [Nat.mul_one, ← hn, ← Array.length_toList, List.take_length]⟩⟩
def SigG (w : World) (C : Nat) (v : Value) (n : Nat) (ss : List (List Nat)) : Prop :=
 ∃ gs : List Nat, gs.Nodup ∧ gs.length = n ∧ w.ownsRow C 46 1 v n (gs.map fun g => Value.slice (some ⟨g, 0, none⟩) 2 2) ∧ ss.length = n ∧ ∀ k, k < n → C ≤ gs.getD k 0 ∧ w.ownsRow C 5 1 (.slice (some ⟨gs.getD k 0, 0, none⟩) 2 2) 2 (bv (ss.getD k []))
theorem SigG.nil (w : World) (C : Nat) : SigG w C (.slice none 0 0) 0 [] := ⟨[], List.nodup_nil, rfl, World.ownsRow_nil _ _ _ _, rfl, fun k hk => absurd hk (by omega)⟩
theorem SigG.ow {w : World} {C n : Nat} {v : Value} {ss : List (List Nat)} (h : SigG w C v n ss) : SigOw w C v n ss := by
 obtain ⟨gs, _, h2, h3, h4, h5⟩ := h
 refine ⟨_, h3, h4, fun k hk => ⟨some ⟨gs.getD k 0, 0, none⟩, 2, 2, ?_, (h5 k hk).2⟩⟩
 rw [List.getElem?_map, List.getD_eq_getElem?_getD, List.getElem?_eq_getElem (by omega)]
 rfl
theorem SigG.kept {w w' : World} {C n : Nat} {v : Value} {ss : List (List Nat)} {g : Nat} {cs : Array Value} {T : TypeId} {fz : Nat × Nat} (h : SigG w C v n ss) (hg : w.grownBy w' (some g)) (hb : w.heap[g]? = some (.cells cs T fz)) (h1 : T ≠ 46) (h2 : T ≠ 5) : SigG w' C v n ss := by
 obtain ⟨gs, k1, k2, k3, k4, k5⟩ := h
 refine ⟨gs, k1, k2, k3.kept hg (.inr fun e => own_ne k3 hb (fun q => h1 q.symm) e.symm), k4, fun k hk => ⟨(k5 k hk).1, (k5 k hk).2.kept hg (.inr fun e => own_ne (k5 k hk).2 hb (fun q => h2 q.symm) e.symm)⟩⟩
theorem SigG.snoc {w : World} {C k : Nat} {gs : List Nat} {v : Value} {ss : List (List Nat)} {g : Nat} {s : List Nat} (hn : gs.Nodup) (hl : gs.length = k) (hg : ∀ x ∈ gs, x < g) (hC : C ≤ g) (h1 : w.ownsRow C 46 1 v (k + 1) (gs.map (fun g => Value.slice (some ⟨g, 0, none⟩) 2 2) ++ [.slice (some ⟨g, 0, none⟩) 2 2])) (hs : ss.length = k)
  (h3 : ∀ j, j < k → C ≤ gs.getD j 0 ∧ w.ownsRow C 5 1 (.slice (some ⟨gs.getD j 0, 0, none⟩) 2 2) 2 (bv (ss.getD j []))) (h4 : w.ownsRow C 5 1 (.slice (some ⟨g, 0, none⟩) 2 2) 2 (bv s)) : SigG w C v (k + 1) (ss ++ [s]) := by
 refine ⟨gs ++ [g], ?_, by rw [List.length_append, hl]; rfl, ?_, by rw [List.length_append, hs]; rfl, fun j hj => ?_⟩
 ·rw [List.nodup_append]
  refine ⟨hn, by simp, fun x hx y hy => ?_⟩
  rw [List.mem_singleton] at hy
  have := hg x hx
  omega
 ·rw [List.map_append]; exact h1
 ·rcases Nat.lt_or_ge j k with h | h
  ·have := h3 j h
   rw [List.getD_eq_getElem?_getD, List.getElem?_append_left (by omega), ← List.getD_eq_getElem?_getD, List.getD_eq_getElem?_getD (l := ss ++ [s]), List.getElem?_append_left (by omega), ← List.getD_eq_getElem?_getD]
   exact this
  ·obtain rfl : j = k := by omega
   rw [List.getD_eq_getElem?_getD, List.getElem?_append_right (by omega), hl, List.getD_eq_getElem?_getD (l := ss ++ [s]), List.getElem?_append_right (by omega), hs]
   simpa using ⟨hC, h4⟩
theorem BookAt.typed {w w' : World} {B bk mb : Nat} {L : List En} (h : BookAt w B bk mb L) (hs : w.heap.size ≤ w'.heap.size) (hk : ∀ (k : Nat) (cs : Array Value) (t : TypeId) (fz : Nat × Nat), w.heap[k]? = some (Obj.cells cs t fz) → t = 243 ∨ t = 181 → w'.heap[k]? = w.heap[k]?) (hm : w'.heap[mb]? = w.heap[mb]?) : BookAt w' B bk mb L := by
 obtain ⟨A, n, c, h1, h2⟩ := h.book
 refine ⟨⟨A, n, c, (hk _ _ _ _ h1 (.inr rfl)).trans h1, own_keepV h2 fun g hg => ?_⟩, h.places.same hm, h.lb, h.lm, Nat.le_trans h.hB hs, h.nodup, h.ok⟩
 obtain ⟨_, cs, e⟩ := own_block h2 hg
 exact hk _ _ _ _ e (.inl rfl)
theorem Kept.low_transV {w w1 w2 : World} {bk mb : Nat} (h : Kept w w1 bk mb) (hb : Below w.heap.size w1 w2) (hbl : bk < w.heap.size) : Kept w w2 bk mb :=
 ⟨hb.os.trans h.os, hb.tape.trans h.tape, hb.output.trans h.output, Nat.le_trans h.size hb.size, fun k h1 h2 => (hb.block k (Nat.lt_of_lt_of_le h1 (Nat.le_of_lt hbl))).trans (h.low k h1 h2), fun k cs t fz a b c => (hb.block k (block_lt a)).trans (h.typed k cs t fz a b c), fun k es cl a b c => (hb.block k (block_lt a)).trans (h.maps k es cl a b c)⟩
theorem one_typed {w w' : World} {g : Nat} {cs0 : Array Value} {t0 : TypeId} {fz0 : Nat × Nat} (hg : w.grownBy w' (some g)) (h0 : w.heap[g]? = some (.cells cs0 t0 fz0)) {k : Nat} {o : Obj} (h : w.heap[k]? = some o) (hne : ∀ cs fz, o ≠ .cells cs t0 fz) : w'.heap[k]? = some o :=
 (hg.block k (block_lt h) (fun e => by injection e with e; subst e; rw [h] at h0; injection h0 with h0; exact hne _ _ h0)).trans h
theorem row_typed {w w' : World} {C e sz n : Nat} {v : Value} {xs : List Value} (ho : w.ownsRow C e sz v n xs) (hg : w.grownBy w' v.ownBlock) {k : Nat} {ob : Obj} (h : w.heap[k]? = some ob) (hne : ∀ cs fz, ob ≠ .cells cs e fz) : w'.heap[k]? = some ob :=
 (hg.block k (block_lt h) (fun x => by
  obtain ⟨_, cs, e2⟩ := own_block ho x.symm
  rw [h] at e2; injection e2 with e2; exact hne _ _ e2)).trans h
section
variable {w w' : World} {B Bb wob wb bk mb : Nat} {y : Wy} {a : WyA} {L : List En} {Ak : Option Addr} {nk ck : Nat} {An : Option Addr} {nn cn : Nat} {Af : Option Addr} {nf cf : Nat} {vp : Value}
set_option maxRecDepth 100000 in
set_option maxHeartbeats 4000000 in
theorem outcome_any (h : LwAt w B Bb wob wb bk mb y a L Ak nk ck An nn cn Af nf cf vp) (p q : Int) (hp : okPay p) (hq : okPay q) (hlen : L.length < 50000) (hk1 : 1 ≤ nk) (hk2 : nk ≤ 100) : Calls Tryz.prog 25 #[.pointer (some ⟨wob, 0, none⟩), .int .i64 p, .int .i64 q] w fun e w' =>
  ∃ Ap cp As cs, e = .returned (.agg #[.slice Ap 2 cp, .slice As 2 cs]) ∧ (outD L nk p q).1.Own w.heap.size Ap 2 cp As 2 cs w' ∧ LwAt w' B Bb wob wb bk mb y a (outD L nk p q).2 Ak nk ck An nn cn Af nf cf vp ∧ LChg a bk mb w w' ∧ SigG w' w.heap.size (.slice As 2 cs) 2 (outD L nk p q).1.sigs ∧ Kept w w' bk mb := by
 obtain ⟨d, hd⟩ : ∃ d, payD tabD [p, q] = d := ⟨_, rfl⟩
 have Hd := Lib.hid hd
 have hdo : d.ok := by rw [← hd]; exact hashOf_ok _
 have HDo := Lib.hid hdo
 have hto : tabD.ok := byD_ok (by decide)
 have HTo := Lib.hid hto
 have HP := Lib.hid hp; have HQ := Lib.hid hq
 have hwo := block_lt h.box
 have H := Lib.hid h
 clear h hd hdo hto hp hq
 go_enter Tryz.func25, Tryz.ntmps25
 go_upto_region 2 with fail
 have HX0 : Hid ((((w.alloc (.cells #[.slice none 0 0, .slice none 0 0] 59)).alloc (.cells #[.int .i64 p, .int .i64 q] 3)).alloc (.cells #[.slice (some ⟨w.heap.size + 1, 0, none⟩) 2 2, .slice none 0 0] 59)).heap[w.heap.size]? = some (.cells #[.slice none 0 0, .slice none 0 0] 59 (0, 0))) := block_alloc (block_alloc (heap_alloc_new _ _) _) _
 have HR0 : Hid ((((w.alloc (.cells #[.slice none 0 0, .slice none 0 0] 59)).alloc (.cells #[.int .i64 p, .int .i64 q] 3)).alloc (.cells #[.slice (some ⟨w.heap.size + 1, 0, none⟩) 2 2, .slice none 0 0] 59)).heap[w.heap.size + 1]? = some (.cells #[.int .i64 p, .int .i64 q] 3 (0, 0))) := block_alloc (alloc_at (by simp)) _
 have HZ0 : Hid ((((w.alloc (.cells #[.slice none 0 0, .slice none 0 0] 59)).alloc (.cells #[.int .i64 p, .int .i64 q] 3)).alloc (.cells #[.slice (some ⟨w.heap.size + 1, 0, none⟩) 2 2, .slice none 0 0] 59)).heap[w.heap.size + 2]? = some (.cells #[.slice (some ⟨w.heap.size + 1, 0, none⟩) 2 2, .slice none 0 0] 59 (0, 0))) := alloc_at (by simp)
 have Hb0 : Hid (Below w.heap.size w (((w.alloc (.cells #[.slice none 0 0, .slice none 0 0] 59)).alloc (.cells #[.int .i64 p, .int .i64 q] 3)).alloc (.cells #[.slice (some ⟨w.heap.size + 1, 0, none⟩) 2 2, .slice none 0 0] 59))) := (below_two w _ _).alloc (by simp; omega) _
 have hz0 : (((w.alloc (.cells #[.slice none 0 0, .slice none 0 0] 59)).alloc (.cells #[.int .i64 p, .int .i64 q] 3)).alloc (.cells #[.slice (some ⟨w.heap.size + 1, 0, none⟩) 2 2, .slice none 0 0] 59)).heap.size = w.heap.size + 3 := by simp
 generalize ((w.alloc (.cells #[.slice none 0 0, .slice none 0 0] 59)).alloc (.cells #[.int .i64 p, .int .i64 q] 3)).alloc (.cells #[.slice (some ⟨w.heap.size + 1, 0, none⟩) 2 2, .slice none 0 0] 59) = w0 at *
 have Hz0 := Lib.hid hz0
 clear hz0
 have hl1 : w.heap.size + 1 < w0.heap.size := by have := Hz0.out; omega
 have hl2 : w.heap.size + 2 < w0.heap.size := by have := Hz0.out; omega
 have HRd : Hid (∀ w', Below w0.heap.size w0 w' → Rd w' w'.heap.size 1 (some ⟨w.heap.size + 1, 0, none⟩) 2 (ivs [p, q])) := Lib.hid (fun w' hw' => Rd.of_own (row_block (B := 0) (block_below HR0.out hw' hl1) (Nat.zero_le _) rfl (by omega)))
 go_cut [8] (fun s8 wx => ∃ dg, s8 = .pointer (some ⟨dg, 0, none⟩) ∧ wx.heap[dg]? = some (.cells #[.int .u8 d.x0, .int .u8 d.x1, .int .u8 d.x2, .int .u8 d.x3, .int .u8 d.x4, .int .u8 d.x5, .int .u8 d.x6, .int .u8 d.x7] 27 (0, 0)) ∧ Below w0.heap.size w0 wx ∧ w0.heap.size ≤ dg)
 case first =>
  refine wp_region_held_drew (S := fun w' => Below w0.heap.size w0 w') (by kernel_rfl) (Below.refl _ _).drew (fun hHeld => ?_)
  have c0 : ∀ w', Below w0.heap.size w0 w' → w'.cell? ⟨w.heap.size + 2, 0, none⟩ = some (.slice (some ⟨w.heap.size + 1, 0, none⟩) 2 2) := fun w' hw' => by have := block_cell (block_below HZ0.out hw' hl2) 0; simpa using this
  refine takP 1 18 ?_ rfl (by kernel_rfl) (fun _ _ _ => id) ?hy (by assumption) ?_
  case hy => intro w' h; clear h; go_simp; try with_reducible rfl
  simp only [Act.put, sT]
  refine takP 2 19 ?_ rfl (by kernel_rfl) (fun _ _ _ => id) ?hy (by assumption) ?_
  case hy => intro w' h; have hx := c0 w' h; clear h; go_simp; try with_reducible rfl
  simp only [Act.put, sT]
  refine wpAnyH_ready (rs := [0, 5]) (by kernel_rfl) (by simp) ?_
  refine AllReadyH.cons rfl (fun K hK => ?_) (AllReadyH.cons rfl (fun K hK => ?_) AllReadyH.nil)
  all_goals
   rw [if_pos (by kernel_rfl)]
   try simp only [List.getElem_toArray]
   try simp only [List.getElem_cons_succ]
   try simp only [List.getElem_cons_zero]
  ·go_simp
   go_at_call 13
   refine (table_any w0.drew).mono ?_
   rintro e w1 ⟨rfl, hb1⟩
   have HB1 : Hid (Below w0.heap.size w0 w1) := Lib.hid ((Below.refl _ _).drew.trans hb1)
   clear hb1
   refine hK.out _ _ HB1.out (fun _ => ?_)
   clear hK K
   try simp only [Act.put, sT]
   refine takP 3 20 ?_ rfl (by kernel_rfl) (fun _ _ _ => id) ?hy (by assumption) ?_
   case hy => intro w' h; clear h; go_simp; try with_reducible rfl
   simp only [Act.put, sT]
   refine wpAnyH_ready (rs := [4, 5]) (by kernel_rfl) (by simp) ?_
   refine AllReadyH.cons rfl (fun K hK => ?_) (AllReadyH.cons rfl (fun K hK => ?_) AllReadyH.nil)
   all_goals
    rw [if_pos (by kernel_rfl)]
    try simp only [List.getElem_toArray]
    try simp only [List.getElem_cons_succ]
    try simp only [List.getElem_cons_zero]
   ·go_simp
    go_at_call 75
    refine (payd_d Hd.out (some ⟨w.heap.size + 1, 0, none⟩) 2 w1 HTo.out HP.out HQ.out (HRd.out _ HB1.out)).mono ?_
    rintro e w2 ⟨rfl, hb2⟩
    have HB2 := Lib.hid (HB1.out.trans (hb2.mono HB1.out.size))
    clear hb2
    refine hK.out _ _ HB2.out (fun _ => ?_)
    clear hK K
    try simp only [Act.put, sT]
    refine wpAnyH_ready (rs := [5]) (by kernel_rfl) (by simp) ?_
    refine AllReadyH.cons rfl (fun K hK => ?_) AllReadyH.nil
    rw [if_pos (by kernel_rfl)]
    try simp only [List.getElem_toArray]
    try simp only [List.getElem_cons_succ]
    try simp only [List.getElem_cons_zero]
    go_simp
    have HB3 := Lib.hid (HB2.out.alloc HB2.out.size (.cells #[.int .u8 0, .int .u8 0, .int .u8 0, .int .u8 0, .int .u8 0, .int .u8 0, .int .u8 0, .int .u8 0] 27))
    have HZ3 : Hid ((w2.alloc (.cells #[.int .u8 0, .int .u8 0, .int .u8 0, .int .u8 0, .int .u8 0, .int .u8 0, .int .u8 0, .int .u8 0] 27)).heap[w2.heap.size]? = some (.cells #[.int .u8 0, .int .u8 0, .int .u8 0, .int .u8 0, .int .u8 0, .int .u8 0, .int .u8 0, .int .u8 0] 27)) := heap_alloc_new _ _
    generalize w2.alloc (.cells #[.int .u8 0, .int .u8 0, .int .u8 0, .int .u8 0, .int .u8 0, .int .u8 0, .int .u8 0, .int .u8 0] 27) = w3 at *
    refine hK.out _ _ HB3.out (fun _ => ?_)
    clear hK K
    try simp only [Act.put, sT]
    refine wpAnyH_ready (rs := [6]) (by kernel_rfl) (by simp) ?_
    refine AllReadyH.cons rfl (fun K hK => ?_) AllReadyH.nil
    rw [if_pos (by kernel_rfl)]
    try simp only [List.getElem_toArray]
    try simp only [List.getElem_cons_succ]
    try simp only [List.getElem_cons_zero]
    refine wp_store_mid 27 _ _ (by rfl) (w2.heap.size) (0) #[.int .u8 d.x0, .int .u8 d.x1, .int .u8 d.x2, .int .u8 d.x3, .int .u8 d.x4, .int .u8 d.x5, .int .u8 d.x6, .int .u8 d.x7] (by rfl) (by rfl) (there_mid HZ3.out (by simp)) (by kernel_rfl) (by kernel_rfl) ?_
    obtain ⟨s1', s2'⟩ := set_all HZ3.out [.int .u8 d.x0, .int .u8 d.x1, .int .u8 d.x2, .int .u8 d.x3, .int .u8 d.x4, .int .u8 d.x5, .int .u8 d.x6, .int .u8 d.x7] rfl
    have HB9 := Lib.hid (HB3.out.grown s2' HB3.out.size (fun k hk => by cases hk; exact HB2.out.size))
    refine hK.out _ _ HB9.out (fun _ => ?_)
    clear hK K
    simp only [Act.put]
    refine wpAnyH_done (by kernel_rfl) ?_ _
    go_wp2_with fail
    go_meet
    exact ⟨w2.heap.size, rfl, s1', HB9.out, HB2.out.size⟩
   ·go_simp
    have HB2 := Lib.hid (HB1.out.alloc HB1.out.size (.cells #[.int .u8 0, .int .u8 0, .int .u8 0, .int .u8 0, .int .u8 0, .int .u8 0, .int .u8 0, .int .u8 0] 27))
    have HZ2 : Hid ((w1.alloc (.cells #[.int .u8 0, .int .u8 0, .int .u8 0, .int .u8 0, .int .u8 0, .int .u8 0, .int .u8 0, .int .u8 0] 27)).heap[w1.heap.size]? = some (.cells #[.int .u8 0, .int .u8 0, .int .u8 0, .int .u8 0, .int .u8 0, .int .u8 0, .int .u8 0, .int .u8 0] 27)) := heap_alloc_new _ _
    have hz2 : w1.heap.size < (w1.alloc (.cells #[.int .u8 0, .int .u8 0, .int .u8 0, .int .u8 0, .int .u8 0, .int .u8 0, .int .u8 0, .int .u8 0] 27)).heap.size := by simp
    generalize w1.alloc (.cells #[.int .u8 0, .int .u8 0, .int .u8 0, .int .u8 0, .int .u8 0, .int .u8 0, .int .u8 0, .int .u8 0] 27) = w2 at *
    refine hK.out _ _ HB2.out (fun _ => ?_)
    clear hK K
    try simp only [Act.put, sT]
    refine wpAnyH_ready (rs := [4]) (by kernel_rfl) (by simp) ?_
    refine AllReadyH.cons rfl (fun K hK => ?_) AllReadyH.nil
    rw [if_pos (by kernel_rfl)]
    try simp only [List.getElem_toArray]
    try simp only [List.getElem_cons_succ]
    try simp only [List.getElem_cons_zero]
    go_simp
    go_at_call 75
    refine (payd_d Hd.out (some ⟨w.heap.size + 1, 0, none⟩) 2 w2 HTo.out HP.out HQ.out (HRd.out _ HB2.out)).mono ?_
    rintro e w3 ⟨rfl, hb3⟩
    have HB3 := Lib.hid (HB2.out.trans (hb3.mono HB2.out.size))
    have HZ3 := Lib.hid (block_below HZ2.out hb3 hz2)
    clear hb3
    refine hK.out _ _ HB3.out (fun _ => ?_)
    clear hK K
    try simp only [Act.put, sT]
    refine wpAnyH_ready (rs := [6]) (by kernel_rfl) (by simp) ?_
    refine AllReadyH.cons rfl (fun K hK => ?_) AllReadyH.nil
    rw [if_pos (by kernel_rfl)]
    try simp only [List.getElem_toArray]
    try simp only [List.getElem_cons_succ]
    try simp only [List.getElem_cons_zero]
    refine wp_store_mid 27 _ _ (by rfl) (w1.heap.size) (0) #[.int .u8 d.x0, .int .u8 d.x1, .int .u8 d.x2, .int .u8 d.x3, .int .u8 d.x4, .int .u8 d.x5, .int .u8 d.x6, .int .u8 d.x7] (by rfl) (by rfl) (there_mid HZ3.out (by simp)) (by kernel_rfl) (by kernel_rfl) ?_
    obtain ⟨s1', s2'⟩ := set_all HZ3.out [.int .u8 d.x0, .int .u8 d.x1, .int .u8 d.x2, .int .u8 d.x3, .int .u8 d.x4, .int .u8 d.x5, .int .u8 d.x6, .int .u8 d.x7] rfl
    have HB9 := Lib.hid (HB3.out.grown s2' HB3.out.size (fun k hk => by cases hk; exact HB1.out.size))
    refine hK.out _ _ HB9.out (fun _ => ?_)
    clear hK K
    simp only [Act.put]
    refine wpAnyH_done (by kernel_rfl) ?_ _
    go_wp2_with fail
    go_meet
    exact ⟨w1.heap.size, rfl, s1', HB9.out, HB1.out.size⟩
  ·go_simp
   have HB1 : Hid (Below w0.heap.size w0 ((w0.alloc (.cells #[.int .u8 0, .int .u8 0, .int .u8 0, .int .u8 0, .int .u8 0, .int .u8 0, .int .u8 0, .int .u8 0] 27)).drew)) := Lib.hid (((Below.refl _ _).alloc (Nat.le_refl _) _).drew)
   have HZ1 : Hid (((w0.alloc (.cells #[.int .u8 0, .int .u8 0, .int .u8 0, .int .u8 0, .int .u8 0, .int .u8 0, .int .u8 0, .int .u8 0] 27)).drew).heap[w0.heap.size]? = some (.cells #[.int .u8 0, .int .u8 0, .int .u8 0, .int .u8 0, .int .u8 0, .int .u8 0, .int .u8 0, .int .u8 0] 27)) := Lib.hid (heap_alloc_new w0 _)
   have hz1 : w0.heap.size < ((w0.alloc (.cells #[.int .u8 0, .int .u8 0, .int .u8 0, .int .u8 0, .int .u8 0, .int .u8 0, .int .u8 0, .int .u8 0] 27)).drew).heap.size := by simp
   generalize (w0.alloc (.cells #[.int .u8 0, .int .u8 0, .int .u8 0, .int .u8 0, .int .u8 0, .int .u8 0, .int .u8 0, .int .u8 0] 27)).drew = w1 at *
   refine hK.out _ _ HB1.out (fun _ => ?_)
   clear hK K
   try simp only [Act.put, sT]
   refine wpAnyH_ready (rs := [0]) (by kernel_rfl) (by simp) ?_
   refine AllReadyH.cons rfl (fun K hK => ?_) AllReadyH.nil
   rw [if_pos (by kernel_rfl)]
   try simp only [List.getElem_toArray]
   try simp only [List.getElem_cons_succ]
   try simp only [List.getElem_cons_zero]
   go_simp
   go_at_call 13
   refine (table_any w1).mono ?_
   rintro e w2 ⟨rfl, hb2⟩
   have HB2 := Lib.hid (HB1.out.trans (hb2.mono HB1.out.size))
   have HZ2 := Lib.hid (block_below HZ1.out hb2 hz1)
   have hz2 := block_lt HZ2.out
   clear hb2
   refine hK.out _ _ HB2.out (fun _ => ?_)
   clear hK K
   try simp only [Act.put, sT]
   refine takP 3 20 ?_ rfl (by kernel_rfl) (fun _ _ _ => id) ?hy (by assumption) ?_
   case hy => intro w' h; clear h; go_simp; try with_reducible rfl
   simp only [Act.put, sT]
   refine wpAnyH_ready (rs := [4]) (by kernel_rfl) (by simp) ?_
   refine AllReadyH.cons rfl (fun K hK => ?_) AllReadyH.nil
   rw [if_pos (by kernel_rfl)]
   try simp only [List.getElem_toArray]
   try simp only [List.getElem_cons_succ]
   try simp only [List.getElem_cons_zero]
   go_simp
   go_at_call 75
   refine (payd_d Hd.out (some ⟨w.heap.size + 1, 0, none⟩) 2 w2 HTo.out HP.out HQ.out (HRd.out _ HB2.out)).mono ?_
   rintro e w3 ⟨rfl, hb3⟩
   have HB3 := Lib.hid (HB2.out.trans (hb3.mono HB2.out.size))
   have HZ3 := Lib.hid (block_below HZ2.out hb3 hz2)
   clear hb3
   refine hK.out _ _ HB3.out (fun _ => ?_)
   clear hK K
   try simp only [Act.put, sT]
   refine wpAnyH_ready (rs := [6]) (by kernel_rfl) (by simp) ?_
   refine AllReadyH.cons rfl (fun K hK => ?_) AllReadyH.nil
   rw [if_pos (by kernel_rfl)]
   try simp only [List.getElem_toArray]
   try simp only [List.getElem_cons_succ]
   try simp only [List.getElem_cons_zero]
   refine wp_store_mid 27 _ _ (by rfl) (w0.heap.size) (0) #[.int .u8 d.x0, .int .u8 d.x1, .int .u8 d.x2, .int .u8 d.x3, .int .u8 d.x4, .int .u8 d.x5, .int .u8 d.x6, .int .u8 d.x7] (by rfl) (by rfl) (there_mid HZ3.out (by simp)) (by kernel_rfl) (by kernel_rfl) ?_
   obtain ⟨s1', s2'⟩ := set_all HZ3.out [.int .u8 d.x0, .int .u8 d.x1, .int .u8 d.x2, .int .u8 d.x3, .int .u8 d.x4, .int .u8 d.x5, .int .u8 d.x6, .int .u8 d.x7] rfl
   have HB9 := Lib.hid (HB3.out.grown s2' HB3.out.size (fun k hk => by cases hk; exact Nat.le_refl _))
   refine hK.out _ _ HB9.out (fun _ => ?_)
   clear hK K
   simp only [Act.put]
   refine wpAnyH_done (by kernel_rfl) ?_ _
   go_wp2_with fail
   go_meet
   exact ⟨w0.heap.size, rfl, s1', HB9.out, Nat.le_refl _⟩
 case rest =>
  obtain ⟨dg, rfl, hdg, hbc, hge⟩ := hcut
  have HD := Lib.hid hdg; have HBc := Lib.hid hbc
  have HX1 := Lib.hid (block_below HX0.out hbc (by have := Hz0.out; omega)); have HR1 := Lib.hid (block_below HR0.out hbc hl1); have HZ1 := Lib.hid (block_below HZ0.out hbc hl2)
  have Hb1 := Lib.hid (Hb0.out.trans (hbc.mono Hb0.out.size))
  have H1 := Lib.hid (H.out.below Hb1.out)
  clear hdg hbc
  go_upto_region 4 with (go_at_call 20; refine (last_any H1.out).mono ?_; rintro e w1 ⟨rfl, rfl⟩)
  have HI2 : Hid ((wc.alloc (.cells #[.int .i64 0, .int .i64 ((nk : Int) - 1)] 3)).heap[wc.heap.size]? = some (.cells #[.int .i64 0, .int .i64 ((nk : Int) - 1)] 3 (0, 0))) := heap_alloc_new _ _
  have HX2 := Lib.hid (block_alloc HX1.out (.cells #[.int .i64 0, .int .i64 ((nk : Int) - 1)] 3)); have HR2 := Lib.hid (block_alloc HR1.out (.cells #[.int .i64 0, .int .i64 ((nk : Int) - 1)] 3)); have HZ2 := Lib.hid (block_alloc HZ1.out (.cells #[.int .i64 0, .int .i64 ((nk : Int) - 1)] 3)); have HD2 := Lib.hid (block_alloc HD.out (.cells #[.int .i64 0, .int .i64 ((nk : Int) - 1)] 3))
  have Hb2 := Lib.hid (Hb1.out.alloc Hb1.out.size (.cells #[.int .i64 0, .int .i64 ((nk : Int) - 1)] 3))
  have H2 := Lib.hid (H1.out.below (below_one wc (.cells #[.int .i64 0, .int .i64 ((nk : Int) - 1)] 3)))
  have hz2 : (wc.alloc (.cells #[.int .i64 0, .int .i64 ((nk : Int) - 1)] 3)).heap.size = wc.heap.size + 1 := by simp
  generalize wc.alloc (.cells #[.int .i64 0, .int .i64 ((nk : Int) - 1)] 3) = w2 at *
  have Hz2 := Lib.hid hz2
  clear hz2
  obtain ⟨i0, hi, hz0, hz1, hz2⟩ := info_parts info_bytes
  have HI := Lib.hid (And.intro hi (And.intro hz0 (And.intro hz1 hz2))); clear hi hz0 hz1 hz2
  have hbk : bk < w.heap.size := Nat.lt_of_lt_of_le H.out.book.lb H.out.book.hB
  have hmb : mb < w.heap.size := H.out.book.places.lt
  go_loopw [26] (fun i wr => ∃ (k : Nat) (A' : Option Addr) (c' : Nat), k ≤ 2 ∧ i = .int .i64 k ∧ Hid (wr.heap[w.heap.size + 2]? = some (.cells #[.slice (some ⟨w.heap.size + 1, 0, none⟩) 2 2, .slice A' k c'] 59 (0, 0))) ∧ Hid (SigG wr w.heap.size (.slice A' k c') k (outS L d nk k).2) ∧ Hid (BookAt wr Bb bk mb (outS L d nk k).1) ∧ Hid (Kept w wr bk mb) ∧ Hid (wr.heap[w.heap.size]? = some (.cells #[.slice none 0 0, .slice none 0 0] 59 (0, 0))) ∧ Hid (wr.heap[w.heap.size + 1]? = some (.cells #[.int .i64 p, .int .i64 q] 3 (0, 0))) ∧ Hid (wr.heap[dg]? = some (.cells #[.int .u8 d.x0, .int .u8 d.x1, .int .u8 d.x2, .int .u8 d.x3, .int .u8 d.x4, .int .u8 d.x5, .int .u8 d.x6, .int .u8 d.x7] 27 (0, 0))) ∧ Hid (wr.heap[wc.heap.size]? = some (.cells #[.int .i64 0, .int .i64 ((nk : Int) - 1)] 3 (0, 0)))) (fun i _ => 2 - (RowKit.intOf i).toNat)
  case atStart => exact ⟨0, none, 0, by omega, rfl, HZ2, Lib.hid (SigG.nil _ _), Lib.hid H2.out.book, Lib.hid (.of_below Hb2.out hbk hmb), HX2, HR2, HD2, HI2⟩
  case round =>
   obtain ⟨k, A', c', hk, rfl, HZ, HS, HBk, HC, HX, HR, HDg, HIx⟩ := hrel
   have HL := Lib.hid (H.out.kept HC.out HBk.out)
   have hcs := HC.out.size
   by_cases hlt : k < 2
   ·have hd1 : decide ((k : Int) < 2) = true := decide_eq_true (by omega)
    have hki : (k : Int) < 2 := by omega
    have hci : wr.cell? ⟨wc.heap.size, k, none⟩ = some (.int .i64 ((ptI nk k : Nat) : Int)) := by
     rw [block_cell HIx.out]
     rcases (show k = 0 ∨ k = 1 by omega) with rfl | rfl
     ·rfl
     ·show some (Value.int .i64 ((nk : Int) - 1)) = _
      unfold ptI; rw [if_neg (by decide)]; congr 2; omega
    have hpt : ptI nk k ≤ 200 := by unfold ptI; split <;> omega
    have hko : (keyD (ptI nk k)).ok := byD_ok (by omega)
    have HPt : Hid (outS L d nk (k + 1) = ((signE (outS L d nk k).1 ⟨keyD (ptI nk k), d⟩).1, (outS L d nk k).2 ++ [sigL (signE (outS L d nk k).1 ⟨keyD (ptI nk k), d⟩).2])) := Lib.hid rfl
    have HLe := Lib.hid (outS_len L d nk k)
    generalize ptI nk k = pt at *
    have HKo := Lib.hid hko
    clear hko
    have hwl := block_lt HL.out.box
    go_upto_region 6 with fail
    have HBx : Hid (∀ w', Below wr.heap.size wr w' → w'.heap[wob]? = some (.cells #[.pointer (some ⟨wb, 0, none⟩), .int .u8 y.pl.tb.x0, .int .u8 y.pl.tb.x1, .int .u8 y.pl.tb.x2, .int .u8 y.pl.tb.x3, .int .u8 y.pl.tb.x4, .int .u8 y.pl.tb.x5, .int .u8 y.pl.tb.x6, .int .u8 y.pl.tb.x7, .slice Ak nk ck, .int .i64 y.pl.s0, .int .i64 y.pl.s1, .slice An nn cn, .slice Af nf cf, .pointer (some ⟨bk, 0, none⟩), .int .i64 10, vp] 54 (0, 0)) ∧ w'.heap[dg]? = some (.cells #[.int .u8 d.x0, .int .u8 d.x1, .int .u8 d.x2, .int .u8 d.x3, .int .u8 d.x4, .int .u8 d.x5, .int .u8 d.x6, .int .u8 d.x7] 27 (0, 0))) := Lib.hid fun w' hw' => ⟨block_below HL.out.box hw' hwl, block_below HDg.out hw' (block_lt HDg.out)⟩
    refine wp_region_held_drew (S := fun w' => w'.heap[wob]? = some (.cells #[.pointer (some ⟨wb, 0, none⟩), .int .u8 y.pl.tb.x0, .int .u8 y.pl.tb.x1, .int .u8 y.pl.tb.x2, .int .u8 y.pl.tb.x3, .int .u8 y.pl.tb.x4, .int .u8 y.pl.tb.x5, .int .u8 y.pl.tb.x6, .int .u8 y.pl.tb.x7, .slice Ak nk ck, .int .i64 y.pl.s0, .int .i64 y.pl.s1, .slice An nn cn, .slice Af nf cf, .pointer (some ⟨bk, 0, none⟩), .int .i64 10, vp] 54 (0, 0)) ∧ w'.heap[dg]? = some (.cells #[.int .u8 d.x0, .int .u8 d.x1, .int .u8 d.x2, .int .u8 d.x3, .int .u8 d.x4, .int .u8 d.x5, .int .u8 d.x6, .int .u8 d.x7] 27 (0, 0))) (by kernel_rfl) (HBx.out _ (Below.refl _ _).drew) (fun hHeld => ?_)
    have q1 : ∀ w' : World, w'.heap[wob]? = some (.cells #[.pointer (some ⟨wb, 0, none⟩), .int .u8 y.pl.tb.x0, .int .u8 y.pl.tb.x1, .int .u8 y.pl.tb.x2, .int .u8 y.pl.tb.x3, .int .u8 y.pl.tb.x4, .int .u8 y.pl.tb.x5, .int .u8 y.pl.tb.x6, .int .u8 y.pl.tb.x7, .slice Ak nk ck, .int .i64 y.pl.s0, .int .i64 y.pl.s1, .slice An nn cn, .slice Af nf cf, .pointer (some ⟨bk, 0, none⟩), .int .i64 10, vp] 54 (0, 0)) ∧ w'.heap[dg]? = some (.cells #[.int .u8 d.x0, .int .u8 d.x1, .int .u8 d.x2, .int .u8 d.x3, .int .u8 d.x4, .int .u8 d.x5, .int .u8 d.x6, .int .u8 d.x7] 27 (0, 0)) → w'.cell? ⟨wob, 14, none⟩ = some (.pointer (some ⟨bk, 0, none⟩)) := fun w' hw' => by have := block_cell hw'.1 14; simpa using this
    refine takP 0 31 ?_ rfl (by kernel_rfl) (fun _ _ _ => id) ?hy (by assumption) ?_
    case hy => intro w' h; clear h; go_simp; try with_reducible rfl
    simp only [Act.put, sT]
    refine takP 1 32 ?_ rfl (by kernel_rfl) (fun _ _ _ => id) ?hy (by assumption) ?_
    case hy => intro w' h; clear h; go_simp; try with_reducible rfl
    simp only [Act.put, sT]
    refine takP 2 33 ?_ rfl (by kernel_rfl) (fun _ _ _ => id) ?hy (by assumption) ?_
    case hy => intro w' h; clear h; go_simp; try with_reducible rfl
    simp only [Act.put, sT]
    refine takP 3 34 ?_ rfl (by kernel_rfl) (fun _ _ _ => id) ?hy (by assumption) ?_
    case hy => intro w' h; have hx := q1 w' h; clear h; go_simp; try with_reducible rfl
    simp only [Act.put, sT]
    refine takP 4 35 ?_ rfl (by kernel_rfl) (fun _ _ _ => id) ?hy (by assumption) ?_
    case hy => intro w' h; clear h; go_simp; try with_reducible rfl
    simp only [Act.put, sT]
    refine takeK 7 (some 38) (v := .agg ([.int .u8 d.x0, .int .u8 d.x1, .int .u8 d.x2, .int .u8 d.x3, .int .u8 d.x4, .int .u8 d.x5, .int .u8 d.x6, .int .u8 d.x7] : List Value).toArray) rfl (by kernel_rfl) (by kernel_rfl) (fun _ _ _ => id) (yieldsIf_load_mid (by kernel_rfl) 27 _ (by rfl) (dg) (0) (by rfl) [.int .u8 d.x0, .int .u8 d.x1, .int .u8 d.x2, .int .u8 d.x3, .int .u8 d.x4, .int .u8 d.x5, .int .u8 d.x6, .int .u8 d.x7] _ (fun w' hw' => range_all hw'.2) Tryz.underlying27 rfl (by kernel_rfl)) (by assumption) ?_
    simp only [Act.put, sT]
    refine wpAnyH_ready (rs := [5]) (by kernel_rfl) (by simp) ?_
    refine AllReadyH.cons rfl (fun K hK => ?_) AllReadyH.nil
    rw [if_pos (by kernel_rfl)]
    try simp only [List.getElem_toArray]
    try simp only [List.getElem_cons_succ]
    try simp only [List.getElem_cons_zero]
    go_simp
    go_at_call 11
    refine (key_any pt hpt wr.drew).mono ?_
    rintro e w3 ⟨rfl, hb3⟩
    have HB3 := Lib.hid ((Below.refl wr.heap.size wr).drew.trans hb3)
    clear hb3
    generalize hkd : keyD pt = kd at *
    have HKd := Lib.hid hkd
    clear hkd
    refine hK.out _ _ (HBx.out _ HB3.out) (fun _ => ?_)
    clear hK K
    try simp only [Act.put, sT]
    refine wpAnyH_ready (rs := [6]) (by kernel_rfl) (by simp) ?_
    refine AllReadyH.cons rfl (fun K hK => ?_) AllReadyH.nil
    rw [if_pos (by kernel_rfl)]
    try simp only [List.getElem_toArray]
    try simp only [List.getElem_cons_succ]
    try simp only [List.getElem_cons_zero]
    go_simp
    go_at_call 74
    refine (signer_any kd bk w3).mono ?_
    rintro e w4 ⟨rfl, hb4⟩
    have HB4 := Lib.hid (HB3.out.trans (hb4.mono HB3.out.size))
    clear hb4
    refine hK.out _ _ (HBx.out _ HB4.out) (fun _ => ?_)
    clear hK K
    try simp only [Act.put, sT]
    have hna : ∀ w : World, (nilAhead 347 186 (.agg #[.pointer (some ⟨bk, 0, none⟩), .int .u8 kd.x0, .int .u8 kd.x1, .int .u8 kd.x2, .int .u8 kd.x3, .int .u8 kd.x4, .int .u8 kd.x5, .int .u8 kd.x6, .int .u8 kd.x7]) "Sign").run Tryz.prog w = .ok (some false) w := fun _ => by kernel_rfl
    have hme : ∀ w : World, (method 347 186 (.agg #[.pointer (some ⟨bk, 0, none⟩), .int .u8 kd.x0, .int .u8 kd.x1, .int .u8 kd.x2, .int .u8 kd.x3, .int .u8 kd.x4, .int .u8 kd.x5, .int .u8 kd.x6, .int .u8 kd.x7]) "Sign").run Tryz.prog w = .ok (201, .agg #[.pointer (some ⟨bk, 0, none⟩), .int .u8 kd.x0, .int .u8 kd.x1, .int .u8 kd.x2, .int .u8 kd.x3, .int .u8 kd.x4, .int .u8 kd.x5, .int .u8 kd.x6, .int .u8 kd.x7]) w := fun _ => by kernel_rfl
    refine wpAnyH_ready (rs := [8]) (by kernel_rfl) (by simp) ?_
    refine AllReadyH.cons rfl (fun K hK => ?_) AllReadyH.nil
    rw [if_pos (by kernel_rfl)]
    try simp only [List.getElem_toArray]
    try simp only [List.getElem_cons_succ]
    try simp only [List.getElem_cons_zero]
    go_simp
    go_at_call 201
    refine (wsign_any Bb bk mb (outS L d nk k).1 kd d w4 (HL.out.book.below HB4.out) HKo.out HDo.out (by have := HLe.out.1; omega)).mono ?_
    rintro e w5 ⟨g, rfl, hg, hsig, hbook, hkept⟩
    generalize hse : signE (outS L d nk k).1 ⟨kd, d⟩ = se at *
    have HSe := Lib.hid hse
    have h5 := (HL.out.below HB4.out).kept hkept hbook
    have H5 := Lib.hid h5; have HSig := Lib.hid hsig; have HKe := Lib.hid hkept
    have HT5 : Hid (∀ (k : Nat) (cs : Array Value) (t : TypeId) (fz : Nat × Nat), wr.heap[k]? = some (.cells cs t fz) → t ≠ 243 → t ≠ 181 → w5.heap[k]? = some (.cells cs t fz)) := Lib.hid (fun k cs t fz e h1 h2 => hkept.typed k cs t fz (block_below e HB4.out (block_lt e)) h1 (HL.out.ne_bk e h2))
    have HBx5 : Hid (w5.heap[wob]? = some (.cells #[.pointer (some ⟨wb, 0, none⟩), .int .u8 y.pl.tb.x0, .int .u8 y.pl.tb.x1, .int .u8 y.pl.tb.x2, .int .u8 y.pl.tb.x3, .int .u8 y.pl.tb.x4, .int .u8 y.pl.tb.x5, .int .u8 y.pl.tb.x6, .int .u8 y.pl.tb.x7, .slice Ak nk ck, .int .i64 y.pl.s0, .int .i64 y.pl.s1, .slice An nn cn, .slice Af nf cf, .pointer (some ⟨bk, 0, none⟩), .int .i64 10, vp] 54 (0, 0)) ∧ w5.heap[dg]? = some (.cells #[.int .u8 d.x0, .int .u8 d.x1, .int .u8 d.x2, .int .u8 d.x3, .int .u8 d.x4, .int .u8 d.x5, .int .u8 d.x6, .int .u8 d.x7] 27 (0, 0))) := Lib.hid ⟨h5.box, HT5.out _ _ _ _ HDg.out (by decide) (by decide)⟩
    have HC5 : Hid (Kept w w5 bk mb) := Lib.hid (HC.out.trans ((Kept.of_below HB4.out (by omega) (by omega)).trans hkept))
    have HBk5 := Lib.hid hbook
    have hgw : w.heap.size ≤ g := by have := HB4.out.size; omega
    clear hse hsig hbook hkept h5 hna hme
    refine hK.out _ _ HBx5.out (fun _ => ?_)
    clear hK K
    try simp only [Act.put, sT]
    refine takP 9 30 ?_ rfl (by kernel_rfl) (fun _ _ _ => id) ?hy (by assumption) ?_
    case hy => intro w' h; clear h; go_simp; try with_reducible rfl
    simp only [Act.put, sT]
    refine takP 10 40 ?_ rfl (by kernel_rfl) (fun _ _ _ => id) ?hy (by assumption) ?_
    case hy => intro w' h; clear h; go_simp; try with_reducible rfl
    simp only [Act.put, sT]
    refine takP 11 41 ?_ rfl (by kernel_rfl) (fun _ _ _ => id) ?hy (by assumption) ?_
    case hy => intro w' h; clear h; go_simp; try with_reducible rfl
    simp only [Act.put, sT]
    refine takP 12 11 ?_ rfl (by kernel_rfl) (fun _ _ _ => id) ?hy (by assumption) ?_
    case hy => intro w' h; clear h; go_simp; try with_reducible rfl
    simp only [Act.put, sT]
    refine takP 13 12 ?_ rfl (by kernel_rfl) (fun _ _ _ => id) ?hy (by assumption) ?_
    case hy => intro w' h; clear h; go_simp; try with_reducible rfl
    simp only [Act.put, sT]
    refine wpAnyH_done (by kernel_rfl) ?_ _
    clear q1 hHeld
    obtain ⟨gs, knd, kgl, k1, k2, k3⟩ := HS.out
    have hgg : ∀ x ∈ gs, x < g := fun x hx => by
     obtain ⟨j, hj, rfl⟩ := List.getElem_of_mem hx
     have h6 := ((k3 j (by omega)).2.lt (gs.getD j 0) rfl).2
     rw [List.getD_eq_getElem?_getD, List.getElem?_eq_getElem hj] at h6
     have := HB4.out.size
     simp at h6; omega
    have HZ5 := Lib.hid (HT5.out _ _ _ _ HZ.out (by decide) (by decide))
    have ho5 : w5.ownsRow w.heap.size 46 1 (.slice A' k c') k (gs.map fun g => Value.slice (some ⟨g, 0, none⟩) 2 2) := by
     refine ⟨k1.1, ?_⟩
     rcases k1.2 with h | ⟨gg, cap, cur, e1, e2, e3, e4⟩
     ·exact .inl h
     ·exact .inr ⟨gg, cap, cur, e1, e2, HT5.out _ _ _ _ e3 (by decide) (by decide), e4⟩
    have hu5 : ∀ j, j < k → w.heap.size ≤ gs.getD j 0 ∧ w5.ownsRow w.heap.size 5 1 (.slice (some ⟨gs.getD j 0, 0, none⟩) 2 2) 2 (bv ((outS L d nk k).2.getD j [])) := fun j hj => by
     obtain ⟨e1, e2⟩ := k3 j hj
     refine ⟨e1, e2.1, ?_⟩
     rcases e2.2 with h | ⟨gg, cap, cur, f1, f2, f3, f4⟩
     ·exact .inl h
     ·exact .inr ⟨gg, cap, cur, f1, f2, HT5.out _ _ _ _ f3 (by decide) (by decide), f4⟩
    have HO5 := Lib.hid ho5; have HU5 := Lib.hid hu5; have HK2 := Lib.hid k2; have HGG := Lib.hid hgg; have HND := Lib.hid knd; have HGL := Lib.hid kgl
    clear k1 k2 k3 ho5 hu5 hgg knd kgl
    have hws : w.heap.size ≤ w5.heap.size := HC5.out.size
    have z1 := block_cell HZ5.out 1
    simp at z1
    have zf := block_free HZ5.out
    go_upto_region 8 with (at_builtin; go_must (refine append_at w5 (by rfl) _ _ 57 (by rfl) w.heap.size 46 i0 (.slice none 0 0) 1 24 Tryz.underlying57 HI.out rfl (by decide) _ _ _ (by rfl) HO5.out 1 1 #[.slice (some ⟨g, 0, none⟩) 2 2] 46 (by simp [Act.eval]) rfl (by simp [Value.oneCell']) (by omega) (by omega) hws ?_; intro v7 w7 own7 bel7 gr7 at7; obtain ⟨A7, c7, rfl⟩ := own_form own7; have O7 := Lib.hid own7; have G7 := Lib.hid gr7; have HZ7 := Lib.hid (block_grown (block_alloc HZ5.out (.cells #[.slice (some ⟨g, 0, none⟩) 2 2] 46)) gr7 (own_ne HO5.out HZ5.out (by decide))); have B7 := Lib.hid bel7; clear own7 bel7 gr7 at7 z1 zf; have z1 := block_cell HZ7.out 1; have zf := block_free HZ7.out; simp at z1))
    have h8 := Joins.block_setCell (i := 1) HZ7.out (.slice A7 (k + 1) c7)
    have g8 := pgrown_set (w := w7) (w.heap.size + 2) 1 (.slice A7 (k + 1) c7)
    simp at h8
    have HZ8 := Lib.hid h8
    have HK8 : Hid (∀ (j : Nat) (o : Obj), w5.heap[j]? = some o → (∀ cs fz, o ≠ .cells cs 46 fz) → (∀ cs fz, o ≠ .cells cs 59 fz) → (w7.setCell ⟨w.heap.size + 2, 1, none⟩ (.slice A7 (k + 1) c7)).heap[j]? = some o) := Lib.hid fun j o h h1 h2 => one_typed g8 HZ7.out (row_typed (HO5.out.alloc (.cells #[.slice (some ⟨g, 0, none⟩) 2 2] 46)) G7.out (block_alloc h _) h1) h2
    have HO8 := Lib.hid (O7.out.kept g8 (.inr fun e => own_ne O7.out HZ7.out (by decide) e.symm))
    have HX8 := Lib.hid (block_grown (block_grown (block_alloc (HT5.out _ _ _ _ HX.out (by decide) (by decide)) (.cells #[.slice (some ⟨g, 0, none⟩) 2 2] 46)) G7.out (own_ne HO5.out (HT5.out _ _ _ _ HX.out (by decide) (by decide)) (by decide))) g8 (by intro e; injection e with e; omega))
    have HB8 : Hid (Below w.heap.size w5 (w7.setCell ⟨w.heap.size + 2, 1, none⟩ (.slice A7 (k + 1) c7))) := Lib.hid (B7.out.grown g8 (by have := B7.out.size; omega) (fun j hj => by cases hj; omega))
    generalize w7.setCell ⟨w.heap.size + 2, 1, none⟩ (.slice A7 (k + 1) c7) = w8 at *
    clear h8 g8
    have HU8 : Hid (∀ (b2 sz2 n2 : Nat) (e2 : TypeId) (v2 : Value) (x2 : List Value), w5.ownsRow b2 e2 sz2 v2 n2 x2 → e2 ≠ 46 → e2 ≠ 59 → w8.ownsRow b2 e2 sz2 v2 n2 x2) := Lib.hid fun b2 sz2 n2 e2 v2 x2 hq h1 h2 => own_keepV hq fun gg hgg => by
     obtain ⟨_, cs, e⟩ := own_block hq hgg
     rw [e]
     exact HK8.out _ _ e (fun cs fz x => by injection x with _ x; exact h1 x) (fun cs fz x => by injection x with _ x; exact h2 x)
    have HS8 : Hid (SigG w8 w.heap.size (.slice A7 (k + 1) c7) (k + 1) (outS L d nk (k + 1)).2) := Lib.hid (by
     rw [HPt.out]
     exact SigG.snoc HND.out HGL.out HGG.out hgw HO8.out HK2.out (fun j hj => ⟨(HU5.out j hj).1, HU8.out _ _ _ _ _ _ (HU5.out j hj).2 (by decide) (by decide)⟩) (HU8.out _ _ _ _ _ _ (row_block HSig.out hgw rfl (by omega)) (by decide) (by decide)))
    have HBk8 : Hid (BookAt w8 Bb bk mb (outS L d nk (k + 1)).1) := Lib.hid (by
     rw [HPt.out]
     obtain ⟨es, cl, hm, _⟩ := HBk5.out.places
     exact HBk5.out.typed HB8.out.size (fun j cs t fz e ht => by
      rw [e]
      refine HK8.out _ _ e (fun cs' fz' x => ?_) (fun cs' fz' x => ?_) <;> injection x with _ x <;> subst x <;> revert ht <;> decide) (by rw [hm]; exact HK8.out _ _ hm (fun _ _ x => by cases x) (fun _ _ x => by cases x)))
    have HC8 := Lib.hid (HC5.out.low_transV HB8.out hbk)
    go_wp2
    go_roundw
    case rel => exact ⟨k + 1, A7, c7, hlt, by go_num, HZ8, HS8, HBk8, HC8, HX8, Lib.hid (HK8.out _ _ (HT5.out _ _ _ _ HR.out (by decide) (by decide)) (fun _ _ x => by injection x with _ x; revert x; decide) (fun _ _ x => by injection x with _ x; revert x; decide)), Lib.hid (HK8.out _ _ HBx5.out.2 (fun _ _ x => by injection x with _ x; revert x; decide) (fun _ _ x => by injection x with _ x; revert x; decide)), Lib.hid (HK8.out _ _ (HT5.out _ _ _ _ HIx.out (by decide) (by decide)) (fun _ _ x => by injection x with _ x; revert x; decide) (fun _ _ x => by injection x with _ x; revert x; decide))⟩
    case measure => simp [RowKit.intOf]; omega
   ·have hk2 : k = 2 := by omega
    subst hk2
    have hd1 : decide (((2 : Nat) : Int) < 2) = false := by decide
    go_upto_region 9 with fail
    refine wp_region_list ?_
    refine wpList_load_mid (by rfl) 59 _ (by rfl) (w.heap.size + 2) 0 (by rfl) [.slice (some ⟨w.heap.size + 1, 0, none⟩) 2 2, .slice A' 2 c'] _ (range_all HZ.out) Tryz.underlying59 rfl (by kernel_rfl) ?_
    simp only [Act.put, sT]
    refine wpList_store_mid (by rfl) 59 _ _ (by rfl) (w.heap.size) 0 #[.slice (some ⟨w.heap.size + 1, 0, none⟩) 2 2, .slice A' 2 c'] (by rfl) (by rfl) (there_mid HX.out (by simp)) (by kernel_rfl) (by kernel_rfl) ?_
    obtain ⟨s1', s2'⟩ := set_all HX.out [.slice (some ⟨w.heap.size + 1, 0, none⟩) 2 2, .slice A' 2 c'] rfl
    have HS1 := Lib.hid s1'; have HS2 := Lib.hid s2'
    clear s1' s2'
    dsimp only
    generalize World.setCells _ _ _ [.slice (some ⟨w.heap.size + 1, 0, none⟩) 2 2, .slice A' 2 c'] = w9 at *
    go_wp2
    refine bodyPost_ret (results_cell 6 59 w.heap.size #[.slice (some ⟨w.heap.size + 1, 0, none⟩) 2 2, .slice A' 2 c'] _ _ _ rfl rfl HS1.out Tryz.underlying59 rfl (by kernel_rfl)) rfl ?_
    have hR9 := block_grown HR.out HS2.out (by intro e; injection e with e; omega)
    have hK9 := HC.out.low_transV ((Below.refl _ _).grown HS2.out hcs (fun j hj => by cases hj; exact Nat.le_refl _)) hbk
    have hB9 : BookAt w9 Bb bk mb (outS L d nk 2).1 := by
     obtain ⟨es, cl, hm, _⟩ := HBk.out.places
     refine HBk.out.typed HS2.out.size (fun j cs t fz e ht => ?_) (by rw [hm]; exact one_typed HS2.out HX.out hm (fun _ _ x => by cases x))
     rw [e]
     refine one_typed HS2.out HX.out e (fun cs' fz' x => ?_)
     injection x with _ x; subst x; revert ht; decide
    have e1 : outD L nk p q = (⟨[p, q], (outS L d nk 2).2⟩, (outS L d nk 2).1) := by unfold outD; rw [Hd.out]
    rw [e1]
    have hS9 := HS.out.kept HS2.out HX.out (by decide) (by decide)
    exact ⟨_, _, A', c', rfl, ⟨row_block hR9 (by omega) rfl (by omega), hS9.ow, by omega, by omega, outS_sig L d nk 2⟩, H.out.kept hK9 hB9, LChg.of_kept hK9, hS9, hK9⟩
end
end Go.Proofs.YthhiookcknnmdaaGreat
