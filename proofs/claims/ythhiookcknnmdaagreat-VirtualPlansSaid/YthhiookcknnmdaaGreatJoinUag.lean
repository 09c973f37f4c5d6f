/- The walks of the closures of Agree. Conditions: the way and the book lie in memory; room in the book. The walk of Agree. Conditions: the way and the book lie in memory; room in the book. The walk of Ready. Conditions: the way lies in memory. The walks of the closures of Open and of Back. Conditions: the way, the book and the boxes lie in memory; room in the book. The walks of the last closures of Open and of Back. Conditions: the way, the book and the boxes lie in memory; room in the book. -/
import Derived.Test.YthhiookcknnmdaaGreatJoinUaf
import Derived.Test.YthhiookcknnmdaaGreatJoinUad
namespace Go.Proofs.YthhiookcknnmdaaGreat
open Go.RowKit Go.Lib
section
variable {w : World} {B wb bk : Nat} {y : Wy} {a : WyA} {cW cP cS : Nat} {party : Int}
theorem ent_a1 : Ent 120 := fun _ _ => by kernel_rfl
theorem ent_a2 : Ent 121 := fun _ _ => by kernel_rfl
theorem ent_a3 : Ent 122 := fun _ _ => by kernel_rfl
set_option maxRecDepth 100000 in
set_option maxHeartbeats 2000000 in
theorem a1_any (h : WyAt w B wb bk y a) (hW : w.cell? ⟨cW, 0, none⟩ = some (.pointer (some ⟨wb, 0, none⟩))) (hP : w.cell? ⟨cP, 0, none⟩ = some (.int .i64 party)) :
  Calls Tryz.prog 120 #[.pointer (some ⟨cP, 0, none⟩), .pointer (some ⟨cW, 0, none⟩)] w fun e w' => e = .returned (.bool (decide (0 ≤ party ∧ party < y.ag.length))) ∧ Below w.heap.size w w' := by
 have hd := h.below (Below.refl w.heap.size w).drew
 obtain ⟨_, _, _, _, c17, _⟩ := hd.c
 clear h hd
 generalize y.ag.length = n at *
 by_cases q0 : 0 ≤ party
 ·have b0 : decide (0 ≤ party) = true := decide_eq_true q0
  by_cases q1 : party < (n : Int)
  ·have b1 : decide (party < (n : Int)) = true := decide_eq_true q1
   have Hr : Hid (decide (0 ≤ party ∧ party < (n : Int)) = true) := Lib.hid (decide_eq_true ⟨q0, q1⟩)
   clear q0 q1
   go_enter Tryz.func120, Tryz.ntmps120
   go_wp2
   go_region
   all_goals
    go_wp2
    go_ret
    exact ⟨ret_bool (by rw [Hr.out]), (Below.refl _ _).drew⟩
  ·have b1 : decide (party < (n : Int)) = false := decide_eq_false q1
   have Hr : Hid (decide (0 ≤ party ∧ party < (n : Int)) = false) := Lib.hid (decide_eq_false (fun e => q1 e.2))
   clear q0 q1
   go_enter Tryz.func120, Tryz.ntmps120
   go_wp2
   go_region
   all_goals
    go_wp2
    go_ret
    exact ⟨ret_bool (by rw [Hr.out]), (Below.refl _ _).drew⟩
 ·have b0 : decide (0 ≤ party) = false := decide_eq_false q0
  have Hr : Hid (decide (0 ≤ party ∧ party < (n : Int)) = false) := Lib.hid (decide_eq_false (fun e => q0 e.1))
  clear q0
  go_enter Tryz.func120, Tryz.ntmps120
  go_wp2
  go_region
  all_goals
   go_wp2
   go_ret
   exact ⟨ret_bool (by rw [Hr.out]), (Below.refl _ _).drew⟩
set_option maxRecDepth 100000 in
set_option maxHeartbeats 2000000 in
theorem a2_any (h : WyAt w B wb bk y a) (n : Nat) (hn : n < y.ag.length) (hW : w.cell? ⟨cW, 0, none⟩ = some (.pointer (some ⟨wb, 0, none⟩))) (hP : w.cell? ⟨cP, 0, none⟩ = some (.int .i64 n)) :
  Calls Tryz.prog 121 #[.pointer (some ⟨cW, 0, none⟩), .pointer (some ⟨cP, 0, none⟩)] w fun e w' => e = .returned (.bool (!(y.ag.getD n false))) ∧ Below w.heap.size w w' := by
 have hd := h.below (Below.refl w.heap.size w).drew
 obtain ⟨_, _, _, _, c17, _⟩ := hd.c
 obtain ⟨g, hA, _, _, ⟨cs, hcs, hkc, hck⟩, _⟩ := hd.setag hn
 have hcell := block_cell hcs n
 rw [hck] at hcell
 rw [hA] at c17
 clear h hd hcs hck
 generalize y.ag.getD n false = v at *
 generalize y.ag.length = m at *
 have hni : (n : Int) < (m : Int) := by omega
 go_enter Tryz.func121, Tryz.ntmps121
 go_wp2
 go_region
 all_goals
  go_wp2
  go_ret
  exact ⟨rfl, (Below.refl _ _).drew⟩
set_option maxRecDepth 100000 in
set_option maxHeartbeats 4000000 in
theorem a3_any {Bb mb : Nat} {L : List En} (h : WyAt w B wb bk y a) (hok : y.Ok) (hbk : BookAt w Bb bk mb L) (hlen : L.length < 60000) (n : Nat) (hn : n < y.ag.length) (s : List Nat) (A : Option Addr) (m c : Nat) (hr : Rd w w.heap.size 1 A m (bv s)) (hm : m ≤ 1000) (hs : ∀ x ∈ s, x < 256)
  (hW : w.cell? ⟨cW, 0, none⟩ = some (.pointer (some ⟨wb, 0, none⟩))) (hP : w.cell? ⟨cP, 0, none⟩ = some (.int .i64 n)) (hS : w.cell? ⟨cS, 0, none⟩ = some (.slice A m c)) (hcw : cW < w.heap.size) (hcp : cP < w.heap.size) (hcs : cS < w.heap.size) :
  Calls Tryz.prog 122 #[.pointer (some ⟨cW, 0, none⟩), .pointer (some ⟨cP, 0, none⟩), .pointer (some ⟨cS, 0, none⟩)] w fun e w' => e = .returned (.bool (verS L ⟨y.pl.ks.getD n dz8, y.pl.digest⟩ s)) ∧ Below w.heap.size w w' := by
 have hna := nil_ver bk
 have hme := meth_ver bk
 obtain ⟨c13, _, _, _, _, c8, _⟩ := h.c
 have hkl := h.pl.at_.k.dlenD
 have hnk : n < a.nk := by have := hok.na; omega
 obtain ⟨b, o, hAk, hbB, hrk⟩ := h.pl.at_.k.drange hnk
 rw [hAk] at c8
 have hnki : (n : Int) < (a.nk : Int) := by omega
 have hwb := block_lt h.box
 have hkey : (y.pl.ks.getD n dz8).ok := hok.pl.ko _ (getD_mem8 (by omega))
 have H := Lib.hid h; have HOk := Lib.hid hok; have HBk := Lib.hid hbk; have HR := Lib.hid hr; have HKey := Lib.hid hkey; have HS := Lib.hid hs
 have hc8 : ∀ w', Below w.heap.size w w' → w'.cell? ⟨wb, 8, none⟩ = some (.slice (some ⟨b, o, none⟩) a.nk a.ck) := fun w' hw' => (hw'.cell (p := ⟨wb, 8, none⟩) hwb).trans c8
 have hc13 : ∀ w', Below w.heap.size w w' → w'.cell? ⟨wb, 13, none⟩ = some (.iface 51 (.pointer (some ⟨bk, 0, none⟩))) := fun w' hw' => (hw'.cell (p := ⟨wb, 13, none⟩) hwb).trans c13
 have q1 : ∀ w', Below w.heap.size w w' → w'.cell? ⟨cW, 0, none⟩ = some (.pointer (some ⟨wb, 0, none⟩)) := fun w' hw' => (hw'.cell (p := ⟨cW, 0, none⟩) hcw).trans hW
 have q2 : ∀ w', Below w.heap.size w w' → w'.cell? ⟨cP, 0, none⟩ = some (.int .i64 n) := fun w' hw' => (hw'.cell (p := ⟨cP, 0, none⟩) hcp).trans hP
 have q3 : ∀ w', Below w.heap.size w w' → w'.cell? ⟨cS, 0, none⟩ = some (.slice A m c) := fun w' hw' => (hw'.cell (p := ⟨cS, 0, none⟩) hcs).trans hS
 have HRk := Lib.hid hrk
 clear h hok hbk hr hkey hs c8 c13 hrk hAk hkl
 generalize y.pl.ks.getD n dz8 = d at *
 go_enter Tryz.func122, Tryz.ntmps122
 go_upto_region 1 with fail
 refine wp_region_held_drew (S := fun w' => Below w.heap.size w w') (by kernel_rfl) (Below.refl _ _).drew (fun hHeld => ?_)
 refine takP 0 4 ?_ rfl (by kernel_rfl) (fun _ _ _ => id) ?hy (by assumption) ?_
 case hy => intro w' h; have hx := q1 w' h; clear h; go_simp; try with_reducible rfl
 simp only [Act.put, sT]
 refine takP 1 5 ?_ rfl (by kernel_rfl) (fun _ _ _ => id) ?hy (by assumption) ?_
 case hy => intro w' h; clear h; go_simp; try with_reducible rfl
 simp only [Act.put, sT]
 refine takP 2 6 ?_ rfl (by kernel_rfl) (fun _ _ _ => id) ?hy (by assumption) ?_
 case hy => intro w' h; clear h; go_simp; try with_reducible rfl
 simp only [Act.put, sT]
 refine takP 3 7 ?_ rfl (by kernel_rfl) (fun _ _ _ => id) ?hy (by assumption) ?_
 case hy => intro w' h; have hx := hc13 w' h; clear h; go_simp; try with_reducible rfl
 simp only [Act.put, sT]
 refine takP 4 8 ?_ rfl (by kernel_rfl) (fun _ _ _ => id) ?hy (by assumption) ?_
 case hy => intro w' h; have hx := q1 w' h; clear h; go_simp; try with_reducible rfl
 simp only [Act.put, sT]
 refine takP 5 9 ?_ rfl (by kernel_rfl) (fun _ _ _ => id) ?hy (by assumption) ?_
 case hy => intro w' h; clear h; go_simp; try with_reducible rfl
 simp only [Act.put, sT]
 refine takP 6 10 ?_ rfl (by kernel_rfl) (fun _ _ _ => id) ?hy (by assumption) ?_
 case hy => intro w' h; clear h; go_simp; try with_reducible rfl
 simp only [Act.put, sT]
 refine takP 7 11 ?_ rfl (by kernel_rfl) (fun _ _ _ => id) ?hy (by assumption) ?_
 case hy => intro w' h; clear h; go_simp; try with_reducible rfl
 simp only [Act.put, sT]
 refine takP 8 12 ?_ rfl (by kernel_rfl) (fun _ _ _ => id) ?hy (by assumption) ?_
 case hy => intro w' h; have hx := hc8 w' h; clear h; go_simp; try with_reducible rfl
 simp only [Act.put, sT]
 refine takP 9 13 ?_ rfl (by kernel_rfl) (fun _ _ _ => id) ?hy (by assumption) ?_
 case hy => intro w' h; have hx := q2 w' h; clear h; go_simp; try with_reducible rfl
 simp only [Act.put, sT]
 refine takP 10 14 ?_ rfl (by kernel_rfl) (fun _ _ _ => id) ?hy (by assumption) ?_
 case hy => intro w' h; clear h; go_simp; try with_reducible rfl
 simp only [Act.put, sT]
 refine takeK 11 (some 15) (v := .agg ([.int .u8 d.x0, .int .u8 d.x1, .int .u8 d.x2, .int .u8 d.x3, .int .u8 d.x4, .int .u8 d.x5, .int .u8 d.x6, .int .u8 d.x7] : List Value).toArray) rfl (by kernel_rfl) (by kernel_rfl) (fun _ _ _ => id) (yieldsIf_load_mid (by kernel_rfl) 27 _ (by rfl) (b) (o + n * 8) (by rfl) [.int .u8 d.x0, .int .u8 d.x1, .int .u8 d.x2, .int .u8 d.x3, .int .u8 d.x4, .int .u8 d.x5, .int .u8 d.x6, .int .u8 d.x7] _ (fun w' hw' => range_below HRk.out hw' hbB) Tryz.underlying27 rfl (by kernel_rfl)) (by assumption) ?_
 simp only [Act.put, sT]
 refine takP 12 16 ?_ rfl (by kernel_rfl) (fun _ _ _ => id) ?hy (by assumption) ?_
 case hy => intro w' h; have hx := q1 w' h; clear h; go_simp; try with_reducible rfl
 simp only [Act.put, sT]
 refine takP 13 17 ?_ rfl (by kernel_rfl) (fun _ _ _ => id) ?hy (by assumption) ?_
 case hy => intro w' h; clear h; go_simp; try with_reducible rfl
 simp only [Act.put, sT]
 refine takP 14 18 ?_ rfl (by kernel_rfl) (fun _ _ _ => id) ?hy (by assumption) ?_
 case hy => intro w' h; clear h; go_simp; try with_reducible rfl
 simp only [Act.put, sT]
 refine takeK 15 (some 19) (v := .agg ([.int .u8 y.pl.tb.x0, .int .u8 y.pl.tb.x1, .int .u8 y.pl.tb.x2, .int .u8 y.pl.tb.x3, .int .u8 y.pl.tb.x4, .int .u8 y.pl.tb.x5, .int .u8 y.pl.tb.x6, .int .u8 y.pl.tb.x7, .slice a.Ak a.nk a.ck, .int .i64 y.pl.s0, .int .i64 y.pl.s1, .slice a.An a.nn a.cn, .slice a.Af a.nf a.cf] : List Value).toArray) rfl (by kernel_rfl) (by kernel_rfl) (fun _ _ _ => id) (yieldsIf_load_mid (by kernel_rfl) 32 _ (by rfl) (wb) (0) (by rfl) [.int .u8 y.pl.tb.x0, .int .u8 y.pl.tb.x1, .int .u8 y.pl.tb.x2, .int .u8 y.pl.tb.x3, .int .u8 y.pl.tb.x4, .int .u8 y.pl.tb.x5, .int .u8 y.pl.tb.x6, .int .u8 y.pl.tb.x7, .slice a.Ak a.nk a.ck, .int .i64 y.pl.s0, .int .i64 y.pl.s1, .slice a.An a.nn a.cn, .slice a.Af a.nf a.cf] _ (fun w' hw' => range_front (H.out.below hw').box 13 rfl) Tryz.underlying32 rfl (by kernel_rfl)) (by assumption) ?_
 simp only [Act.put, sT]
 refine takP 17 21 ?_ rfl (by kernel_rfl) (fun _ _ _ => id) ?hy (by assumption) ?_
 case hy => intro w' h; have hx := q3 w' h; clear h; go_simp; try with_reducible rfl
 simp only [Act.put, sT]
 refine takP 19 23 ?_ rfl (by kernel_rfl) (fun _ _ _ => id) ?hy (by assumption) ?_
 case hy => intro w' h; clear h; go_simp; try with_reducible rfl
 simp only [Act.put, sT]
 refine takP 20 24 ?_ rfl (by kernel_rfl) (fun _ _ _ => id) ?hy (by assumption) ?_
 case hy => intro w' h; clear h; go_simp; try with_reducible rfl
 simp only [Act.put, sT]
 refine wpAnyH_ready (rs := [16]) (by kernel_rfl) (by simp) ?_
 refine AllReadyH.cons rfl (fun K hK => ?_) AllReadyH.nil
 rw [if_pos (by kernel_rfl)]
 try simp only [List.getElem_toArray, List.getElem_cons_zero, List.getElem_cons_succ]
 go_simp
 go_at_call 32
 refine (pldigest_any y.pl _ _ _ _ _ _ _ _ _ w.drew (H.out.below (Below.refl _ _).drew).pl.at_ HOk.out.pl.tb HOk.out.pl.ko).mono ?_
 rintro e w1 ⟨rfl, hb1⟩
 have HB1 := Lib.hid ((Below.refl w.heap.size w).drew.trans hb1)
 have HDg : Hid (y.pl.digest.ok) := Lib.hid (hashOf_ok _)
 generalize hdg : y.pl.digest = dg at *
 have HDq := Lib.hid hdg
 clear hdg
 clear hb1
 refine hK.out _ _ HB1.out (fun _ => ?_)
 clear hK K
 try simp only [Act.put, sT]
 refine wpAnyH_ready (rs := [18]) (by kernel_rfl) (by simp) ?_
 refine AllReadyH.cons rfl (fun K hK => ?_) AllReadyH.nil
 rw [if_pos (by kernel_rfl)]
 try simp only [List.getElem_toArray, List.getElem_cons_zero, List.getElem_cons_succ]
 go_simp
 go_at_call 123
 refine (byclone_any (bv s) (bv_one _) A m c w1 ((HR.out.below HB1.out (Nat.le_refl _)).more HB1.out.size) (by omega)).mono ?_
 rintro e w2 ⟨A2, c2, rfl, ho2, hb2⟩
 have HB2 := Lib.hid (HB1.out.trans (hb2.mono HB1.out.size))
 have HO2 := Lib.hid (Rd.of_own ho2)
 clear ho2 hb2
 refine hK.out _ _ HB2.out (fun _ => ?_)
 clear hK K
 try simp only [Act.put, sT]
 refine wpAnyH_ready (rs := [21]) (by kernel_rfl) (by simp) ?_
 refine AllReadyH.cons rfl (fun K hK => ?_) AllReadyH.nil
 rw [if_pos (by kernel_rfl)]
 try simp only [List.getElem_toArray, List.getElem_cons_zero, List.getElem_cons_succ]
 have hme2 : ∀ w : World, (method 347 51 (.pointer (some ⟨bk, 0, none⟩)) "Verify").run Tryz.prog w = .ok (198, .pointer (some ⟨bk, 0, none⟩)) w := fun _ => by kernel_rfl
 go_simp
 go_at_call 198
 refine (bverify_any Bb bk mb L ⟨d, dg⟩ A2 m c2 s w2 (HBk.out.below HB2.out) ⟨HKey.out, HDg.out⟩ hlen HO2.out HS.out).mono ?_
 rintro e w3 ⟨rfl, hb3⟩
 have HB3 := Lib.hid (HB2.out.trans (hb3.mono HB2.out.size))
 clear hb3
 generalize hv : verS L ⟨d, dg⟩ s = v at *
 have HV := Lib.hid hv
 clear hv
 refine hK.out _ _ HB3.out (fun _ => ?_)
 clear hK K
 try simp only [Act.put, sT]
 refine takP 22 3 ?_ rfl (by kernel_rfl) (fun _ _ _ => id) ?hy (by assumption) ?_
 case hy => intro w' h; clear h; go_simp; try with_reducible rfl
 simp only [Act.put, sT]
 refine wpAnyH_done (by kernel_rfl) ?_ _
 go_wp2
 go_ret
 exact ⟨ret_bool (by rw [HDq.out, HV.out]), HB3.out⟩
end
def Wy.agreeL (y : Wy) (L : List En) (party : Int) (s : List Nat) : List Int :=
 [if decide (0 ≤ party ∧ party < y.ag.length) = true then 0 else 28, if (!(y.ag.getD party.toNat false)) = true then 0 else 7, if verS L ⟨y.pl.ks.getD party.toNat dz8, y.pl.digest⟩ s = true then 0 else 16]
theorem Wy.agreeI_first (y : Wy) (L : List En) (party : Int) (s : List Nat) : y.agreeI L party s = firstE (y.agreeL L party s) := by
 unfold Wy.agreeL
 rw [firstE_if (by decide), firstE_if (by decide), firstE_if (by decide)]
 unfold Wy.agreeI
 generalize verS L ⟨y.pl.ks.getD party.toNat dz8, y.pl.digest⟩ s = v
 simp only [decide_eq_true_eq, Bool.not_eq_true']
 cases y.ag.getD party.toNat false <;> simp only [if_true, if_false, Bool.false_eq_true, Bool.true_eq_false] <;> (repeat' split) <;> simp_all [firstE]
def agreeObjs (w : World) (wb : Nat) (party : Int) (V : Value) : List Obj :=
 [.cells #[.pointer (some ⟨wb, 0, none⟩)] 50, .cells #[.int .i64 party] 3, .cells #[V] 46,
  .cells #[.func (.func 120) #[] #[.pointer (some ⟨w.heap.size + 1, 0, none⟩), .pointer (some ⟨w.heap.size + 0, 0, none⟩)]] 37, .cells #[.int .i64 28] 33, .cells #[.func (.func 121) #[] #[.pointer (some ⟨w.heap.size + 0, 0, none⟩), .pointer (some ⟨w.heap.size + 1, 0, none⟩)]] 37, .cells #[.int .i64 7] 33,
  .cells #[.func (.func 122) #[] #[.pointer (some ⟨w.heap.size + 0, 0, none⟩), .pointer (some ⟨w.heap.size + 1, 0, none⟩), .pointer (some ⟨w.heap.size + 2, 0, none⟩)]] 37, .cells #[.int .i64 16] 33, .cells #[.func (.func 131) #[] #[.pointer (some ⟨w.heap.size + 3, 0, none⟩), .pointer (some ⟨w.heap.size + 3 + 1, 0, none⟩)], .func (.func 131) #[] #[.pointer (some ⟨w.heap.size + 5, 0, none⟩), .pointer (some ⟨w.heap.size + 5 + 1, 0, none⟩)], .func (.func 131) #[] #[.pointer (some ⟨w.heap.size + 7, 0, none⟩), .pointer (some ⟨w.heap.size + 7 + 1, 0, none⟩)]] 43]
def agreeFs (w : World) : Nat → FuncId × Array Value
 | 0 => (131, #[.pointer (some ⟨w.heap.size + 3, 0, none⟩), .pointer (some ⟨w.heap.size + 3 + 1, 0, none⟩)])
 | 1 => (131, #[.pointer (some ⟨w.heap.size + 5, 0, none⟩), .pointer (some ⟨w.heap.size + 5 + 1, 0, none⟩)])
 | _ => (131, #[.pointer (some ⟨w.heap.size + 7, 0, none⟩), .pointer (some ⟨w.heap.size + 7 + 1, 0, none⟩)])
section
variable {w : World} {B wb bk : Nat} {y : Wy} {a : WyA}
theorem agree_calls {Bb mb : Nat} {L : List En} (h : WyAt w B wb bk y a) (hok : y.Ok) (hbk : BookAt w Bb bk mb L) (hlen : L.length < 60000) (party : Int) (s : List Nat) (A : Option Addr) (m c : Nat) (hr : Rd w w.heap.size 1 A m (bv s)) (hm : m ≤ 1000) (hs : ∀ x ∈ s, x < 256) :
  ∀ k, k < 3 → (∀ j, j < k → (y.agreeL L party s).getD j 0 = 0) → ∀ w', ClI w 100 (agreeObjs w wb party (.slice A m c)) w' → Calls Tryz.prog (agreeFs w k).1 (agreeFs w k).2 w' fun e w'' => e = .returned (.int .i64 ((y.agreeL L party s).getD k 0)) ∧ ClI w 100 (agreeObjs w wb party (.slice A m c)) w'' := by
 intro k hk hc w' hI
 have hW := block_cell (hI.blk 0 _ rfl (by decide)) 0
 have hP := block_cell (hI.blk 1 _ rfl (by decide)) 0
 have hS := block_cell (hI.blk 2 _ rfl (by decide)) 0
 have hw := h.below hI.b
 have hz := hI.z
 simp only [agreeObjs, List.length_cons, List.length_nil] at hz
 have hin : 0 < k → ∃ n : Nat, party = n ∧ n < y.ag.length := fun h0 => by
  have h1 := hc 0 h0
  by_cases hq : 0 ≤ party ∧ party < y.ag.length
  ·obtain ⟨n, rfl⟩ := Int.eq_ofNat_of_zero_le hq.1
   exact ⟨n, rfl, by omega⟩
  ·rw [show (y.agreeL L party s).getD 0 0 = if decide (0 ≤ party ∧ party < y.ag.length) = true then 0 else 28 from rfl, decide_eq_false hq] at h1; simp at h1
 obtain rfl | rfl | rfl : k = 0 ∨ k = 1 ∨ k = 2 := by omega
 ·refine unless1_any 120 #[] #[.pointer (some ⟨w.heap.size + 1, 0, none⟩), .pointer (some ⟨w.heap.size + 0, 0, none⟩)] ent_a1 (w.heap.size + 3) (w.heap.size + (3 + 1)) 28 (decide (0 ≤ party ∧ party < y.ag.length)) (ClI w 100 (agreeObjs w wb party (.slice A m c))) w' (block_cell (hI.blk 3 _ rfl (by decide)) 0) ?_ (fun w3 h3 => block_cell (h3.blk 4 _ rfl (by decide)) 0)
  refine (a1_any hw hW hP).mono ?_
  rintro e w2 ⟨rfl, hb⟩
  exact ⟨rfl, hI.below hb⟩
 ·obtain ⟨n, rfl, hn⟩ := hin (by omega)
  refine unless1_any 121 #[] #[.pointer (some ⟨w.heap.size + 0, 0, none⟩), .pointer (some ⟨w.heap.size + 1, 0, none⟩)] ent_a2 (w.heap.size + 5) (w.heap.size + (5 + 1)) 7 (!(y.ag.getD n false)) (ClI w 100 (agreeObjs w wb n (.slice A m c))) w' (block_cell (hI.blk 5 _ rfl (by decide)) 0) ?_ (fun w3 h3 => block_cell (h3.blk 6 _ rfl (by decide)) 0)
  refine (a2_any hw n hn hW hP).mono ?_
  rintro e w2 ⟨rfl, hb⟩
  exact ⟨rfl, hI.below hb⟩
 ·obtain ⟨n, rfl, hn⟩ := hin (by omega)
  refine unless1_any 122 #[] #[.pointer (some ⟨w.heap.size + 0, 0, none⟩), .pointer (some ⟨w.heap.size + 1, 0, none⟩), .pointer (some ⟨w.heap.size + 2, 0, none⟩)] ent_a3 (w.heap.size + 7) (w.heap.size + (7 + 1)) 16 (verS L ⟨y.pl.ks.getD n dz8, y.pl.digest⟩ s) (ClI w 100 (agreeObjs w wb n (.slice A m c))) w' (block_cell (hI.blk 7 _ rfl (by decide)) 0) ?_ (fun w3 h3 => block_cell (h3.blk 8 _ rfl (by decide)) 0)
  refine (a3_any hw hok (hbk.below hI.b) hlen n hn s A m c ((hr.below hI.b (Nat.le_refl _)).more hI.b.size) hm hs hW hP hS (by omega) (by omega) (by omega)).mono ?_
  rintro e w2 ⟨rfl, hb⟩
  exact ⟨rfl, hI.below hb⟩
set_option maxRecDepth 100000 in
set_option maxHeartbeats 4000000 in
theorem agree_any {Bb mb : Nat} {L : List En} (h : WyAt w B wb bk y a) (hok : y.Ok) (hbk : BookAt w Bb bk mb L) (hlen : L.length < 60000) (party : Int) (s : List Nat) (A : Option Addr) (m c : Nat) (hr : Rd w w.heap.size 1 A m (bv s)) (hm : m ≤ 1000) (hs : ∀ x ∈ s, x < 256) :
  Calls Tryz.prog 50 #[.pointer (some ⟨wb, 0, none⟩), .int .i64 party, .slice A m c] w fun e w' =>
   e = .returned (.int .i64 (y.agreeI L party s)) ∧ ∃ a', WyAt w' B wb bk (y.agree L party s).2 a' ∧ a.sameF a' ∧ WChg a.F w w' := by
 have H := Lib.hid h; have HOk := Lib.hid hok; have HBk := Lib.hid hbk; have HR := Lib.hid hr; have HS := Lib.hid hs
 clear h hok hbk hr hs
 go_enter Tryz.func50, Tryz.ntmps50
 go_upto_region 3 with fail
 refine wp_region_list ?_
 refine wpList_value (.func (.func 120) #[] #[.pointer (some ⟨w.heap.size + 1, 0, none⟩), .pointer (some ⟨w.heap.size + 0, 0, none⟩)]) (by kernel_rfl) (by kernel_rfl) ?_
 simp only [Act.put, sT]
 refine wpList_plain (by rfl) (fun K hK => ?_)
 go_simp
 go_at_call 63
 refine (unless_at 120 #[] #[.pointer (some ⟨w.heap.size + 1, 0, none⟩), .pointer (some ⟨w.heap.size + 0, 0, none⟩)] 28 _ (w.heap.size + 3) (by simp)).mono ?_
 rintro e w1 ⟨rfl, rfl⟩
 refine hK _ _ ?_
 clear hK K
 try simp only [Act.put, sT]
 refine wpList_value (.func (.func 121) #[] #[.pointer (some ⟨w.heap.size + 0, 0, none⟩), .pointer (some ⟨w.heap.size + 1, 0, none⟩)]) (by kernel_rfl) (by kernel_rfl) ?_
 simp only [Act.put, sT]
 refine wpList_plain (by rfl) (fun K hK => ?_)
 go_simp
 go_at_call 63
 refine (unless_at 121 #[] #[.pointer (some ⟨w.heap.size + 0, 0, none⟩), .pointer (some ⟨w.heap.size + 1, 0, none⟩)] 7 _ (w.heap.size + 5) (by simp)).mono ?_
 rintro e w1 ⟨rfl, rfl⟩
 refine hK _ _ ?_
 clear hK K
 try simp only [Act.put, sT]
 refine wpList_value (.func (.func 122) #[] #[.pointer (some ⟨w.heap.size + 0, 0, none⟩), .pointer (some ⟨w.heap.size + 1, 0, none⟩), .pointer (some ⟨w.heap.size + 2, 0, none⟩)]) (by kernel_rfl) (by kernel_rfl) ?_
 simp only [Act.put, sT]
 refine wpList_plain (by rfl) (fun K hK => ?_)
 go_simp
 go_at_call 63
 refine (unless_at 122 #[] #[.pointer (some ⟨w.heap.size + 0, 0, none⟩), .pointer (some ⟨w.heap.size + 1, 0, none⟩), .pointer (some ⟨w.heap.size + 2, 0, none⟩)] 16 _ (w.heap.size + 7) (by simp)).mono ?_
 rintro e w1 ⟨rfl, rfl⟩
 refine hK _ _ ?_
 clear hK K
 try simp only [Act.put, sT]
 refine Go.Great.wpList_buildSliceTo (by rfl) 182 43 3 _ (by rfl) (w.heap.size + 9) (by simp) _ (by rfl) Tryz.underlying182 #[.func (.func 131) #[] #[.pointer (some ⟨w.heap.size + 3, 0, none⟩), .pointer (some ⟨w.heap.size + 3 + 1, 0, none⟩)], .func (.func 131) #[] #[.pointer (some ⟨w.heap.size + 5, 0, none⟩), .pointer (some ⟨w.heap.size + 5 + 1, 0, none⟩)], .func (.func 131) #[] #[.pointer (some ⟨w.heap.size + 7, 0, none⟩), .pointer (some ⟨w.heap.size + 7 + 1, 0, none⟩)]] (by kernel_rfl) ?_
 simp only [Act.put, sT]
 have HI : Hid (ClI w 100 (agreeObjs w wb party (.slice A m c)) (allocs w (agreeObjs w wb party (.slice A m c)))) := Lib.hid (ClI.start _ _ _)
 change wpList _ _ _ _ _ (allocs w (agreeObjs w wb party (.slice A m c)))
 generalize allocs w (agreeObjs w wb party (.slice A m c)) = w0 at *
 refine wpList_plain (by rfl) (fun K hK => ?_)
 go_simp
 go_at_call 62
 refine (first_any 3 (by omega) (agreeFs w) (w.heap.size + 9) 0 (fun _ => ClI w 100 (agreeObjs w wb party (.slice A m c))) (fun k => (y.agreeL L party s).getD k 0) w0 HI.out ?_ ?_ (fun k hk hc w' hI => agree_calls H.out HOk.out HBk.out hlen party s A m c HR.out hm HS.out k hk hc w' hI)).mono ?_
 ·intro k w' hk hI
  have h14 := hI.blk 9 _ rfl (by decide)
  obtain rfl | rfl | rfl : k = 0 ∨ k = 1 ∨ k = 2 := by omega
  all_goals exact block_cell h14 _
 ·intro k hk
  obtain rfl | rfl | rfl : k = 0 ∨ k = 1 ∨ k = 2 := by omega
  ·exact ent_un1
  ·exact ent_un1
  ·exact ent_un1
 rintro e w1 (⟨rfl, hall, hI⟩ | ⟨k, hk, hc, hn, rfl, hI⟩)
 ·have hr : y.agreeI L party s = 0 := by rw [y.agreeI_first]; exact firstE_all hall
  have hl : (y.agree L party s).2 = { y with ag := y.ag.set party.toNat true } := by unfold Wy.agree; rw [if_pos hr]
  have hin : ∃ n : Nat, party = n ∧ n < y.ag.length := by
   have h1 := hall 0 (by omega)
   by_cases hq : 0 ≤ party ∧ party < y.ag.length
   ·obtain ⟨n, rfl⟩ := Int.eq_ofNat_of_zero_le hq.1
    exact ⟨n, rfl, by omega⟩
   ·rw [show (y.agreeL L party s).getD 0 0 = if decide (0 ≤ party ∧ party < y.ag.length) = true then 0 else 28 from rfl, decide_eq_false hq] at h1; simp at h1
  obtain ⟨n, rfl, hnl⟩ := hin
  have hW : w1.cell? ⟨w.heap.size, 0, none⟩ = some (.pointer (some ⟨wb, 0, none⟩)) := block_cell (hI.blk 0 _ rfl (by decide)) 0
  have hP : w1.cell? ⟨w.heap.size + 1, 0, none⟩ = some (.int .i64 n) := block_cell (hI.blk 1 _ rfl (by decide)) 0
  have hHs := hI.z
  simp only [agreeObjs, List.length_cons, List.length_nil] at hHs
  have hb := hI.b
  have h1 : WyAt w1.drew B wb bk y a := H.out.below hb.drew
  obtain ⟨g, hA, hBg, hg1, ⟨cs, hcs, hkc, hck⟩, hgr, h2⟩ := h1.setag hnl
  have hgw : g < w.heap.size := H.out.F_lt (.inr (.inr (.inr (by rw [hA]; rfl))))
  have hcell := block_cell hcs n
  rw [hck] at hcell
  have hfree := block_free hcs n
  have hwb := block_lt H.out.box
  have hgb : g ≠ wb := fun e => by
   have e3 := h1.box
   rw [e, e3] at hcs; injection hcs with e2; injection e2 with _ e2; exact absurd e2 (by decide)
  have c17 : w1.drew.cell? ⟨wb, 17, none⟩ = some (.slice a.Ag y.ag.length a.cg) := h1.c.2.2.2.2.1
  rw [hA] at c17
  have hSn : (w1.drew.setCell ⟨g, n, none⟩ (.bool true)).cell? ⟨w.heap.size, 0, none⟩ = some (.pointer (some ⟨wb, 0, none⟩)) ∧ (w1.drew.setCell ⟨g, n, none⟩ (.bool true)).cell? ⟨w.heap.size + 1, 0, none⟩ = some (.int .i64 n) ∧ (w1.drew.setCell ⟨g, n, none⟩ (.bool true)).cell? ⟨wb, 17, none⟩ = some (.slice (some ⟨g, 0, none⟩) y.ag.length a.cg) :=
   ⟨hgr.cell (by exact hW) (by simp; omega), hgr.cell (by exact hP) (by simp; omega), hgr.cell c17 (by simpa using hgb.symm)⟩
  have HG2 : Hid (w1.grownBy (w1.drew.setCell ⟨g, n, none⟩ (.bool true)) (some g)) := Lib.hid (grown_below (Below.refl w1.heap.size w1).drew hgr)
  have HRr := Lib.hid hr; have HL := Lib.hid hl; have HB := Lib.hid hb; have H2 := Lib.hid h2; have HSn := Lib.hid hSn; have HCell := Lib.hid hcell; have HFree := Lib.hid hfree
  have hni : (n : Int) < (y.ag.length : Int) := by omega
  have HA := Lib.hid hA
  clear HI hall hI hr hl hb h1 hcs hck hcell hfree hgr h2 hSn hA
  refine hK _ _ ?_
  clear hK K
  go_upto_region 5 with fail
  refine wp_region_held_drew (S := fun w' => w'.cell? ⟨w.heap.size, 0, none⟩ = some (.pointer (some ⟨wb, 0, none⟩)) ∧ w'.cell? ⟨w.heap.size + 1, 0, none⟩ = some (.int .i64 n) ∧ w'.cell? ⟨wb, 17, none⟩ = some (.slice (some ⟨g, 0, none⟩) y.ag.length a.cg)) (by kernel_rfl) ⟨hW, hP, c17⟩ (fun hHeld => ?_)
  have q1 : ∀ w' : World, (w'.cell? ⟨w.heap.size, 0, none⟩ = some (.pointer (some ⟨wb, 0, none⟩)) ∧ w'.cell? ⟨w.heap.size + 1, 0, none⟩ = some (.int .i64 n) ∧ w'.cell? ⟨wb, 17, none⟩ = some (.slice (some ⟨g, 0, none⟩) y.ag.length a.cg)) → w'.cell? ⟨w.heap.size, 0, none⟩ = some (.pointer (some ⟨wb, 0, none⟩)) := fun _ h => h.1
  have q2 : ∀ w' : World, (w'.cell? ⟨w.heap.size, 0, none⟩ = some (.pointer (some ⟨wb, 0, none⟩)) ∧ w'.cell? ⟨w.heap.size + 1, 0, none⟩ = some (.int .i64 n) ∧ w'.cell? ⟨wb, 17, none⟩ = some (.slice (some ⟨g, 0, none⟩) y.ag.length a.cg)) → w'.cell? ⟨w.heap.size + 1, 0, none⟩ = some (.int .i64 n) := fun _ h => h.2.1
  have q3 : ∀ w' : World, (w'.cell? ⟨w.heap.size, 0, none⟩ = some (.pointer (some ⟨wb, 0, none⟩)) ∧ w'.cell? ⟨w.heap.size + 1, 0, none⟩ = some (.int .i64 n) ∧ w'.cell? ⟨wb, 17, none⟩ = some (.slice (some ⟨g, 0, none⟩) y.ag.length a.cg)) → w'.cell? ⟨wb, 17, none⟩ = some (.slice (some ⟨g, 0, none⟩) y.ag.length a.cg) := fun _ h => h.2.2
  clear hW hP c17
  refine takP 0 20 ?_ rfl (by kernel_rfl) (fun _ _ _ => id) ?hy (by assumption) ?_
  case hy => intro w' h; have hx := q1 w' h; clear h; go_simp; try with_reducible rfl
  simp only [Act.put, sT]
  refine takP 1 21 ?_ rfl (by kernel_rfl) (fun _ _ _ => id) ?hy (by assumption) ?_
  case hy => intro w' h; clear h; go_simp; try with_reducible rfl
  simp only [Act.put, sT]
  refine takP 2 22 ?_ rfl (by kernel_rfl) (fun _ _ _ => id) ?hy (by assumption) ?_
  case hy => intro w' h; clear h; go_simp; try with_reducible rfl
  simp only [Act.put, sT]
  refine takP 3 23 ?_ rfl (by kernel_rfl) (fun _ _ _ => id) ?hy (by assumption) ?_
  case hy => intro w' h; have hx := q3 w' h; clear h; go_simp; try with_reducible rfl
  simp only [Act.put, sT]
  refine takP 4 24 ?_ rfl (by kernel_rfl) (fun _ _ _ => id) ?hy (by assumption) ?_
  case hy => intro w' h; have hx := q2 w' h; clear h; go_simp; try with_reducible rfl
  simp only [Act.put, sT]
  refine takP 5 25 ?_ rfl (by kernel_rfl) (fun _ _ _ => id) ?hy (by assumption) ?_
  case hy => intro w' h; clear h; go_simp; try with_reducible rfl
  simp only [Act.put, sT]
  have hcell := HCell.out
  have hfree := HFree.out
  refine wpAnyH_ready (rs := [6]) (by kernel_rfl) (by simp) ?_
  refine AllReadyH.cons rfl (fun K hK => ?_) AllReadyH.nil
  rw [if_pos (by kernel_rfl)]
  try simp only [List.getElem_toArray, List.getElem_cons_zero, List.getElem_cons_succ]
  go_simp
  refine hK.out _ _ HSn.out (fun _ => ?_)
  clear hK K hcell hfree
  try simp only [Act.put]
  refine wpAnyH_done (by kernel_rfl) ?_ _
  go_wp2
  go_ret
  rw [HRr.out, HL.out]
  exact ⟨rfl, a, H2.out, WyA.sameF.refl a, (WChg.of_below HB.out).trans (WChg.of_grown HG2.out (.inr (.inr (.inr (by rw [HA.out]; rfl)))))⟩
 ·have hr : y.agreeI L party s = (y.agreeL L party s).getD k 0 := by rw [y.agreeI_first, firstE_no (by simpa [Wy.agreeL] using hk) hc hn]
  have hl : (y.agree L party s).2 = y := by unfold Wy.agree; rw [if_neg (by rw [hr]; exact hn)]
  have hb := hI.b
  clear HI hc hk hI
  generalize (y.agreeL L party s).getD k 0 = v at *
  have HRr := Lib.hid hr; have HL := Lib.hid hl; have HB := Lib.hid hb
  have b1 : (v == 0) = false := by simpa using hn
  clear hr hl hn hb
  refine hK _ _ ?_
  clear hK K
  go_wp2
  go_ret
  rw [HRr.out, HL.out]
  exact ⟨rfl, a, H.out.below HB.out, WyA.sameF.refl a, WChg.of_below HB.out⟩
end
theorem Rd.boolAt {w : World} {B n : Nat} {A : Option Addr} {l : List Bool} (h : Rd w B 1 A n (bvB l)) {k : Nat} (hk : k < n) : ∃ b o, A = some ⟨b, o, none⟩ ∧ b < B ∧ w.cell? ⟨b, o + k, none⟩ = some (.bool (l.getD k false)) := by
 have hl : l.length = n := by have := h.1; simp [bvB] at this; omega
 obtain ⟨b, o, e, hb, hc⟩ := h.2 (by omega)
 refine ⟨b, o, e, hb, hc k _ ?_⟩
 simp [bvB, List.getD_eq_getElem?_getD, List.getElem?_eq_getElem (show k < l.length by omega)]
section
variable {w : World} {B wb bk : Nat} {y : Wy} {a : WyA}
set_option maxRecDepth 100000 in
set_option maxHeartbeats 2000000 in
theorem bindex_any (A : Option Addr) (n c : Nat) (l : List Bool) (h : Rd w w.heap.size 1 A n (bvB l)) (hn : n ≤ 1000000) :
  Calls Tryz.prog 133 #[.slice A n c, .bool false] w fun e w' => ∃ r : Int, e = .returned (.int .i64 r) ∧ (0 ≤ r ↔ l.all id = false) ∧ w = w' := by
 have H := Lib.hid h
 have Hl : Hid (l.length = n) := by have := h.1; simp [bvB] at this; exact Lib.hid (by omega)
 clear h
 go_enter Tryz.func133, Tryz.ntmps133
 go_wp2
 go_loopw [8] (fun i wr => ∃ k : Nat, k ≤ n ∧ i = .int .i64 k ∧ Hid (∀ j, j < k → l.getD j false = true) ∧ wr = w) (fun i _ => n - (RowKit.intOf i).toNat)
 case atStart => exact ⟨0, by omega, rfl, Lib.hid (fun j hj => absurd hj (by omega)), rfl⟩
 case round =>
  obtain ⟨k, hk, rfl, H0, rfl⟩ := hrel
  by_cases hlt : k < n
  ·obtain ⟨b, o, rfl, hbB, hcell⟩ := H.out.boolAt hlt
   have hd1 : decide ((k : Int) < (n : Int)) = true := decide_eq_true (by omega)
   have hki : (k : Int) < (n : Int) := by omega
   generalize hv : l.getD k false = v at *
   have HV := Lib.hid hv
   clear hv
   cases v with
   | false =>
    go_wp2
    go_ret
    refine ⟨k, rfl, ⟨fun _ => ?_, fun _ => by omega⟩, rfl⟩
    have h1 : false ∈ l := by
     have h2 : k < l.length := by have := Hl.out; omega
     have h3 := HV.out
     rw [List.getD_eq_getElem?_getD, List.getElem?_eq_getElem h2] at h3
     exact h3 ▸ List.getElem_mem h2
    cases hq : l.all id with
    | false => rfl
    | true => exact absurd (List.all_eq_true.1 hq false h1) (by simp)
   | true =>
    go_wp2
    go_roundw
    case rel =>
     refine ⟨k + 1, by omega, by go_num, Lib.hid (fun j hj => ?_), trivial⟩
     rcases Nat.lt_or_ge j k with h1 | h1
     ·exact H0.out j h1
     ·obtain rfl : j = k := by omega
      exact HV.out
    case measure => simp [RowKit.intOf]; omega
  ·have hkn : k = n := by omega
   subst hkn
   have hd1 : decide ((k : Int) < (k : Int)) = false := decide_eq_false (by omega)
   clear hlt
   go_wp2
   go_ret
   refine ⟨-1, rfl, ⟨fun h => by omega, fun h => ?_⟩, rfl⟩
   have : l.all id = true := List.all_eq_true.2 fun x hx => by
    obtain ⟨j, hj, e⟩ := List.mem_iff_getElem.1 hx
    have h3 := H0.out j (by have := Hl.out; omega)
    rw [List.getD_eq_getElem?_getD, List.getElem?_eq_getElem hj] at h3
    rw [← e]; exact h3
   rw [this] at h; cases h
set_option maxRecDepth 100000 in
theorem bcontains_any (A : Option Addr) (n c : Nat) (l : List Bool) (h : Rd w w.heap.size 1 A n (bvB l)) (hn : n ≤ 1000000) :
  Calls Tryz.prog 73 #[.slice A n c, .bool false] w fun e w' => e = .returned (.bool (!(l.all id))) ∧ w = w' := by
 have H := Lib.hid h
 clear h
 go_enter Tryz.func73, Tryz.ntmps73
 go_wp2_with fail
 refine (bindex_any A n c l H.out hn).mono ?_
 rintro e w1 ⟨r, rfl, hr, rfl⟩
 have HR := Lib.hid hr
 clear hr
 go_wp2
 go_ret
 refine ⟨ret_bool ?_, rfl⟩
 cases hq : l.all id with
 | true => exact decide_eq_false (fun e => by have := HR.out.1 e; rw [hq] at this; cases this)
 | false => exact decide_eq_true (HR.out.2 hq)
set_option maxRecDepth 100000 in
theorem ready_any (h : WyAt w B wb bk y a) (hn : y.ag.length ≤ 100) : Calls Tryz.prog 23 #[.pointer (some ⟨wb, 0, none⟩)] w fun e w' => e = .returned (.bool y.ready) ∧ w = w' := by
 obtain ⟨_, _, _, _, c17, _⟩ := h.c
 have HR := Lib.hid (Rd.of_own h.ag)
 have HQ : Hid (y.ready = y.ag.all id) := Lib.hid rfl
 clear h
 generalize y.ag.length = n at *
 go_enter Tryz.func23, Tryz.ntmps23
 go_wp2_with fail
 refine (bcontains_any a.Ag n a.cg y.ag HR.out (by omega)).mono ?_
 rintro e w1 ⟨rfl, rfl⟩
 generalize y.ag.all id = v at *
 go_wp2
 go_ret
 refine ⟨ret_bool ?_, rfl⟩
 rw [HQ.out]
end
structure ClS (w : World) (X : Nat → Prop) (objs : List Obj) (w' : World) : Prop where
 b : Below w.heap.size w w'
 blk : ∀ j o, objs[j]? = some o → ¬ X j → w'.heap[w.heap.size + j]? = some o
 z : w.heap.size + objs.length ≤ w'.heap.size
theorem ClS.start (w : World) (X : Nat → Prop) (objs : List Obj) : ClS w X objs (allocs w objs) := ⟨allocs_below objs w, fun j o h _ => allocs_at objs w j o h, by rw [allocs_size]; exact Nat.le_refl _⟩
theorem ClS.below {w w1 w2 : World} {X : Nat → Prop} {objs : List Obj} (h : ClS w X objs w1) (hb : Below w1.heap.size w1 w2) : ClS w X objs w2 :=
 ⟨h.b.trans (hb.mono h.b.size), fun j o hj hx => block_below (h.blk j o hj hx) hb (block_lt (h.blk j o hj hx)), Nat.le_trans h.z hb.size⟩
theorem ClS.grown {w w1 w2 : World} {X : Nat → Prop} {objs : List Obj} (h : ClS w X objs w1) {j0 : Nat} (hx0 : X j0) (hg : w1.grownBy w2 (some (w.heap.size + j0))) : ClS w X objs w2 :=
 ⟨h.b.grown hg h.b.size (fun k hk => by injection hk with hk; omega), fun j o hj hx => block_grown (h.blk j o hj hx) hg (fun e => by injection e with e; exact hx ((show j = j0 by omega) ▸ hx0)), Nat.le_trans h.z hg.size⟩
theorem Rd.big {w : World} {B n c : Nat} {A : Option Addr} {l : List D8} (h : Rd w B 8 A n (flatD l)) (hn : 2 ≤ n) {cs : Array Value} {T : TypeId} {fz : Nat × Nat} (hc : w.heap[c]? = some (.cells cs T fz)) (hs : cs.size < 16) : A.map (·.block) ≠ some c := by
 obtain ⟨b, o, e, hb, hr⟩ := h.drange (k := 1) (by omega)
 rw [e]
 intro e2
 injection e2 with e2
 simp only at e2
 subst e2
 have h0 := hr 7 (.int .u8 (l.getD 1 dz8).x7) rfl
 rw [block_cell hc, Array.getElem?_eq_none (by omega)] at h0
 cases h0
def LkIn (l : Lk) (cL : Nat) (w : World) : Prop := ∃ A c, Rd w w.heap.size 8 A 2 (flatD l.ks) ∧ w.heap[cL]? = some (.cells #[.int .i64 l.kd, .int .u8 l.hs.x0, .int .u8 l.hs.x1, .int .u8 l.hs.x2, .int .u8 l.hs.x3, .int .u8 l.hs.x4, .int .u8 l.hs.x5, .int .u8 l.hs.x6, .int .u8 l.hs.x7, .slice A 2 c, .int .i64 l.st, .int .i64 l.cp, .int .i64 l.un] 40 (0, 0))
theorem rd_grownB {w w' : World} {B sz n : Nat} {A : Option Addr} {xs : List Value} {row : Option Nat} (h : Rd w B sz A n xs) (hg : w.grownBy w' row) (hB : B ≤ w.heap.size) (hr : A.map (·.block) ≠ row) : Rd w' B sz A n xs := by
 refine ⟨h.1, fun hn => ?_⟩
 obtain ⟨b, o, e, hb, hc⟩ := h.2 hn
 refine ⟨b, o, e, hb, fun j u hu => ?_⟩
 have := hg.block b (by omega) (by intro e2; apply hr; rw [e]; exact e2)
 rw [← hc j u hu]; simp only [World.cell?, this]
theorem free_len (p : Pu) (d : D8) (am : Int) : (p.free d am).2.held.length ≤ 1000000 := by
 have h := deed_len (p := p) (d := ⟨2, d, am, 0, 0⟩)
 have e : p.deed ⟨2, d, am, 0, 0⟩ = p.free d am := by unfold Pu.deed; simp
 rw [e] at h; exact h
section
variable {w : World} {B wb bk : Nat} {y : Wy} {a : WyA} {cW cH cK cN cL cO cX cU : Nat} {hop wh now : Int}
theorem ent_o1 : Ent 76 := fun _ _ => by kernel_rfl
set_option maxRecDepth 100000 in
theorem o1_any (h : WyAt w B wb bk y a) (hW : w.cell? ⟨cW, 0, none⟩ = some (.pointer (some ⟨wb, 0, none⟩))) (hH : w.cell? ⟨cH, 0, none⟩ = some (.int .i64 hop)) (hK : w.cell? ⟨cK, 0, none⟩ = some (.int .i64 wh)) :
  Calls Tryz.prog 76 #[.pointer (some ⟨cW, 0, none⟩), .pointer (some ⟨cH, 0, none⟩), .pointer (some ⟨cK, 0, none⟩)] w fun e w' => e = .returned (.bool (y.isSpot hop wh)) ∧ w = w' := by
 go_enter Tryz.func76, Tryz.ntmps76
 go_wp2_with (go_at_call 77; refine (isspot_any h hop wh).mono ?_; rintro e w1 ⟨rfl, rfl⟩)
 go_ret
 exact ⟨rfl, rfl⟩
theorem ent_o2 : Ent 78 := fun _ _ => by kernel_rfl
set_option maxRecDepth 100000 in
theorem o2_any (hN : w.cell? ⟨cN, 0, none⟩ = some (.int .i64 now)) :
  Calls Tryz.prog 78 #[.pointer (some ⟨cN, 0, none⟩)] w fun e w' => e = .returned (.bool (far now)) ∧ w = w' := by
 go_enter Tryz.func78, Tryz.ntmps78
 go_wp2_with (go_at_call 52; refine (height_any now w).mono ?_; rintro e w1 ⟨rfl, rfl⟩)
 go_ret
 exact ⟨rfl, rfl⟩
theorem ent_o3 : Ent 79 := fun _ _ => by kernel_rfl
set_option maxRecDepth 100000 in
set_option maxHeartbeats 2000000 in
theorem o3_any (h : WyAt w B wb bk y a) (hW : w.cell? ⟨cW, 0, none⟩ = some (.pointer (some ⟨wb, 0, none⟩))) (hH : w.cell? ⟨cH, 0, none⟩ = some (.int .i64 hop)) (hK : w.cell? ⟨cK, 0, none⟩ = some (.int .i64 wh)) (hs : spOk (hop, wh)) :
  Calls Tryz.prog 79 #[.pointer (some ⟨cW, 0, none⟩), .pointer (some ⟨cH, 0, none⟩), .pointer (some ⟨cK, 0, none⟩)] w fun e w' => e = .returned (.bool (decide (y.atI hop wh = 1))) ∧ Below w.heap.size w w' := by
 have hd := h.below (Below.refl w.heap.size w).drew
 obtain ⟨_, _, c15, _⟩ := hd.c
 have k0 := hd.look hop wh hs
 clear h hd
 generalize y.atI hop wh = v at *
 cases q0 : (v == 1) with
 | false =>
  have Hr : Hid (decide (v = 1) = false) := Lib.hid (decide_eq_false (fun e => by simp [e] at q0))
  go_enter Tryz.func79, Tryz.ntmps79
  go_wp2
  go_region
  all_goals
   go_wp2
   go_ret
   exact ⟨ret_bool (by rw [Hr.out]), (Below.refl _ _).drew⟩
 | true =>
  have Hr : Hid (decide (v = 1) = true) := Lib.hid (decide_eq_true (by simpa using q0))
  go_enter Tryz.func79, Tryz.ntmps79
  go_wp2
  go_region
  all_goals
   go_wp2
   go_ret
   exact ⟨ret_bool (by rw [Hr.out]), (Below.refl _ _).drew⟩
theorem ent_o4 : Ent 80 := fun _ _ => by kernel_rfl
set_option maxRecDepth 100000 in
set_option maxHeartbeats 4000000 in
theorem o4_any {w0 : World} (h0 : WyAt w0 B wb bk y a) (hok : y.Ok) (hb : Below w0.heap.size w0 w) (n : Nat) (hh : n + 1 < y.pl.ks.length) (hwh : wh = 0 ∨ wh = 1) (hW : w.cell? ⟨cW, 0, none⟩ = some (.pointer (some ⟨wb, 0, none⟩))) (hH : w.cell? ⟨cH, 0, none⟩ = some (.int .i64 n)) (hK : w.cell? ⟨cK, 0, none⟩ = some (.int .i64 wh))
  (cs : Array Value) (hcs : cs.size = 13) (hL : w.heap[cL]? = some (.cells cs 40 (0, 0))) (hcl : w0.heap.size ≤ cL) (hcw : cW < w.heap.size) (hch : cH < w.heap.size) (hck : cK < w.heap.size) (h1 : cW ≠ cL) (h2 : cH ≠ cL) (h3 : cK ≠ cL) :
  Calls Tryz.prog 80 #[.pointer (some ⟨cW, 0, none⟩), .pointer (some ⟨cH, 0, none⟩), .pointer (some ⟨cK, 0, none⟩), .pointer (some ⟨cL, 0, none⟩)] w fun e w' =>
   e = .returned (.int .i64 0) ∧ w.grownBy w' (some cL) ∧ LkIn (y.pl.lock n wh) cL w' := by
 have hw := h0.below hb
 have hwb0 := block_lt h0.box
 have hkl := h0.pl.at_.k.dlenD; have hln := h0.pl.at_.n.ilen; have hlf := h0.pl.at_.f.ilen
 have q1 : n + 1 < a.nk := by omega
 have q2 : n < a.nn := by have := hok.pl.ln; omega
 have q3 : n < a.nf := by have := hok.pl.lf; omega
 have hcl2 := block_lt hL
 have hbz := hb.size
 have hlen2 : (y.pl.lock n wh).ks.length = 2 := rfl
 have hS : ∀ w', Below w.heap.size w w' → (w'.cell? ⟨cW, 0, none⟩ = some (.pointer (some ⟨wb, 0, none⟩)) ∧ w'.cell? ⟨cH, 0, none⟩ = some (.int .i64 n) ∧ w'.cell? ⟨cK, 0, none⟩ = some (.int .i64 wh) ∧ w'.rangeAt wb 0 [.int .u8 y.pl.tb.x0, .int .u8 y.pl.tb.x1, .int .u8 y.pl.tb.x2, .int .u8 y.pl.tb.x3, .int .u8 y.pl.tb.x4, .int .u8 y.pl.tb.x5, .int .u8 y.pl.tb.x6, .int .u8 y.pl.tb.x7, .slice a.Ak a.nk a.ck, .int .i64 y.pl.s0, .int .i64 y.pl.s1, .slice a.An a.nn a.cn, .slice a.Af a.nf a.cf]) := fun w' hw' => ⟨(hw'.cell (p := ⟨cW, 0, none⟩) hcw).trans hW, (hw'.cell (p := ⟨cH, 0, none⟩) hch).trans hH, (hw'.cell (p := ⟨cK, 0, none⟩) hck).trans hK, range_front (hw.below hw').box 13 rfl⟩
 have H := Lib.hid hw; have HL := Lib.hid hL; have HS := Lib.hid hS; have HN := Lib.hid hlen2
 clear h0 hw hb hL hS hkl hln hlf hlen2 hW hH hK
 go_enter Tryz.func80, Tryz.ntmps80
 go_upto_region 1 with fail
 refine wp_region_held_drew (S := fun w' => w'.cell? ⟨cW, 0, none⟩ = some (.pointer (some ⟨wb, 0, none⟩)) ∧ w'.cell? ⟨cH, 0, none⟩ = some (.int .i64 n) ∧ w'.cell? ⟨cK, 0, none⟩ = some (.int .i64 wh) ∧ w'.rangeAt wb 0 [.int .u8 y.pl.tb.x0, .int .u8 y.pl.tb.x1, .int .u8 y.pl.tb.x2, .int .u8 y.pl.tb.x3, .int .u8 y.pl.tb.x4, .int .u8 y.pl.tb.x5, .int .u8 y.pl.tb.x6, .int .u8 y.pl.tb.x7, .slice a.Ak a.nk a.ck, .int .i64 y.pl.s0, .int .i64 y.pl.s1, .slice a.An a.nn a.cn, .slice a.Af a.nf a.cf]) (by kernel_rfl) (HS.out _ (Below.refl _ _).drew) (fun hHeld => ?_)
 have x1 : ∀ w' : World, (w'.cell? ⟨cW, 0, none⟩ = some (.pointer (some ⟨wb, 0, none⟩)) ∧ w'.cell? ⟨cH, 0, none⟩ = some (.int .i64 n) ∧ w'.cell? ⟨cK, 0, none⟩ = some (.int .i64 wh) ∧ w'.rangeAt wb 0 [.int .u8 y.pl.tb.x0, .int .u8 y.pl.tb.x1, .int .u8 y.pl.tb.x2, .int .u8 y.pl.tb.x3, .int .u8 y.pl.tb.x4, .int .u8 y.pl.tb.x5, .int .u8 y.pl.tb.x6, .int .u8 y.pl.tb.x7, .slice a.Ak a.nk a.ck, .int .i64 y.pl.s0, .int .i64 y.pl.s1, .slice a.An a.nn a.cn, .slice a.Af a.nf a.cf]) → w'.cell? ⟨cW, 0, none⟩ = some (.pointer (some ⟨wb, 0, none⟩)) := fun _ h => h.1
 have x2 : ∀ w' : World, (w'.cell? ⟨cW, 0, none⟩ = some (.pointer (some ⟨wb, 0, none⟩)) ∧ w'.cell? ⟨cH, 0, none⟩ = some (.int .i64 n) ∧ w'.cell? ⟨cK, 0, none⟩ = some (.int .i64 wh) ∧ w'.rangeAt wb 0 [.int .u8 y.pl.tb.x0, .int .u8 y.pl.tb.x1, .int .u8 y.pl.tb.x2, .int .u8 y.pl.tb.x3, .int .u8 y.pl.tb.x4, .int .u8 y.pl.tb.x5, .int .u8 y.pl.tb.x6, .int .u8 y.pl.tb.x7, .slice a.Ak a.nk a.ck, .int .i64 y.pl.s0, .int .i64 y.pl.s1, .slice a.An a.nn a.cn, .slice a.Af a.nf a.cf]) → w'.cell? ⟨cH, 0, none⟩ = some (.int .i64 n) := fun _ h => h.2.1
 have x3 : ∀ w' : World, (w'.cell? ⟨cW, 0, none⟩ = some (.pointer (some ⟨wb, 0, none⟩)) ∧ w'.cell? ⟨cH, 0, none⟩ = some (.int .i64 n) ∧ w'.cell? ⟨cK, 0, none⟩ = some (.int .i64 wh) ∧ w'.rangeAt wb 0 [.int .u8 y.pl.tb.x0, .int .u8 y.pl.tb.x1, .int .u8 y.pl.tb.x2, .int .u8 y.pl.tb.x3, .int .u8 y.pl.tb.x4, .int .u8 y.pl.tb.x5, .int .u8 y.pl.tb.x6, .int .u8 y.pl.tb.x7, .slice a.Ak a.nk a.ck, .int .i64 y.pl.s0, .int .i64 y.pl.s1, .slice a.An a.nn a.cn, .slice a.Af a.nf a.cf]) → w'.cell? ⟨cK, 0, none⟩ = some (.int .i64 wh) := fun _ h => h.2.2.1
 refine takP 0 6 ?_ rfl (by kernel_rfl) (fun _ _ _ => id) ?hy (by assumption) ?_
 case hy => intro w' h; have hx := x1 w' h; clear h; go_simp; try with_reducible rfl
 simp only [Act.put, sT]
 refine takP 1 7 ?_ rfl (by kernel_rfl) (fun _ _ _ => id) ?hy (by assumption) ?_
 case hy => intro w' h; clear h; go_simp; try with_reducible rfl
 simp only [Act.put, sT]
 refine takP 2 8 ?_ rfl (by kernel_rfl) (fun _ _ _ => id) ?hy (by assumption) ?_
 case hy => intro w' h; clear h; go_simp; try with_reducible rfl
 simp only [Act.put, sT]
 refine takeK 3 (some 9) (v := .agg ([.int .u8 y.pl.tb.x0, .int .u8 y.pl.tb.x1, .int .u8 y.pl.tb.x2, .int .u8 y.pl.tb.x3, .int .u8 y.pl.tb.x4, .int .u8 y.pl.tb.x5, .int .u8 y.pl.tb.x6, .int .u8 y.pl.tb.x7, .slice a.Ak a.nk a.ck, .int .i64 y.pl.s0, .int .i64 y.pl.s1, .slice a.An a.nn a.cn, .slice a.Af a.nf a.cf] : List Value).toArray) rfl (by kernel_rfl) (by kernel_rfl) (fun _ _ _ => id) (yieldsIf_load_mid (by kernel_rfl) 32 _ (by rfl) (wb) (0) (by rfl) [.int .u8 y.pl.tb.x0, .int .u8 y.pl.tb.x1, .int .u8 y.pl.tb.x2, .int .u8 y.pl.tb.x3, .int .u8 y.pl.tb.x4, .int .u8 y.pl.tb.x5, .int .u8 y.pl.tb.x6, .int .u8 y.pl.tb.x7, .slice a.Ak a.nk a.ck, .int .i64 y.pl.s0, .int .i64 y.pl.s1, .slice a.An a.nn a.cn, .slice a.Af a.nf a.cf] _ (fun w' hw' => hw'.2.2.2) Tryz.underlying32 rfl (by kernel_rfl)) (by assumption) ?_
 simp only [Act.put, sT]
 refine takP 4 10 ?_ rfl (by kernel_rfl) (fun _ _ _ => id) ?hy (by assumption) ?_
 case hy => intro w' h; have hx := x2 w' h; clear h; go_simp; try with_reducible rfl
 simp only [Act.put, sT]
 refine takP 5 11 ?_ rfl (by kernel_rfl) (fun _ _ _ => id) ?hy (by assumption) ?_
 case hy => intro w' h; have hx := x3 w' h; clear h; go_simp; try with_reducible rfl
 simp only [Act.put, sT]
 refine wpAnyH_ready (rs := [6]) (by kernel_rfl) (by simp) ?_
 refine AllReadyH.cons rfl (fun K hK => ?_) AllReadyH.nil
 rw [if_pos (by kernel_rfl)]
 try simp only [List.getElem_toArray, List.getElem_cons_zero, List.getElem_cons_succ]
 go_simp
 go_at_call 16
 refine (pllock_ok y.pl _ _ _ _ _ _ _ _ _ n wh w.drew (H.out.below (Below.refl _ _).drew).pl.at_ q1 q2 q3 hwh).mono ?_
 rintro e w1 ⟨A1, n1, c1, rfl, hr1, hn1, hb1⟩
 have HB1 := Lib.hid ((Below.refl w.heap.size w).drew.trans hb1)
 have hn2 : n1 = 2 := by have := hr1.dlenD; have := HN.out; omega
 subst hn2
 have HR1 := Lib.hid hr1
 clear hr1 hb1
 generalize hl9 : y.pl.lock n wh = l at *
 have Hl9 := Lib.hid hl9
 clear hl9
 refine hK.out _ _ (HS.out _ HB1.out) (fun _ => ?_)
 clear hK K
 try simp only [Act.put, sT]
 refine takP 7 5 ?_ rfl (by kernel_rfl) (fun _ _ _ => id) ?hy (by assumption) ?_
 case hy => intro w' h; clear h; go_simp; try with_reducible rfl
 simp only [Act.put, sT]
 refine takP 8 13 ?_ rfl (by kernel_rfl) (fun _ _ _ => id) ?hy (by assumption) ?_
 case hy => intro w' h; clear h; go_simp; try with_reducible rfl
 simp only [Act.put, sT]
 refine takP 9 14 ?_ rfl (by kernel_rfl) (fun _ _ _ => id) ?hy (by assumption) ?_
 case hy => intro w' h; clear h; go_simp; try with_reducible rfl
 simp only [Act.put, sT]
 refine wpAnyH_ready (rs := [10]) (by kernel_rfl) (by simp) ?_
 refine AllReadyH.cons rfl (fun K hK => ?_) AllReadyH.nil
 rw [if_pos (by kernel_rfl)]
 try simp only [List.getElem_toArray, List.getElem_cons_zero, List.getElem_cons_succ]
 have HL1 := Lib.hid (block_below HL.out HB1.out hcl2)
 refine wp_store_mid 40 _ _ (by rfl) (cL) (0) #[.int .i64 l.kd, .int .u8 l.hs.x0, .int .u8 l.hs.x1, .int .u8 l.hs.x2, .int .u8 l.hs.x3, .int .u8 l.hs.x4, .int .u8 l.hs.x5, .int .u8 l.hs.x6, .int .u8 l.hs.x7, .slice A1 2 c1, .int .i64 l.st, .int .i64 l.cp, .int .i64 l.un] (by rfl) (by rfl) (there_mid HL1.out (by simp [hcs])) (by kernel_rfl) (by kernel_rfl) ?_
 obtain ⟨s1', s2'⟩ := set_all HL1.out [.int .i64 l.kd, .int .u8 l.hs.x0, .int .u8 l.hs.x1, .int .u8 l.hs.x2, .int .u8 l.hs.x3, .int .u8 l.hs.x4, .int .u8 l.hs.x5, .int .u8 l.hs.x6, .int .u8 l.hs.x7, .slice A1 2 c1, .int .i64 l.st, .int .i64 l.cp, .int .i64 l.un] (by simp [hcs])
 have HG : Hid (w.grownBy (w1.setCells cL 0 [.int .i64 l.kd, .int .u8 l.hs.x0, .int .u8 l.hs.x1, .int .u8 l.hs.x2, .int .u8 l.hs.x3, .int .u8 l.hs.x4, .int .u8 l.hs.x5, .int .u8 l.hs.x6, .int .u8 l.hs.x7, .slice A1 2 c1, .int .i64 l.st, .int .i64 l.cp, .int .i64 l.un]) (some cL)) := Lib.hid (grown_below HB1.out s2')
 have HS1 := Lib.hid s1'
 have hs9 := HS.out _ HB1.out
 have hz1 := HB1.out.size
 have hne : A1.map (·.block) ≠ some cL := HR1.out.big (Nat.le_refl _) HL1.out (by omega)
 have HR2 : Hid (Rd (w1.setCells cL 0 [.int .i64 l.kd, .int .u8 l.hs.x0, .int .u8 l.hs.x1, .int .u8 l.hs.x2, .int .u8 l.hs.x3, .int .u8 l.hs.x4, .int .u8 l.hs.x5, .int .u8 l.hs.x6, .int .u8 l.hs.x7, .slice A1 2 c1, .int .i64 l.st, .int .i64 l.cp, .int .i64 l.un]) (w1.setCells cL 0 [.int .i64 l.kd, .int .u8 l.hs.x0, .int .u8 l.hs.x1, .int .u8 l.hs.x2, .int .u8 l.hs.x3, .int .u8 l.hs.x4, .int .u8 l.hs.x5, .int .u8 l.hs.x6, .int .u8 l.hs.x7, .slice A1 2 c1, .int .i64 l.st, .int .i64 l.cp, .int .i64 l.un]).heap.size 8 A1 2 (flatD l.ks)) := Lib.hid ((rd_grownB HR1.out s2' (Nat.le_refl _) hne).more s2'.size)
 have HSz : Hid (∃ q, q = w1.setCells cL 0 [.int .i64 l.kd, .int .u8 l.hs.x0, .int .u8 l.hs.x1, .int .u8 l.hs.x2, .int .u8 l.hs.x3, .int .u8 l.hs.x4, .int .u8 l.hs.x5, .int .u8 l.hs.x6, .int .u8 l.hs.x7, .slice A1 2 c1, .int .i64 l.st, .int .i64 l.cp, .int .i64 l.un] ∧ q.cell? ⟨cW, 0, none⟩ = some (.pointer (some ⟨wb, 0, none⟩)) ∧ q.cell? ⟨cH, 0, none⟩ = some (.int .i64 n) ∧ q.cell? ⟨cK, 0, none⟩ = some (.int .i64 wh) ∧ q.rangeAt wb 0 [.int .u8 y.pl.tb.x0, .int .u8 y.pl.tb.x1, .int .u8 y.pl.tb.x2, .int .u8 y.pl.tb.x3, .int .u8 y.pl.tb.x4, .int .u8 y.pl.tb.x5, .int .u8 y.pl.tb.x6, .int .u8 y.pl.tb.x7, .slice a.Ak a.nk a.ck, .int .i64 y.pl.s0, .int .i64 y.pl.s1, .slice a.An a.nn a.cn, .slice a.Af a.nf a.cf]) :=
  Lib.hid ⟨_, rfl, s2'.cell hs9.1 (by simpa using h1), s2'.cell hs9.2.1 (by simpa using h2), s2'.cell hs9.2.2.1 (by simpa using h3), range_grown hs9.2.2.2 s2' (by omega) (by simp; omega)⟩
 clear s1' s2' hs9
 refine hK.out _ _ (by obtain ⟨q, rfl, h⟩ := HSz.out; exact h) (fun _ => ?_)
 clear hK K
 simp only [Act.put]
 refine takP 11 4 ?_ rfl (by kernel_rfl) (fun _ _ _ => id) ?hy (by assumption) ?_
 case hy => intro w' h; clear h; go_simp; try with_reducible rfl
 simp only [Act.put, sT]
 refine wpAnyH_done (by kernel_rfl) ?_ _
 go_wp2
 go_ret
 rw [Hl9.out]
 exact ⟨rfl, HG.out, A1, c1, HR2.out, HS1.out⟩
end
theorem ent_o5 : Ent 81 := fun _ _ => by kernel_rfl
theorem ent_o6 : Ent 83 := fun _ _ => by kernel_rfl
section
variable {w : World} {B wb bk : Nat} {y : Wy} {a : WyA} {cW cH cK cN cL cO cX cU : Nat} {hop wh now : Int}
set_option maxRecDepth 100000 in
set_option maxHeartbeats 4000000 in
theorem o5_any {w0 : World} (h0 : WyAt w0 B wb bk y a) (hb : Below w0.heap.size w0 w) {Bb mb : Nat} {L : List En} (hbk : BookAt w Bb bk mb L) (hlen : L.length < 60000) (l : Lk) (hl : l.good) (hko : ∀ x ∈ l.ks, x.ok) (hh : l.hs.ok) (hlk : LkIn l cL w)
  (hW : w.cell? ⟨cW, 0, none⟩ = some (.pointer (some ⟨wb, 0, none⟩))) (hN : w.cell? ⟨cN, 0, none⟩ = some (.int .i64 now)) (o : Ou) (Ap : Option Addr) (np cp : Nat) (As : Option Addr) (ns cs : Nat) (hU : w.heap[cU]? = some (.cells #[.slice Ap np cp, .slice As ns cs] 59 (0, 0))) (ho : o.At Ap np As ns w)
  (v0 : Int) (hO : w.heap[cO]? = some (.cells #[.int .i64 v0] 3 (0, 0))) (hco : w0.heap.size ≤ cO) (hcw : cW < w.heap.size) (hcn : cN < w.heap.size) (h1 : cW ≠ cO) (h2 : cN ≠ cO) :
  Calls Tryz.prog 81 #[.pointer (some ⟨cL, 0, none⟩), .pointer (some ⟨cW, 0, none⟩), .pointer (some ⟨cN, 0, none⟩), .pointer (some ⟨cU, 0, none⟩), .pointer (some ⟨cO, 0, none⟩)] w fun e w' =>
   e = .returned (.int .i64 (l.open_ L now o).2) ∧ w.grownBy w' (some cO) ∧ w'.heap[cO]? = some (.cells #[.int .i64 (l.open_ L now o).1] 3 (0, 0)) := by
 have hw := h0.below hb
 have hwb0 := block_lt h0.box
 obtain ⟨c13, _⟩ := hw.c
 obtain ⟨A, c, hlr, hlb⟩ := hlk
 have hco2 := block_lt hO
 have hcu := block_lt hU
 have hcl := block_lt hlb
 have hbz := hb.size
 have nLO : cL ≠ cO := fun e => by rw [e, hO] at hlb; cases hlb
 have nUO : cU ≠ cO := fun e => by rw [e, hO] at hU; cases hU
 have hS : ∀ w', Below w.heap.size w w' → (w'.cell? ⟨cW, 0, none⟩ = some (.pointer (some ⟨wb, 0, none⟩)) ∧ w'.cell? ⟨cN, 0, none⟩ = some (.int .i64 now) ∧ w'.cell? ⟨cU, 0, none⟩ = some (.slice Ap np cp) ∧ w'.cell? ⟨cU, 1, none⟩ = some (.slice As ns cs) ∧ w'.cell? ⟨wb, 13, none⟩ = some (.iface 51 (.pointer (some ⟨bk, 0, none⟩))) ∧ w'.rangeAt cL 0 [.int .i64 l.kd, .int .u8 l.hs.x0, .int .u8 l.hs.x1, .int .u8 l.hs.x2, .int .u8 l.hs.x3, .int .u8 l.hs.x4, .int .u8 l.hs.x5, .int .u8 l.hs.x6, .int .u8 l.hs.x7, .slice A 2 c, .int .i64 l.st, .int .i64 l.cp, .int .i64 l.un]) := fun w' hw' => ⟨(hw'.cell (p := ⟨cW, 0, none⟩) hcw).trans hW, (hw'.cell (p := ⟨cN, 0, none⟩) hcn).trans hN, by have := block_cell (block_below hU hw' hcu) 0; simpa using this, by have := block_cell (block_below hU hw' hcu) 1; simpa using this, (hw'.cell (p := ⟨wb, 13, none⟩) (show wb < w.heap.size by omega)).trans c13, range_all (block_below hlb hw' hcl)⟩
 have HO := Lib.hid hO; have HS := Lib.hid hS; have HBk := Lib.hid hbk; have HL := Lib.hid hl; have HKo := Lib.hid hko; have HH := Lib.hid hh; have HR := Lib.hid hlr; have HOu := Lib.hid ho
 clear h0 hw hb hO hS hW hN hU c13 hlb hlr hbk hl hko hh ho
 go_enter Tryz.func81, Tryz.ntmps81
 go_upto_region 1 with fail
 refine wp_region_held_drew (S := fun w' => w'.cell? ⟨cW, 0, none⟩ = some (.pointer (some ⟨wb, 0, none⟩)) ∧ w'.cell? ⟨cN, 0, none⟩ = some (.int .i64 now) ∧ w'.cell? ⟨cU, 0, none⟩ = some (.slice Ap np cp) ∧ w'.cell? ⟨cU, 1, none⟩ = some (.slice As ns cs) ∧ w'.cell? ⟨wb, 13, none⟩ = some (.iface 51 (.pointer (some ⟨bk, 0, none⟩))) ∧ w'.rangeAt cL 0 [.int .i64 l.kd, .int .u8 l.hs.x0, .int .u8 l.hs.x1, .int .u8 l.hs.x2, .int .u8 l.hs.x3, .int .u8 l.hs.x4, .int .u8 l.hs.x5, .int .u8 l.hs.x6, .int .u8 l.hs.x7, .slice A 2 c, .int .i64 l.st, .int .i64 l.cp, .int .i64 l.un]) (by kernel_rfl) (HS.out _ (Below.refl _ _).drew) (fun hHeld => ?_)
 have x1 : ∀ w' : World, (w'.cell? ⟨cW, 0, none⟩ = some (.pointer (some ⟨wb, 0, none⟩)) ∧ w'.cell? ⟨cN, 0, none⟩ = some (.int .i64 now) ∧ w'.cell? ⟨cU, 0, none⟩ = some (.slice Ap np cp) ∧ w'.cell? ⟨cU, 1, none⟩ = some (.slice As ns cs) ∧ w'.cell? ⟨wb, 13, none⟩ = some (.iface 51 (.pointer (some ⟨bk, 0, none⟩))) ∧ w'.rangeAt cL 0 [.int .i64 l.kd, .int .u8 l.hs.x0, .int .u8 l.hs.x1, .int .u8 l.hs.x2, .int .u8 l.hs.x3, .int .u8 l.hs.x4, .int .u8 l.hs.x5, .int .u8 l.hs.x6, .int .u8 l.hs.x7, .slice A 2 c, .int .i64 l.st, .int .i64 l.cp, .int .i64 l.un]) → w'.cell? ⟨cW, 0, none⟩ = some (.pointer (some ⟨wb, 0, none⟩)) := fun _ h => h.1
 have x2 : ∀ w' : World, (w'.cell? ⟨cW, 0, none⟩ = some (.pointer (some ⟨wb, 0, none⟩)) ∧ w'.cell? ⟨cN, 0, none⟩ = some (.int .i64 now) ∧ w'.cell? ⟨cU, 0, none⟩ = some (.slice Ap np cp) ∧ w'.cell? ⟨cU, 1, none⟩ = some (.slice As ns cs) ∧ w'.cell? ⟨wb, 13, none⟩ = some (.iface 51 (.pointer (some ⟨bk, 0, none⟩))) ∧ w'.rangeAt cL 0 [.int .i64 l.kd, .int .u8 l.hs.x0, .int .u8 l.hs.x1, .int .u8 l.hs.x2, .int .u8 l.hs.x3, .int .u8 l.hs.x4, .int .u8 l.hs.x5, .int .u8 l.hs.x6, .int .u8 l.hs.x7, .slice A 2 c, .int .i64 l.st, .int .i64 l.cp, .int .i64 l.un]) → w'.cell? ⟨cN, 0, none⟩ = some (.int .i64 now) := fun _ h => h.2.1
 have x3 : ∀ w' : World, (w'.cell? ⟨cW, 0, none⟩ = some (.pointer (some ⟨wb, 0, none⟩)) ∧ w'.cell? ⟨cN, 0, none⟩ = some (.int .i64 now) ∧ w'.cell? ⟨cU, 0, none⟩ = some (.slice Ap np cp) ∧ w'.cell? ⟨cU, 1, none⟩ = some (.slice As ns cs) ∧ w'.cell? ⟨wb, 13, none⟩ = some (.iface 51 (.pointer (some ⟨bk, 0, none⟩))) ∧ w'.rangeAt cL 0 [.int .i64 l.kd, .int .u8 l.hs.x0, .int .u8 l.hs.x1, .int .u8 l.hs.x2, .int .u8 l.hs.x3, .int .u8 l.hs.x4, .int .u8 l.hs.x5, .int .u8 l.hs.x6, .int .u8 l.hs.x7, .slice A 2 c, .int .i64 l.st, .int .i64 l.cp, .int .i64 l.un]) → w'.cell? ⟨cU, 0, none⟩ = some (.slice Ap np cp) := fun _ h => h.2.2.1
 have x4 : ∀ w' : World, (w'.cell? ⟨cW, 0, none⟩ = some (.pointer (some ⟨wb, 0, none⟩)) ∧ w'.cell? ⟨cN, 0, none⟩ = some (.int .i64 now) ∧ w'.cell? ⟨cU, 0, none⟩ = some (.slice Ap np cp) ∧ w'.cell? ⟨cU, 1, none⟩ = some (.slice As ns cs) ∧ w'.cell? ⟨wb, 13, none⟩ = some (.iface 51 (.pointer (some ⟨bk, 0, none⟩))) ∧ w'.rangeAt cL 0 [.int .i64 l.kd, .int .u8 l.hs.x0, .int .u8 l.hs.x1, .int .u8 l.hs.x2, .int .u8 l.hs.x3, .int .u8 l.hs.x4, .int .u8 l.hs.x5, .int .u8 l.hs.x6, .int .u8 l.hs.x7, .slice A 2 c, .int .i64 l.st, .int .i64 l.cp, .int .i64 l.un]) → w'.cell? ⟨cU, 1, none⟩ = some (.slice As ns cs) := fun _ h => h.2.2.2.1
 have x5 : ∀ w' : World, (w'.cell? ⟨cW, 0, none⟩ = some (.pointer (some ⟨wb, 0, none⟩)) ∧ w'.cell? ⟨cN, 0, none⟩ = some (.int .i64 now) ∧ w'.cell? ⟨cU, 0, none⟩ = some (.slice Ap np cp) ∧ w'.cell? ⟨cU, 1, none⟩ = some (.slice As ns cs) ∧ w'.cell? ⟨wb, 13, none⟩ = some (.iface 51 (.pointer (some ⟨bk, 0, none⟩))) ∧ w'.rangeAt cL 0 [.int .i64 l.kd, .int .u8 l.hs.x0, .int .u8 l.hs.x1, .int .u8 l.hs.x2, .int .u8 l.hs.x3, .int .u8 l.hs.x4, .int .u8 l.hs.x5, .int .u8 l.hs.x6, .int .u8 l.hs.x7, .slice A 2 c, .int .i64 l.st, .int .i64 l.cp, .int .i64 l.un]) → w'.cell? ⟨wb, 13, none⟩ = some (.iface 51 (.pointer (some ⟨bk, 0, none⟩))) := fun _ h => h.2.2.2.2.1
 refine takeK 0 (some 7) (v := .agg ([.int .i64 l.kd, .int .u8 l.hs.x0, .int .u8 l.hs.x1, .int .u8 l.hs.x2, .int .u8 l.hs.x3, .int .u8 l.hs.x4, .int .u8 l.hs.x5, .int .u8 l.hs.x6, .int .u8 l.hs.x7, .slice A 2 c, .int .i64 l.st, .int .i64 l.cp, .int .i64 l.un] : List Value).toArray) rfl (by kernel_rfl) (by kernel_rfl) (fun _ _ _ => id) (yieldsIf_load_mid (by kernel_rfl) 40 _ (by rfl) (cL) (0) (by rfl) [.int .i64 l.kd, .int .u8 l.hs.x0, .int .u8 l.hs.x1, .int .u8 l.hs.x2, .int .u8 l.hs.x3, .int .u8 l.hs.x4, .int .u8 l.hs.x5, .int .u8 l.hs.x6, .int .u8 l.hs.x7, .slice A 2 c, .int .i64 l.st, .int .i64 l.cp, .int .i64 l.un] _ (fun w' hw' => hw'.2.2.2.2.2) Tryz.underlying40 rfl (by kernel_rfl)) (by assumption) ?_
 simp only [Act.put, sT]
 refine takP 1 8 ?_ rfl (by kernel_rfl) (fun _ _ _ => id) ?hy (by assumption) ?_
 case hy => intro w' h; have hx := x1 w' h; clear h; go_simp; try with_reducible rfl
 simp only [Act.put, sT]
 refine takP 2 9 ?_ rfl (by kernel_rfl) (fun _ _ _ => id) ?hy (by assumption) ?_
 case hy => intro w' h; clear h; go_simp; try with_reducible rfl
 simp only [Act.put, sT]
 refine takP 3 10 ?_ rfl (by kernel_rfl) (fun _ _ _ => id) ?hy (by assumption) ?_
 case hy => intro w' h; clear h; go_simp; try with_reducible rfl
 simp only [Act.put, sT]
 refine takP 4 11 ?_ rfl (by kernel_rfl) (fun _ _ _ => id) ?hy (by assumption) ?_
 case hy => intro w' h; have hx := x5 w' h; clear h; go_simp; try with_reducible rfl
 simp only [Act.put, sT]
 refine takP 5 12 ?_ rfl (by kernel_rfl) (fun _ _ _ => id) ?hy (by assumption) ?_
 case hy => intro w' h; have hx := x2 w' h; clear h; go_simp; try with_reducible rfl
 simp only [Act.put, sT]
 refine takP 6 13 ?_ rfl (by kernel_rfl) (fun _ _ _ => id) ?hy (by assumption) ?_
 case hy => intro w' h; clear h; go_simp; try with_reducible rfl
 simp only [Act.put, sT]
 refine takP 7 14 ?_ rfl (by kernel_rfl) (fun _ _ _ => id) ?hy (by assumption) ?_
 case hy => intro w' h; have hx := x3 w' h; clear h; go_simp; try with_reducible rfl
 simp only [Act.put, sT]
 refine takP 8 15 ?_ rfl (by kernel_rfl) (fun _ _ _ => id) ?hy (by assumption) ?_
 case hy => intro w' h; clear h; go_simp; try with_reducible rfl
 simp only [Act.put, sT]
 refine takP 9 16 ?_ rfl (by kernel_rfl) (fun _ _ _ => id) ?hy (by assumption) ?_
 case hy => intro w' h; have hx := x4 w' h; clear h; go_simp; try with_reducible rfl
 simp only [Act.put, sT]
 refine takP 10 17 ?_ rfl (by kernel_rfl) (fun _ _ _ => id) ?hy (by assumption) ?_
 case hy => intro w' h; clear h; go_simp; try with_reducible rfl
 simp only [Act.put, sT]
 refine wpAnyH_ready (rs := [11]) (by kernel_rfl) (by simp) ?_
 refine AllReadyH.cons rfl (fun K hK => ?_) AllReadyH.nil
 rw [if_pos (by kernel_rfl)]
 try simp only [List.getElem_toArray, List.getElem_cons_zero, List.getElem_cons_succ]
 go_simp
 go_at_call 82
 refine (lkopen_any Bb bk mb L l A c now o Ap np cp As ns cs w.drew (HBk.out.below (Below.refl _ _).drew) hlen HL.out HR.out.drew HKo.out HH.out (HOu.out.p.drew) (HOu.out.s.below (Below.refl _ _).drew (Nat.le_refl _)) HOu.out.so HOu.out.bp).mono ?_
 rintro e w1 ⟨rfl, hb1⟩
 have HB1 := Lib.hid ((Below.refl w.heap.size w).drew.trans hb1)
 clear hb1
 generalize hx9 : l.open_ L now o = x at *
 have Hx9 := Lib.hid hx9
 clear hx9
 refine hK.out _ _ (HS.out _ HB1.out) (fun _ => ?_)
 clear hK K
 try simp only [Act.put, sT]
 refine takP 12 6 ?_ rfl (by kernel_rfl) (fun _ _ _ => id) ?hy (by assumption) ?_
 case hy => intro w' h; clear h; go_simp; try with_reducible rfl
 simp only [Act.put, sT]
 refine takP 13 19 ?_ rfl (by kernel_rfl) (fun _ _ _ => id) ?hy (by assumption) ?_
 case hy => intro w' h; clear h; go_simp; try with_reducible rfl
 simp only [Act.put, sT]
 refine takP 14 20 ?_ rfl (by kernel_rfl) (fun _ _ _ => id) ?hy (by assumption) ?_
 case hy => intro w' h; clear h; go_simp; try with_reducible rfl
 simp only [Act.put, sT]
 have HO1 := Lib.hid (block_below HO.out HB1.out hco2)
 have hcell := block_cell HO1.out 0
 have hfree := block_free HO1.out 0
 simp at hcell
 have h9 := Joins.block_setCell (i := 0) HO1.out (.int .i64 x.1)
 have g9 := pgrown_set (w := w1) cO 0 (.int .i64 x.1)
 simp at h9
 have HG : Hid (w.grownBy (w1.setCell ⟨cO, 0, none⟩ (.int .i64 x.1)) (some cO)) := Lib.hid (grown_below HB1.out g9)
 have HS1 := Lib.hid h9
 have hs9 := HS.out _ HB1.out
 have hz1 := HB1.out.size
 have HSz : Hid (∃ q, q = w1.setCell ⟨cO, 0, none⟩ (.int .i64 x.1) ∧ q.cell? ⟨cW, 0, none⟩ = some (.pointer (some ⟨wb, 0, none⟩)) ∧ q.cell? ⟨cN, 0, none⟩ = some (.int .i64 now) ∧ q.cell? ⟨cU, 0, none⟩ = some (.slice Ap np cp) ∧ q.cell? ⟨cU, 1, none⟩ = some (.slice As ns cs) ∧ q.cell? ⟨wb, 13, none⟩ = some (.iface 51 (.pointer (some ⟨bk, 0, none⟩))) ∧ q.rangeAt cL 0 [.int .i64 l.kd, .int .u8 l.hs.x0, .int .u8 l.hs.x1, .int .u8 l.hs.x2, .int .u8 l.hs.x3, .int .u8 l.hs.x4, .int .u8 l.hs.x5, .int .u8 l.hs.x6, .int .u8 l.hs.x7, .slice A 2 c, .int .i64 l.st, .int .i64 l.cp, .int .i64 l.un]) :=
  Lib.hid ⟨_, rfl, g9.cell hs9.1 (by simpa using h1), g9.cell hs9.2.1 (by simpa using h2), g9.cell hs9.2.2.1 (by simpa using nUO), g9.cell hs9.2.2.2.1 (by simpa using nUO), g9.cell hs9.2.2.2.2.1 (by simp; omega), range_grown hs9.2.2.2.2.2 g9 (by omega) (by simpa using nLO)⟩
 clear h9 g9 hs9
 refine wpAnyH_ready (rs := [15]) (by kernel_rfl) (by simp) ?_
 refine AllReadyH.cons rfl (fun K hK => ?_) AllReadyH.nil
 rw [if_pos (by kernel_rfl)]
 try simp only [List.getElem_toArray, List.getElem_cons_zero, List.getElem_cons_succ]
 go_simp
 refine hK.out _ _ (by obtain ⟨q, rfl, h⟩ := HSz.out; exact h) (fun _ => ?_)
 clear hK K hcell hfree
 try simp only [Act.put]
 refine takP 16 5 ?_ rfl (by kernel_rfl) (fun _ _ _ => id) ?hy (by assumption) ?_
 case hy => intro w' h; clear h; go_simp; try with_reducible rfl
 simp only [Act.put, sT]
 refine wpAnyH_done (by kernel_rfl) ?_ _
 go_wp2
 go_ret
 rw [Hx9.out]
 exact ⟨rfl, HG.out, HS1.out⟩
set_option maxRecDepth 100000 in
set_option maxHeartbeats 4000000 in
theorem o6_any {w0 : World} (h0 : WyAt w0 B wb bk y a) (hb : Below w0.heap.size w0 w) (n : Nat) (hl : n < a.l.length) (l : Lk) (hlk : LkIn l cL w) (hf : l.fit) (v : Int)
  (hW : w.cell? ⟨cW, 0, none⟩ = some (.pointer (some ⟨wb, 0, none⟩))) (hH : w.cell? ⟨cH, 0, none⟩ = some (.int .i64 n)) (hV : w.cell? ⟨cO, 0, none⟩ = some (.int .i64 v)) (cs : Array Value) (hcs : cs.size = 12) (hX : w.heap[cX]? = some (.cells cs 85 (0, 0)))
  (hcx : w0.heap.size ≤ cX) (hcw : cW < w.heap.size) (hch : cH < w.heap.size) (hco : cO < w.heap.size) (h1 : cW ≠ cX) (h2 : cH ≠ cX) (h3 : cO ≠ cX) :
  Calls Tryz.prog 83 #[.pointer (some ⟨cW, 0, none⟩), .pointer (some ⟨cH, 0, none⟩), .pointer (some ⟨cL, 0, none⟩), .pointer (some ⟨cO, 0, none⟩), .pointer (some ⟨cX, 0, none⟩)] w fun e w' =>
   ∃ x : PuA, x.p = ((y.pu.getD n default).free l.name v).2 ∧ e = .returned (.int .i64 ((y.pu.getD n default).free l.name v).1) ∧ x.Own w.heap.size w' ∧ w'.heap[cX]? = some (.cells x.cells.toArray 85 (0, 0)) ∧ w.grownBy w' (some cX) := by
 have hw := h0.below hb
 have hwb0 := block_lt h0.box
 obtain ⟨A, c, hlr, hlb⟩ := hlk
 obtain ⟨g, hA, hBg, hg0, _⟩ := h0.prange hl
 obtain ⟨g', hA', _, hgw, hr⟩ := hw.prange hl
 rw [hA] at hA'; injection hA' with hA'; injection hA' with hA'; subst hA'
 obtain ⟨hxp, hxo⟩ := hw.pget hl
 obtain ⟨_, c14, _⟩ := hw.c
 rw [hA] at c14
 have hbz := hb.size
 have hcx2 := block_lt hX
 have hcl := block_lt hlb
 have nLX : cL ≠ cX := fun e => by
  rw [e, hX] at hlb; injection hlb with hlb; injection hlb with _ hlb; exact absurd hlb (by decide)
 rw [← hxp]
 have hli : (n : Int) < (a.l.length : Int) := by omega
 have HR := Lib.hid hr; have HX := Lib.hid hX; have HO := Lib.hid hxo; have HLR := Lib.hid hlr; have HFt := Lib.hid hf
 have HC14 := Lib.hid c14; have HCW := Lib.hid hW; have HCH := Lib.hid hH; have HCV := Lib.hid hV; have HLB := Lib.hid hlb
 clear h0 hw hr hxp hxo c14 hX hb hA hlr hlb hf hW hH hV
 generalize a.l.getD n default = x at *
 generalize a.l.length = nl at *
 generalize a.cp = cl at *
 have hS : ∀ w', Below w.heap.size w w' → (w'.cell? ⟨cW, 0, none⟩ = some (.pointer (some ⟨wb, 0, none⟩)) ∧ w'.cell? ⟨cH, 0, none⟩ = some (.int .i64 n) ∧ w'.cell? ⟨cO, 0, none⟩ = some (.int .i64 v) ∧ w'.cell? ⟨wb, 14, none⟩ = some (.slice (some ⟨g, 0, none⟩) nl cl) ∧ w'.rangeAt g (n * 12) x.cells ∧ w'.rangeAt cL 0 [.int .i64 l.kd, .int .u8 l.hs.x0, .int .u8 l.hs.x1, .int .u8 l.hs.x2, .int .u8 l.hs.x3, .int .u8 l.hs.x4, .int .u8 l.hs.x5, .int .u8 l.hs.x6, .int .u8 l.hs.x7, .slice A 2 c, .int .i64 l.st, .int .i64 l.cp, .int .i64 l.un]) := fun w' hw' => ⟨(hw'.cell (p := ⟨cW, 0, none⟩) hcw).trans HCW.out, (hw'.cell (p := ⟨cH, 0, none⟩) hch).trans HCH.out, (hw'.cell (p := ⟨cO, 0, none⟩) hco).trans HCV.out, (hw'.cell (p := ⟨wb, 14, none⟩) (show wb < w.heap.size by omega)).trans HC14.out, range_below HR.out hw' hgw, range_all (block_below HLB.out hw' hcl)⟩
 have HS := Lib.hid hS
 clear hS
 go_enter Tryz.func83, Tryz.ntmps83
 go_upto_region 1 with fail
 refine wp_region_held_drew (S := fun w' => w'.cell? ⟨cW, 0, none⟩ = some (.pointer (some ⟨wb, 0, none⟩)) ∧ w'.cell? ⟨cH, 0, none⟩ = some (.int .i64 n) ∧ w'.cell? ⟨cO, 0, none⟩ = some (.int .i64 v) ∧ w'.cell? ⟨wb, 14, none⟩ = some (.slice (some ⟨g, 0, none⟩) nl cl) ∧ w'.rangeAt g (n * 12) x.cells ∧ w'.rangeAt cL 0 [.int .i64 l.kd, .int .u8 l.hs.x0, .int .u8 l.hs.x1, .int .u8 l.hs.x2, .int .u8 l.hs.x3, .int .u8 l.hs.x4, .int .u8 l.hs.x5, .int .u8 l.hs.x6, .int .u8 l.hs.x7, .slice A 2 c, .int .i64 l.st, .int .i64 l.cp, .int .i64 l.un]) (by kernel_rfl) (HS.out _ (Below.refl _ _).drew) (fun hHeld => ?_)
 have q1 : ∀ w' : World, (w'.cell? ⟨cW, 0, none⟩ = some (.pointer (some ⟨wb, 0, none⟩)) ∧ w'.cell? ⟨cH, 0, none⟩ = some (.int .i64 n) ∧ w'.cell? ⟨cO, 0, none⟩ = some (.int .i64 v) ∧ w'.cell? ⟨wb, 14, none⟩ = some (.slice (some ⟨g, 0, none⟩) nl cl) ∧ w'.rangeAt g (n * 12) x.cells ∧ w'.rangeAt cL 0 [.int .i64 l.kd, .int .u8 l.hs.x0, .int .u8 l.hs.x1, .int .u8 l.hs.x2, .int .u8 l.hs.x3, .int .u8 l.hs.x4, .int .u8 l.hs.x5, .int .u8 l.hs.x6, .int .u8 l.hs.x7, .slice A 2 c, .int .i64 l.st, .int .i64 l.cp, .int .i64 l.un]) → w'.cell? ⟨cW, 0, none⟩ = some (.pointer (some ⟨wb, 0, none⟩)) := fun _ h => h.1
 have q2 : ∀ w' : World, (w'.cell? ⟨cW, 0, none⟩ = some (.pointer (some ⟨wb, 0, none⟩)) ∧ w'.cell? ⟨cH, 0, none⟩ = some (.int .i64 n) ∧ w'.cell? ⟨cO, 0, none⟩ = some (.int .i64 v) ∧ w'.cell? ⟨wb, 14, none⟩ = some (.slice (some ⟨g, 0, none⟩) nl cl) ∧ w'.rangeAt g (n * 12) x.cells ∧ w'.rangeAt cL 0 [.int .i64 l.kd, .int .u8 l.hs.x0, .int .u8 l.hs.x1, .int .u8 l.hs.x2, .int .u8 l.hs.x3, .int .u8 l.hs.x4, .int .u8 l.hs.x5, .int .u8 l.hs.x6, .int .u8 l.hs.x7, .slice A 2 c, .int .i64 l.st, .int .i64 l.cp, .int .i64 l.un]) → w'.cell? ⟨cH, 0, none⟩ = some (.int .i64 n) := fun _ h => h.2.1
 have q3 : ∀ w' : World, (w'.cell? ⟨cW, 0, none⟩ = some (.pointer (some ⟨wb, 0, none⟩)) ∧ w'.cell? ⟨cH, 0, none⟩ = some (.int .i64 n) ∧ w'.cell? ⟨cO, 0, none⟩ = some (.int .i64 v) ∧ w'.cell? ⟨wb, 14, none⟩ = some (.slice (some ⟨g, 0, none⟩) nl cl) ∧ w'.rangeAt g (n * 12) x.cells ∧ w'.rangeAt cL 0 [.int .i64 l.kd, .int .u8 l.hs.x0, .int .u8 l.hs.x1, .int .u8 l.hs.x2, .int .u8 l.hs.x3, .int .u8 l.hs.x4, .int .u8 l.hs.x5, .int .u8 l.hs.x6, .int .u8 l.hs.x7, .slice A 2 c, .int .i64 l.st, .int .i64 l.cp, .int .i64 l.un]) → w'.cell? ⟨cO, 0, none⟩ = some (.int .i64 v) := fun _ h => h.2.2.1
 have q4 : ∀ w' : World, (w'.cell? ⟨cW, 0, none⟩ = some (.pointer (some ⟨wb, 0, none⟩)) ∧ w'.cell? ⟨cH, 0, none⟩ = some (.int .i64 n) ∧ w'.cell? ⟨cO, 0, none⟩ = some (.int .i64 v) ∧ w'.cell? ⟨wb, 14, none⟩ = some (.slice (some ⟨g, 0, none⟩) nl cl) ∧ w'.rangeAt g (n * 12) x.cells ∧ w'.rangeAt cL 0 [.int .i64 l.kd, .int .u8 l.hs.x0, .int .u8 l.hs.x1, .int .u8 l.hs.x2, .int .u8 l.hs.x3, .int .u8 l.hs.x4, .int .u8 l.hs.x5, .int .u8 l.hs.x6, .int .u8 l.hs.x7, .slice A 2 c, .int .i64 l.st, .int .i64 l.cp, .int .i64 l.un]) → w'.cell? ⟨wb, 14, none⟩ = some (.slice (some ⟨g, 0, none⟩) nl cl) := fun _ h => h.2.2.2.1
 refine takP 0 7 ?_ rfl (by kernel_rfl) (fun _ _ _ => id) ?hy (by assumption) ?_
 case hy => intro w' h; have hx := q1 w' h; clear h; go_simp; try with_reducible rfl
 simp only [Act.put, sT]
 refine takP 1 8 ?_ rfl (by kernel_rfl) (fun _ _ _ => id) ?hy (by assumption) ?_
 case hy => intro w' h; clear h; go_simp; try with_reducible rfl
 simp only [Act.put, sT]
 refine takP 2 9 ?_ rfl (by kernel_rfl) (fun _ _ _ => id) ?hy (by assumption) ?_
 case hy => intro w' h; clear h; go_simp; try with_reducible rfl
 simp only [Act.put, sT]
 refine takP 3 10 ?_ rfl (by kernel_rfl) (fun _ _ _ => id) ?hy (by assumption) ?_
 case hy => intro w' h; have hx := q4 w' h; clear h; go_simp; try with_reducible rfl
 simp only [Act.put, sT]
 refine takP 4 11 ?_ rfl (by kernel_rfl) (fun _ _ _ => id) ?hy (by assumption) ?_
 case hy => intro w' h; have hx := q2 w' h; clear h; go_simp; try with_reducible rfl
 simp only [Act.put, sT]
 refine takP 5 12 ?_ rfl (by kernel_rfl) (fun _ _ _ => id) ?hy (by assumption) ?_
 case hy => intro w' h; clear h; go_simp; try with_reducible rfl
 simp only [Act.put, sT]
 refine takeK 6 (some 13) (v := .agg ([.int .u8 x.p.nm.x0, .int .u8 x.p.nm.x1, .int .u8 x.p.nm.x2, .int .u8 x.p.nm.x3, .int .u8 x.p.nm.x4, .int .u8 x.p.nm.x5, .int .u8 x.p.nm.x6, .int .u8 x.p.nm.x7, .int .i64 x.p.no, .int .i64 x.p.h0, .int .i64 x.p.h1, .slice x.A x.n x.c] : List Value).toArray) rfl (by kernel_rfl) (by kernel_rfl) (fun _ _ _ => id) (yieldsIf_load_mid (by kernel_rfl) 85 _ (by rfl) (g) (n * 12) (by rfl) [.int .u8 x.p.nm.x0, .int .u8 x.p.nm.x1, .int .u8 x.p.nm.x2, .int .u8 x.p.nm.x3, .int .u8 x.p.nm.x4, .int .u8 x.p.nm.x5, .int .u8 x.p.nm.x6, .int .u8 x.p.nm.x7, .int .i64 x.p.no, .int .i64 x.p.h0, .int .i64 x.p.h1, .slice x.A x.n x.c] _ (fun w' hw' => hw'.2.2.2.2.1) Tryz.underlying85 rfl (by kernel_rfl)) (by assumption) ?_
 simp only [Act.put, sT]
 refine takeK 7 (some 14) (v := .agg ([.int .i64 l.kd, .int .u8 l.hs.x0, .int .u8 l.hs.x1, .int .u8 l.hs.x2, .int .u8 l.hs.x3, .int .u8 l.hs.x4, .int .u8 l.hs.x5, .int .u8 l.hs.x6, .int .u8 l.hs.x7, .slice A 2 c, .int .i64 l.st, .int .i64 l.cp, .int .i64 l.un] : List Value).toArray) rfl (by kernel_rfl) (by kernel_rfl) (fun _ _ _ => id) (yieldsIf_load_mid (by kernel_rfl) 40 _ (by rfl) (cL) (0) (by rfl) [.int .i64 l.kd, .int .u8 l.hs.x0, .int .u8 l.hs.x1, .int .u8 l.hs.x2, .int .u8 l.hs.x3, .int .u8 l.hs.x4, .int .u8 l.hs.x5, .int .u8 l.hs.x6, .int .u8 l.hs.x7, .slice A 2 c, .int .i64 l.st, .int .i64 l.cp, .int .i64 l.un] _ (fun w' hw' => hw'.2.2.2.2.2) Tryz.underlying40 rfl (by kernel_rfl)) (by assumption) ?_
 simp only [Act.put, sT]
 refine takP 9 16 ?_ rfl (by kernel_rfl) (fun _ _ _ => id) ?hy (by assumption) ?_
 case hy => intro w' h; have hx := q3 w' h; clear h; go_simp; try with_reducible rfl
 simp only [Act.put, sT]
 refine wpAnyH_ready (rs := [8]) (by kernel_rfl) (by simp) ?_
 refine AllReadyH.cons rfl (fun K hK => ?_) AllReadyH.nil
 rw [if_pos (by kernel_rfl)]
 try simp only [List.getElem_toArray, List.getElem_cons_zero, List.getElem_cons_succ]
 go_simp
 go_at_call 18
 refine (lkname_any l A 2 c w.drew HLR.out.drew HFt.out).mono ?_
 rintro e w1 ⟨rfl, hb1⟩
 have HB1 := Lib.hid ((Below.refl w.heap.size w).drew.trans hb1)
 clear hb1
 generalize hd9 : l.name = d at *
 have Hd9 := Lib.hid hd9
 clear hd9
 refine hK.out _ _ (HS.out _ HB1.out) (fun _ => ?_)
 clear hK K
 try simp only [Act.put, sT]
 refine wpAnyH_ready (rs := [10]) (by kernel_rfl) (by simp) ?_
 refine AllReadyH.cons rfl (fun K hK => ?_) AllReadyH.nil
 rw [if_pos (by kernel_rfl)]
 try simp only [List.getElem_toArray, List.getElem_cons_zero, List.getElem_cons_succ]
 go_simp
 go_at_call 84
 have hlen := free_len x.p d v
 refine (free_any x.p x.A x.n x.c d v w1 ((HO.out.below HB1.out).at_)).mono ?_
 generalize hr9 : x.p.free d v = r at *
 have HRq := Lib.hid hr9
 have HLn := Lib.hid hlen
 clear hr9 hlen
 rintro e w2 ⟨A5, n5, c5, rfl, ho5, hb5⟩
 have HB2 := Lib.hid (HB1.out.trans (hb5.mono HB1.out.size))
 have HO2 : Hid (w2.ownsRow w.heap.size 120 11 (.slice A5 n5 c5) n5 (flatH r.2.held)) := Lib.hid (own_weak ho5 HB1.out.size)
 clear ho5 hb5
 refine hK.out _ _ (HS.out _ HB2.out) (fun _ => ?_)
 clear hK K
 try simp only [Act.put, sT]
 refine takP 11 6 ?_ rfl (by kernel_rfl) (fun _ _ _ => id) ?hy (by assumption) ?_
 case hy => intro w' h; clear h; go_simp; try with_reducible rfl
 simp only [Act.put, sT]
 refine takP 12 18 ?_ rfl (by kernel_rfl) (fun _ _ _ => id) ?hy (by assumption) ?_
 case hy => intro w' h; clear h; go_simp; try with_reducible rfl
 simp only [Act.put, sT]
 refine takP 13 19 ?_ rfl (by kernel_rfl) (fun _ _ _ => id) ?hy (by assumption) ?_
 case hy => intro w' h; clear h; go_simp; try with_reducible rfl
 simp only [Act.put, sT]
 refine wpAnyH_ready (rs := [14]) (by kernel_rfl) (by simp) ?_
 refine AllReadyH.cons rfl (fun K hK => ?_) AllReadyH.nil
 rw [if_pos (by kernel_rfl)]
 try simp only [List.getElem_toArray, List.getElem_cons_zero, List.getElem_cons_succ]
 have HX1 := Lib.hid (block_below HX.out HB2.out hcx2)
 refine wp_store_mid 85 _ _ (by rfl) (cX) (0) #[.int .u8 r.2.nm.x0, .int .u8 r.2.nm.x1, .int .u8 r.2.nm.x2, .int .u8 r.2.nm.x3, .int .u8 r.2.nm.x4, .int .u8 r.2.nm.x5, .int .u8 r.2.nm.x6, .int .u8 r.2.nm.x7, .int .i64 r.2.no, .int .i64 r.2.h0, .int .i64 r.2.h1, .slice A5 n5 c5] (by rfl) (by rfl) (there_mid HX1.out (by simp [hcs])) (by kernel_rfl) (by kernel_rfl) ?_
 obtain ⟨s1', s2'⟩ := set_all HX1.out [.int .u8 r.2.nm.x0, .int .u8 r.2.nm.x1, .int .u8 r.2.nm.x2, .int .u8 r.2.nm.x3, .int .u8 r.2.nm.x4, .int .u8 r.2.nm.x5, .int .u8 r.2.nm.x6, .int .u8 r.2.nm.x7, .int .i64 r.2.no, .int .i64 r.2.h0, .int .i64 r.2.h1, .slice A5 n5 c5] (by simp [hcs])
 have HG : Hid (w.grownBy (w2.setCells cX 0 [.int .u8 r.2.nm.x0, .int .u8 r.2.nm.x1, .int .u8 r.2.nm.x2, .int .u8 r.2.nm.x3, .int .u8 r.2.nm.x4, .int .u8 r.2.nm.x5, .int .u8 r.2.nm.x6, .int .u8 r.2.nm.x7, .int .i64 r.2.no, .int .i64 r.2.h0, .int .i64 r.2.h1, .slice A5 n5 c5]) (some cX)) := Lib.hid (grown_below HB2.out s2')
 have HS1 := Lib.hid s1'
 have HO3 := Lib.hid (HO2.out.kept s2' (own_away HO2.out hcx2))
 have hs9 := HS.out _ HB2.out
 have hz2 := HB2.out.size
 have HSz : Hid (∃ q, q = w2.setCells cX 0 [.int .u8 r.2.nm.x0, .int .u8 r.2.nm.x1, .int .u8 r.2.nm.x2, .int .u8 r.2.nm.x3, .int .u8 r.2.nm.x4, .int .u8 r.2.nm.x5, .int .u8 r.2.nm.x6, .int .u8 r.2.nm.x7, .int .i64 r.2.no, .int .i64 r.2.h0, .int .i64 r.2.h1, .slice A5 n5 c5] ∧ q.cell? ⟨cW, 0, none⟩ = some (.pointer (some ⟨wb, 0, none⟩)) ∧ q.cell? ⟨cH, 0, none⟩ = some (.int .i64 n) ∧ q.cell? ⟨cO, 0, none⟩ = some (.int .i64 v) ∧ q.cell? ⟨wb, 14, none⟩ = some (.slice (some ⟨g, 0, none⟩) nl cl) ∧ q.rangeAt g (n * 12) x.cells ∧ q.rangeAt cL 0 [.int .i64 l.kd, .int .u8 l.hs.x0, .int .u8 l.hs.x1, .int .u8 l.hs.x2, .int .u8 l.hs.x3, .int .u8 l.hs.x4, .int .u8 l.hs.x5, .int .u8 l.hs.x6, .int .u8 l.hs.x7, .slice A 2 c, .int .i64 l.st, .int .i64 l.cp, .int .i64 l.un]) :=
  Lib.hid ⟨_, rfl, s2'.cell hs9.1 (by simpa using h1), s2'.cell hs9.2.1 (by simpa using h2), s2'.cell hs9.2.2.1 (by simpa using h3), s2'.cell hs9.2.2.2.1 (by simp; omega), range_grown hs9.2.2.2.2.1 s2' (by omega) (by simp; omega), range_grown hs9.2.2.2.2.2 s2' (by omega) (by simpa using nLX)⟩
 clear s1' s2' hs9
 refine hK.out _ _ (by obtain ⟨q, rfl, h⟩ := HSz.out; exact h) (fun _ => ?_)
 clear hK K
 simp only [Act.put]
 refine takP 15 5 ?_ rfl (by kernel_rfl) (fun _ _ _ => id) ?hy (by assumption) ?_
 case hy => intro w' h; clear h; go_simp; try with_reducible rfl
 simp only [Act.put, sT]
 refine wpAnyH_done (by kernel_rfl) ?_ _
 go_wp2
 go_ret
 rw [Hd9.out, HRq.out]
 exact ⟨⟨r.2, A5, n5, c5⟩, rfl, rfl, ⟨HO3.out, by have := HO3.out.1; rw [flatH_len] at this; have := HLn.out; show n5 ≤ 1000000; omega⟩, HS1.out, HG.out⟩
end
end Go.Proofs.YthhiookcknnmdaaGreat
