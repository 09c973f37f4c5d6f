/- The walks of State and Purse. Conditions: the way lies in memory. The walk of Purse. Conditions: the way lies in memory. The law's acts: their amounts, their outcome. Conditions: the law's world lies in memory; room in the book. The law's outcome of an act, spoilt or not. Conditions: the law's world lies in memory; room in the book. The law's do: an act is done. Conditions: the law's world lies in memory; room in the book. -/
import Derived.Test.YthhiookcknnmdaaGreatJoinUaj
import Derived.Test.YthhiookcknnmdaaGreatJoinUai
namespace Go.Proofs.YthhiookcknnmdaaGreat
open Go.RowKit Go.Lib
theorem results_Tcell {P : Program} {fn : Func} {w : World} {tmps : Array Value} (r q : Tmp) (t : TypeId) (b : Nat) (cs : Array Value) (d : TypeDesc) (fz : Nat × Nat) (T : TypeId) (h : fn.results = #[.tmp q, .cell r t]) (hp : tmps.getD r undef = .pointer (some ⟨b, 0, none⟩))
  (hb : w.heap[b]? = some (.cells cs T fz)) (hu : P.underlying t = some d) (hd : d.isRow = true) (hi : (P.info? t).map (·.size) = some cs.toList.length) : (results fn tmps).run P w = .ok (.tuple #[tmps.getD q undef, .agg cs]) w := by
 have e : (asAddr (.pointer (some ⟨b, 0, none⟩))).run P w = .ok ⟨b, 0, none⟩ w := rfl
 have hl := run_loadVar_mid (P := P) w b 0 t cs.toList d (range_all hb) hu hd hi
 simp only [results, h, Array.mapM_eq_mapM_toList, List.mapM_cons, List.mapM_nil, hp, Sem.run_bind, Sem.run_pure, Result.andThen_ok, Sem.run_map, e, hl]
 rfl
section
variable {w w' : World} {B wb bk : Nat} {y : Wy} {a : WyA}
theorem WyAt.lookO (h : WyAt w B wb bk y a) (i k : Int) (hs : spOk (i, k)) : ∃ o : OuA, y.byI i k = o.o ∧ ∀ w', WyAt w' B wb bk y a → (Instr.lookup 115 (.map (some a.ob)) (.agg #[.int .i64 i, .int .i64 k]) false).run Tryz.prog w' = .ok (.agg #[.slice o.Ap o.np o.cp, .slice o.As o.ns o.cs]) w' ∧ o.o.At o.Ap o.np o.As o.ns w' := by
 obtain ⟨o, e1, e2, e3⟩ := byV_get a.lo (i, k)
 have hk : ∀ p ∈ byV a.lo, spOk p.1 := fun p hp => by
  have h1 : p.1 ∈ (byO a.lo).map (·.1) := by rw [← byV_keys]; exact List.mem_map.2 ⟨p, hp, rfl⟩
  rw [h.bye] at h1
  obtain ⟨q, hq, e⟩ := List.mem_map.1 h1
  rw [← e]; exact h.byk q hq
 have hnd : ((byV a.lo).map (·.1)).Nodup := by rw [byV_keys, h.bye]; exact h.byn
 refine ⟨o, ?_, fun w' h' => ⟨?_, ?_⟩⟩
 ·show alGet ou0 y.by_ (i, k) = _
  rw [← h.bye, e2]
 ·have := look_mapG (P := Tryz.prog) keysB h'.by_ hk hnd (i, k) hs (z := oua0.V) (by go_simp; rfl)
  rw [e1] at this; exact this
 ·rcases e3 with rfl | ⟨q, hq, rfl⟩
  ·exact ou0_at w'
  ·exact (h'.byo q hq).at_
def Wy.stI (y : Wy) (hop wh : Int) : Int := if y.isSpot hop wh then y.atI hop wh else 0
def Wy.stO (y : Wy) (hop wh : Int) : Ou := if y.isSpot hop wh then y.byI hop wh else ou0
set_option maxRecDepth 100000 in
set_option maxHeartbeats 4000000 in
theorem state_any (h : WyAt w B wb bk y a) (hn : y.pu.length ≤ 100) (hop wh : Int) : Calls Tryz.prog 41 #[.pointer (some ⟨wb, 0, none⟩), .int .i64 hop, .int .i64 wh] w fun e w' =>
  ∃ Ap np cp As ns cs, e = .returned (.tuple #[.int .i64 (y.stI hop wh), .agg #[.slice Ap np cp, .slice As ns cs]]) ∧ (y.stO hop wh).Own w.heap.size Ap np cp As ns cs w' ∧ Below w.heap.size w w' := by
 have HY0 : Hid ((w.alloc (.cells #[.slice none 0 0, .slice none 0 0] 59)).heap[w.heap.size]? = some (.cells #[.slice none 0 0, .slice none 0 0] 59 (0, 0))) := heap_alloc_new _ _
 have hb0 := below_one w (.cells #[.slice none 0 0, .slice none 0 0] 59)
 have H0 := Lib.hid (h.below hb0); have Hb0 := Lib.hid hb0; have H := Lib.hid h
 have HI : Hid (y.stI hop wh = if y.isSpot hop wh then y.atI hop wh else 0) := Lib.hid rfl
 have HO : Hid (y.stO hop wh = if y.isSpot hop wh then y.byI hop wh else ou0) := Lib.hid rfl
 have HSp : Hid (y.isSpot hop wh = true → spOk (hop, wh)) := Lib.hid fun e => by
  obtain ⟨k, rfl, h1, h2⟩ := spot_nat e
  exact ⟨⟨by show (0 : Int) ≤ k; omega, by show (k : Int) ≤ 100; omega⟩, by show (0 : Int) ≤ wh; omega, by show wh ≤ (100 : Int); omega⟩
 clear h hb0
 generalize y.stI hop wh = si at *
 generalize y.stO hop wh = so at *
 go_enter Tryz.func41, Tryz.ntmps41
 go_upto_region 1 with fail
 generalize w.alloc (.cells #[.slice none 0 0, .slice none 0 0] 59) = w0 at *
 cases hs : y.isSpot hop wh with
 | false =>
  rw [hs] at HI HO
  have hsp := isspot_any H0.out hop wh
  rw [hs] at hsp
  have HIs := Lib.hid hsp
  clear hsp hs
  go_upto_region 2 with (go_at_call 77; refine HIs.out.mono ?_; rintro e w1 ⟨rfl, rfl⟩)
  refine wp_region_list ?_
  refine wpList_value (.agg #[.slice none 0 0, .slice none 0 0]) (by kernel_rfl) (by kernel_rfl) ?_
  simp only [Act.put, sT]
  refine wpList_value (.int .i64 0) (by kernel_rfl) (by kernel_rfl) ?_
  simp only [Act.put, sT]
  refine wpList_store_mid (by rfl) 59 _ _ (by rfl) (w.heap.size) 0 #[.slice none 0 0, .slice none 0 0] (by rfl) (by rfl) (there_mid HY0.out (by simp)) (by kernel_rfl) (by kernel_rfl) ?_
  obtain ⟨s1', s2'⟩ := set_all HY0.out [.slice none 0 0, .slice none 0 0] rfl
  have HS1 := Lib.hid s1'; have HS2 := Lib.hid s2'
  clear s1' s2'
  dsimp only
  generalize World.setCells _ _ _ [.slice none 0 0, .slice none 0 0] = w9 at *
  go_wp2
  refine bodyPost_ret (results_Tcell 7 6 59 w.heap.size #[.slice none 0 0, .slice none 0 0] _ _ _ rfl rfl HS1.out Tryz.underlying59 rfl (by kernel_rfl)) rfl ?_
  rw [show si = 0 from HI.out, show so = ou0 from HO.out]
  exact ⟨none, 0, 0, none, 0, 0, rfl, ⟨World.ownsRow_nil _ _ _ _, SigOw.nil _ _, by omega, by omega, by simp [ou0]⟩, Hb0.out.grown HS2.out Hb0.out.size (fun q hq => by cases hq; exact Nat.le_refl _)⟩
 | true =>
  rw [hs] at HI HO
  have hsp := isspot_any H0.out hop wh
  have hok := HSp.out hs
  rw [hs] at hsp
  have HIs := Lib.hid hsp
  have q15 : ∀ w', Below w.heap.size w w' → w'.cell? ⟨wb, 15, none⟩ = some (.map (some a.ab)) := fun w' hw => (H.out.below hw).c.2.2.1
  have q16 : ∀ w', Below w.heap.size w w' → w'.cell? ⟨wb, 16, none⟩ = some (.map (some a.ob)) := fun w' hw => (H.out.below hw).c.2.2.2.1
  have k0 : ∀ w', Below w.heap.size w w' → (Instr.lookup 114 (.map (some a.ab)) (.agg #[.int .i64 hop, .int .i64 wh]) false).run Tryz.prog w' = .ok (.int .i64 (y.atI hop wh)) w' := fun w' hw => (H.out.below hw).look hop wh hok
  obtain ⟨o, ho, hal⟩ := H.out.lookO hop wh hok
  have k1 : ∀ w', Below w.heap.size w w' → (Instr.lookup 115 (.map (some a.ob)) (.agg #[.int .i64 hop, .int .i64 wh]) false).run Tryz.prog w' = .ok (.agg #[.slice o.Ap o.np o.cp, .slice o.As o.ns o.cs]) w' := fun w' hw => (hal w' (H.out.below hw)).1
  have Hat := Lib.hid (hal _ (H.out.below Hb0.out.drew)).2; have Ho := Lib.hid ho
  clear hsp hs hal ho
  generalize y.atI hop wh = av at *
  go_upto_region 3 with (go_at_call 77; refine HIs.out.mono ?_; rintro e w1 ⟨rfl, rfl⟩)
  refine wp_region_held_drew (S := fun w' => Below w.heap.size w w') (by kernel_rfl) Hb0.out.drew (fun hHeld => ?_)
  refine takP 0 18 ?_ rfl (by kernel_rfl) (fun _ _ _ => id) ?hy (by assumption) ?_
  case hy => intro w' h; clear h; go_simp; try with_reducible rfl
  simp only [Act.put, sT]
  refine takP 1 19 ?_ rfl (by kernel_rfl) (fun _ _ _ => id) ?hy (by assumption) ?_
  case hy => intro w' h; clear h; go_simp; try with_reducible rfl
  simp only [Act.put, sT]
  refine takP 2 20 ?_ rfl (by kernel_rfl) (fun _ _ _ => id) ?hy (by assumption) ?_
  case hy => intro w' h; clear h; go_simp; try with_reducible rfl
  simp only [Act.put, sT]
  refine takP 3 21 ?_ rfl (by kernel_rfl) (fun _ _ _ => id) ?hy (by assumption) ?_
  case hy => intro w' h; have hx := q15 w' h; clear h; go_simp; try with_reducible rfl
  simp only [Act.put, sT]
  refine takP 4 22 ?_ rfl (by kernel_rfl) (fun _ _ _ => id) ?hy (by assumption) ?_
  case hy => intro w' h; clear h; go_simp; try with_reducible rfl
  simp only [Act.put, sT]
  refine takP 5 23 ?_ rfl (by kernel_rfl) (fun _ _ _ => id) ?hy (by assumption) ?_
  case hy => intro w' h; clear h; go_simp; try with_reducible rfl
  simp only [Act.put, sT]
  refine takP 6 24 ?_ rfl (by kernel_rfl) (fun _ _ _ => id) ?hy (by assumption) ?_
  case hy => intro w' h; clear h; go_simp; try with_reducible rfl
  simp only [Act.put, sT]
  refine takP 7 25 ?_ rfl (by kernel_rfl) (fun _ _ _ => id) ?hy (by assumption) ?_
  case hy => intro w' h; have hx := k0 w' h; clear h; go_simp; try with_reducible rfl
  simp only [Act.put, sT]
  refine takP 8 26 ?_ rfl (by kernel_rfl) (fun _ _ _ => id) ?hy (by assumption) ?_
  case hy => intro w' h; clear h; go_simp; try with_reducible rfl
  simp only [Act.put, sT]
  refine takP 9 27 ?_ rfl (by kernel_rfl) (fun _ _ _ => id) ?hy (by assumption) ?_
  case hy => intro w' h; clear h; go_simp; try with_reducible rfl
  simp only [Act.put, sT]
  refine takP 10 28 ?_ rfl (by kernel_rfl) (fun _ _ _ => id) ?hy (by assumption) ?_
  case hy => intro w' h; clear h; go_simp; try with_reducible rfl
  simp only [Act.put, sT]
  refine takP 11 29 ?_ rfl (by kernel_rfl) (fun _ _ _ => id) ?hy (by assumption) ?_
  case hy => intro w' h; have hx := q16 w' h; clear h; go_simp; try with_reducible rfl
  simp only [Act.put, sT]
  refine takP 12 30 ?_ rfl (by kernel_rfl) (fun _ _ _ => id) ?hy (by assumption) ?_
  case hy => intro w' h; clear h; go_simp; try with_reducible rfl
  simp only [Act.put, sT]
  refine takP 13 31 ?_ rfl (by kernel_rfl) (fun _ _ _ => id) ?hy (by assumption) ?_
  case hy => intro w' h; clear h; go_simp; try with_reducible rfl
  simp only [Act.put, sT]
  refine takP 14 32 ?_ rfl (by kernel_rfl) (fun _ _ _ => id) ?hy (by assumption) ?_
  case hy => intro w' h; clear h; go_simp; try with_reducible rfl
  simp only [Act.put, sT]
  refine takP 15 33 ?_ rfl (by kernel_rfl) (fun _ _ _ => id) ?hy (by assumption) ?_
  case hy => intro w' h; have hx := k1 w' h; clear h; go_simp; try with_reducible rfl
  simp only [Act.put, sT]
  refine wpAnyH_ready (rs := [16]) (by kernel_rfl) (by simp) ?_
  refine AllReadyH.cons rfl (fun K hK => ?_) AllReadyH.nil
  rw [if_pos (by kernel_rfl)]
  try simp only [List.getElem_toArray, List.getElem_cons_zero, List.getElem_cons_succ]
  go_simp
  go_at_call 85
  refine (ouclone_any o.o o.Ap o.np o.cp o.As o.ns o.cs w0.drew Hat.out).mono ?_
  rintro e w2 ⟨A1, c1, A2, c2, rfl, how, hb2⟩
  have HOw := Lib.hid how
  have HB2 : Hid (Below w0.heap.size w0 w2) := Lib.hid ((Below.refl _ _).drew.trans hb2)
  have HY2 := Lib.hid (block_below HY0.out HB2.out (block_lt HY0.out))
  clear how hb2
  have HBw := Lib.hid (Hb0.out.trans (HB2.out.mono Hb0.out.size))
  refine hK.out _ _ HBw.out (fun _ => ?_)
  clear hK K
  try simp only [Act.put, sT]
  refine takP 17 6 ?_ rfl (by kernel_rfl) (fun _ _ _ => id) ?hy (by assumption) ?_
  case hy => intro w' h; clear h; go_simp; try with_reducible rfl
  simp only [Act.put, sT]
  refine wpAnyH_ready (rs := [18]) (by kernel_rfl) (by simp) ?_
  refine AllReadyH.cons rfl (fun K hK => ?_) AllReadyH.nil
  rw [if_pos (by kernel_rfl)]
  try simp only [List.getElem_toArray, List.getElem_cons_zero, List.getElem_cons_succ]
  refine wp_store_mid 59 _ _ (by rfl) (w.heap.size) (0) #[.slice A1 o.np c1, .slice A2 o.ns c2] (by rfl) (by rfl) (there_mid HY2.out (by simp)) (by kernel_rfl) (by kernel_rfl) ?_
  obtain ⟨s1', s2'⟩ := set_all HY2.out [.slice A1 o.np c1, .slice A2 o.ns c2] rfl
  have HY9 := Lib.hid s1'; have G9 := Lib.hid s2'
  have HB9 := Lib.hid (HBw.out.grown s2' HBw.out.size (fun q hq => by cases hq; exact Nat.le_refl _))
  refine hK.out _ _ HB9.out (fun _ => ?_)
  clear hK K
  simp only [Act.put]
  refine wpAnyH_done (by kernel_rfl) ?_ _
  go_wp2
  refine bodyPost_ret (results_Tcell 7 6 59 w.heap.size #[.slice A1 o.np c1, .slice A2 o.ns c2] _ _ _ rfl rfl HY9.out Tryz.underlying59 rfl (by kernel_rfl)) rfl ?_
  rw [show si = av from HI.out, show so = o.o from HO.out.trans Ho.out]
  have q1 := HOw.out.p.kept G9.out (.inr fun e => own_ne HOw.out.p HY2.out (by decide) e.symm)
  have q2 := HOw.out.s.kept G9.out HY2.out (by decide) (by decide)
  have hz : w.heap.size ≤ w0.heap.size := Hb0.out.size
  exact ⟨A1, o.np, c1, A2, o.ns, c2, rfl, ⟨own_weak q1 hz, q2.weak hz, HOw.out.bp, HOw.out.bs, HOw.out.so⟩, HB9.out⟩
end
def Wy.puO (y : Wy) (hop : Int) : Pu := if y.isHop hop then y.pu.getD hop.toNat default else pu0
section
variable {w w' : World} {B wb bk : Nat} {y : Wy} {a : WyA}
set_option maxRecDepth 100000 in
set_option maxHeartbeats 4000000 in
theorem purse_any (h : WyAt w B wb bk y a) (hop : Int) : Calls Tryz.prog 39 #[.pointer (some ⟨wb, 0, none⟩), .int .i64 hop] w fun e w' =>
  ∃ A n c, e = .returned (.tuple #[.agg #[.int .u8 (y.puO hop).nm.x0, .int .u8 (y.puO hop).nm.x1, .int .u8 (y.puO hop).nm.x2, .int .u8 (y.puO hop).nm.x3, .int .u8 (y.puO hop).nm.x4, .int .u8 (y.puO hop).nm.x5, .int .u8 (y.puO hop).nm.x6, .int .u8 (y.puO hop).nm.x7, .int .i64 (y.puO hop).no, .int .i64 (y.puO hop).h0, .int .i64 (y.puO hop).h1, .slice A n c], .bool (y.isHop hop)]) ∧ w'.ownsRow w.heap.size 120 11 (.slice A n c) n (flatH (y.puO hop).held) ∧ n ≤ 1000000 ∧ Below w.heap.size w w' := by
 have HY0 : Hid ((w.alloc (.cells #[.int .u8 0, .int .u8 0, .int .u8 0, .int .u8 0, .int .u8 0, .int .u8 0, .int .u8 0, .int .u8 0, .int .i64 0, .int .i64 0, .int .i64 0, .slice none 0 0] 85)).heap[w.heap.size]? = some (.cells #[.int .u8 0, .int .u8 0, .int .u8 0, .int .u8 0, .int .u8 0, .int .u8 0, .int .u8 0, .int .u8 0, .int .i64 0, .int .i64 0, .int .i64 0, .slice none 0 0] 85 (0, 0))) := heap_alloc_new _ _
 have hb0 := below_one w (.cells #[.int .u8 0, .int .u8 0, .int .u8 0, .int .u8 0, .int .u8 0, .int .u8 0, .int .u8 0, .int .u8 0, .int .i64 0, .int .i64 0, .int .i64 0, .slice none 0 0] 85)
 have H0 := Lib.hid (h.below hb0); have Hb0 := Lib.hid hb0
 have HO : Hid (y.puO hop = if y.isHop hop then y.pu.getD hop.toNat default else pu0) := Lib.hid rfl
 clear h hb0
 generalize y.puO hop = q at *
 go_enter Tryz.func39, Tryz.ntmps39
 go_upto_region 1 with fail
 generalize w.alloc (.cells #[.int .u8 0, .int .u8 0, .int .u8 0, .int .u8 0, .int .u8 0, .int .u8 0, .int .u8 0, .int .u8 0, .int .i64 0, .int .i64 0, .int .i64 0, .slice none 0 0] 85) = w0 at *
 cases hs : y.isHop hop with
 | false =>
  have Hiz := Lib.hid hs
  rw [hs] at HO
  have hsp := ishop_any H0.out hop
  rw [hs] at hsp
  have HIs := Lib.hid hsp
  clear hsp hs
  go_upto_region 2 with (go_at_call 61; refine HIs.out.mono ?_; rintro e w1 ⟨rfl, rfl⟩)
  refine wp_region_list ?_
  refine wpList_value (.agg #[.int .u8 0, .int .u8 0, .int .u8 0, .int .u8 0, .int .u8 0, .int .u8 0, .int .u8 0, .int .u8 0, .int .i64 0, .int .i64 0, .int .i64 0, .slice none 0 0]) (by kernel_rfl) (by kernel_rfl) ?_
  simp only [Act.put, sT]
  refine wpList_store_mid (by rfl) 85 _ _ (by rfl) (w.heap.size) 0 #[.int .u8 0, .int .u8 0, .int .u8 0, .int .u8 0, .int .u8 0, .int .u8 0, .int .u8 0, .int .u8 0, .int .i64 0, .int .i64 0, .int .i64 0, .slice none 0 0] (by rfl) (by rfl) (there_mid HY0.out (by simp)) (by kernel_rfl) (by kernel_rfl) ?_
  obtain ⟨s1', s2'⟩ := set_all HY0.out [.int .u8 0, .int .u8 0, .int .u8 0, .int .u8 0, .int .u8 0, .int .u8 0, .int .u8 0, .int .u8 0, .int .i64 0, .int .i64 0, .int .i64 0, .slice none 0 0] rfl
  have HS1 := Lib.hid s1'; have HS2 := Lib.hid s2'
  clear s1' s2'
  dsimp only
  generalize World.setCells _ _ _ [.int .u8 0, .int .u8 0, .int .u8 0, .int .u8 0, .int .u8 0, .int .u8 0, .int .u8 0, .int .u8 0, .int .i64 0, .int .i64 0, .int .i64 0, .slice none 0 0] = w9 at *
  go_wp2
  refine bodyPost_ret (results_cellT 4 5 85 w.heap.size #[.int .u8 0, .int .u8 0, .int .u8 0, .int .u8 0, .int .u8 0, .int .u8 0, .int .u8 0, .int .u8 0, .int .i64 0, .int .i64 0, .int .i64 0, .slice none 0 0] _ _ _ rfl rfl HS1.out Tryz.underlying85 rfl (by kernel_rfl)) rfl ?_
  rw [show q = pu0 from HO.out, Hiz.out]
  exact ⟨none, 0, 0, rfl, World.ownsRow_nil _ _ _ _, by omega, Hb0.out.grown HS2.out Hb0.out.size (fun q hq => by cases hq; exact Nat.le_refl _)⟩
 | true =>
  have Hiz := Lib.hid hs
  obtain ⟨k, rfl, hk⟩ := hop_nat hs
  rw [hs] at HO
  have hsp := ishop_any H0.out (k : Int)
  rw [hs] at hsp
  have HIs := Lib.hid hsp
  obtain ⟨_, c14, _⟩ := H0.out.c
  have hpl := H0.out.plen
  obtain ⟨g, hA, hBg, hgl, hrg⟩ := H0.out.prange (k := k) (by omega)
  obtain ⟨hge, hgo⟩ := H0.out.pget (k := k) (by omega)
  have hq : q = (a.l.getD k default).p := HO.out.trans (by rw [hge]; rfl)
  have hki : (k : Int) < (a.l.length : Int) := by omega
  rw [hA] at c14
  clear hsp hs hge hpl hA HO
  generalize a.l.getD k default = x at *
  obtain ⟨xp, xA, xn, xc⟩ := x
  simp only at hq
  subst hq
  have HG := Lib.hid hgo; have HRg := Lib.hid hrg
  clear hgo hrg
  generalize a.l.length = al at *
  generalize a.cp = cp at *
  go_upto_region 3 with (go_at_call 61; refine HIs.out.mono ?_; rintro e w1 ⟨rfl, rfl⟩)
  refine wp_region_list ?_
  refine wpList_value (.pointer (some ⟨wb, 0, none⟩)) (by kernel_rfl) (by kernel_rfl) ?_
  simp only [Act.put, sT]
  refine wpList_value (.pointer (some ⟨wb, 0, none⟩)) (by kernel_rfl) (by kernel_rfl) ?_
  simp only [Act.put, sT]
  refine wpList_value (.pointer (some ⟨wb, 14, none⟩)) (by kernel_rfl) (by kernel_rfl) ?_
  simp only [Act.put, sT]
  refine wpList_value (.slice (some ⟨g, 0, none⟩) al cp) (by kernel_rfl) (by go_simp) ?_
  simp only [Act.put, sT]
  refine wpList_value (.int .i64 k) (by kernel_rfl) (by kernel_rfl) ?_
  simp only [Act.put, sT]
  refine wpList_value (.pointer (some ⟨g, k * 12, none⟩)) (by kernel_rfl) (by go_simp) ?_
  simp only [Act.put, sT]
  refine wpList_load_mid (by rfl) 85 _ (by rfl) g (k * 12) (by rfl) [.int .u8 q.nm.x0, .int .u8 q.nm.x1, .int .u8 q.nm.x2, .int .u8 q.nm.x3, .int .u8 q.nm.x4, .int .u8 q.nm.x5, .int .u8 q.nm.x6, .int .u8 q.nm.x7, .int .i64 q.no, .int .i64 q.h0, .int .i64 q.h1, .slice xA xn xc] _ HRg.out Tryz.underlying85 rfl (by kernel_rfl) ?_
  simp only [Act.put, sT]
  go_wp2_with fail
  refine (copied_any q xA xn xc w0 HG.out.at_).mono ?_
  rintro e w2 ⟨A2, n2, c2, rfl, ho2, hb2⟩
  have HO2 := Lib.hid ho2
  have HY2 := Lib.hid (block_below HY0.out hb2 (block_lt HY0.out))
  have HBw := Lib.hid (Hb0.out.trans (hb2.mono Hb0.out.size))
  clear ho2 hb2
  obtain ⟨s1', s2'⟩ := set_all HY2.out [.int .u8 q.nm.x0, .int .u8 q.nm.x1, .int .u8 q.nm.x2, .int .u8 q.nm.x3, .int .u8 q.nm.x4, .int .u8 q.nm.x5, .int .u8 q.nm.x6, .int .u8 q.nm.x7, .int .i64 q.no, .int .i64 q.h0, .int .i64 q.h1, .slice A2 n2 c2] rfl
  have HS1 := Lib.hid s1'; have HS2 := Lib.hid s2'
  clear s1' s2'
  have zf := block_free HY2.out
  have r := block_cell HY2.out
  have r0 := r 0; have r1 := r 1; have r2 := r 2; have r3 := r 3; have r4 := r 4; have r5 := r 5; have r6 := r 6; have r7 := r 7; have r8 := r 8; have r9 := r 9; have r10 := r 10; have r11 := r 11
  simp at r0 r1 r2 r3 r4 r5 r6 r7 r8 r9 r10 r11
  clear r c14
  go_wp2
  refine bodyPost_ret (results_cellT 4 5 85 w.heap.size #[.int .u8 q.nm.x0, .int .u8 q.nm.x1, .int .u8 q.nm.x2, .int .u8 q.nm.x3, .int .u8 q.nm.x4, .int .u8 q.nm.x5, .int .u8 q.nm.x6, .int .u8 q.nm.x7, .int .i64 q.no, .int .i64 q.h0, .int .i64 q.h1, .slice A2 n2 c2] _ _ _ rfl rfl HS1.out Tryz.underlying85 rfl (by kernel_rfl)) rfl ?_
  rw [Hiz.out]
  have q1 := HO2.out.kept HS2.out (.inr fun e => own_ne HO2.out HY2.out (by decide) e.symm)
  have hl : n2 ≤ 1000000 := by
   have e1 := HO2.out.1
   rw [flatH_len] at e1
   have e2 := HG.out.s
   have e3 := HG.out.at_.rd.hlen
   simp only at e2 e3
   omega
  exact ⟨A2, n2, c2, rfl, own_weak q1 Hb0.out.size, hl, HBw.out.grown HS2.out HBw.out.size (fun j hj => by cases hj; exact Nat.le_refl _)⟩
end
structure Ac where
 w : Nat
 by_ : Nat
 hop : Int
 wh : Int
 party : Int
 a : Int
 b : Int
 bad : Bool
def i64ok (x : Int) : Prop := -9223372036854775808 ≤ x ∧ x ≤ 9223372036854775807
structure Ac.ok (a : Ac) : Prop where
 kw : a.w < 256
 kb : a.by_ < 256
 oh : i64ok a.hop
 ow : i64ok a.wh
 op : i64ok a.party
 oa : i64ok a.a
 ob : i64ok a.b
def amt (x : Int) : Int := (x % 18446744073709551616) % 601
theorem amt_in (x : Int) : 0 ≤ amt x ∧ amt x ≤ 600 := by unfold amt; omega
theorem amt_pay (x : Int) : okPay (amt x) := by have := amt_in x; unfold okPay; omega
set_option maxRecDepth 100000 in
set_option maxHeartbeats 4000000 in
theorem amounts_any (a : Ac) (w : World) : Calls Tryz.prog 148 #[.agg #[.int .u8 a.w, .int .u8 a.by_, .int .i64 a.hop, .int .i64 a.wh, .int .i64 a.party, .int .i64 a.a, .int .i64 a.b, .bool a.bad]] w fun e w' => e = .returned (.tuple #[.int .i64 (amt a.a), .int .i64 (amt a.b)]) ∧ Below w.heap.size w w' := by
 have HB := Lib.hid (h_one w (.cells #[.int .u8 a.w, .int .u8 a.by_, .int .i64 a.hop, .int .i64 a.wh, .int .i64 a.party, .int .i64 a.a, .int .i64 a.b, .bool a.bad] 78))
 have HX : Hid ((w.alloc (.cells #[.int .u8 a.w, .int .u8 a.by_, .int .i64 a.hop, .int .i64 a.wh, .int .i64 a.party, .int .i64 a.a, .int .i64 a.b, .bool a.bad] 78)).heap[w.heap.size]? = some (.cells #[.int .u8 a.w, .int .u8 a.by_, .int .i64 a.hop, .int .i64 a.wh, .int .i64 a.party, .int .i64 a.a, .int .i64 a.b, .bool a.bad] 78 (0, 0))) := heap_alloc_new _ _
 go_enter Tryz.func148, Tryz.ntmps148
 go_upto_region 1 with fail
 generalize w.alloc (.cells #[.int .u8 a.w, .int .u8 a.by_, .int .i64 a.hop, .int .i64 a.wh, .int .i64 a.party, .int .i64 a.a, .int .i64 a.b, .bool a.bad] 78) = w1 at *
 have r5 : w1.drew.cell? ⟨w.heap.size, 5, none⟩ = some (.int .i64 a.a) := block_cell HX.out 5
 have r6 : w1.drew.cell? ⟨w.heap.size, 6, none⟩ = some (.int .i64 a.b) := block_cell HX.out 6
 have hu : ∀ x : Int, IntKind.u64.wrap x = x % 18446744073709551616 := fun x => by rw [IntKind.wrap_u64]
 have ha := amt_in a.a; have hb := amt_in a.b
 have Ha : Hid (IntKind.i64.wrap ((IntKind.u64.wrap a.a).tmod 601) = amt a.a) := Lib.hid (by rw [hu, Int.tmod_eq_emod_of_nonneg (by omega)]; show IntKind.i64.wrap (amt a.a) = _; rw [IntKind.wrap_i64]; omega)
 have Hb : Hid (IntKind.i64.wrap ((IntKind.u64.wrap a.b).tmod 601) = amt a.b) := Lib.hid (by rw [hu, Int.tmod_eq_emod_of_nonneg (by omega)]; show IntKind.i64.wrap (amt a.b) = _; rw [IntKind.wrap_i64]; omega)
 clear hu ha hb
 refine wp_region_held_drew (S := fun w' => w' = w1.drew) (by kernel_rfl) rfl (fun hHeld => ?_)
 have q5 : ∀ w', w' = w1.drew → w'.cell? ⟨w.heap.size, 5, none⟩ = some (.int .i64 a.a) := fun w' h => by subst h; exact r5
 have q6 : ∀ w', w' = w1.drew → w'.cell? ⟨w.heap.size, 6, none⟩ = some (.int .i64 a.b) := fun w' h => by subst h; exact r6
 refine takP 0 4 ?_ rfl (by kernel_rfl) (fun _ _ _ => id) ?hy (by assumption) ?_
 case hy => intro w' h; clear h; go_simp; try with_reducible rfl
 simp only [Act.put, sT]
 refine takP 1 5 ?_ rfl (by kernel_rfl) (fun _ _ _ => id) ?hy (by assumption) ?_
 case hy => intro w' h; have hx := q5 w' h; clear h; go_simp; try with_reducible rfl
 simp only [Act.put, sT]
 refine takP 2 6 ?_ rfl (by kernel_rfl) (fun _ _ _ => id) ?hy (by assumption) ?_
 case hy => intro w' h; clear h; go_simp; try with_reducible rfl
 simp only [Act.put, sT]
 refine takP 3 7 ?_ rfl (by kernel_rfl) (fun _ _ _ => id) ?hy (by assumption) ?_
 case hy => intro w' h; clear h; go_simp; try with_reducible rfl
 simp only [Act.put, sT]
 refine takP 4 8 ?_ rfl (by kernel_rfl) (fun _ _ _ => id) ?hy (by assumption) ?_
 case hy => intro w' h; clear h; go_simp; try with_reducible rfl
 simp only [Act.put, sT]
 refine takP 5 9 ?_ rfl (by kernel_rfl) (fun _ _ _ => id) ?hy (by assumption) ?_
 case hy => intro w' h; clear h; go_simp; try with_reducible rfl
 simp only [Act.put, sT]
 refine takP 6 10 ?_ rfl (by kernel_rfl) (fun _ _ _ => id) ?hy (by assumption) ?_
 case hy => intro w' h; have hx := q6 w' h; clear h; go_simp; try with_reducible rfl
 simp only [Act.put, sT]
 refine takP 7 11 ?_ rfl (by kernel_rfl) (fun _ _ _ => id) ?hy (by assumption) ?_
 case hy => intro w' h; clear h; go_simp; try with_reducible rfl
 simp only [Act.put, sT]
 refine takP 8 12 ?_ rfl (by kernel_rfl) (fun _ _ _ => id) ?hy (by assumption) ?_
 case hy => intro w' h; clear h; go_simp; try with_reducible rfl
 simp only [Act.put, sT]
 refine takP 9 13 ?_ rfl (by kernel_rfl) (fun _ _ _ => id) ?hy (by assumption) ?_
 case hy => intro w' h; clear h; go_simp; try with_reducible rfl
 simp only [Act.put, sT]
 refine takP 10 2 ?_ rfl (by kernel_rfl) (fun _ _ _ => id) ?hy (by assumption) ?_
 case hy => intro w' h; clear h; go_simp; try with_reducible rfl
 simp only [Act.put, sT]
 refine takP 11 3 ?_ rfl (by kernel_rfl) (fun _ _ _ => id) ?hy (by assumption) ?_
 case hy => intro w' h; clear h; go_simp; try with_reducible rfl
 simp only [Act.put, sT]
 refine wpAnyH_done (by kernel_rfl) ?_ _
 clear hHeld q5 q6 r5 r6
 go_wp2
 go_ret2
 rw [← Ha.out, ← Hb.out]
 exact ⟨rfl, HB.out.drew⟩
def badO (o : Ou) : Ou := ⟨o.pays, [o.sigs.getD 0 [] ++ [1], o.sigs.getD 1 []]⟩
def outA (L : List En) (n : Nat) (a : Ac) : Ou × List En := if a.bad then (badO (outD L n (amt a.a) (amt a.b)).1, (outD L n (amt a.a) (amt a.b)).2) else outD L n (amt a.a) (amt a.b)
theorem SigG.below {w w' : World} {C n : Nat} {v : Value} {ss : List (List Nat)} (h : SigG w C v n ss) (hb : Below w.heap.size w w') : SigG w' C v n ss := by
 obtain ⟨gs, k1, k2, k3, k4, k5⟩ := h
 exact ⟨gs, k1, k2, own_below k3 hb, k4, fun k hk => ⟨(k5 k hk).1, own_below (k5 k hk).2 hb⟩⟩
theorem Ou.Own.below {o : Ou} {C : Nat} {Ap : Option Addr} {np cp : Nat} {As : Option Addr} {ns cs : Nat} {w w' : World} (h : o.Own C Ap np cp As ns cs w) (hb : Below w.heap.size w w') : o.Own C Ap np cp As ns cs w' := ⟨own_below h.p hb, h.s.below hb, h.bp, h.bs, h.so⟩
section
variable {w w' : World} {B Bb wob wb bk mb : Nat} {y : Wy} {a : WyA} {L : List En} {Ak : Option Addr} {nk ck : Nat} {An : Option Addr} {nn cn : Nat} {Af : Option Addr} {nf cf : Nat} {vp : Value}
set_option maxRecDepth 100000 in
set_option maxHeartbeats 4000000 in
theorem one_any (h : LwAt w B Bb wob wb bk mb y a L Ak nk ck An nn cn Af nf cf vp) (x : Ac) (hlen : L.length < 50000) (hk1 : 1 ≤ nk) (hk2 : nk ≤ 100) : Calls Tryz.prog 94 #[.pointer (some ⟨wob, 0, none⟩), .agg #[.int .u8 x.w, .int .u8 x.by_, .int .i64 x.hop, .int .i64 x.wh, .int .i64 x.party, .int .i64 x.a, .int .i64 x.b, .bool x.bad]] w fun e w' =>
  ∃ Ap cp As cs, e = .returned (.agg #[.slice Ap 2 cp, .slice As 2 cs]) ∧ (outA L nk x).1.Own w.heap.size Ap 2 cp As 2 cs w' ∧ LwAt w' B Bb wob wb bk mb y a (outA L nk x).2 Ak nk ck An nn cn Af nf cf vp ∧ LChg a bk mb w w' := by
 have HX0 : Hid (((w.alloc (.cells #[.int .u8 x.w, .int .u8 x.by_, .int .i64 x.hop, .int .i64 x.wh, .int .i64 x.party, .int .i64 x.a, .int .i64 x.b, .bool x.bad] 78)).alloc (.cells #[.slice none 0 0, .slice none 0 0] 59)).heap[w.heap.size]? = some (.cells #[.int .u8 x.w, .int .u8 x.by_, .int .i64 x.hop, .int .i64 x.wh, .int .i64 x.party, .int .i64 x.a, .int .i64 x.b, .bool x.bad] 78 (0, 0))) := block_alloc (heap_alloc_new _ _) _
 have HY0 : Hid (((w.alloc (.cells #[.int .u8 x.w, .int .u8 x.by_, .int .i64 x.hop, .int .i64 x.wh, .int .i64 x.party, .int .i64 x.a, .int .i64 x.b, .bool x.bad] 78)).alloc (.cells #[.slice none 0 0, .slice none 0 0] 59)).heap[w.heap.size + 1]? = some (.cells #[.slice none 0 0, .slice none 0 0] 59 (0, 0))) := alloc_at (by simp)
 have Hb0 : Hid (Below w.heap.size w ((w.alloc (.cells #[.int .u8 x.w, .int .u8 x.by_, .int .i64 x.hop, .int .i64 x.wh, .int .i64 x.party, .int .i64 x.a, .int .i64 x.b, .bool x.bad] 78)).alloc (.cells #[.slice none 0 0, .slice none 0 0] 59))) := below_two _ _ _
 have H := Lib.hid h
 have hbk : bk < w.heap.size := Nat.lt_of_lt_of_le h.book.lb h.book.hB
 have hmb : mb < w.heap.size := h.book.places.lt
 obtain ⟨iU, hi, hz0, hz1, hz2⟩ := info_parts info_u8V
 have HI := Lib.hid (And.intro hi (And.intro hz0 (And.intro hz1 hz2))); clear hi hz0 hz1 hz2
 clear h
 go_enter Tryz.func94, Tryz.ntmps94
 go_upto_region 1 with fail
 generalize (w.alloc (.cells #[.int .u8 x.w, .int .u8 x.by_, .int .i64 x.hop, .int .i64 x.wh, .int .i64 x.party, .int .i64 x.a, .int .i64 x.b, .bool x.bad] 78)).alloc (.cells #[.slice none 0 0, .slice none 0 0] 59) = w0 at *
 have H0 := Lib.hid (H.out.below Hb0.out)
 refine wp_region_list ?_
 refine wpList_value (.pointer (some ⟨wob, 0, none⟩)) (by kernel_rfl) (by kernel_rfl) ?_
 simp only [Act.put, sT]
 refine wpList_load_mid (by rfl) 78 _ (by rfl) w.heap.size 0 (by rfl) [.int .u8 x.w, .int .u8 x.by_, .int .i64 x.hop, .int .i64 x.wh, .int .i64 x.party, .int .i64 x.a, .int .i64 x.b, .bool x.bad] _ (range_all HX0.out) Tryz.underlying78 rfl (by kernel_rfl) ?_
 simp only [Act.put, sT]
 go_wp2_with fail
 refine (amounts_any x w0).mono ?_
 rintro e w1 ⟨rfl, hb1⟩
 have HX1 := Lib.hid (block_below HX0.out hb1 (block_lt HX0.out)); have HY1 := Lib.hid (block_below HY0.out hb1 (block_lt HY0.out)); have Hb1 := Lib.hid (Hb0.out.trans (hb1.mono Hb0.out.size))
 have H1 := Lib.hid (H0.out.below hb1)
 have hK1 := Lib.hid (Kept.of_below Hb1.out hbk hmb)
 clear hb1
 have hpa := amt_pay x.a; have hpb := amt_pay x.b
 have hout := outcome_any H1.out (amt x.a) (amt x.b) hpa hpb hlen hk1 hk2
 have HOA : Hid (outA L nk x = if x.bad then (badO (outD L nk (amt x.a) (amt x.b)).1, (outD L nk (amt x.a) (amt x.b)).2) else outD L nk (amt x.a) (amt x.b)) := Lib.hid rfl
 have hsz : (outD L nk (amt x.a) (amt x.b)).1.sigs.length = 2 := (outS_len L _ nk 2).2
 have hpy : (outD L nk (amt x.a) (amt x.b)).1.pays.length = 2 := rfl
 clear hpa hpb
 generalize outD L nk (amt x.a) (amt x.b) = od at *
 have HOut := Lib.hid hout; have Hsz := Lib.hid hsz
 clear hout hsz hpy
 go_upto_region 2 with (go_at_call 25; refine HOut.out.mono ?_; rintro e w2 ⟨Ap, cp, As, cs, rfl, ho, hl, hc, hg, hk⟩; have HO2 := Lib.hid ho; have HL2 := Lib.hid hl; have HG2 := Lib.hid hg; have HK2 := Lib.hid (hK1.out.trans hk); have HX2 := Lib.hid (hk.typed _ _ _ _ HX1.out (by decide) (H1.out.ne_bk HX1.out (by decide))); have HY2 := Lib.hid (hk.typed _ _ _ _ HY1.out (by decide) (H1.out.ne_bk HY1.out (by decide))); clear ho hl hc hg hk)
 have hb3 := below_one w2 (.cells #[.slice Ap 2 cp, .slice As 2 cs] 59)
 have HZ3 : Hid ((w2.alloc (.cells #[.slice Ap 2 cp, .slice As 2 cs] 59)).heap[w2.heap.size]? = some (.cells #[.slice Ap 2 cp, .slice As 2 cs] 59 (0, 0))) := heap_alloc_new _ _
 have HX3 := Lib.hid (block_below HX2.out hb3 (block_lt HX2.out)); have HY3 := Lib.hid (block_below HY2.out hb3 (block_lt HY2.out))
 have HK3 := Lib.hid (HK2.out.low_transV (hb3.mono HK2.out.size) hbk)
 have HB3 := Lib.hid (HL2.out.book.below hb3)
 have HG3 := Lib.hid (HG2.out.below hb3)
 have HP3 := Lib.hid (own_weak (own_below HO2.out.p hb3) Hb1.out.size)
 have Hso := Lib.hid HO2.out.so
 generalize w2.alloc (.cells #[.slice Ap 2 cp, .slice As 2 cs] 59) = w3 at *
 clear hb3 HL2 HG2 HX2 HY2 HK2
 have hws : w.heap.size + 1 < w3.heap.size := block_lt HY3.out
 have b7 := block_cell HX3.out 7
 simp at b7
 have Hpy : Hid (od.1.pays.length = 2) := Lib.hid (by have := HP3.out.1; simp [ivs] at this; omega)
 cases hbad : x.bad with
 | false =>
  rw [hbad] at b7 HOA
  have HS3 := Lib.hid (HG3.out.ow.weak Hb1.out.size)
  clear hbad
  go_upto_region 4 with fail
  refine wp_region_list ?_
  refine wpList_load_mid (by rfl) 59 _ (by rfl) w2.heap.size 0 (by rfl) [.slice Ap 2 cp, .slice As 2 cs] _ (range_all HZ3.out) Tryz.underlying59 rfl (by kernel_rfl) ?_
  simp only [Act.put, sT]
  refine wpList_store_mid (by rfl) 59 _ _ (by rfl) (w.heap.size + 1) 0 #[.slice Ap 2 cp, .slice As 2 cs] (by rfl) (by rfl) (there_mid HY3.out (by simp)) (by kernel_rfl) (by kernel_rfl) ?_
  obtain ⟨s1', s2'⟩ := set_all HY3.out [.slice Ap 2 cp, .slice As 2 cs] rfl
  have HS1 := Lib.hid s1'; have HS2 := Lib.hid s2'
  clear s1' s2'
  dsimp only
  generalize World.setCells _ _ _ [.slice Ap 2 cp, .slice As 2 cs] = w9 at *
  go_wp2
  refine bodyPost_ret (results_cell 4 59 (w.heap.size + 1) #[.slice Ap 2 cp, .slice As 2 cs] _ _ _ rfl rfl HS1.out Tryz.underlying59 rfl (by kernel_rfl)) rfl ?_
  have hK9 := HK3.out.low_transV ((Below.refl w3.heap.size w3).mono HK3.out.size |>.grown HS2.out HK3.out.size (fun j hj => by cases hj; omega)) hbk
  have hB9 : BookAt w9 Bb bk mb od.2 := by
   obtain ⟨es, cl, hm, _⟩ := HB3.out.places
   refine HB3.out.typed HS2.out.size (fun j cs t fz e ht => ?_) (by rw [hm]; exact one_typed HS2.out HY3.out hm (fun _ _ x => by cases x))
   rw [e]
   refine one_typed HS2.out HY3.out e (fun cs' fz' x => ?_)
   injection x with _ x; subst x; revert ht; decide
  have hP9 := HP3.out.kept HS2.out (.inr fun e => own_ne HP3.out HY3.out (by decide) e.symm)
  have hS9 := HS3.out.kept HS2.out HY3.out (by decide) (by decide)
  have e1 : outA L nk x = od := HOA.out
  rw [e1]
  exact ⟨Ap, cp, As, cs, rfl, ⟨hP9, hS9, by omega, by omega, Hso.out⟩, H.out.kept hK9 hB9, LChg.of_kept hK9⟩
 | true =>
  rw [hbad] at b7 HOA
  clear hbad
  obtain ⟨gs, knd, kgl, k1, k2, k3⟩ := HG3.out
  obtain ⟨g0, g1, rfl⟩ : ∃ g0 g1, gs = [g0, g1] := by
   match gs, kgl with
   | [a, b], _ => exact ⟨a, b, rfl⟩
  have h0 := (k3 0 (by omega)).2
  have h1 := (k3 1 (by omega)).2
  simp only [List.getD_cons_zero, List.getD_cons_succ, List.map_cons, List.map_nil] at h0 h1 k1
  have hne : g0 ≠ g1 := by simpa using knd
  have HLs : Hid ((od.1.sigs.getD 0 []).length = 2) := Lib.hid (by have h9 : (bv (od.1.sigs.getD 0 [])).length = 2 * 1 := h0.1; unfold bv at h9; rw [List.length_map] at h9; omega)
  have hg0 : w1.heap.size ≤ g0 := (k3 0 (by omega)).1
  rcases k1.2 with ⟨e1, _⟩ | ⟨ga, cap, cur, e1, hbA, hgA, hnc, hcm, hcs, htk⟩
  ·simp at e1
  injection e1 with e1 e2 e3
  subst e1 e3
  have hcur : cur[0]? = some (.slice (some ⟨g0, 0, none⟩) 2 2) := by
   rw [← Array.getElem?_toList]
   have := congrArg (fun q => q[0]?) htk
   simpa [List.getElem?_take] using this
  have hc0 : w3.cell? ⟨ga, 0, none⟩ = some (.slice (some ⟨g0, 0, none⟩) 2 2) := (block_cell hgA 0).trans hcur
  have hfA := block_free hgA
  have hga := block_lt hgA
  have hgz := block_lt HZ3.out
  have z1 := block_cell HZ3.out 1
  simp at z1
  have H0' : Hid (((w3.alloc (.cells #[.int .u8 1] 5)).drew).ownsRow w1.heap.size 5 1 (.slice (some ⟨g0, 0, none⟩) 2 2) 2 (bv (od.1.sigs.getD 0 []))) := Lib.hid (h0.alloc (.cells #[.int .u8 1] 5))
  have H1' : Hid (((w3.alloc (.cells #[.int .u8 1] 5)).drew).ownsRow w1.heap.size 5 1 (.slice (some ⟨g1, 0, none⟩) 2 2) 2 (bv (od.1.sigs.getD 1 []))) := Lib.hid (h1.alloc (.cells #[.int .u8 1] 5))
  have HA : Hid (((w3.alloc (.cells #[.int .u8 1] 5)).drew).ownsRow w1.heap.size 46 1 (.slice (some ⟨ga, 0, none⟩) 2 cs) 2 [.slice (some ⟨g0, 0, none⟩) 2 2, .slice (some ⟨g1, 0, none⟩) 2 2]) := Lib.hid (k1.alloc (.cells #[.int .u8 1] 5))
  have HP4 : Hid (((w3.alloc (.cells #[.int .u8 1] 5)).drew).ownsRow w.heap.size 3 1 (.slice Ap 2 cp) 2 (ivs od.1.pays)) := Lib.hid (HP3.out.alloc (.cells #[.int .u8 1] 5))
  have HZ4 : Hid (((w3.alloc (.cells #[.int .u8 1] 5)).drew).heap[w2.heap.size]? = some (.cells #[.slice Ap 2 cp, .slice (some ⟨ga, 0, none⟩) 2 cs] 59 (0, 0))) := Lib.hid (block_alloc HZ3.out _)
  have HY4 : Hid (((w3.alloc (.cells #[.int .u8 1] 5)).drew).heap[w.heap.size + 1]? = some (.cells #[.slice none 0 0, .slice none 0 0] 59 (0, 0))) := Lib.hid (block_alloc HY3.out _)
  have HgA : Hid (((w3.alloc (.cells #[.int .u8 1] 5)).drew).heap[ga]? = some (.cells cur 46 (0, 0))) := Lib.hid (block_alloc hgA _)
  have HK4 : Hid (Kept w ((w3.alloc (.cells #[.int .u8 1] 5)).drew) bk mb) := Lib.hid (HK3.out.low_transV (((below_one w3 _).drew).mono HK3.out.size) hbk)
  have HB4 : Hid (BookAt ((w3.alloc (.cells #[.int .u8 1] 5)).drew) Bb bk mb od.2) := Lib.hid (HB3.out.below (below_one w3 _).drew)
  have HR4 : Hid (Rd ((w3.alloc (.cells #[.int .u8 1] 5)).drew) (w3.heap.size + 1) 1 (some ⟨w3.heap.size, 0, none⟩) 1 [.int .u8 1]) := Lib.hid (by have := Rd.newA (n := 1) (sz := 1) (xs := [.int .u8 1]) w3 5 #[.int .u8 1] rfl rfl; simp at this; exact this)
  have hw34 : ((w3.alloc (.cells #[.int .u8 1] 5)).drew).heap.size = w3.heap.size + 1 := by simp
  have hbase : w1.heap.size ≤ ((w3.alloc (.cells #[.int .u8 1] 5)).drew).heap.size := by have := k1.lt ga rfl; rw [hw34]; omega
  have hww1 := Hb1.out.size
  have HNe := Lib.hid hne
  clear h0 h1 k1 k2 k3 knd kgl htk hne HG3
  go_upto_region 3 with fail
  have Hbo : Hid (badO od.1 = ⟨od.1.pays, [od.1.sigs.getD 0 [] ++ [1], od.1.sigs.getD 1 []]⟩) := Lib.hid rfl
  go_cut [] (fun wx => ∃ cs', wx.heap[w2.heap.size]? = some (.cells #[.slice Ap 2 cp, .slice (some ⟨ga, 0, none⟩) 2 cs'] 59 (0, 0)) ∧ SigOw wx w.heap.size (.slice (some ⟨ga, 0, none⟩) 2 cs') 2 (badO od.1).sigs ∧ wx.ownsRow w.heap.size 3 1 (.slice Ap 2 cp) 2 (ivs od.1.pays) ∧ Kept w wx bk mb ∧ BookAt wx Bb bk mb od.2 ∧ wx.heap[w.heap.size + 1]? = some (.cells #[.slice none 0 0, .slice none 0 0] 59 (0, 0)))
  case first =>
   go_region_law (first
    | (refine step_append_atV ((w3.alloc (.cells #[.int .u8 1] 5)).drew) (by rfl) _ _ 46 (by rfl) w1.heap.size 5 iU (.int .u8 0) 1 1 Tryz.underlying46 HI.out rfl (by decide) _ _ _ (by rfl) H0'.out (w3.heap.size + 1) w3.heap.size 0 1 1 _ (by simp [Act.eval]) (by decide) HR4.out (by simp [Value.oneCell']) (by omega) (by omega) hbase ?_; go_must (intro v5 w5 ho5 hg5 hw5; obtain ⟨A5, c5, rfl⟩ := own_form ho5; have HO5 := Lib.hid ho5; have HG5 := Lib.hid hg5; clear ho5 hg5 hw5; have HgA5 := Lib.hid (block_grown HgA.out HG5.out (own_ne H0'.out HgA.out (by decide))); have z5 := (block_cell HgA5.out 0).trans hcur; have zf5 := block_free HgA5.out; have HZ5 := Lib.hid (block_grown HZ4.out HG5.out (own_ne H0'.out HZ4.out (by decide))); have y5 := block_cell HZ5.out 1; simp at y5)))
   all_goals
    have hHA5 := HA.out.kept HG5.out (own_apart HA.out H0'.out (by decide))
    have hH15 := H1'.out.kept HG5.out (.inr (by simpa [Value.ownBlock] using HNe.out.symm))
    have hHP5 := HP4.out.kept HG5.out (own_apart HP4.out H0'.out (by decide))
    have hHY5 := block_grown HY4.out HG5.out (own_ne H0'.out HY4.out (by decide))
    obtain ⟨q1, q2, -⟩ := own_put hHA5 (k := 0) (by omega) [.slice A5 3 c5] rfl
    have q1' : (w5.setCell ⟨ga, 0, none⟩ (.slice A5 3 c5)).ownsRow w1.heap.size 46 1 (.slice (some ⟨ga, 0, none⟩) 2 cs) 2 [.slice A5 3 c5, .slice (some ⟨g1, 0, none⟩) 2 2] := q1
    have q2' : w5.grownBy (w5.setCell ⟨ga, 0, none⟩ (.slice A5 3 c5)) (some ga) := q2
    have HAll : ∀ (j : Nat) (o : Obj), ((w3.alloc (.cells #[.int .u8 1] 5)).drew).heap[j]? = some o → (∀ cs fz, o ≠ .cells cs 5 fz) → (∀ cs fz, o ≠ .cells cs 46 fz) → (w5.setCell ⟨ga, 0, none⟩ (.slice A5 3 c5)).heap[j]? = some o := fun j o h h1 h2 => one_typed q2' HgA5.out (row_typed H0'.out HG5.out h h1) h2
    have hs5 := HG5.out.size
    have hs9 := q2'.size
    have hk9 := HK4.out.low_transV (((((Below.refl _ _).mono HK4.out.size).grown HG5.out HK4.out.size (fun j hj => by (have e0 : g0 = j := (by simpa [Value.ownBlock] using hj)); omega)).grown q2' (by have := HK4.out.size; omega) (fun j hj => by cases hj; omega)) : Below w.heap.size _ (w5.setCell ⟨ga, 0, none⟩ (.slice A5 3 c5))) hbk
    have hB9 : BookAt (w5.setCell ⟨ga, 0, none⟩ (.slice A5 3 c5)) Bb bk mb od.2 := by
     obtain ⟨es, cl, hm, _⟩ := HB4.out.places
     refine HB4.out.typed (by omega) (fun j cs t fz e ht => ?_) (by rw [hm]; exact HAll _ _ hm (fun _ _ x => by cases x) (fun _ _ x => by cases x))
     rw [e]
     refine HAll _ _ e (fun cs' fz' x => ?_) (fun cs' fz' x => ?_) <;> injection x with _ x <;> subst x <;> revert ht <;> decide
    have hS9 : SigOw (w5.setCell ⟨ga, 0, none⟩ (.slice A5 3 c5)) w.heap.size (.slice (some ⟨ga, 0, none⟩) 2 cs) 2 (badO od.1).sigs := by
     rw [Hbo.out]
     refine ⟨_, own_weak q1' hww1, rfl, fun j hj => ?_⟩
     rcases (show j = 0 ∨ j = 1 by omega) with rfl | rfl
     ·refine ⟨A5, 3, c5, rfl, ?_⟩
      have h6 := HO5.out.kept q2' (.inr fun e => own_ne HO5.out HgA5.out (by decide) e.symm)
      have e7 : bv (od.1.sigs.getD 0 []) ++ [Value.int .u8 1] = bv (od.1.sigs.getD 0 [] ++ [1]) := by simp [bv]
      rw [e7] at h6
      exact own_weak h6 hww1
     ·exact ⟨_, 2, 2, rfl, own_weak (hH15.kept q2' (.inr fun e => own_ne hH15 HgA5.out (by decide) e.symm)) hww1⟩
    have hP9 := hHP5.kept q2' (.inr fun e => own_ne hHP5 HgA5.out (by decide) e.symm)
    have hZ9 := one_typed q2' HgA5.out HZ5.out (fun _ _ x => by injection x with _ x; revert x; decide)
    have hY9 := one_typed q2' HgA5.out hHY5 (fun _ _ x => by injection x with _ x; revert x; decide)
    go_wp2_with fail
    go_meet
    exact ⟨cs, hZ9, hS9, hP9, hk9, hB9, hY9⟩
  case rest =>
   obtain ⟨cs', hZ9, hS9, hP9, hk9, hB9, hY9⟩ := hcut
   have HZ9 := Lib.hid hZ9; have HS9 := Lib.hid hS9; have HPq := Lib.hid hP9; have HK9 := Lib.hid hk9; have HB9 := Lib.hid hB9; have HY9 := Lib.hid hY9
   clear HP3 hZ9 hS9 hP9 hk9 hB9 hY9
   have HP3 := HPq
   have hwc := HK9.out.size
   go_upto_region 4 with fail
   refine wp_region_list ?_
   refine wpList_load_mid (by rfl) 59 _ (by rfl) w2.heap.size 0 (by rfl) [.slice Ap 2 cp, .slice (some ⟨ga, 0, none⟩) 2 cs'] _ (range_all HZ9.out) Tryz.underlying59 rfl (by kernel_rfl) ?_
   simp only [Act.put, sT]
   refine wpList_store_mid (by rfl) 59 _ _ (by rfl) (w.heap.size + 1) 0 #[.slice Ap 2 cp, .slice (some ⟨ga, 0, none⟩) 2 cs'] (by rfl) (by rfl) (there_mid HY9.out (by simp)) (by kernel_rfl) (by kernel_rfl) ?_
   obtain ⟨s1', s2'⟩ := set_all HY9.out [.slice Ap 2 cp, .slice (some ⟨ga, 0, none⟩) 2 cs'] rfl
   have HS1 := Lib.hid s1'; have HS2 := Lib.hid s2'
   clear s1' s2'
   dsimp only
   generalize World.setCells _ _ _ [.slice Ap 2 cp, .slice (some ⟨ga, 0, none⟩) 2 cs'] = w9 at *
   go_wp2
   refine bodyPost_ret (results_cell 4 59 (w.heap.size + 1) #[.slice Ap 2 cp, .slice (some ⟨ga, 0, none⟩) 2 cs'] _ _ _ rfl rfl HS1.out Tryz.underlying59 rfl (by kernel_rfl)) rfl ?_
   have hK9 := HK9.out.low_transV ((Below.refl wc.heap.size wc).mono HK9.out.size |>.grown HS2.out HK9.out.size (fun j hj => by cases hj; omega)) hbk
   have hB9 : BookAt w9 Bb bk mb od.2 := by
    obtain ⟨es, cl, hm, _⟩ := HB9.out.places
    refine HB9.out.typed HS2.out.size (fun j cs t fz e ht => ?_) (by rw [hm]; exact one_typed HS2.out HY9.out hm (fun _ _ x => by cases x))
    rw [e]
    refine one_typed HS2.out HY9.out e (fun cs' fz' x => ?_)
    injection x with _ x; subst x; revert ht; decide
   have hP9 := HP3.out.kept HS2.out (.inr fun e => own_ne HP3.out HY9.out (by decide) e.symm)
   have hS9 := HS9.out.kept HS2.out HY9.out (by decide) (by decide)
   have e1 : outA L nk x = (badO od.1, od.2) := HOA.out
   rw [e1]
   refine ⟨Ap, cp, some ⟨ga, 0, none⟩, cs', rfl, ⟨hP9, hS9, by omega, by omega, ?_⟩, H.out.kept hK9 hB9, LChg.of_kept hK9⟩
   intro s hs
   have hl2 := Hsz.out
   have hget : ∀ i, i < 2 → od.1.sigs.getD i [] ∈ od.1.sigs := fun i hi => by rw [List.getD_eq_getElem?_getD, List.getElem?_eq_getElem (by omega)]; exact List.getElem_mem _
   rw [Hbo.out] at hs
   simp only [List.mem_cons, List.not_mem_nil, or_false] at hs
   rcases hs with rfl | rfl
   ·obtain ⟨f1, f2⟩ := Hso.out _ (hget 0 (by omega))
    have f3 := (HLs.out)
    refine ⟨by rw [List.length_append, f3]; decide, fun z hz => ?_⟩
    rcases List.mem_append.1 hz with hz | hz
    ·exact f2 z hz
    ·rw [List.mem_singleton] at hz; omega
   ·exact Hso.out _ (hget 1 (by omega))
end
def Ac.who (x : Ac) : Int := if x.bad then IntKind.i64.wrap (x.party + 1) else x.party
def Ac.kb (x : Ac) : Nat := (30 + (x.who % 18446744073709551616) % 100).toNat
theorem Ac.kb_in (x : Ac) : (x.kb : Int) = 30 + (x.who % 18446744073709551616) % 100 ∧ x.kb ≤ 129 := by unfold Ac.kb; omega
def sgA (y : Wy) (L : List En) (x : Ac) : List En × Nat := signE L ⟨byD x.kb, y.pl.digest⟩
def lawDo (y : Wy) (L : List En) (x : Ac) (now : Int) : Int × Wy × List En :=
 if x.w % 4 = 0 then ((y.lockI x.hop now).1, (y.lock x.hop now).2, L)
 else if x.w % 4 = 1 then (y.agreeI (sgA y L x).1 x.party (sigL (sgA y L x).2), (y.agree (sgA y L x).1 x.party (sigL (sgA y L x).2)).2, (sgA y L x).1)
 else if x.w % 4 = 2 then ((y.openI (outA L y.pl.ks.length x).2 x.hop x.wh now (outA L y.pl.ks.length x).1).1, (y.open_ (outA L y.pl.ks.length x).2 x.hop x.wh now (outA L y.pl.ks.length x).1).2, (outA L y.pl.ks.length x).2)
 else ((y.backI x.hop x.wh now).1, (y.back x.hop x.wh now).2, L)
theorem outD_lenV (L : List En) (n : Nat) (p q : Int) : (outD L n p q).2.length ≤ L.length + 2 := (outS_len L (payD tabD [p, q]) n 2).1
section
variable {w w' : World} {B Bb wob wb bk mb : Nat} {y : Wy} {a : WyA} {L : List En} {Ak : Option Addr} {nk ck : Nat} {An : Option Addr} {nn cn : Nat} {Af : Option Addr} {nf cf : Nat} {vp : Value}
set_option maxRecDepth 100000 in
set_option maxHeartbeats 8000000 in
theorem do_any (h : LwAt w B Bb wob wb bk mb y a L Ak nk ck An nn cn Af nf cf vp) (x : Ac) (hx : x.ok) (now : Int) (hlen : L.length < 40000) (hk2 : nk ≤ 100) : Calls Tryz.prog 38 #[.pointer (some ⟨wob, 0, none⟩), .agg #[.int .u8 x.w, .int .u8 x.by_, .int .i64 x.hop, .int .i64 x.wh, .int .i64 x.party, .int .i64 x.a, .int .i64 x.b, .bool x.bad], .int .i64 now] w fun e w' =>
  e = .returned (.int .i64 (lawDo y L x now).1) ∧ ∃ a', LwAt w' B Bb wob wb bk mb (lawDo y L x now).2.1 a' (lawDo y L x now).2.2 Ak nk ck An nn cn Af nf cf vp ∧ a.sameF a' ∧ LChg a bk mb w w' := by
 have HX0 : Hid ((w.alloc (.cells #[.int .u8 x.w, .int .u8 x.by_, .int .i64 x.hop, .int .i64 x.wh, .int .i64 x.party, .int .i64 x.a, .int .i64 x.b, .bool x.bad] 78)).heap[w.heap.size]? = some (.cells #[.int .u8 x.w, .int .u8 x.by_, .int .i64 x.hop, .int .i64 x.wh, .int .i64 x.party, .int .i64 x.a, .int .i64 x.b, .bool x.bad] 78 (0, 0))) := heap_alloc_new _ _
 have hb0 := below_one w (.cells #[.int .u8 x.w, .int .u8 x.by_, .int .i64 x.hop, .int .i64 x.wh, .int .i64 x.party, .int .i64 x.a, .int .i64 x.b, .bool x.bad] 78)
 have Hb0 := Lib.hid hb0
 have H0 := Lib.hid (h.below hb0)
 have hko := hx.kw
 have hnk : y.pl.ks.length = nk := (Rd.of_own h.pl.k).dlenD
 have hk1 : 1 ≤ nk := by have := h.ok.pl.k2; omega
 have Hpl := Lib.hid h.ok.pl
 have Hnk := Lib.hid hnk
 clear h hb0 hnk
 have HD : Hid (lawDo y L x now = if x.w % 4 = 0 then ((y.lockI x.hop now).1, (y.lock x.hop now).2, L)
  else if x.w % 4 = 1 then (y.agreeI (sgA y L x).1 x.party (sigL (sgA y L x).2), (y.agree (sgA y L x).1 x.party (sigL (sgA y L x).2)).2, (sgA y L x).1)
  else if x.w % 4 = 2 then ((y.openI (outA L y.pl.ks.length x).2 x.hop x.wh now (outA L y.pl.ks.length x).1).1, (y.open_ (outA L y.pl.ks.length x).2 x.hop x.wh now (outA L y.pl.ks.length x).1).2, (outA L y.pl.ks.length x).2)
  else ((y.backI x.hop x.wh now).1, (y.back x.hop x.wh now).2, L)) := Lib.hid rfl
 generalize lawDo y L x now = ld at *
 go_enter Tryz.func38, Tryz.ntmps38
 go_upto_region 1 with fail
 generalize w.alloc (.cells #[.int .u8 x.w, .int .u8 x.by_, .int .i64 x.hop, .int .i64 x.wh, .int .i64 x.party, .int .i64 x.a, .int .i64 x.b, .bool x.bad] 78) = w0 at *
 have hl0 := block_lt HX0.out
 have r0 := block_cell HX0.out 0; have r2 := block_cell HX0.out 2; have r3 := block_cell HX0.out 3; have r4 := block_cell HX0.out 4; have r7 := block_cell HX0.out 7
 simp at r0 r2 r3 r4 r7
 have c0 := block_cell H0.out.box 0
 simp at c0
 rcases (show x.w % 4 = 0 ∨ x.w % 4 = 1 ∨ x.w % 4 = 2 ∨ x.w % 4 = 3 by omega) with hq | hq | hq | hq
 ·rw [hq, if_pos rfl] at HD
  have hm : (x.w : Int) % 4 = 0 := by omega
  clear hq hko
  --<
  go_upto_region 3 with fail
  refine wp_region_tail 7 (by kernel_rfl) (by kernel_rfl) ?_
  simp only [List.take_succ_cons, List.take_zero, List.drop_succ_cons, List.drop_zero]
  iterate 7 still_step
  refine wpStill_nil ?_
  go_wp2_with fail
  have hbd := (Below.refl w0.heap.size w0).drew
  refine (llock_any (H0.out.below hbd) x.hop now).mono ?_
  rintro e w9 ⟨rfl, a9, h1, h2, h3⟩
  have h3' : LChg a bk mb w0 w9 := ⟨h3.os, h3.tape, h3.output, h3.size, h3.low, h3.typed, h3.maps⟩
  have HL9 := Lib.hid h1; have HS9 := Lib.hid h2; have HC9 := Lib.hid h3'
  clear h1 h2 h3 h3' hbd
  go_wp2
  go_ret
  rw [HD.out]
  exact ⟨rfl, a9, HL9.out, HS9.out, (LChg.of_below Hb0.out).trans HC9.out⟩
  -->
 ·rw [hq, if_neg (by decide), if_pos rfl] at HD
  have hm : (x.w : Int) % 4 = 1 := by omega
  clear hq hko
  have HW : Hid (x.who = if x.bad then IntKind.i64.wrap (x.party + 1) else x.party) := Lib.hid rfl
  cases hbad : x.bad with
  | false =>
   rw [hbad] at HW r7 HX0
   have hwho : x.party = x.who := HW.out.symm
   have Hkb : Hid (IntKind.u8.wrap (IntKind.u64.wrap (30 + (IntKind.u64.wrap x.who).tmod 100)) = (x.kb : Int)) := Lib.hid (by have := x.kb_in; rw [IntKind.wrap_u64, IntKind.wrap_u64, IntKind.wrap_u8, Int.tmod_eq_emod_of_nonneg (by omega)]; omega)
   have HSg : Hid (sgA y L x = signE L ⟨byD x.kb, y.pl.digest⟩) := Lib.hid rfl
   --<
   go_upto_region 8 with fail
   have Hwho := Lib.hid hwho
   clear hwho
   refine wp_region_held_drew (S := fun w' => w'.heap[wob]? = some (.cells #[.pointer (some ⟨wb, 0, none⟩), .int .u8 y.pl.tb.x0, .int .u8 y.pl.tb.x1, .int .u8 y.pl.tb.x2, .int .u8 y.pl.tb.x3, .int .u8 y.pl.tb.x4, .int .u8 y.pl.tb.x5, .int .u8 y.pl.tb.x6, .int .u8 y.pl.tb.x7, .slice Ak nk ck, .int .i64 y.pl.s0, .int .i64 y.pl.s1, .slice An nn cn, .slice Af nf cf, .pointer (some ⟨bk, 0, none⟩), .int .i64 10, vp] 54 (0, 0))) (by kernel_rfl) H0.out.box (fun hHeld => ?_)
   have q1 : ∀ w' : World, w'.heap[wob]? = some (.cells #[.pointer (some ⟨wb, 0, none⟩), .int .u8 y.pl.tb.x0, .int .u8 y.pl.tb.x1, .int .u8 y.pl.tb.x2, .int .u8 y.pl.tb.x3, .int .u8 y.pl.tb.x4, .int .u8 y.pl.tb.x5, .int .u8 y.pl.tb.x6, .int .u8 y.pl.tb.x7, .slice Ak nk ck, .int .i64 y.pl.s0, .int .i64 y.pl.s1, .slice An nn cn, .slice Af nf cf, .pointer (some ⟨bk, 0, none⟩), .int .i64 10, vp] 54 (0, 0)) → w'.cell? ⟨wob, 14, none⟩ = some (.pointer (some ⟨bk, 0, none⟩)) := fun w' hw' => by have := block_cell hw' 14; simpa using this
   refine takP 0 32 ?_ rfl (by kernel_rfl) (fun _ _ _ => id) ?hy (by assumption) ?_
   case hy => intro w' h; clear h; go_simp; try with_reducible rfl
   simp only [Act.put, sT]
   refine takP 1 33 ?_ rfl (by kernel_rfl) (fun _ _ _ => id) ?hy (by assumption) ?_
   case hy => intro w' h; clear h; go_simp; try with_reducible rfl
   simp only [Act.put, sT]
   refine takP 2 34 ?_ rfl (by kernel_rfl) (fun _ _ _ => id) ?hy (by assumption) ?_
   case hy => intro w' h; clear h; go_simp; try with_reducible rfl
   simp only [Act.put, sT]
   refine takP 3 35 ?_ rfl (by kernel_rfl) (fun _ _ _ => id) ?hy (by assumption) ?_
   case hy => intro w' h; have hx := q1 w' h; clear h; go_simp; try with_reducible rfl
   simp only [Act.put, sT]
   refine takP 4 36 ?_ rfl (by kernel_rfl) (fun _ _ _ => id) ?hy (by assumption) ?_
   case hy => intro w' h; clear h; go_simp; try with_reducible rfl
   simp only [Act.put, sT]
   refine takP 5 37 ?_ rfl (by kernel_rfl) (fun _ _ _ => id) ?hy (by assumption) ?_
   case hy => intro w' h; clear h; go_simp; try with_reducible rfl
   simp only [Act.put, sT]
   refine takP 6 38 ?_ rfl (by kernel_rfl) (fun _ _ _ => id) ?hy (by assumption) ?_
   case hy => intro w' h; clear h; go_simp; try with_reducible rfl
   simp only [Act.put, sT]
   refine takP 7 39 ?_ rfl (by kernel_rfl) (fun _ _ _ => id) ?hy (by assumption) ?_
   case hy => intro w' h; clear h; go_simp; try with_reducible rfl
   simp only [Act.put, sT]
   refine takP 8 40 ?_ rfl (by kernel_rfl) (fun _ _ _ => id) ?hy (by assumption) ?_
   case hy => intro w' h; clear h; go_simp; try with_reducible rfl
   simp only [Act.put, sT]
   refine takP 9 41 ?_ rfl (by kernel_rfl) (fun _ _ _ => id) ?hy (by assumption) ?_
   case hy => intro w' h; clear h; go_simp; try with_reducible rfl
   simp only [Act.put, sT]
   rw [Hkb.out]
   have hsx := signer_any (byD x.kb) bk w0.drew
   have HSx : Hid (Calls Tryz.prog 74 #[.pointer (some ⟨bk, 0, none⟩), .agg #[.int .u8 x.kb, .int .u8 0, .int .u8 0, .int .u8 0, .int .u8 0, .int .u8 0, .int .u8 0, .int .u8 0]] w0.drew fun e w' => e = .returned (.iface 186 (.agg #[.pointer (some ⟨bk, 0, none⟩), .int .u8 (byD x.kb).x0, .int .u8 (byD x.kb).x1, .int .u8 (byD x.kb).x2, .int .u8 (byD x.kb).x3, .int .u8 (byD x.kb).x4, .int .u8 (byD x.kb).x5, .int .u8 (byD x.kb).x6, .int .u8 (byD x.kb).x7])) ∧ Below w0.drew.heap.size w0.drew w') := Lib.hid hsx
   clear hsx
   have hko : (byD x.kb).ok := byD_ok (by have := x.kb_in; omega)
   have HKo := Lib.hid hko
   clear hko
   generalize byD x.kb = kd at *
   refine takP 11 43 ?_ rfl (by kernel_rfl) (fun _ _ _ => id) ?hy (by assumption) ?_
   case hy => intro w' h; clear h; go_simp; try with_reducible rfl
   simp only [Act.put, sT]
   refine takP 12 44 ?_ rfl (by kernel_rfl) (fun _ _ _ => id) ?hy (by assumption) ?_
   case hy => intro w' h; clear h; go_simp; try with_reducible rfl
   simp only [Act.put, sT]
   refine takP 13 45 ?_ rfl (by kernel_rfl) (fun _ _ _ => id) ?hy (by assumption) ?_
   case hy => intro w' h; clear h; go_simp; try with_reducible rfl
   simp only [Act.put, sT]
   refine takeK 14 (some 46) (v := .agg ([.int .u8 y.pl.tb.x0, .int .u8 y.pl.tb.x1, .int .u8 y.pl.tb.x2, .int .u8 y.pl.tb.x3, .int .u8 y.pl.tb.x4, .int .u8 y.pl.tb.x5, .int .u8 y.pl.tb.x6, .int .u8 y.pl.tb.x7, .slice Ak nk ck, .int .i64 y.pl.s0, .int .i64 y.pl.s1, .slice An nn cn, .slice Af nf cf] : List Value).toArray) rfl (by kernel_rfl) (by kernel_rfl) (fun _ _ _ => id) (yieldsIf_load_mid (by kernel_rfl) 32 _ (by rfl) (wob) (1) (by rfl) [.int .u8 y.pl.tb.x0, .int .u8 y.pl.tb.x1, .int .u8 y.pl.tb.x2, .int .u8 y.pl.tb.x3, .int .u8 y.pl.tb.x4, .int .u8 y.pl.tb.x5, .int .u8 y.pl.tb.x6, .int .u8 y.pl.tb.x7, .slice Ak nk ck, .int .i64 y.pl.s0, .int .i64 y.pl.s1, .slice An nn cn, .slice Af nf cf] _ (fun w' hw' => range_part hw' 1 13 rfl) Tryz.underlying32 rfl (by kernel_rfl)) (by assumption) ?_
   simp only [Act.put, sT]
   refine wpAnyH_ready (rs := [10]) (by kernel_rfl) (by simp) ?_
   refine AllReadyH.cons rfl (fun K hK => ?_) AllReadyH.nil
   rw [if_pos (by kernel_rfl)]
   try simp only [List.getElem_toArray, List.getElem_cons_zero, List.getElem_cons_succ]
   go_simp
   go_at_call 74
   refine HSx.out.mono ?_
   rintro e w2 ⟨rfl, hb2⟩
   have HB2 : Hid (Below w0.heap.size w0 w2) := Lib.hid ((Below.refl w0.heap.size w0).drew.trans hb2)
   clear hb2
   have HL2 := Lib.hid (H0.out.below HB2.out)
   refine hK.out _ _ HL2.out.box (fun _ => ?_)
   clear hK K
   try simp only [Act.put, sT]
   have hna : ∀ w : World, (nilAhead 347 186 (.agg #[.pointer (some ⟨bk, 0, none⟩), .int .u8 kd.x0, .int .u8 kd.x1, .int .u8 kd.x2, .int .u8 kd.x3, .int .u8 kd.x4, .int .u8 kd.x5, .int .u8 kd.x6, .int .u8 kd.x7]) "Sign").run Tryz.prog w = .ok (some false) w := fun _ => by kernel_rfl
   have hme : ∀ w : World, (method 347 186 (.agg #[.pointer (some ⟨bk, 0, none⟩), .int .u8 kd.x0, .int .u8 kd.x1, .int .u8 kd.x2, .int .u8 kd.x3, .int .u8 kd.x4, .int .u8 kd.x5, .int .u8 kd.x6, .int .u8 kd.x7]) "Sign").run Tryz.prog w = .ok (201, .agg #[.pointer (some ⟨bk, 0, none⟩), .int .u8 kd.x0, .int .u8 kd.x1, .int .u8 kd.x2, .int .u8 kd.x3, .int .u8 kd.x4, .int .u8 kd.x5, .int .u8 kd.x6, .int .u8 kd.x7]) w := fun _ => by kernel_rfl
   refine takP 16 48 ?_ rfl (by kernel_rfl) (fun _ _ _ => id) ?hy (by assumption) ?_
   case hy => intro w' h; clear h; go_simp; try with_reducible rfl
   simp only [Act.put, sT]
   refine takP 17 49 ?_ rfl (by kernel_rfl) (fun _ _ _ => id) ?hy (by assumption) ?_
   case hy => intro w' h; clear h; go_simp; try with_reducible rfl
   simp only [Act.put, sT]
   refine takP 18 50 ?_ rfl (by kernel_rfl) (fun _ _ _ => id) ?hy (by assumption) ?_
   case hy => intro w' h; clear h; go_simp; try with_reducible rfl
   simp only [Act.put, sT]
   refine wpAnyH_ready (rs := [15]) (by kernel_rfl) (by simp) ?_
   refine AllReadyH.cons rfl (fun K hK => ?_) AllReadyH.nil
   rw [if_pos (by kernel_rfl)]
   try simp only [List.getElem_toArray, List.getElem_cons_zero, List.getElem_cons_succ]
   go_simp
   go_at_call 32
   refine (pldigest_any y.pl _ _ _ _ _ _ _ _ _ w2 HL2.out.pl.at_ Hpl.out.tb Hpl.out.ko).mono ?_
   rintro e w3 ⟨rfl, hb3⟩
   have HB3 := Lib.hid (HB2.out.trans (hb3.mono HB2.out.size))
   have HL3 := Lib.hid (H0.out.below HB3.out)
   have hdo : y.pl.digest.ok := hashOf_ok _
   have HDo := Lib.hid hdo
   clear hb3 hdo
   generalize hdg : y.pl.digest = dg at *
   have HDg := Lib.hid hdg
   clear hdg
   refine hK.out _ _ HL3.out.box (fun _ => ?_)
   clear hK K
   try simp only [Act.put, sT]
   refine wpAnyH_ready (rs := [19]) (by kernel_rfl) (by simp) ?_
   refine AllReadyH.cons rfl (fun K hK => ?_) AllReadyH.nil
   rw [if_pos (by kernel_rfl)]
   try simp only [List.getElem_toArray, List.getElem_cons_zero, List.getElem_cons_succ]
   go_simp
   go_at_call 201
   refine (wsign_any Bb bk mb L kd dg w3 HL3.out.book HKo.out HDo.out (by omega)).mono ?_
   rintro e w4 ⟨g, rfl, hg, hsig, hbook, hkept⟩
   have hle := signE_len L ⟨kd, dg⟩
   generalize hse : signE L ⟨kd, dg⟩ = se at *
   have HSe := Lib.hid hse
   have hl4 := HL3.out.kept hkept hbook
   have HL4 := Lib.hid hl4
   have HC4 : Hid (LChg a bk mb w0 w4) := Lib.hid ((LChg.of_below HB3.out).trans (LChg.of_kept hkept))
   have HSig := Lib.hid (sigAt_rd hsig)
   have HXk := hkept.typed _ _ _ _ (block_below HX0.out HB3.out (block_lt HX0.out)) (by decide) (HL3.out.ne_bk (block_below HX0.out HB3.out (block_lt HX0.out)) (by decide))
   have HX4 := Lib.hid HXk
   clear hse hsig hbook hkept hl4 hna hme HXk q1
   refine hK.out _ _ HL4.out.box (fun _ => ?_)
   clear hK K
   try simp only [Act.put, sT]
   refine takP 20 31 ?_ rfl (by kernel_rfl) (fun _ _ _ => id) ?hy (by assumption) ?_
   case hy => intro w' h; clear h; go_simp; try with_reducible rfl
   simp only [Act.put, sT]
   refine takP 21 52 ?_ rfl (by kernel_rfl) (fun _ _ _ => id) ?hy (by assumption) ?_
   case hy => intro w' h; clear h; go_simp; try with_reducible rfl
   simp only [Act.put, sT]
   refine takP 22 53 ?_ rfl (by kernel_rfl) (fun _ _ _ => id) ?hy (by assumption) ?_
   case hy => intro w' h; clear h; go_simp; try with_reducible rfl
   simp only [Act.put, sT]
   refine takP 23 8 ?_ rfl (by kernel_rfl) (fun _ _ _ => id) ?hy (by assumption) ?_
   case hy => intro w' h; clear h; go_simp; try with_reducible rfl
   simp only [Act.put, sT]
   refine takP 24 9 ?_ rfl (by kernel_rfl) (fun _ _ _ => id) ?hy (by assumption) ?_
   case hy => intro w' h; clear h; go_simp; try with_reducible rfl
   simp only [Act.put, sT]
   refine wpAnyH_done (by kernel_rfl) ?_ _
   clear hHeld r2 r3 r4 c0
   have r4 := block_cell HX4.out 4
   have c0 := block_cell HL4.out.box 0
   simp at r4 c0
   have hsl : ∀ z ∈ sigL se.2, z < 256 := sigL_lt _
   have HSl := Lib.hid hsl
   clear hsl
   go_upto_region 9 with fail
   refine wp_region_tail 7 (by kernel_rfl) (by kernel_rfl) ?_
   simp only [List.take_succ_cons, List.take_zero, List.drop_succ_cons, List.drop_zero]
   iterate 7 still_step
   refine wpStill_nil ?_
   go_wp2_with fail
   have hbd := (Below.refl w4.heap.size w4).drew
   have hag := lagreew_any (HL4.out.below hbd) (by omega) x.party (sigL se.2) (some ⟨g, 0, none⟩) 2 2 (HSig.out.below hbd (Nat.le_refl _)) (by omega) HSl.out
   refine hag.mono ?_
   rintro e w9 ⟨rfl, a9, h1, h2, h3⟩
   have h3' : LChg a bk mb w4 w9 := ⟨h3.os, h3.tape, h3.output, h3.size, h3.low, h3.typed, h3.maps⟩
   have HL9 := Lib.hid h1; have HS9 := Lib.hid h2; have HC9 := Lib.hid h3'
   clear h1 h2 h3 h3' hbd hag
   go_wp2
   go_ret
   rw [HD.out, HSg.out]
   exact ⟨rfl, a9, HL9.out, HS9.out, ((LChg.of_below Hb0.out).trans HC4.out).trans HC9.out⟩
   -->
  | true =>
   rw [hbad] at HW r7 HX0
   have hwho : IntKind.i64.wrap (x.party + 1) = x.who := HW.out.symm
   have Hkb : Hid (IntKind.u8.wrap (IntKind.u64.wrap (30 + (IntKind.u64.wrap x.who).tmod 100)) = (x.kb : Int)) := Lib.hid (by have := x.kb_in; rw [IntKind.wrap_u64, IntKind.wrap_u64, IntKind.wrap_u8, Int.tmod_eq_emod_of_nonneg (by omega)]; omega)
   have HSg : Hid (sgA y L x = signE L ⟨byD x.kb, y.pl.digest⟩) := Lib.hid rfl
   go_upto_region 8 with fail
   have Hwho := Lib.hid hwho
   clear hwho
   refine wp_region_held_drew (S := fun w' => w'.heap[wob]? = some (.cells #[.pointer (some ⟨wb, 0, none⟩), .int .u8 y.pl.tb.x0, .int .u8 y.pl.tb.x1, .int .u8 y.pl.tb.x2, .int .u8 y.pl.tb.x3, .int .u8 y.pl.tb.x4, .int .u8 y.pl.tb.x5, .int .u8 y.pl.tb.x6, .int .u8 y.pl.tb.x7, .slice Ak nk ck, .int .i64 y.pl.s0, .int .i64 y.pl.s1, .slice An nn cn, .slice Af nf cf, .pointer (some ⟨bk, 0, none⟩), .int .i64 10, vp] 54 (0, 0))) (by kernel_rfl) H0.out.box (fun hHeld => ?_)
   have q1 : ∀ w' : World, w'.heap[wob]? = some (.cells #[.pointer (some ⟨wb, 0, none⟩), .int .u8 y.pl.tb.x0, .int .u8 y.pl.tb.x1, .int .u8 y.pl.tb.x2, .int .u8 y.pl.tb.x3, .int .u8 y.pl.tb.x4, .int .u8 y.pl.tb.x5, .int .u8 y.pl.tb.x6, .int .u8 y.pl.tb.x7, .slice Ak nk ck, .int .i64 y.pl.s0, .int .i64 y.pl.s1, .slice An nn cn, .slice Af nf cf, .pointer (some ⟨bk, 0, none⟩), .int .i64 10, vp] 54 (0, 0)) → w'.cell? ⟨wob, 14, none⟩ = some (.pointer (some ⟨bk, 0, none⟩)) := fun w' hw' => by have := block_cell hw' 14; simpa using this
   refine takP 0 32 ?_ rfl (by kernel_rfl) (fun _ _ _ => id) ?hy (by assumption) ?_
   case hy => intro w' h; clear h; go_simp; try with_reducible rfl
   simp only [Act.put, sT]
   refine takP 1 33 ?_ rfl (by kernel_rfl) (fun _ _ _ => id) ?hy (by assumption) ?_
   case hy => intro w' h; clear h; go_simp; try with_reducible rfl
   simp only [Act.put, sT]
   refine takP 2 34 ?_ rfl (by kernel_rfl) (fun _ _ _ => id) ?hy (by assumption) ?_
   case hy => intro w' h; clear h; go_simp; try with_reducible rfl
   simp only [Act.put, sT]
   refine takP 3 35 ?_ rfl (by kernel_rfl) (fun _ _ _ => id) ?hy (by assumption) ?_
   case hy => intro w' h; have hx := q1 w' h; clear h; go_simp; try with_reducible rfl
   simp only [Act.put, sT]
   refine takP 4 36 ?_ rfl (by kernel_rfl) (fun _ _ _ => id) ?hy (by assumption) ?_
   case hy => intro w' h; clear h; go_simp; try with_reducible rfl
   simp only [Act.put, sT]
   refine takP 5 37 ?_ rfl (by kernel_rfl) (fun _ _ _ => id) ?hy (by assumption) ?_
   case hy => intro w' h; clear h; go_simp; try with_reducible rfl
   simp only [Act.put, sT]
   refine takP 6 38 ?_ rfl (by kernel_rfl) (fun _ _ _ => id) ?hy (by assumption) ?_
   case hy => intro w' h; clear h; go_simp; try with_reducible rfl
   simp only [Act.put, sT]
   refine takP 7 39 ?_ rfl (by kernel_rfl) (fun _ _ _ => id) ?hy (by assumption) ?_
   case hy => intro w' h; clear h; go_simp; try with_reducible rfl
   simp only [Act.put, sT]
   refine takP 8 40 ?_ rfl (by kernel_rfl) (fun _ _ _ => id) ?hy (by assumption) ?_
   case hy => intro w' h; clear h; go_simp; try with_reducible rfl
   simp only [Act.put, sT]
   refine takP 9 41 ?_ rfl (by kernel_rfl) (fun _ _ _ => id) ?hy (by assumption) ?_
   case hy => intro w' h; clear h; go_simp; try with_reducible rfl
   simp only [Act.put, sT]
   rw [Hkb.out]
   have hsx := signer_any (byD x.kb) bk w0.drew
   have HSx : Hid (Calls Tryz.prog 74 #[.pointer (some ⟨bk, 0, none⟩), .agg #[.int .u8 x.kb, .int .u8 0, .int .u8 0, .int .u8 0, .int .u8 0, .int .u8 0, .int .u8 0, .int .u8 0]] w0.drew fun e w' => e = .returned (.iface 186 (.agg #[.pointer (some ⟨bk, 0, none⟩), .int .u8 (byD x.kb).x0, .int .u8 (byD x.kb).x1, .int .u8 (byD x.kb).x2, .int .u8 (byD x.kb).x3, .int .u8 (byD x.kb).x4, .int .u8 (byD x.kb).x5, .int .u8 (byD x.kb).x6, .int .u8 (byD x.kb).x7])) ∧ Below w0.drew.heap.size w0.drew w') := Lib.hid hsx
   clear hsx
   have hko : (byD x.kb).ok := byD_ok (by have := x.kb_in; omega)
   have HKo := Lib.hid hko
   clear hko
   generalize byD x.kb = kd at *
   refine takP 11 43 ?_ rfl (by kernel_rfl) (fun _ _ _ => id) ?hy (by assumption) ?_
   case hy => intro w' h; clear h; go_simp; try with_reducible rfl
   simp only [Act.put, sT]
   refine takP 12 44 ?_ rfl (by kernel_rfl) (fun _ _ _ => id) ?hy (by assumption) ?_
   case hy => intro w' h; clear h; go_simp; try with_reducible rfl
   simp only [Act.put, sT]
   refine takP 13 45 ?_ rfl (by kernel_rfl) (fun _ _ _ => id) ?hy (by assumption) ?_
   case hy => intro w' h; clear h; go_simp; try with_reducible rfl
   simp only [Act.put, sT]
   refine takeK 14 (some 46) (v := .agg ([.int .u8 y.pl.tb.x0, .int .u8 y.pl.tb.x1, .int .u8 y.pl.tb.x2, .int .u8 y.pl.tb.x3, .int .u8 y.pl.tb.x4, .int .u8 y.pl.tb.x5, .int .u8 y.pl.tb.x6, .int .u8 y.pl.tb.x7, .slice Ak nk ck, .int .i64 y.pl.s0, .int .i64 y.pl.s1, .slice An nn cn, .slice Af nf cf] : List Value).toArray) rfl (by kernel_rfl) (by kernel_rfl) (fun _ _ _ => id) (yieldsIf_load_mid (by kernel_rfl) 32 _ (by rfl) (wob) (1) (by rfl) [.int .u8 y.pl.tb.x0, .int .u8 y.pl.tb.x1, .int .u8 y.pl.tb.x2, .int .u8 y.pl.tb.x3, .int .u8 y.pl.tb.x4, .int .u8 y.pl.tb.x5, .int .u8 y.pl.tb.x6, .int .u8 y.pl.tb.x7, .slice Ak nk ck, .int .i64 y.pl.s0, .int .i64 y.pl.s1, .slice An nn cn, .slice Af nf cf] _ (fun w' hw' => range_part hw' 1 13 rfl) Tryz.underlying32 rfl (by kernel_rfl)) (by assumption) ?_
   simp only [Act.put, sT]
   refine wpAnyH_ready (rs := [10]) (by kernel_rfl) (by simp) ?_
   refine AllReadyH.cons rfl (fun K hK => ?_) AllReadyH.nil
   rw [if_pos (by kernel_rfl)]
   try simp only [List.getElem_toArray, List.getElem_cons_zero, List.getElem_cons_succ]
   go_simp
   go_at_call 74
   refine HSx.out.mono ?_
   rintro e w2 ⟨rfl, hb2⟩
   have HB2 : Hid (Below w0.heap.size w0 w2) := Lib.hid ((Below.refl w0.heap.size w0).drew.trans hb2)
   clear hb2
   have HL2 := Lib.hid (H0.out.below HB2.out)
   refine hK.out _ _ HL2.out.box (fun _ => ?_)
   clear hK K
   try simp only [Act.put, sT]
   have hna : ∀ w : World, (nilAhead 347 186 (.agg #[.pointer (some ⟨bk, 0, none⟩), .int .u8 kd.x0, .int .u8 kd.x1, .int .u8 kd.x2, .int .u8 kd.x3, .int .u8 kd.x4, .int .u8 kd.x5, .int .u8 kd.x6, .int .u8 kd.x7]) "Sign").run Tryz.prog w = .ok (some false) w := fun _ => by kernel_rfl
   have hme : ∀ w : World, (method 347 186 (.agg #[.pointer (some ⟨bk, 0, none⟩), .int .u8 kd.x0, .int .u8 kd.x1, .int .u8 kd.x2, .int .u8 kd.x3, .int .u8 kd.x4, .int .u8 kd.x5, .int .u8 kd.x6, .int .u8 kd.x7]) "Sign").run Tryz.prog w = .ok (201, .agg #[.pointer (some ⟨bk, 0, none⟩), .int .u8 kd.x0, .int .u8 kd.x1, .int .u8 kd.x2, .int .u8 kd.x3, .int .u8 kd.x4, .int .u8 kd.x5, .int .u8 kd.x6, .int .u8 kd.x7]) w := fun _ => by kernel_rfl
   refine takP 16 48 ?_ rfl (by kernel_rfl) (fun _ _ _ => id) ?hy (by assumption) ?_
   case hy => intro w' h; clear h; go_simp; try with_reducible rfl
   simp only [Act.put, sT]
   refine takP 17 49 ?_ rfl (by kernel_rfl) (fun _ _ _ => id) ?hy (by assumption) ?_
   case hy => intro w' h; clear h; go_simp; try with_reducible rfl
   simp only [Act.put, sT]
   refine takP 18 50 ?_ rfl (by kernel_rfl) (fun _ _ _ => id) ?hy (by assumption) ?_
   case hy => intro w' h; clear h; go_simp; try with_reducible rfl
   simp only [Act.put, sT]
   refine wpAnyH_ready (rs := [15]) (by kernel_rfl) (by simp) ?_
   refine AllReadyH.cons rfl (fun K hK => ?_) AllReadyH.nil
   rw [if_pos (by kernel_rfl)]
   try simp only [List.getElem_toArray, List.getElem_cons_zero, List.getElem_cons_succ]
   go_simp
   go_at_call 32
   refine (pldigest_any y.pl _ _ _ _ _ _ _ _ _ w2 HL2.out.pl.at_ Hpl.out.tb Hpl.out.ko).mono ?_
   rintro e w3 ⟨rfl, hb3⟩
   have HB3 := Lib.hid (HB2.out.trans (hb3.mono HB2.out.size))
   have HL3 := Lib.hid (H0.out.below HB3.out)
   have hdo : y.pl.digest.ok := hashOf_ok _
   have HDo := Lib.hid hdo
   clear hb3 hdo
   generalize hdg : y.pl.digest = dg at *
   have HDg := Lib.hid hdg
   clear hdg
   refine hK.out _ _ HL3.out.box (fun _ => ?_)
   clear hK K
   try simp only [Act.put, sT]
   refine wpAnyH_ready (rs := [19]) (by kernel_rfl) (by simp) ?_
   refine AllReadyH.cons rfl (fun K hK => ?_) AllReadyH.nil
   rw [if_pos (by kernel_rfl)]
   try simp only [List.getElem_toArray, List.getElem_cons_zero, List.getElem_cons_succ]
   go_simp
   go_at_call 201
   refine (wsign_any Bb bk mb L kd dg w3 HL3.out.book HKo.out HDo.out (by omega)).mono ?_
   rintro e w4 ⟨g, rfl, hg, hsig, hbook, hkept⟩
   have hle := signE_len L ⟨kd, dg⟩
   generalize hse : signE L ⟨kd, dg⟩ = se at *
   have HSe := Lib.hid hse
   have hl4 := HL3.out.kept hkept hbook
   have HL4 := Lib.hid hl4
   have HC4 : Hid (LChg a bk mb w0 w4) := Lib.hid ((LChg.of_below HB3.out).trans (LChg.of_kept hkept))
   have HSig := Lib.hid (sigAt_rd hsig)
   have HXk := hkept.typed _ _ _ _ (block_below HX0.out HB3.out (block_lt HX0.out)) (by decide) (HL3.out.ne_bk (block_below HX0.out HB3.out (block_lt HX0.out)) (by decide))
   have HX4 := Lib.hid HXk
   clear hse hsig hbook hkept hl4 hna hme HXk q1
   refine hK.out _ _ HL4.out.box (fun _ => ?_)
   clear hK K
   try simp only [Act.put, sT]
   refine takP 20 31 ?_ rfl (by kernel_rfl) (fun _ _ _ => id) ?hy (by assumption) ?_
   case hy => intro w' h; clear h; go_simp; try with_reducible rfl
   simp only [Act.put, sT]
   refine takP 21 52 ?_ rfl (by kernel_rfl) (fun _ _ _ => id) ?hy (by assumption) ?_
   case hy => intro w' h; clear h; go_simp; try with_reducible rfl
   simp only [Act.put, sT]
   refine takP 22 53 ?_ rfl (by kernel_rfl) (fun _ _ _ => id) ?hy (by assumption) ?_
   case hy => intro w' h; clear h; go_simp; try with_reducible rfl
   simp only [Act.put, sT]
   refine takP 23 8 ?_ rfl (by kernel_rfl) (fun _ _ _ => id) ?hy (by assumption) ?_
   case hy => intro w' h; clear h; go_simp; try with_reducible rfl
   simp only [Act.put, sT]
   refine takP 24 9 ?_ rfl (by kernel_rfl) (fun _ _ _ => id) ?hy (by assumption) ?_
   case hy => intro w' h; clear h; go_simp; try with_reducible rfl
   simp only [Act.put, sT]
   refine wpAnyH_done (by kernel_rfl) ?_ _
   clear hHeld r2 r3 r4 c0
   have r4 := block_cell HX4.out 4
   have c0 := block_cell HL4.out.box 0
   simp at r4 c0
   have hsl : ∀ z ∈ sigL se.2, z < 256 := sigL_lt _
   have HSl := Lib.hid hsl
   clear hsl
   go_upto_region 9 with fail
   refine wp_region_tail 7 (by kernel_rfl) (by kernel_rfl) ?_
   simp only [List.take_succ_cons, List.take_zero, List.drop_succ_cons, List.drop_zero]
   iterate 7 still_step
   refine wpStill_nil ?_
   go_wp2_with fail
   have hbd := (Below.refl w4.heap.size w4).drew
   have hag := lagreew_any (HL4.out.below hbd) (by omega) x.party (sigL se.2) (some ⟨g, 0, none⟩) 2 2 (HSig.out.below hbd (Nat.le_refl _)) (by omega) HSl.out
   refine hag.mono ?_
   rintro e w9 ⟨rfl, a9, h1, h2, h3⟩
   have h3' : LChg a bk mb w4 w9 := ⟨h3.os, h3.tape, h3.output, h3.size, h3.low, h3.typed, h3.maps⟩
   have HL9 := Lib.hid h1; have HS9 := Lib.hid h2; have HC9 := Lib.hid h3'
   clear h1 h2 h3 h3' hbd hag
   go_wp2
   go_ret
   rw [HD.out, HSg.out]
   exact ⟨rfl, a9, HL9.out, HS9.out, ((LChg.of_below Hb0.out).trans HC4.out).trans HC9.out⟩
 ·rw [hq, if_neg (by decide), if_neg (by decide), if_pos rfl] at HD
  have hm : (x.w : Int) % 4 = 2 := by omega
  clear hq hko
  have hbd := (Below.refl w0.heap.size w0).drew
  have hone := one_any (H0.out.below hbd) x (by omega) hk1 hk2
  clear hbd
  rw [← Hnk.out] at hone
  have hol : (outA L y.pl.ks.length x).2.length ≤ L.length + 2 := by
   have := outD_lenV L y.pl.ks.length (amt x.a) (amt x.b)
   unfold outA; split <;> exact this
  generalize outA L y.pl.ks.length x = oo at *
  have HOne := Lib.hid hone
  clear hone
  go_upto_region 11 with fail
  have HBx : Hid (w0.drew.heap[wob]? = some (.cells #[.pointer (some ⟨wb, 0, none⟩), .int .u8 y.pl.tb.x0, .int .u8 y.pl.tb.x1, .int .u8 y.pl.tb.x2, .int .u8 y.pl.tb.x3, .int .u8 y.pl.tb.x4, .int .u8 y.pl.tb.x5, .int .u8 y.pl.tb.x6, .int .u8 y.pl.tb.x7, .slice Ak nk ck, .int .i64 y.pl.s0, .int .i64 y.pl.s1, .slice An nn cn, .slice Af nf cf, .pointer (some ⟨bk, 0, none⟩), .int .i64 10, vp] 54 (0, 0)) ∧ w0.drew.heap[w.heap.size]? = some (.cells #[.int .u8 x.w, .int .u8 x.by_, .int .i64 x.hop, .int .i64 x.wh, .int .i64 x.party, .int .i64 x.a, .int .i64 x.b, .bool x.bad] 78 (0, 0))) := Lib.hid ⟨H0.out.box, HX0.out⟩
  refine wp_region_held_drew (S := fun w' => w'.heap[wob]? = some (.cells #[.pointer (some ⟨wb, 0, none⟩), .int .u8 y.pl.tb.x0, .int .u8 y.pl.tb.x1, .int .u8 y.pl.tb.x2, .int .u8 y.pl.tb.x3, .int .u8 y.pl.tb.x4, .int .u8 y.pl.tb.x5, .int .u8 y.pl.tb.x6, .int .u8 y.pl.tb.x7, .slice Ak nk ck, .int .i64 y.pl.s0, .int .i64 y.pl.s1, .slice An nn cn, .slice Af nf cf, .pointer (some ⟨bk, 0, none⟩), .int .i64 10, vp] 54 (0, 0)) ∧ w'.heap[w.heap.size]? = some (.cells #[.int .u8 x.w, .int .u8 x.by_, .int .i64 x.hop, .int .i64 x.wh, .int .i64 x.party, .int .i64 x.a, .int .i64 x.b, .bool x.bad] 78 (0, 0))) (by kernel_rfl) HBx.out (fun hHeld => ?_)
  have q1 : ∀ w' : World, w'.heap[wob]? = some (.cells #[.pointer (some ⟨wb, 0, none⟩), .int .u8 y.pl.tb.x0, .int .u8 y.pl.tb.x1, .int .u8 y.pl.tb.x2, .int .u8 y.pl.tb.x3, .int .u8 y.pl.tb.x4, .int .u8 y.pl.tb.x5, .int .u8 y.pl.tb.x6, .int .u8 y.pl.tb.x7, .slice Ak nk ck, .int .i64 y.pl.s0, .int .i64 y.pl.s1, .slice An nn cn, .slice Af nf cf, .pointer (some ⟨bk, 0, none⟩), .int .i64 10, vp] 54 (0, 0)) ∧ w'.heap[w.heap.size]? = some (.cells #[.int .u8 x.w, .int .u8 x.by_, .int .i64 x.hop, .int .i64 x.wh, .int .i64 x.party, .int .i64 x.a, .int .i64 x.b, .bool x.bad] 78 (0, 0)) → w'.cell? ⟨wob, 0, none⟩ = some (.pointer (some ⟨wb, 0, none⟩)) := fun w' hw' => block_cell hw'.1 0
  have q2 : ∀ w' : World, w'.heap[wob]? = some (.cells #[.pointer (some ⟨wb, 0, none⟩), .int .u8 y.pl.tb.x0, .int .u8 y.pl.tb.x1, .int .u8 y.pl.tb.x2, .int .u8 y.pl.tb.x3, .int .u8 y.pl.tb.x4, .int .u8 y.pl.tb.x5, .int .u8 y.pl.tb.x6, .int .u8 y.pl.tb.x7, .slice Ak nk ck, .int .i64 y.pl.s0, .int .i64 y.pl.s1, .slice An nn cn, .slice Af nf cf, .pointer (some ⟨bk, 0, none⟩), .int .i64 10, vp] 54 (0, 0)) ∧ w'.heap[w.heap.size]? = some (.cells #[.int .u8 x.w, .int .u8 x.by_, .int .i64 x.hop, .int .i64 x.wh, .int .i64 x.party, .int .i64 x.a, .int .i64 x.b, .bool x.bad] 78 (0, 0)) → w'.cell? ⟨w.heap.size, 2, none⟩ = some (.int .i64 x.hop) := fun w' hw' => block_cell hw'.2 2
  have q3 : ∀ w' : World, w'.heap[wob]? = some (.cells #[.pointer (some ⟨wb, 0, none⟩), .int .u8 y.pl.tb.x0, .int .u8 y.pl.tb.x1, .int .u8 y.pl.tb.x2, .int .u8 y.pl.tb.x3, .int .u8 y.pl.tb.x4, .int .u8 y.pl.tb.x5, .int .u8 y.pl.tb.x6, .int .u8 y.pl.tb.x7, .slice Ak nk ck, .int .i64 y.pl.s0, .int .i64 y.pl.s1, .slice An nn cn, .slice Af nf cf, .pointer (some ⟨bk, 0, none⟩), .int .i64 10, vp] 54 (0, 0)) ∧ w'.heap[w.heap.size]? = some (.cells #[.int .u8 x.w, .int .u8 x.by_, .int .i64 x.hop, .int .i64 x.wh, .int .i64 x.party, .int .i64 x.a, .int .i64 x.b, .bool x.bad] 78 (0, 0)) → w'.cell? ⟨w.heap.size, 3, none⟩ = some (.int .i64 x.wh) := fun w' hw' => block_cell hw'.2 3
  refine takP 0 64 ?_ rfl (by kernel_rfl) (fun _ _ _ => id) ?hy (by assumption) ?_
  case hy => intro w' h; clear h; go_simp; try with_reducible rfl
  simp only [Act.put, sT]
  refine takP 1 65 ?_ rfl (by kernel_rfl) (fun _ _ _ => id) ?hy (by assumption) ?_
  case hy => intro w' h; clear h; go_simp; try with_reducible rfl
  simp only [Act.put, sT]
  refine takP 2 66 ?_ rfl (by kernel_rfl) (fun _ _ _ => id) ?hy (by assumption) ?_
  case hy => intro w' h; clear h; go_simp; try with_reducible rfl
  simp only [Act.put, sT]
  refine takP 3 67 ?_ rfl (by kernel_rfl) (fun _ _ _ => id) ?hy (by assumption) ?_
  case hy => intro w' h; have hx := q1 w' h; clear h; go_simp; try with_reducible rfl
  simp only [Act.put, sT]
  refine takP 4 68 ?_ rfl (by kernel_rfl) (fun _ _ _ => id) ?hy (by assumption) ?_
  case hy => intro w' h; clear h; go_simp; try with_reducible rfl
  simp only [Act.put, sT]
  refine takP 5 69 ?_ rfl (by kernel_rfl) (fun _ _ _ => id) ?hy (by assumption) ?_
  case hy => intro w' h; have hx := q2 w' h; clear h; go_simp; try with_reducible rfl
  simp only [Act.put, sT]
  refine takP 6 70 ?_ rfl (by kernel_rfl) (fun _ _ _ => id) ?hy (by assumption) ?_
  case hy => intro w' h; clear h; go_simp; try with_reducible rfl
  simp only [Act.put, sT]
  refine takP 7 71 ?_ rfl (by kernel_rfl) (fun _ _ _ => id) ?hy (by assumption) ?_
  case hy => intro w' h; have hx := q3 w' h; clear h; go_simp; try with_reducible rfl
  simp only [Act.put, sT]
  refine takP 8 72 ?_ rfl (by kernel_rfl) (fun _ _ _ => id) ?hy (by assumption) ?_
  case hy => intro w' h; clear h; go_simp; try with_reducible rfl
  simp only [Act.put, sT]
  refine takP 9 73 ?_ rfl (by kernel_rfl) (fun _ _ _ => id) ?hy (by assumption) ?_
  case hy => intro w' h; clear h; go_simp; try with_reducible rfl
  simp only [Act.put, sT]
  refine takeK 10 (some 74) (v := .agg ([.int .u8 x.w, .int .u8 x.by_, .int .i64 x.hop, .int .i64 x.wh, .int .i64 x.party, .int .i64 x.a, .int .i64 x.b, .bool x.bad] : List Value).toArray) rfl (by kernel_rfl) (by kernel_rfl) (fun _ _ _ => id) (yieldsIf_load_mid (by kernel_rfl) 78 _ (by rfl) (w.heap.size) (0) (by rfl) [.int .u8 x.w, .int .u8 x.by_, .int .i64 x.hop, .int .i64 x.wh, .int .i64 x.party, .int .i64 x.a, .int .i64 x.b, .bool x.bad] _ (fun w' hw' => range_all hw'.2) Tryz.underlying78 rfl (by kernel_rfl)) (by assumption) ?_
  simp only [Act.put, sT]
  refine wpAnyH_ready (rs := [11]) (by kernel_rfl) (by simp) ?_
  refine AllReadyH.cons rfl (fun K hK => ?_) AllReadyH.nil
  rw [if_pos (by kernel_rfl)]
  try simp only [List.getElem_toArray, List.getElem_cons_zero, List.getElem_cons_succ]
  go_simp
  rw [Hnk.out] at HOne
  go_at_call 94
  refine HOne.out.mono ?_
  rintro e w1 ⟨Ap, cp, As, cs, rfl, ho, hl, hc⟩
  have hc' : LChg a bk mb w0 w1 := ⟨hc.os, hc.tape, hc.output, hc.size, hc.low, hc.typed, hc.maps⟩
  have HL1 := Lib.hid hl; have HO1 := Lib.hid ho; have HC1 := Lib.hid hc'
  have HX1 := Lib.hid (H0.out.keep hc' HX0.out (by decide) (by decide) (by decide) (by decide))
  clear hl ho hc hc'
  have hop := lopen_any HL1.out (by omega) x.hop x.wh now oo.1 Ap 2 cp As 2 cs HO1.out
  have HOp := Lib.hid hop
  clear hop
  refine hK.out _ _ (And.intro HL1.out.box HX1.out) (fun _ => ?_)
  clear hK K
  try simp only [Act.put, sT]
  refine wpAnyH_ready (rs := [12]) (by kernel_rfl) (by simp) ?_
  refine AllReadyH.cons rfl (fun K hK => ?_) AllReadyH.nil
  rw [if_pos (by kernel_rfl)]
  try simp only [List.getElem_toArray, List.getElem_cons_zero, List.getElem_cons_succ]
  go_simp
  go_at_call 26
  refine HOp.out.mono ?_
  rintro e w9 ⟨rfl, a9, h1, h2, h3⟩
  have HW9 := Lib.hid (HL1.out.keep h3 HL1.out.box (by decide) (by decide) (by decide) (by decide))
  have HX9 := Lib.hid (HL1.out.keep h3 HX1.out (by decide) (by decide) (by decide) (by decide))
  have HL9 := Lib.hid h1; have HS9 := Lib.hid h2; have HC9 := Lib.hid h3
  clear h1 h2 h3
  refine hK.out _ _ (And.intro HW9.out HX9.out) (fun _ => ?_)
  clear hK K
  try simp only [Act.put, sT]
  refine takP 13 6 ?_ rfl (by kernel_rfl) (fun _ _ _ => id) ?hy (by assumption) ?_
  case hy => intro w' h; clear h; go_simp; try with_reducible rfl
  simp only [Act.put, sT]
  refine wpAnyH_done (by kernel_rfl) ?_ _
  go_wp2
  go_ret
  rw [HD.out]
  exact ⟨rfl, a9, HL9.out, HS9.out, ((LChg.of_below Hb0.out).trans HC1.out).trans HC9.out⟩
 ·rw [hq, if_neg (by decide), if_neg (by decide), if_neg (by decide)] at HD
  have hm : (x.w : Int) % 4 = 3 := by omega
  clear hq hko
  --<
  go_upto_region 12 with fail
  refine wp_region_tail 9 (by kernel_rfl) (by kernel_rfl) ?_
  simp only [List.take_succ_cons, List.take_zero, List.drop_succ_cons, List.drop_zero]
  iterate 9 still_step
  refine wpStill_nil ?_
  go_wp2_with fail
  have hbd := (Below.refl w0.heap.size w0).drew
  refine (lback_any (H0.out.below hbd) x.hop x.wh now).mono ?_
  rintro e w9 ⟨rfl, a9, h1, h2, h3⟩
  have h3' : LChg a bk mb w0 w9 := ⟨h3.os, h3.tape, h3.output, h3.size, h3.low, h3.typed, h3.maps⟩
  have HL9 := Lib.hid h1; have HS9 := Lib.hid h2; have HC9 := Lib.hid h3'
  clear h1 h2 h3 h3' hbd
  go_wp2
  go_ret
  rw [HD.out]
  exact ⟨rfl, a9, HL9.out, HS9.out, (LChg.of_below Hb0.out).trans HC9.out⟩
  -->
end
end Go.Proofs.YthhiookcknnmdaaGreat
