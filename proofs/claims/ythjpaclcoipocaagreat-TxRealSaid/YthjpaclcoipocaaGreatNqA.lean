/- A real signer: the walks of NewReal, of its methods, and of Verify. Conditions: bounds. -/
import Derived.Test.YthjpaclcoipocaaGreatInv
import Derived.Test.YthjpaclcoipocaaGreatJoinK
import Derived.Test.YthjpaclcoipocaaGreatKfB
namespace Go.Proofs.YthjpaclcoipocaaGreat
open Go.RowKit Go.Lib




/-- A real signer, as a value behind its interface. -/
def rgV (br : Nat) : Value := .agg #[.pointer (some ⟨br, 0, none⟩)]
theorem nil_rsign (br : Nat) (w : World) : (nilAhead (Tryz.prog.types.size + Made.depth) 48 (.agg #[.pointer (some ⟨br, 0, none⟩)]) "Sign").run Tryz.prog w = .ok (some false) w := by kernel_rfl
theorem meth_rsign (br : Nat) (w : World) : (method (Tryz.prog.types.size + Made.depth) 48 (.agg #[.pointer (some ⟨br, 0, none⟩)]) "Sign").run Tryz.prog w = .ok (116, .agg #[.pointer (some ⟨br, 0, none⟩)]) w := by kernel_rfl
theorem meth_rkey (br : Nat) (w : World) : (method (Tryz.prog.types.size + Made.depth) 48 (.agg #[.pointer (some ⟨br, 0, none⟩)]) "Key").run Tryz.prog w = .ok (115, .agg #[.pointer (some ⟨br, 0, none⟩)]) w := by kernel_rfl
set_option maxRecDepth 100000 in
set_option maxHeartbeats 2000000 in
theorem newReal_any (s : D8) (h : Nat) (w : World) (hs : s.ok) (hh : h ≤ 8) :
    Calls Tryz.prog 4 #[.agg #[.int .u8 (s.x0 : Int), .int .u8 (s.x1 : Int), .int .u8 (s.x2 : Int), .int .u8 (s.x3 : Int), .int .u8 (s.x4 : Int), .int .u8 (s.x5 : Int), .int .u8 (s.x6 : Int), .int .u8 (s.x7 : Int)], .int .i64 (h : Int)] w fun e w' => ∃ br F T0 T1 B, e = .returned (.tuple #[.iface 48 (.agg #[.pointer (some ⟨br, 0, none⟩)]), .int .i64 0]) ∧ w.heap.size ≤ B ∧ RingAt w' B F T0 T1 br (RingM.new s h) ∧ Below w.heap.size w w' := by
  have HS0 : Hid ((w.alloc (.cells #[.int .u8 (s.x0 : Int), .int .u8 (s.x1 : Int), .int .u8 (s.x2 : Int), .int .u8 (s.x3 : Int), .int .u8 (s.x4 : Int), .int .u8 (s.x5 : Int), .int .u8 (s.x6 : Int), .int .u8 (s.x7 : Int)] 30)).heap[w.heap.size]? = some (.cells #[.int .u8 (s.x0 : Int), .int .u8 (s.x1 : Int), .int .u8 (s.x2 : Int), .int .u8 (s.x3 : Int), .int .u8 (s.x4 : Int), .int .u8 (s.x5 : Int), .int .u8 (s.x6 : Int), .int .u8 (s.x7 : Int)] 30 (0, 0))) := heap_alloc_new w _
  have Hw0 := Lib.hid (h_one w (.cells #[.int .u8 (s.x0 : Int), .int .u8 (s.x1 : Int), .int .u8 (s.x2 : Int), .int .u8 (s.x3 : Int), .int .u8 (s.x4 : Int), .int .u8 (s.x5 : Int), .int .u8 (s.x6 : Int), .int .u8 (s.x7 : Int)] 30))
  have HN := Lib.hid (fun u => new_any s h u hs hh)
  clear hs
  go_enter Tryz.func4, Tryz.ntmps4
  go_upto_region 1 with fail
  generalize w.alloc (.cells #[.int .u8 (s.x0 : Int), .int .u8 (s.x1 : Int), .int .u8 (s.x2 : Int), .int .u8 (s.x3 : Int), .int .u8 (s.x4 : Int), .int .u8 (s.x5 : Int), .int .u8 (s.x6 : Int), .int .u8 (s.x7 : Int)] 30) = v0 at *
  obtain ⟨zf, r0, r1, r2, r3, r4, r5, r6, r7⟩ := free8 HS0.out
  have hls := block_lt HS0.out
  clear zf
  go_wp2_with fail
  refine (HN.out v0).mono ?_
  rintro e v1 ⟨br, F, T0, T1, rfl, ha, hb⟩
  have HA := Lib.hid ha; have Hw1 := Lib.hid (Hw0.out.trans (hb.mono Hw0.out.size)); have Hs0 := Lib.hid Hw0.out.size
  clear ha hb r0 r1 r2 r3 r4 r5 r6 r7 hls
  go_wp2
  go_ret2
  exact ⟨br, F, T0, T1, _, rfl, Hs0.out, HA.out, Hw1.out⟩
set_option maxRecDepth 100000 in
set_option maxHeartbeats 2000000 in
theorem rkey_any {w : World} {B : Nat} {F : Nat → Prop} {T0 T1 br : Nat} {r : RingM} (a : RingAt w B F T0 T1 br r) :
    Calls Tryz.prog 115 #[.agg #[.pointer (some ⟨br, 0, none⟩)]] w fun e w' => e = .returned (.agg #[.int .u8 ((rootD (keysD r.secret r.h) r.h).x0 : Int), .int .u8 ((rootD (keysD r.secret r.h) r.h).x1 : Int), .int .u8 ((rootD (keysD r.secret r.h) r.h).x2 : Int), .int .u8 ((rootD (keysD r.secret r.h) r.h).x3 : Int), .int .u8 ((rootD (keysD r.secret r.h) r.h).x4 : Int), .int .u8 ((rootD (keysD r.secret r.h) r.h).x5 : Int), .int .u8 ((rootD (keysD r.secret r.h) r.h).x6 : Int), .int .u8 ((rootD (keysD r.secret r.h) r.h).x7 : Int)]) ∧ Below w.heap.size w w' := by
  obtain ⟨hs0, hx0, hw0, hz0⟩ := alloc2 w (.cells #[.pointer (some ⟨br, 0, none⟩)] 48) (.cells #[.int .u8 0, .int .u8 0, .int .u8 0, .int .u8 0, .int .u8 0, .int .u8 0, .int .u8 0, .int .u8 0] 30)
  have HS0 := Lib.hid hs0; have HX0 := Lib.hid hx0; have Hw0 := Lib.hid hw0; have HA0 := Lib.hid (a.below hw0)
  clear hs0 hx0 hw0 hz0 a
  go_enter Tryz.func115, Tryz.ntmps115
  go_upto_region 1 with fail
  generalize (w.alloc (.cells #[.pointer (some ⟨br, 0, none⟩)] 48)).alloc (.cells #[.int .u8 0, .int .u8 0, .int .u8 0, .int .u8 0, .int .u8 0, .int .u8 0, .int .u8 0, .int .u8 0] 30) = v0 at *
  have z0 : v0.cell? ⟨w.heap.size, 0, none⟩ = some (.pointer (some ⟨br, 0, none⟩)) := (block_cell HS0.out 0).trans rfl
  have hls := block_lt HS0.out
  go_wp2_with fail
  refine (rpublic_any HA0.out).mono ?_
  rintro e v1 ⟨rfl, hb⟩
  generalize hdd : rootD (keysD r.secret r.h) r.h = dd at *
  have Hdd := Lib.hid hdd
  have Hbx := Lib.hid (block_below HX0.out hb (block_lt HX0.out)); have Hbw := Lib.hid (Hw0.out.trans (hb.mono Hw0.out.size))
  clear hb hdd z0 hls
  obtain ⟨zf, r0, r1, r2, r3, r4, r5, r6, r7⟩ := free8 Hbx.out
  go_wp2
  clear zf r0 r1 r2 r3 r4 r5 r6 r7
  have h8 := set8 Hbx.out (.int .u8 (dd.x0 : Int)) (.int .u8 (dd.x1 : Int)) (.int .u8 (dd.x2 : Int)) (.int .u8 (dd.x3 : Int)) (.int .u8 (dd.x4 : Int)) (.int .u8 (dd.x5 : Int)) (.int .u8 (dd.x6 : Int)) (.int .u8 (dd.x7 : Int))
  have hg8 := grown_set8 v1 (w.heap.size + 1) (.int .u8 (dd.x0 : Int)) (.int .u8 (dd.x1 : Int)) (.int .u8 (dd.x2 : Int)) (.int .u8 (dd.x3 : Int)) (.int .u8 (dd.x4 : Int)) (.int .u8 (dd.x5 : Int)) (.int .u8 (dd.x6 : Int)) (.int .u8 (dd.x7 : Int))
  generalize ((((((((v1.setCell ⟨w.heap.size + 1, 0, none⟩ (.int .u8 (dd.x0 : Int))).setCell ⟨w.heap.size + 1, 1, none⟩ (.int .u8 (dd.x1 : Int))).setCell ⟨w.heap.size + 1, 2, none⟩ (.int .u8 (dd.x2 : Int))).setCell ⟨w.heap.size + 1, 3, none⟩ (.int .u8 (dd.x3 : Int))).setCell ⟨w.heap.size + 1, 4, none⟩ (.int .u8 (dd.x4 : Int))).setCell ⟨w.heap.size + 1, 5, none⟩ (.int .u8 (dd.x5 : Int))).setCell ⟨w.heap.size + 1, 6, none⟩ (.int .u8 (dd.x6 : Int))).setCell ⟨w.heap.size + 1, 7, none⟩ (.int .u8 (dd.x7 : Int))) = w10 at *
  obtain ⟨zf, r0, r1, r2, r3, r4, r5, r6, r7⟩ := free8 h8
  have Hb2 := Lib.hid (Hbw.out.grown hg8 Hbw.out.size (fun k hk => by injection hk with hk; omega))
  clear h8 hg8
  refine bodyPost_ret (v := .agg #[.int .u8 (dd.x0 : Int), .int .u8 (dd.x1 : Int), .int .u8 (dd.x2 : Int), .int .u8 (dd.x3 : Int), .int .u8 (dd.x4 : Int), .int .u8 (dd.x5 : Int), .int .u8 (dd.x6 : Int), .int .u8 (dd.x7 : Int)]) (by simp [results, Tryz.results115, go_sem, r0, r1, r2, r3, r4, r5, r6, r7]) rfl ⟨by rw [Hdd.out], Hb2.out⟩
set_option maxRecDepth 100000 in
set_option maxHeartbeats 2000000 in
theorem rver_any (p m : D8) (A : Option Addr) (n c : Nat) (l : List Nat) (w : World) (hm : m.ok) (hr : Rd w w.heap.size 1 A n (bv l)) (hnc : n ≤ c) (hn : n ≤ 400000000) (hlt : ∀ x ∈ l, x < 256) :
    Calls Tryz.prog 81 #[.agg #[], .agg #[.int .u8 (p.x0 : Int), .int .u8 (p.x1 : Int), .int .u8 (p.x2 : Int), .int .u8 (p.x3 : Int), .int .u8 (p.x4 : Int), .int .u8 (p.x5 : Int), .int .u8 (p.x6 : Int), .int .u8 (p.x7 : Int)], .agg #[.int .u8 (m.x0 : Int), .int .u8 (m.x1 : Int), .int .u8 (m.x2 : Int), .int .u8 (m.x3 : Int), .int .u8 (m.x4 : Int), .int .u8 (m.x5 : Int), .int .u8 (m.x6 : Int), .int .u8 (m.x7 : Int)], .slice A n c] w fun e w' => e = .returned (.bool (verifyN p m l)) ∧ Below w.heap.size w w' := by
  obtain ⟨h0, hp0, hm0, hw0, hz0⟩ := alloc3 w (.cells #[] 40) (.cells #[.int .u8 (p.x0 : Int), .int .u8 (p.x1 : Int), .int .u8 (p.x2 : Int), .int .u8 (p.x3 : Int), .int .u8 (p.x4 : Int), .int .u8 (p.x5 : Int), .int .u8 (p.x6 : Int), .int .u8 (p.x7 : Int)] 30) (.cells #[.int .u8 (m.x0 : Int), .int .u8 (m.x1 : Int), .int .u8 (m.x2 : Int), .int .u8 (m.x3 : Int), .int .u8 (m.x4 : Int), .int .u8 (m.x5 : Int), .int .u8 (m.x6 : Int), .int .u8 (m.x7 : Int)] 30)
  have HP0 := Lib.hid hp0; have HM0 := Lib.hid hm0; have Hw0 := Lib.hid hw0
  have HV := Lib.hid (fun (u : World) (hb : Below w.heap.size w u) => verify_any p m A n c l u hm ((hr.below hb (Nat.le_refl _)).more hb.size) hnc hn hlt)
  clear hm hr hlt hp0 hm0 hw0 hz0 h0
  generalize verifyN p m l = vr at *
  go_enter Tryz.func81, Tryz.ntmps81
  go_upto_region 1 with fail
  generalize ((w.alloc (.cells #[] 40)).alloc (.cells #[.int .u8 (p.x0 : Int), .int .u8 (p.x1 : Int), .int .u8 (p.x2 : Int), .int .u8 (p.x3 : Int), .int .u8 (p.x4 : Int), .int .u8 (p.x5 : Int), .int .u8 (p.x6 : Int), .int .u8 (p.x7 : Int)] 30)).alloc (.cells #[.int .u8 (m.x0 : Int), .int .u8 (m.x1 : Int), .int .u8 (m.x2 : Int), .int .u8 (m.x3 : Int), .int .u8 (m.x4 : Int), .int .u8 (m.x5 : Int), .int .u8 (m.x6 : Int), .int .u8 (m.x7 : Int)] 30) = v0 at *
  obtain ⟨zf, r0, r1, r2, r3, r4, r5, r6, r7⟩ := free8 HP0.out
  obtain ⟨zg, y0, y1, y2, y3, y4, y5, y6, y7⟩ := free8 HM0.out
  have hlp := block_lt HP0.out; have hlm := block_lt HM0.out
  clear zf zg
  go_wp2_with fail
  refine (HV.out v0 Hw0.out).mono ?_
  rintro e v1 ⟨rfl, hb⟩
  have Hw1 := Lib.hid (Hw0.out.trans (hb.mono Hw0.out.size))
  clear hb HV r0 r1 r2 r3 r4 r5 r6 r7 y0 y1 y2 y3 y4 y5 y6 y7
  go_wp2
  go_ret
  exact ⟨rfl, Hw1.out⟩
set_option maxRecDepth 100000 in
set_option maxHeartbeats 2000000 in
theorem signI_any {w : World} {W B1 B2 : Nat} {F1 F2 : Nat → Prop} {T01 T11 T02 T12 br1 br2 : Nat} {r1 r2 : RingM} (m : D8) (t : Two w B1 B2 F1 F2 T01 T11 T02 T12 br1 br2 r1 r2) (hm : m.ok) (hW1 : W ≤ B1) (hWw : W ≤ w.heap.size) :
    Calls Tryz.prog 116 #[.agg #[.pointer (some ⟨br1, 0, none⟩)], .agg #[.int .u8 (m.x0 : Int), .int .u8 (m.x1 : Int), .int .u8 (m.x2 : Int), .int .u8 (m.x3 : Int), .int .u8 (m.x4 : Int), .int .u8 (m.x5 : Int), .int .u8 (m.x6 : Int), .int .u8 (m.x7 : Int)]] w fun e w' => ∃ (M : Nat) (F1' : Nat → Prop) (A : Option Addr) (n c : Nat), w.heap.size ≤ M ∧ e = .returned (.tuple #[.slice A n c, .int .i64 ((r1.sign m).2.2 : Int)]) ∧ w'.ownsRow M 5 1 (.slice A n c) n (bv (r1.sign m).2.1) ∧ n = (r1.sign m).2.1.length ∧ Two w' B1 B2 F1' F2 T01 T11 T02 T12 br1 br2 (r1.sign m).1 r2 ∧ Below W w w' := by
  obtain ⟨hs0, hm0, hw0, hz0⟩ := alloc2 w (.cells #[.pointer (some ⟨br1, 0, none⟩)] 48) (.cells #[.int .u8 (m.x0 : Int), .int .u8 (m.x1 : Int), .int .u8 (m.x2 : Int), .int .u8 (m.x3 : Int), .int .u8 (m.x4 : Int), .int .u8 (m.x5 : Int), .int .u8 (m.x6 : Int), .int .u8 (m.x7 : Int)] 30)
  have HS0 := Lib.hid hs0; have HM0 := Lib.hid hm0; have Hw0 := Lib.hid hw0; have HT0 := Lib.hid (t.below hw0)
  have hBv := Nat.le_trans t.a.hB hw0.size
  have HSG := Lib.hid (fun (u : World) (hb : Below w.heap.size w u) => rsign_any m (t.below hb).a hm (Nat.le_trans t.a.hB hb.size))
  have HF := Lib.hid (fun k (hk : F1 k) => (t.a.foot_lt k (.inl hk)).1)
  clear hs0 hm0 hw0 hz0 t hm
  generalize r1.sign m = sg at *
  go_enter Tryz.func116, Tryz.ntmps116
  go_upto_region 1 with fail
  generalize (w.alloc (.cells #[.pointer (some ⟨br1, 0, none⟩)] 48)).alloc (.cells #[.int .u8 (m.x0 : Int), .int .u8 (m.x1 : Int), .int .u8 (m.x2 : Int), .int .u8 (m.x3 : Int), .int .u8 (m.x4 : Int), .int .u8 (m.x5 : Int), .int .u8 (m.x6 : Int), .int .u8 (m.x7 : Int)] 30) = v0 at *
  have z0 : v0.cell? ⟨w.heap.size, 0, none⟩ = some (.pointer (some ⟨br1, 0, none⟩)) := (block_cell HS0.out 0).trans rfl
  obtain ⟨zg, y0, y1, y2, y3, y4, y5, y6, y7⟩ := free8 HM0.out
  have hls := block_lt HS0.out; have hlm := block_lt HM0.out
  clear zg
  go_wp2_with fail
  refine (HSG.out v0 Hw0.out).mono ?_
  rintro e v1 ⟨M, A, n, c, hM, hM2, rfl, ho, hn, hc, ha⟩
  have HT1 := Lib.hid (HT0.out.left hc ha)
  have HO := Lib.hid ho; have Hn := Lib.hid hn; have HMw := Lib.hid (Nat.le_trans Hw0.out.size hM)
  have Hb := Lib.hid ((Hw0.out.mono hWw).trans (hc.below (fun k hk => Nat.le_trans hW1 (HF.out k hk)) (Nat.le_trans hWw Hw0.out.size)))
  clear ho hn hM hM2 hc ha HSG z0 y0 y1 y2 y3 y4 y5 y6 y7 HT0
  go_wp2
  go_ret2
  exact ⟨M, _, A, n, c, HMw.out, rfl, HO.out, Hn.out, HT1.out, Hb.out⟩
theorem signR_any {w : World} {W B1 B2 : Nat} {F1 F2 : Nat → Prop} {T01 T11 T02 T12 br1 br2 : Nat} {r1 r2 : RingM} (m : D8) (t : Two w B1 B2 F1 F2 T01 T11 T02 T12 br1 br2 r1 r2) (hm : m.ok) (hW2 : W ≤ B2) (hWw : W ≤ w.heap.size) :
    Calls Tryz.prog 107 #[.pointer (some ⟨br2, 0, none⟩), .agg #[.int .u8 (m.x0 : Int), .int .u8 (m.x1 : Int), .int .u8 (m.x2 : Int), .int .u8 (m.x3 : Int), .int .u8 (m.x4 : Int), .int .u8 (m.x5 : Int), .int .u8 (m.x6 : Int), .int .u8 (m.x7 : Int)]] w fun e w' => ∃ (M : Nat) (F2' : Nat → Prop) (A : Option Addr) (n c : Nat), w.heap.size ≤ M ∧ e = .returned (.tuple #[.slice A n c, .int .i64 ((r2.sign m).2.2 : Int)]) ∧ w'.ownsRow M 5 1 (.slice A n c) n (bv (r2.sign m).2.1) ∧ n = (r2.sign m).2.1.length ∧ Two w' B1 B2 F1 F2' T01 T11 T02 T12 br1 br2 r1 (r2.sign m).1 ∧ Chg F2 w w' ∧ Below W w w' := by
  refine (rsign_any m t.b hm t.b.hB).mono ?_
  rintro e v1 ⟨M, A, n, c, hM, hM2, rfl, ho, hn, hc, ha⟩
  exact ⟨M, _, A, n, c, hM, rfl, ho, hn, t.right hc ha, hc, hc.below (fun k hk => Nat.le_trans hW2 (t.b.foot_lt k (.inl hk)).1) hWw⟩
set_option maxRecDepth 100000 in
set_option maxHeartbeats 2000000 in
theorem rsig_any {w : World} {B br T0 T1 : Nat} {F : Nat → Prop} {r : RingM} (m : D8) (a : RingAt w B F T0 T1 br r) (hm : m.ok) :
    Calls Tryz.prog 116 #[.agg #[.pointer (some ⟨br, 0, none⟩)], .agg #[.int .u8 (m.x0 : Int), .int .u8 (m.x1 : Int), .int .u8 (m.x2 : Int), .int .u8 (m.x3 : Int), .int .u8 (m.x4 : Int), .int .u8 (m.x5 : Int), .int .u8 (m.x6 : Int), .int .u8 (m.x7 : Int)]] w fun e w' => ∃ (M : Nat) (F' : Nat → Prop) (A : Option Addr) (n c : Nat), w.heap.size ≤ M ∧ M ≤ w'.heap.size ∧ e = .returned (.tuple #[.slice A n c, .int .i64 ((r.sign m).2.2 : Int)]) ∧ w'.ownsRow M 5 1 (.slice A n c) n (bv (r.sign m).2.1) ∧ n = (r.sign m).2.1.length ∧ RingAt w' B F' T0 T1 br (r.sign m).1 ∧ (∀ k, F' k → F k ∨ (w.heap.size ≤ k ∧ k < M)) ∧ Chg F w w' := by
  obtain ⟨hs0, hm0, hw0, hz0⟩ := alloc2 w (.cells #[.pointer (some ⟨br, 0, none⟩)] 48) (.cells #[.int .u8 (m.x0 : Int), .int .u8 (m.x1 : Int), .int .u8 (m.x2 : Int), .int .u8 (m.x3 : Int), .int .u8 (m.x4 : Int), .int .u8 (m.x5 : Int), .int .u8 (m.x6 : Int), .int .u8 (m.x7 : Int)] 30)
  have HS0 := Lib.hid hs0; have HM0 := Lib.hid hm0; have Hw0 := Lib.hid hw0
  have HSG := Lib.hid (fun (u : World) (hb : Below w.heap.size w u) => rsign_any m (a.below hb) hm (Nat.le_trans a.hB hb.size))
  clear hs0 hm0 hw0 hz0 a hm
  generalize r.sign m = sg at *
  go_enter Tryz.func116, Tryz.ntmps116
  go_upto_region 1 with fail
  generalize (w.alloc (.cells #[.pointer (some ⟨br, 0, none⟩)] 48)).alloc (.cells #[.int .u8 (m.x0 : Int), .int .u8 (m.x1 : Int), .int .u8 (m.x2 : Int), .int .u8 (m.x3 : Int), .int .u8 (m.x4 : Int), .int .u8 (m.x5 : Int), .int .u8 (m.x6 : Int), .int .u8 (m.x7 : Int)] 30) = v0 at *
  have z0 : v0.cell? ⟨w.heap.size, 0, none⟩ = some (.pointer (some ⟨br, 0, none⟩)) := (block_cell HS0.out 0).trans rfl
  obtain ⟨zg, y0, y1, y2, y3, y4, y5, y6, y7⟩ := free8 HM0.out
  have hls := block_lt HS0.out; have hlm := block_lt HM0.out
  clear zg
  go_wp2_with fail
  refine (HSG.out v0 Hw0.out).mono ?_
  rintro e v1 ⟨M, A, n, c, hM, hM2, rfl, ho, hn, hc, ha⟩
  have HA1 := Lib.hid ha
  have HU : Hid (∀ k, upto F v0.heap.size M k → F k ∨ (w.heap.size ≤ k ∧ k < M)) := Lib.hid (fun k hk => hk.imp id (fun hk => ⟨Nat.le_trans Hw0.out.size hk.1, hk.2⟩))
  have HO := Lib.hid ho; have Hn := Lib.hid hn; have HMw := Lib.hid (Nat.le_trans Hw0.out.size hM); have HM2 := Lib.hid hM2
  have Hc := Lib.hid ((Chg.of_below (F := F) Hw0.out).trans0 hc)
  clear ho hn hM hM2 hc ha HSG z0 y0 y1 y2 y3 y4 y5 y6 y7
  go_wp2
  go_ret2
  exact ⟨M, _, A, n, c, HMw.out, HM2.out, rfl, HO.out, Hn.out, HA1.out, HU.out, Hc.out⟩
end Go.Proofs.YthjpaclcoipocaaGreat
