/- Whether bytes are a signature: the walks of Verify, of a ring's Public. Conditions: bounds. -/
import Derived.Test.YtmpklplojfjfbaaGreatDoorJoinI
import Derived.Test.YtmpklplojfjfbaaGreatDoorKgI
import Derived.Test.YtmpklplojfjfbaaGreatDoorKgS
namespace Go.Proofs.YtmpklplojfjfbaaGreatDoor
open Go.RowKit Go.Lib



def verifyN (p m : D8) (l : List Nat) : Bool := match splitN l with
  | none => false
  | some (i, o, pl) => sameD (wayD i (toldD m o) pl) p
theorem split_facts {l : List Nat} (hl : ∀ x ∈ l, x < 256) {i : Nat} {o : List Nat} {pl : List D8} (h : splitN l = some (i, o, pl)) : pl.length ≤ 8 ∧ i < 2 ^ pl.length ∧ (∀ x ∈ o, x < 256) ∧ (∀ d ∈ pl, d.ok) := by
  unfold splitN splitS at h
  split at h
  · cases h
  · generalize (numRS ⟨l, 0, 0⟩ 255).1.at_ = a at h
    generalize (numRS ⟨l, 0, 0⟩ 255).2 = v at h
    have hd : ∀ x ∈ l.drop a, x < 256 := fun x hx => hl x (List.mem_of_mem_drop hx)
    generalize l.drop a = r at *
    unfold splitR at h
    split at h
    · cases h
    · split at h
      · cases h
      · split at h
        · cases h
        · split at h
          · cases h
          · rename_i h3 h4
            simp only [Option.some.injEq, Prod.mk.injEq] at h
            obtain ⟨rfl, rfl, rfl⟩ := h
            refine ⟨by simp only [List.length_map, List.length_range]; omega, by simp only [List.length_map, List.length_range]; omega, fun x hx => hd x (List.mem_of_mem_take hx), fun d hd2 => ?_⟩
            obtain ⟨j, _, rfl⟩ := List.mem_map.1 hd2
            exact chunk_ok (fun x hx => hd x (List.mem_of_mem_drop hx)) j
theorem toldD_ok (m : D8) (b : List Nat) : (toldD m b).ok := keyD_ok _
set_option maxRecDepth 100000 in
set_option maxHeartbeats 4000000 in
theorem verify_any (p m : D8) (A : Option Addr) (n c : Nat) (l : List Nat) (w : World) (hm : m.ok) (hr : Rd w w.heap.size 1 A n (bv l)) (hnc : n ≤ c) (hn : n ≤ 400000000) (hlt : ∀ x ∈ l, x < 256) :
    Calls Tryz.prog 10 #[.agg #[.int .u8 (p.x0 : Int), .int .u8 (p.x1 : Int), .int .u8 (p.x2 : Int), .int .u8 (p.x3 : Int), .int .u8 (p.x4 : Int), .int .u8 (p.x5 : Int), .int .u8 (p.x6 : Int), .int .u8 (p.x7 : Int)], .agg #[.int .u8 (m.x0 : Int), .int .u8 (m.x1 : Int), .int .u8 (m.x2 : Int), .int .u8 (m.x3 : Int), .int .u8 (m.x4 : Int), .int .u8 (m.x5 : Int), .int .u8 (m.x6 : Int), .int .u8 (m.x7 : Int)], .slice A n c] w fun e w' => e = .returned (.bool (verifyN p m l)) ∧ Below w.heap.size w w' := by
  obtain ⟨hp0, hm0, hw0, hz0⟩ := alloc2 w (.cells #[.int .u8 (p.x0 : Int), .int .u8 (p.x1 : Int), .int .u8 (p.x2 : Int), .int .u8 (p.x3 : Int), .int .u8 (p.x4 : Int), .int .u8 (p.x5 : Int), .int .u8 (p.x6 : Int), .int .u8 (p.x7 : Int)] 38) (.cells #[.int .u8 (m.x0 : Int), .int .u8 (m.x1 : Int), .int .u8 (m.x2 : Int), .int .u8 (m.x3 : Int), .int .u8 (m.x4 : Int), .int .u8 (m.x5 : Int), .int .u8 (m.x6 : Int), .int .u8 (m.x7 : Int)] 38)
  have HP0 := Lib.hid hp0; have HM0 := Lib.hid hm0; have Hw0 := Lib.hid hw0
  have Hsp := Lib.hid (fun (u : World) (hb : Below w.heap.size w u) => split_any A n c l u ((hr.below hb (Nat.le_refl _)).more hb.size) hnc hn hlt)
  have Hm := Lib.hid hm; have Hlt := Lib.hid hlt
  clear hr hp0 hm0 hw0 hz0 hm hlt
  go_enter Tryz.func10, Tryz.ntmps10
  go_upto_region 1 with fail
  generalize (w.alloc (.cells #[.int .u8 (p.x0 : Int), .int .u8 (p.x1 : Int), .int .u8 (p.x2 : Int), .int .u8 (p.x3 : Int), .int .u8 (p.x4 : Int), .int .u8 (p.x5 : Int), .int .u8 (p.x6 : Int), .int .u8 (p.x7 : Int)] 38)).alloc (.cells #[.int .u8 (m.x0 : Int), .int .u8 (m.x1 : Int), .int .u8 (m.x2 : Int), .int .u8 (m.x3 : Int), .int .u8 (m.x4 : Int), .int .u8 (m.x5 : Int), .int .u8 (m.x6 : Int), .int .u8 (m.x7 : Int)] 38) = v0 at *
  go_wp2_with fail
  refine (Hsp.out v0 Hw0.out).mono ?_
  rintro e v1 ⟨hb1, hs1⟩
  have HP1 := Lib.hid (block_below HP0.out hb1 (block_lt HP0.out)); have HM1 := Lib.hid (block_below HM0.out hb1 (block_lt HM0.out)); have Hw1 := Lib.hid (Hw0.out.trans (hb1.mono Hw0.out.size))
  clear hb1 HP0 HM0 Hw0 Hsp
  cases hsp : splitN l with
  | none =>
    rw [hsp] at hs1
    have hs1 : e = .returned (.tuple #[partsZ, .bool false]) := hs1
    subst hs1
    have Hv : Hid (verifyN p m l = false) := Lib.hid (by unfold verifyN; rw [hsp])
    clear hsp
    unfold partsZ
    go_wp2
    go_ret
    exact ⟨ret_bool Hv.out.symm, Hw1.out.alloc Hw1.out.size _⟩
  | some x =>
    obtain ⟨i, o, pl⟩ := x
    rw [hsp] at hs1
    obtain ⟨A1, c1, A2, he, hc1, hr1, hr2⟩ := hs1
    subst he
    obtain ⟨hq8, hi2, ho, hok⟩ := split_facts Hlt.out hsp
    have Hv : Hid (verifyN p m l = sameD (wayD i (toldD m o) pl) p) := Lib.hid (by unfold verifyN; rw [hsp])
    have HX2 : Hid ((v1.alloc (.cells #[.int .i64 (i : Int), .slice A1 144 c1, .slice A2 pl.length pl.length] 72)).heap[v1.heap.size]? = some (.cells #[.int .i64 (i : Int), .slice A1 144 c1, .slice A2 pl.length pl.length] 72 (0, 0))) := heap_alloc_new v1 _
    have hb2 := h_one v1 (.cells #[.int .i64 (i : Int), .slice A1 144 c1, .slice A2 pl.length pl.length] 72)
    have HP2 := Lib.hid (block_below HP1.out hb2 (block_lt HP1.out)); have HM2 := Lib.hid (block_below HM1.out hb2 (block_lt HM1.out)); have Hw2 := Lib.hid (Hw1.out.trans (hb2.mono Hw1.out.size))
    have Hr1 := Lib.hid ((hr1.below hb2 (Nat.le_refl _)).more hb2.size); have Hr2 := Lib.hid ((hr2.below hb2 (Nat.le_refl _)).more hb2.size)
    have Ho := Lib.hid ho; have Hok := Lib.hid hok; have Hi2 := Lib.hid hi2
    clear hsp hr1 hr2 ho hok hi2 hb2 HP1 HM1 Hw1
    generalize pl.length = q at *
    go_upto_region 2 with fail
    generalize v1.alloc (.cells #[.int .i64 (i : Int), .slice A1 144 c1, .slice A2 q q] 72) = v2 at *
    generalize v1.heap.size = bx at *
    obtain ⟨zf, r0, r1, r2, r3, r4, r5, r6, r7⟩ := free8 HM2.out
    obtain ⟨yf, x0, x1, x2⟩ := free3 HX2.out
    have hlm := block_lt HM2.out; have hlx := block_lt HX2.out
    clear zf yf
    go_wp2_with fail
    refine (told_sig_any m o A1 144 c1 v2 Hm.out Ho.out Hr1.out rfl hc1).mono ?_
    rintro e v3 ⟨rfl, hb3⟩
    obtain ⟨kd, hkd⟩ : ∃ kd, kd = toldD m o := ⟨_, rfl⟩
    rw [← hkd] at Hv ⊢
    have Hkd : Hid kd.ok := by rw [hkd]; exact Lib.hid (toldD_ok _ _)
    have HK4 : Hid ((v3.alloc (.cells #[.int .u8 (kd.x0 : Int), .int .u8 (kd.x1 : Int), .int .u8 (kd.x2 : Int), .int .u8 (kd.x3 : Int), .int .u8 (kd.x4 : Int), .int .u8 (kd.x5 : Int), .int .u8 (kd.x6 : Int), .int .u8 (kd.x7 : Int)] 38)).heap[v3.heap.size]? = some (.cells #[.int .u8 (kd.x0 : Int), .int .u8 (kd.x1 : Int), .int .u8 (kd.x2 : Int), .int .u8 (kd.x3 : Int), .int .u8 (kd.x4 : Int), .int .u8 (kd.x5 : Int), .int .u8 (kd.x6 : Int), .int .u8 (kd.x7 : Int)] 38 (0, 0))) := heap_alloc_new v3 _
    have hb4 := hb3.trans ((h_one v3 (.cells #[.int .u8 (kd.x0 : Int), .int .u8 (kd.x1 : Int), .int .u8 (kd.x2 : Int), .int .u8 (kd.x3 : Int), .int .u8 (kd.x4 : Int), .int .u8 (kd.x5 : Int), .int .u8 (kd.x6 : Int), .int .u8 (kd.x7 : Int)] 38)).mono hb3.size)
    have HP4 := Lib.hid (block_below HP2.out hb4 (block_lt HP2.out)); have HX4 := Lib.hid (block_below HX2.out hb4 hlx); have Hw4 := Lib.hid (Hw2.out.trans (hb4.mono Hw2.out.size))
    have Hr4 := Lib.hid ((Hr2.out.below hb4 (Nat.le_refl _)).more hb4.size)
    clear r0 r1 r2 r3 r4 r5 r6 r7 x0 x1 x2 hlm hlx hb3 hb4 hkd HM2 HP2 HX2 Hw2 Hr2 Hr1
    go_upto_region 5 with fail
    generalize v3.alloc (.cells #[.int .u8 (kd.x0 : Int), .int .u8 (kd.x1 : Int), .int .u8 (kd.x2 : Int), .int .u8 (kd.x3 : Int), .int .u8 (kd.x4 : Int), .int .u8 (kd.x5 : Int), .int .u8 (kd.x6 : Int), .int .u8 (kd.x7 : Int)] 38) = v4 at *
    generalize v3.heap.size = bk at *
    obtain ⟨zf, r0, r1, r2, r3, r4, r5, r6, r7⟩ := free8 HK4.out
    obtain ⟨zf, y0, y1, y2, y3, y4, y5, y6, y7⟩ := free8 HP4.out
    obtain ⟨yf, x0, x1, x2⟩ := free3 HX4.out
    have hlk := block_lt HK4.out; have hlp := block_lt HP4.out; have hlx := block_lt HX4.out
    clear zf yf
    go_wp2_with fail
    refine (check_any p i kd A2 q q pl v4 Hkd.out Hr4.out Hok.out hq8 Hi2.out).mono ?_
    rintro e v5 ⟨rfl, hb5⟩
    rw [← Hv.out]
    have Hw5 := Lib.hid (Hw4.out.trans (hb5.mono Hw4.out.size))
    generalize hvb : verifyN p m l = vb at *
    have Hvb := Lib.hid hvb
    clear hb5 hvb
    go_wp2
    go_ret
    exact ⟨ret_bool Hvb.out.symm, Hw5.out⟩
set_option maxRecDepth 100000 in
set_option maxHeartbeats 2000000 in
theorem rpublic_any {w : World} {B : Nat} {F : Nat → Prop} {T0 T1 br : Nat} {r : RingM} (a : RingAt w B F T0 T1 br r) :
    Calls Tryz.prog 13 #[.pointer (some ⟨br, 0, none⟩)] w fun e w' => e = .returned (.agg #[.int .u8 ((rootD (keysD r.secret r.h) r.h).x0 : Int), .int .u8 ((rootD (keysD r.secret r.h) r.h).x1 : Int), .int .u8 ((rootD (keysD r.secret r.h) r.h).x2 : Int), .int .u8 ((rootD (keysD r.secret r.h) r.h).x3 : Int), .int .u8 ((rootD (keysD r.secret r.h) r.h).x4 : Int), .int .u8 ((rootD (keysD r.secret r.h) r.h).x5 : Int), .int .u8 ((rootD (keysD r.secret r.h) r.h).x6 : Int), .int .u8 ((rootD (keysD r.secret r.h) r.h).x7 : Int)]) ∧ Below w.heap.size w w' := by
  have HX0 : Hid ((w.alloc (.cells #[.int .u8 0, .int .u8 0, .int .u8 0, .int .u8 0, .int .u8 0, .int .u8 0, .int .u8 0, .int .u8 0] 38)).heap[w.heap.size]? = some (.cells #[.int .u8 0, .int .u8 0, .int .u8 0, .int .u8 0, .int .u8 0, .int .u8 0, .int .u8 0, .int .u8 0] 38 (0, 0))) := heap_alloc_new w _
  have Hw0 := Lib.hid (h_one w (.cells #[.int .u8 0, .int .u8 0, .int .u8 0, .int .u8 0, .int .u8 0, .int .u8 0, .int .u8 0, .int .u8 0] 38))
  obtain ⟨mb, bt, hl, ht⟩ := a.led
  obtain ⟨A, c, hb, ho, hg⟩ := hl.cells
  have Ht := Lib.hid (ht.below Hw0.out)
  have HB := Lib.hid (block_below hb Hw0.out (block_lt hb))
  clear hl ho hg hb ht a
  go_enter Tryz.func13, Tryz.ntmps13
  go_upto_region 1 with fail
  generalize w.alloc (.cells #[.int .u8 0, .int .u8 0, .int .u8 0, .int .u8 0, .int .u8 0, .int .u8 0, .int .u8 0, .int .u8 0] 38) = v0 at *
  obtain ⟨yf, y0, y1, y2, y3, y4, y5, y6, y7, y8, y9, y10, y11⟩ := freeR HB.out
  have hlb := block_lt HB.out
  clear yf y0 y1 y2 y3 y4 y5 y6 y7 y8 y10 y11
  go_wp2_with fail
  refine (root_any T0 T1 bt r.h (keysD r.secret r.h) v0 Ht.out).mono ?_
  rintro e v1 ⟨rfl, hb1⟩
  have hx := block_below HX0.out hb1 (block_lt HX0.out); have hw := Hw0.out.trans (hb1.mono Hw0.out.size)
  have Hbx := Lib.hid hx; have Hbw := Lib.hid hw
  obtain ⟨zf, r0, r1, r2, r3, r4, r5, r6, r7⟩ := free8 hx
  generalize hp2 : rootD (keysD r.secret r.h) r.h = p at *
  have Hp2 := Lib.hid hp2
  clear hp2 hb1 hx hw HX0 Hw0 HB Ht
  go_wp2
  clear zf r0 r1 r2 r3 r4 r5 r6 r7
  have h8 := set8 Hbx.out (.int .u8 (p.x0 : Int)) (.int .u8 (p.x1 : Int)) (.int .u8 (p.x2 : Int)) (.int .u8 (p.x3 : Int)) (.int .u8 (p.x4 : Int)) (.int .u8 (p.x5 : Int)) (.int .u8 (p.x6 : Int)) (.int .u8 (p.x7 : Int))
  have hg8 := grown_set8 v1 (w.heap.size) (.int .u8 (p.x0 : Int)) (.int .u8 (p.x1 : Int)) (.int .u8 (p.x2 : Int)) (.int .u8 (p.x3 : Int)) (.int .u8 (p.x4 : Int)) (.int .u8 (p.x5 : Int)) (.int .u8 (p.x6 : Int)) (.int .u8 (p.x7 : Int))
  generalize ((((((((v1.setCell ⟨w.heap.size, 0, none⟩ (.int .u8 (p.x0 : Int))).setCell ⟨w.heap.size, 1, none⟩ (.int .u8 (p.x1 : Int))).setCell ⟨w.heap.size, 2, none⟩ (.int .u8 (p.x2 : Int))).setCell ⟨w.heap.size, 3, none⟩ (.int .u8 (p.x3 : Int))).setCell ⟨w.heap.size, 4, none⟩ (.int .u8 (p.x4 : Int))).setCell ⟨w.heap.size, 5, none⟩ (.int .u8 (p.x5 : Int))).setCell ⟨w.heap.size, 6, none⟩ (.int .u8 (p.x6 : Int))).setCell ⟨w.heap.size, 7, none⟩ (.int .u8 (p.x7 : Int))) = v2 at *
  obtain ⟨zf, r0, r1, r2, r3, r4, r5, r6, r7⟩ := free8 h8
  have Hb2 := Lib.hid (Hbw.out.grown hg8 Hbw.out.size (fun k hk => by injection hk with hk; omega))
  clear h8 hg8
  refine bodyPost_ret (v := .agg #[.int .u8 (p.x0 : Int), .int .u8 (p.x1 : Int), .int .u8 (p.x2 : Int), .int .u8 (p.x3 : Int), .int .u8 (p.x4 : Int), .int .u8 (p.x5 : Int), .int .u8 (p.x6 : Int), .int .u8 (p.x7 : Int)]) (by simp [results, Tryz.results13, go_sem, r0, r1, r2, r3, r4, r5, r6, r7]) rfl ⟨by rw [Hp2.out], Hb2.out⟩
end Go.Proofs.YtmpklplojfjfbaaGreatDoor
