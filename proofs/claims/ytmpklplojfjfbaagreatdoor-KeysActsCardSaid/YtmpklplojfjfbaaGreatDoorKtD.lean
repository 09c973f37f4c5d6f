/- The walk of KeysActs. Condition: none. -/
import Derived.Test.YtmpklplojfjfbaaGreatDoorJoinW
namespace Go.Proofs.YtmpklplojfjfbaaGreatDoor
open Go.RowKit Go.Lib





theorem free9 {w : World} {g : Nat} {T : TypeId} {c0 c1 c2 c3 c4 c5 c6 c7 c8 : Value} (h : w.heap[g]? = some (.cells #[c0, c1, c2, c3, c4, c5, c6, c7, c8] T (0, 0))) :
    (∀ j, w.frozen? ⟨g, j, none⟩ = false) ∧ w.cell? ⟨g, 0, none⟩ = some c0 ∧ w.cell? ⟨g, 1, none⟩ = some c1 ∧ w.cell? ⟨g, 2, none⟩ = some c2 ∧ w.cell? ⟨g, 3, none⟩ = some c3 ∧ w.cell? ⟨g, 4, none⟩ = some c4 ∧ w.cell? ⟨g, 5, none⟩ = some c5 ∧ w.cell? ⟨g, 6, none⟩ = some c6 ∧ w.cell? ⟨g, 7, none⟩ = some c7 ∧ w.cell? ⟨g, 8, none⟩ = some c8 :=
  ⟨block_free h, by simpa using block_cell h 0, by simpa using block_cell h 1, by simpa using block_cell h 2, by simpa using block_cell h 3, by simpa using block_cell h 4, by simpa using block_cell h 5, by simpa using block_cell h 6, by simpa using block_cell h 7, by simpa using block_cell h 8⟩
set_option maxRecDepth 100000 in
set_option maxHeartbeats 8000000 in
theorem kacts_any (a : D8) (h : Nat) (A : Option Addr) (n c : Nat) (l : List ActM) (w : World) (ha : a.ok) (hh : h < 256) (hr : Rd w w.heap.size 9 A n (flatT l)) (hok : ∀ x ∈ l, x.ok) :
    Calls Tryz.prog 4 #[.agg #[.int .u8 (a.x0 : Int), .int .u8 (a.x1 : Int), .int .u8 (a.x2 : Int), .int .u8 (a.x3 : Int), .int .u8 (a.x4 : Int), .int .u8 (a.x5 : Int), .int .u8 (a.x6 : Int), .int .u8 (a.x7 : Int)], .int .u8 (h : Int), .slice A n c] w fun e w' => e = .returned (.bool true) ∧ Below w.heap.size w w' := by
  have Ha := Lib.hid ha; have Hr := Lib.hid hr; have Hok := Lib.hid hok; have Hl := Lib.hid hr.tlen
  have HA0 : Hid ((w.alloc (.cells #[.int .u8 (a.x0 : Int), .int .u8 (a.x1 : Int), .int .u8 (a.x2 : Int), .int .u8 (a.x3 : Int), .int .u8 (a.x4 : Int), .int .u8 (a.x5 : Int), .int .u8 (a.x6 : Int), .int .u8 (a.x7 : Int)] 22)).heap[w.heap.size]? = some (.cells #[.int .u8 (a.x0 : Int), .int .u8 (a.x1 : Int), .int .u8 (a.x2 : Int), .int .u8 (a.x3 : Int), .int .u8 (a.x4 : Int), .int .u8 (a.x5 : Int), .int .u8 (a.x6 : Int), .int .u8 (a.x7 : Int)] 22 (0, 0))) := heap_alloc_new w _
  have Hw0 := Lib.hid (h_one w (.cells #[.int .u8 (a.x0 : Int), .int .u8 (a.x1 : Int), .int .u8 (a.x2 : Int), .int .u8 (a.x3 : Int), .int .u8 (a.x4 : Int), .int .u8 (a.x5 : Int), .int .u8 (a.x6 : Int), .int .u8 (a.x7 : Int)] 22))
  clear ha hr hok
  by_cases hbig : 12 < n
  · have hd0 : decide ((12 : Int) < (n : Int)) = true := decide_eq_true (by omega)
    clear hbig
    go_enter Tryz.func4, Tryz.ntmps4
    go_upto_region 1 with fail
    generalize w.alloc (.cells #[.int .u8 (a.x0 : Int), .int .u8 (a.x1 : Int), .int .u8 (a.x2 : Int), .int .u8 (a.x3 : Int), .int .u8 (a.x4 : Int), .int .u8 (a.x5 : Int), .int .u8 (a.x6 : Int), .int .u8 (a.x7 : Int)] 22) = w1 at *
    go_wp2_with fail
    refine (known_any w1).mono ?_
    rintro e w2 ⟨rfl, hb2⟩
    have Hw2 := Lib.hid (Hw0.out.trans (hb2.mono Hw0.out.size))
    clear hb2
    go_wp2_with fail
    refine (known_any w2).mono ?_
    rintro e w3 ⟨rfl, hb3⟩
    have Hw3 := Lib.hid (Hw2.out.trans (hb3.mono Hw2.out.size))
    clear hb3
    go_wp2
    go_ret
    exact ⟨rfl, Hw3.out⟩
  have hd0 : decide ((12 : Int) < (n : Int)) = false := decide_eq_false (by omega)
  have hn : n ≤ 12 := by omega
  clear hbig
  obtain ⟨q, hq⟩ : ∃ q, q = h % 4 := ⟨_, rfl⟩
  have e4 : (h : Int) % 4 = (q : Int) := by omega
  have hq4 : q ≤ 3 := by omega
  clear hq
  go_enter Tryz.func4, Tryz.ntmps4
  go_upto_region 1 with fail
  generalize w.alloc (.cells #[.int .u8 (a.x0 : Int), .int .u8 (a.x1 : Int), .int .u8 (a.x2 : Int), .int .u8 (a.x3 : Int), .int .u8 (a.x4 : Int), .int .u8 (a.x5 : Int), .int .u8 (a.x6 : Int), .int .u8 (a.x7 : Int)] 22) = w1 at *
  go_wp2_with fail
  refine (known_any w1).mono ?_
  rintro e w2 ⟨rfl, hb2⟩
  have Hw2 := Lib.hid (Hw0.out.trans (hb2.mono Hw0.out.size)); have HX2 := Lib.hid (block_below HA0.out hb2 (block_lt HA0.out))
  clear hb2 HA0 Hw0
  have hlx := block_lt HX2.out
  obtain ⟨zf, x0, x1, x2, x3, x4, x5, x6, x7⟩ := free8 HX2.out
  clear zf
  go_upto_region 4 with fail
  simp only [e4]
  go_wp2_with fail
  refine (new_any a q w2 Ha.out (by omega)).mono ?_
  rintro e w3 ⟨bx, F, T0, T1, rfl, ha3, hb3⟩
  have HA3 := Lib.hid ha3
  have Hw3 := Lib.hid (Hw2.out.trans (hb3.mono Hw2.out.size)); have HX3 := Lib.hid (block_below HX2.out hb3 hlx)
  clear ha3 hb3 x0 x1 x2 x3 x4 x5 x6 x7 hlx HX2
  have hlx := block_lt HX3.out
  obtain ⟨zf, x0, x1, x2, x3, x4, x5, x6, x7⟩ := free8 HX3.out
  clear zf
  have HK4 : Hid (KSt w (w3.alloc (.cells #[.int .u8 (a.x0 : Int), .int .u8 (a.x1 : Int), .int .u8 (a.x2 : Int), .int .u8 (a.x3 : Int), .int .u8 (a.x4 : Int), .int .u8 (a.x5 : Int), .int .u8 (a.x6 : Int), .int .u8 (a.x7 : Int), .int .i64 (q : Int), (.slice none 0 0)] 28)) w3.heap.size a q bx [] [] F T0 T1 none 0 0) := Lib.hid
    ⟨⟨w2.heap.size, Hw2.out.size, HA3.out.below (h_one w3 _)⟩, heap_alloc_new w3 _, Rd.empty, (fun ad e => by cases e), fun hf => by have := (HA3.out.foot_lt _ hf).2; omega, Hw3.out.size, Hw3.out.trans ((h_one w3 _).mono Hw3.out.size)⟩
  go_upto_region 8 with fail
  generalize w3.alloc (.cells #[.int .u8 (a.x0 : Int), .int .u8 (a.x1 : Int), .int .u8 (a.x2 : Int), .int .u8 (a.x3 : Int), .int .u8 (a.x4 : Int), .int .u8 (a.x5 : Int), .int .u8 (a.x6 : Int), .int .u8 (a.x7 : Int), .int .i64 (q : Int), (.slice none 0 0)] 28) = w4 at *
  generalize w3.heap.size = bd at *
  clear x0 x1 x2 x3 x4 x5 x6 x7 hlx HX3 Hw2 Hw3 HA3
  have HPB := Lib.hid (fun (u : World) (B : Nat) (F : Nat → Prop) (T0 T1 bx : Nat) (L : List D8) (hx : RingAt u B F T0 T1 bx ⟨a, q, L⟩) => rpublic_any hx)
  have HPR := Lib.hid (fun (A : Option Addr) (n c : Nat) (u : World) => pubR_any a q A n c u Ha.out (by omega))
  simp only at HPB
  generalize hpb : rootD (keysD a q) q = PB at *
  clear hpb
  have hGn : ∀ (x y : Operand) u, (eqGuard .neq 22 x y (.agg #[.int .u8 (PB.x0 : Int), .int .u8 (PB.x1 : Int), .int .u8 (PB.x2 : Int), .int .u8 (PB.x3 : Int), .int .u8 (PB.x4 : Int), .int .u8 (PB.x5 : Int), .int .u8 (PB.x6 : Int), .int .u8 (PB.x7 : Int)]) (.agg #[.int .u8 (PB.x0 : Int), .int .u8 (PB.x1 : Int), .int .u8 (PB.x2 : Int), .int .u8 (PB.x3 : Int), .int .u8 (PB.x4 : Int), .int .u8 (PB.x5 : Int), .int .u8 (PB.x6 : Int), .int .u8 (PB.x7 : Int)])).run Tryz.prog u = .ok () u := fun x y u => by first | (go_simp; done) | exact run_eqGuard_agg _ _ _ _ _ _ (by kernel_rfl)
  have hGe : ∀ (x y : Operand) u, (eqGuard .eql 22 x y (.agg #[.int .u8 (PB.x0 : Int), .int .u8 (PB.x1 : Int), .int .u8 (PB.x2 : Int), .int .u8 (PB.x3 : Int), .int .u8 (PB.x4 : Int), .int .u8 (PB.x5 : Int), .int .u8 (PB.x6 : Int), .int .u8 (PB.x7 : Int)]) (.agg #[.int .u8 (PB.x0 : Int), .int .u8 (PB.x1 : Int), .int .u8 (PB.x2 : Int), .int .u8 (PB.x3 : Int), .int .u8 (PB.x4 : Int), .int .u8 (PB.x5 : Int), .int .u8 (PB.x6 : Int), .int .u8 (PB.x7 : Int)])).run Tryz.prog u = .ok () u := fun x y u => by first | (go_simp; done) | exact run_eqGuard_agg _ _ _ _ _ _ (by kernel_rfl)
  have hE : ∀ u, (binOp .eql 22 (.agg #[.int .u8 (PB.x0 : Int), .int .u8 (PB.x1 : Int), .int .u8 (PB.x2 : Int), .int .u8 (PB.x3 : Int), .int .u8 (PB.x4 : Int), .int .u8 (PB.x5 : Int), .int .u8 (PB.x6 : Int), .int .u8 (PB.x7 : Int)]) (.agg #[.int .u8 (PB.x0 : Int), .int .u8 (PB.x1 : Int), .int .u8 (PB.x2 : Int), .int .u8 (PB.x3 : Int), .int .u8 (PB.x4 : Int), .int .u8 (PB.x5 : Int), .int .u8 (PB.x6 : Int), .int .u8 (PB.x7 : Int)])).run Tryz.prog u = .ok (.bool (sameD PB PB)) u := fun u => eql_digR _ _ _ _ _ _ _ _ _ _ _ _ _ _ _ _ u
  rw [show sameD PB PB = true from sameD_iff.2 rfl] at hE
  have hEn := neq_of_eqlT hE
  rw [show (!true) = false from rfl] at hEn
  have HGn := Lib.hid hGn; have HGe := Lib.hid hGe; have HE := Lib.hid hE; have HEn := Lib.hid hEn
  clear hGn hGe hE hEn
  have hlq := block_lt HK4.out.b
  have hRG : ∀ w', Below w4.heap.size w4 w' → w'.heap[bd]? = some (.cells #[.int .u8 (a.x0 : Int), .int .u8 (a.x1 : Int), .int .u8 (a.x2 : Int), .int .u8 (a.x3 : Int), .int .u8 (a.x4 : Int), .int .u8 (a.x5 : Int), .int .u8 (a.x6 : Int), .int .u8 (a.x7 : Int), .int .i64 (q : Int), (.slice none 0 0)] 28 (0, 0)) := fun w' hx => block_below HK4.out.b hx hlq
  have hbd := (Below.refl w4.heap.size w4).drew
  have Hbd := Lib.hid hbd
  refine wp_region_held_drew (S := fun w' => Below w4.heap.size w4 w') (by kernel_rfl) hbd (fun hHeld => ?_)
  rw [show Array.replicate _ false = (#[false, false, false, false, false] : Array Bool) from rfl]
  refine takeH 0 (some 51) (v := ?_) rfl (by kernel_rfl) (by kernel_rfl) (by kernel_rfl) (by kernel_rfl) (fun _ _ _ h => h) (Or.inl ⟨by kernel_rfl, ?hy⟩) (by assumption) ?_
  case hy =>
    intro w' hSw
    clear hSw
    first
      | (go_simp; done)
      | (go_simp; with_reducible rfl)
  simp only [Act.put, List.setIfInBounds_toArray, List.set_cons_zero, List.set_cons_succ]
  refine takeH 2 (some 53) (v := ?_) rfl (by kernel_rfl) (by kernel_rfl) (by kernel_rfl) (by kernel_rfl) (fun _ _ _ h => h) (Or.inl ⟨by kernel_rfl, ?hy⟩) (by assumption) ?_
  case hy =>
    intro w' hSw
    obtain ⟨xf, x0, x1, x2, x3, x4, x5, x6, x7, x8, x9⟩ := free10 (hRG w' hSw)
    have hxl := block_lt (hRG w' hSw)
    clear xf hSw
    first
      | (go_simp; done)
      | (go_simp; with_reducible rfl)
  simp only [Act.put, List.setIfInBounds_toArray, List.set_cons_zero, List.set_cons_succ]
  clear hRG hbd
  have HK5 := Lib.hid (HK4.out.below Hbd.out)
  obtain ⟨B5, hB5, ha5⟩ := HK5.out.h
  refine wpAnyH_ready (rs := [1]) (by kernel_rfl) (by simp) ?_
  refine AllReadyH.cons rfl (fun K hK => ?_) AllReadyH.nil
  rw [if_pos (by kernel_rfl)]
  go_simp
  refine (HPB.out _ _ _ _ _ _ _ ha5).mono ?_
  rintro e v1 ⟨rfl, hb⟩
  have Hb1 := Lib.hid (Hbd.out.trans (hb.mono Hbd.out.size))
  clear hb ha5 hB5 HK5 Hbd
  refine hK.out _ _ Hb1.out (fun _ => ?_)
  clear hK K
  simp only [List.setIfInBounds_toArray, List.set_cons_zero, List.set_cons_succ]
  refine wpAnyH_ready (rs := [3]) (by kernel_rfl) (by simp) ?_
  refine AllReadyH.cons rfl (fun K hK => ?_) AllReadyH.nil
  rw [if_pos (by kernel_rfl)]
  go_simp
  refine (HPR.out _ _ _ v1).mono ?_
  rintro e v2 ⟨rfl, hb⟩
  have Hb2 := Lib.hid (Hb1.out.trans (hb.mono Hb1.out.size))
  clear hb Hb1
  refine hK.out _ _ Hb2.out (fun _ => ?_)
  clear hK K
  simp only [List.setIfInBounds_toArray, List.set_cons_zero, List.set_cons_succ]
  have hS2 := Hb2.out
  have hGn := HGn.out; have hEn := HEn.out
  refine takeH 4 (some 55) (v := .bool false) rfl (by kernel_rfl) (by kernel_rfl) (by kernel_rfl) (by kernel_rfl) (fun _ _ _ h => h) (Or.inl ⟨by kernel_rfl, fun w' _ => exec_binD (by rfl) (by rfl) (by rfl) (hGn _ _ w') (hEn w')⟩) (by assumption) ?_
  simp only [Act.put, List.setIfInBounds_toArray, List.set_cons_zero, List.set_cons_succ]
  refine wpAnyH_done (by kernel_rfl) ?_ _
  clear hGn hEn hS2
  have HK6 := Lib.hid (HK4.out.below Hb2.out)
  clear HK4 Hb2 hlq
  go_wp2
  go_loopw [8, 58] (fun p i wr => ∃ (k bx : Nat) (L : List D8) (F : Nat → Prop) (T0 T1 : Nat) (A2 : Option Addr) (n2 c2 : Nat), k ≤ n ∧ p = .pointer (some ⟨bx, 0, none⟩) ∧ i = .int .i64 (k : Int) ∧ KSt w wr bd a q bx L L F T0 T1 A2 n2 c2) (fun _ i _ => n - (RowKit.intOf i).toNat)
  case atStart => exact ⟨0, _, _, _, _, _, _, _, _, Nat.zero_le _, rfl, rfl, HK6.out⟩
  case round =>
    obtain ⟨k, bx, L, F, T0, T1, A2, n2, c2, hk, rfl, rfl, hks⟩ := hrel
    have HK := Lib.hid hks
    clear hks HK6
    have hn2 : n2 ≤ 256 := by
      have h1 := HK.out.r.dlenD
      have h2 := HK.out.ok.2.2.2.2
      have h3 := (pow_le8 HK.out.ok.2.1).2
      simp only at h2 h3
      omega
    by_cases hlt : k < n
    · have hd2 : decide ((k : Int) < (n : Int)) = true := decide_eq_true (by omega)
      have hki : (k : Int) < (n : Int) := by omega
      obtain ⟨bb, o, rfl, hbB, r0, y0, y1, y2, y3, y4, y5, y6, y7⟩ := (Hr.out.below HK.out.bl (Nat.le_refl _)).ti9 hlt
      have hq := getT_ok Hok.out k
      have Hk := Lib.hid hlt
      generalize l.getD k ActM.zero = t at *
      obtain ⟨z, m⟩ := t
      obtain ⟨hz, hm⟩ := hq
      simp only at hz hm r0 y0 y1 y2 y3 y4 y5 y6 y7
      have Hm := Lib.hid hm
      have hz4 : (z : Int) % 4 = 0 ∨ (z : Int) % 4 = 1 ∨ (z : Int) % 4 = 2 ∨ (z : Int) % 4 = 3 := by omega
      clear hm hlt
      have hbl : bb < wr.heap.size := by have := HK.out.bl.size; omega
      have HY2 : Hid ((wr.alloc (.cells #[.int .u8 (z : Int), .int .u8 (m.x0 : Int), .int .u8 (m.x1 : Int), .int .u8 (m.x2 : Int), .int .u8 (m.x3 : Int), .int .u8 (m.x4 : Int), .int .u8 (m.x5 : Int), .int .u8 (m.x6 : Int), .int .u8 (m.x7 : Int)] 48)).heap[wr.heap.size]? = some (.cells #[.int .u8 (z : Int), .int .u8 (m.x0 : Int), .int .u8 (m.x1 : Int), .int .u8 (m.x2 : Int), .int .u8 (m.x3 : Int), .int .u8 (m.x4 : Int), .int .u8 (m.x5 : Int), .int .u8 (m.x6 : Int), .int .u8 (m.x7 : Int)] 48 (0, 0))) := heap_alloc_new wr _
      have HK2 := Lib.hid (HK.out.below (h_one wr (.cells #[.int .u8 (z : Int), .int .u8 (m.x0 : Int), .int .u8 (m.x1 : Int), .int .u8 (m.x2 : Int), .int .u8 (m.x3 : Int), .int .u8 (m.x4 : Int), .int .u8 (m.x5 : Int), .int .u8 (m.x6 : Int), .int .u8 (m.x7 : Int)] 48)))
      go_upto_region 13 with fail
      generalize wr.alloc (.cells #[.int .u8 (z : Int), .int .u8 (m.x0 : Int), .int .u8 (m.x1 : Int), .int .u8 (m.x2 : Int), .int .u8 (m.x3 : Int), .int .u8 (m.x4 : Int), .int .u8 (m.x5 : Int), .int .u8 (m.x6 : Int), .int .u8 (m.x7 : Int)] 48) = v2 at *
      generalize wr.heap.size = by_ at *
      clear r0 y0 y1 y2 y3 y4 y5 y6 y7 HK hbl
      obtain ⟨zf, r0, y0, y1, y2, y3, y4, y5, y6, y7⟩ := free9 HY2.out
      have hly := block_lt HY2.out
      clear zf
      have HM3 : Hid ((v2.alloc (.cells #[.int .u8 (m.x0 : Int), .int .u8 (m.x1 : Int), .int .u8 (m.x2 : Int), .int .u8 (m.x3 : Int), .int .u8 (m.x4 : Int), .int .u8 (m.x5 : Int), .int .u8 (m.x6 : Int), .int .u8 (m.x7 : Int)] 38)).heap[v2.heap.size]? = some (.cells #[.int .u8 (m.x0 : Int), .int .u8 (m.x1 : Int), .int .u8 (m.x2 : Int), .int .u8 (m.x3 : Int), .int .u8 (m.x4 : Int), .int .u8 (m.x5 : Int), .int .u8 (m.x6 : Int), .int .u8 (m.x7 : Int)] 38 (0, 0))) := heap_alloc_new v2 _
      have HK3 := Lib.hid (HK2.out.below (h_one v2 (.cells #[.int .u8 (m.x0 : Int), .int .u8 (m.x1 : Int), .int .u8 (m.x2 : Int), .int .u8 (m.x3 : Int), .int .u8 (m.x4 : Int), .int .u8 (m.x5 : Int), .int .u8 (m.x6 : Int), .int .u8 (m.x7 : Int)] 38))); have HY3 := Lib.hid (block_alloc HY2.out (.cells #[.int .u8 (m.x0 : Int), .int .u8 (m.x1 : Int), .int .u8 (m.x2 : Int), .int .u8 (m.x3 : Int), .int .u8 (m.x4 : Int), .int .u8 (m.x5 : Int), .int .u8 (m.x6 : Int), .int .u8 (m.x7 : Int)] 38))
      go_upto_region 14 with fail
      generalize v2.alloc (.cells #[.int .u8 (m.x0 : Int), .int .u8 (m.x1 : Int), .int .u8 (m.x2 : Int), .int .u8 (m.x3 : Int), .int .u8 (m.x4 : Int), .int .u8 (m.x5 : Int), .int .u8 (m.x6 : Int), .int .u8 (m.x7 : Int)] 38) = v3 at *
      generalize v2.heap.size = bm at *
      clear r0 y0 y1 y2 y3 y4 y5 y6 y7 HK2 HY2 hly
      obtain ⟨zf, r0, y0, y1, y2, y3, y4, y5, y6, y7⟩ := free9 HY3.out
      have hly := block_lt HY3.out
      clear zf
      rcases hz4 with hz4 | hz4 | hz4 | hz4
      · go_upto_region 20 with fail
        simp only [hz4]
        have HSG := Lib.hid (signr_any a q A2 n2 c2 L m v3 HK3.out.r HK3.out.ok Hm.out (fun ad e => (HK3.out.ap ad e).1))
        have HSP := Lib.hid (fun (u : World) (B : Nat) (F : Nat → Prop) (T0 T1 bx : Nat) (hx : RingAt u B F T0 T1 bx ⟨a, q, L⟩) => rsign_any m hx Hm.out hx.hB)
        have hsl := sign_lt HK3.out.ok m
        have hss := sign_same a q L m
        unfold GivesSR at HSG
        generalize (RingM.mk a q L).sign m = sg at *
        obtain ⟨⟨s1, h1, L'⟩, sb, er⟩ := sg
        simp only at hss hsl HSG HSP
        injection hss with e1 e2 e3
        have e1 := e1.symm; have e2 := e2.symm
        subst e1; subst e2
        clear e3
        have Hsl := Lib.hid hsl
        clear hsl
        obtain ⟨zg, z0, z1, z2, z3, z4, z5, z6, z7, z8, z9⟩ := free10 HK3.out.b
        have hlq := block_lt HK3.out.b
        clear zg
        go_wp2_with fail
        refine HSG.out.mono ?_
        rintro e v4 ⟨A4, n4, c4, As, ns, cs, rfl, hr4, hos, hns, hb4, hf4⟩
        have hbx4 := block_below HK3.out.b hb4 hlq
        have hm4 := block_below HM3.out hb4 (block_lt HM3.out)
        have hg10 := grown_set10 v4 bd (.int .u8 (a.x0 : Int)) (.int .u8 (a.x1 : Int)) (.int .u8 (a.x2 : Int)) (.int .u8 (a.x3 : Int)) (.int .u8 (a.x4 : Int)) (.int .u8 (a.x5 : Int)) (.int .u8 (a.x6 : Int)) (.int .u8 (a.x7 : Int)) (.int .i64 (q : Int)) (.slice A4 n4 c4)
        have hne : bm ≠ bd := fun e => by
          subst e
          rw [hm4] at hbx4
          injection hbx4 with e2
          injection e2 with _ e4
          exact absurd e4 (by decide)
        have HM5 := Lib.hid ((hg10.block bm (block_lt hm4) (by intro e; injection e with e; exact hne e)).trans hm4)
        have HK5 := Lib.hid (HK3.out.set (c4 := c4) hb4 hr4 hf4)
        have Hlf : Hid (∀ z, foot F T0 T1 z → z < v3.heap.size) := Lib.hid (fun z hz => (HK3.out.lt z hz).2)
        have Hol : Hid (∀ g, (Value.slice As ns cs).ownBlock = some g → v3.heap.size ≤ g ∧ g < v4.heap.size) := Lib.hid (fun g hg => hos.lt g hg)
        have HO5 := Lib.hid (own_keep hos (fun g hg => hg10.block g (hos.lt g hg).2 (by intro e; injection e with e; have := (hos.lt g hg).1; omega)))
        clear hr4 hos hns hb4 hf4 HK3 HM3 HSG
        clear z0 z1 z2 z3 z4 z5 z6 z7 z8 z9 r0 y0 y1 y2 y3 y4 y5 y6 y7 hly hlq
        obtain ⟨zg, z0, z1, z2, z3, z4, z5, z6, z7, z8, z9⟩ := free10 hbx4
        have hlq := block_lt hbx4
        go_upto_region 23 with fail
        generalize ((((((((((v4.setCell ⟨bd, 0, none⟩ (.int .u8 (a.x0 : Int))).setCell ⟨bd, 1, none⟩ (.int .u8 (a.x1 : Int))).setCell ⟨bd, 2, none⟩ (.int .u8 (a.x2 : Int))).setCell ⟨bd, 3, none⟩ (.int .u8 (a.x3 : Int))).setCell ⟨bd, 4, none⟩ (.int .u8 (a.x4 : Int))).setCell ⟨bd, 5, none⟩ (.int .u8 (a.x5 : Int))).setCell ⟨bd, 6, none⟩ (.int .u8 (a.x6 : Int))).setCell ⟨bd, 7, none⟩ (.int .u8 (a.x7 : Int))).setCell ⟨bd, 8, none⟩ (.int .i64 (q : Int))).setCell ⟨bd, 9, none⟩ (.slice A4 n4 c4)) = v5 at *
        clear zg z0 z1 z2 z3 z4 z5 z6 z7 z8 z9 hlq hg10 hbx4 hm4 hne
        obtain ⟨zg, y0, y1, y2, y3, y4, y5, y6, y7⟩ := free8 HM5.out
        have hlm := block_lt HM5.out
        clear zg
        obtain ⟨B5, hB5, ha5⟩ := HK5.out.h
        have HSP := Lib.hid (HSP.out _ _ _ _ _ _ ha5)
        clear ha5
        go_wp2_with fail
        refine HSP.out.mono ?_
        rintro e v6 ⟨M6, A6, n6, c6, hM1, hM2, rfl, ho6, hn6, hc6, ha6⟩
        have HK6 := Lib.hid (HK5.out.ring hB5 hc6 ha6 (fun z hz => by
          rcases hz with hz | hz
          · exact .inl hz
          · exact .inr hz.1))
        have hr6 := Rd.of_own ho6
        have hrs := Rd.of_own (own_keep HO5.out (fun g hg => hc6.block g (HO5.out.lt g hg).2 (fun hf => by have := Hlf.out g (.inl hf); have := (Hol.out g hg).1; omega)))
        have hls := lsame_any A6 As n6 c6 ns cs sb sb v6 hr6 hrs Hsl.out Hsl.out
        rw [sameB_yes rfl] at hls
        have HLS := Lib.hid hls
        have hcc : ((er : Int) != (er : Int)) = false := by simp
        clear hM1 hM2 ho6 hn6 hc6 ha6 hr6 hrs hls HK5 HO5 Hol HM5 hlm y0 y1 y2 y3 y4 y5 y6 y7
        go_wp2_with fail
        refine HLS.out.mono ?_
        rintro e v7 ⟨rfl, hb7⟩
        have HK7 := Lib.hid (HK6.out.below hb7)
        clear hb7 HK6 HLS hcc HSP
        obtain ⟨zg, z0, z1, z2, z3, z4, z5, z6, z7, z8, z9⟩ := free10 HK7.out.b
        have hlq := block_lt HK7.out.b
        obtain ⟨Bt, hBt, hta⟩ := HK7.out.h
        have HTL := Lib.hid (toldl_yes hta a A4 n4 c4 HK7.out.r)
        clear hta hBt zg
        go_wp2_with fail
        refine HTL.out.mono ?_
        rintro e vt ⟨rfl, hbt⟩
        have HKt := Lib.hid (HK7.out.below hbt)
        clear hbt z0 z1 z2 z3 z4 z5 z6 z7 z8 z9 HTL hlq
        go_wp2
        go_roundw
        case rel => exact ⟨k + 1, _, _, _, _, _, _, _, _, Hk.out, rfl, by go_num, HKt.out⟩
        case measure => have := Hk.out; simp [RowKit.intOf]; omega
      · go_upto_region 20 with fail
        simp only [hz4]
        have HSG := Lib.hid (reserver_any a q A2 n2 c2 L m v3 HK3.out.r (by omega) (by omega))
        have HSP := Lib.hid (fun (u : World) (B : Nat) (F : Nat → Prop) (T0 T1 bx : Nat) (hx : RingAt u B F T0 T1 bx ⟨a, q, L⟩) => reserve_any m hx Hm.out hx.hB)
        have hss := reserve_same a q L m
        unfold GivesRR at HSG
        generalize (RingM.mk a q L).reserve m = sg at *
        obtain ⟨⟨s1, h1, L'⟩, ix, er⟩ := sg
        simp only at hss HSG HSP
        injection hss with e1 e2 e3
        have e1 := e1.symm; have e2 := e2.symm
        subst e1; subst e2
        clear e3
        obtain ⟨zg, z0, z1, z2, z3, z4, z5, z6, z7, z8, z9⟩ := free10 HK3.out.b
        have hlq := block_lt HK3.out.b
        clear zg
        go_wp2_with fail
        refine HSG.out.mono ?_
        rintro e v4 ⟨A4, n4, c4, rfl, hr4, hb4, hf4⟩
        have hbx4 := block_below HK3.out.b hb4 hlq
        have hm4 := block_below HM3.out hb4 (block_lt HM3.out)
        have hg10 := grown_set10 v4 bd (.int .u8 (a.x0 : Int)) (.int .u8 (a.x1 : Int)) (.int .u8 (a.x2 : Int)) (.int .u8 (a.x3 : Int)) (.int .u8 (a.x4 : Int)) (.int .u8 (a.x5 : Int)) (.int .u8 (a.x6 : Int)) (.int .u8 (a.x7 : Int)) (.int .i64 (q : Int)) (.slice A4 n4 c4)
        have hne : bm ≠ bd := fun e => by
          subst e
          rw [hm4] at hbx4
          injection hbx4 with e2
          injection e2 with _ e4
          exact absurd e4 (by decide)
        have HM5 := Lib.hid ((hg10.block bm (block_lt hm4) (by intro e; injection e with e; exact hne e)).trans hm4)
        have HK5 := Lib.hid (HK3.out.set (c4 := c4) hb4 hr4 hf4)
        have Hlf : Hid (∀ z, foot F T0 T1 z → z < v3.heap.size) := Lib.hid (fun z hz => (HK3.out.lt z hz).2)
        clear hr4 hb4 hf4 HK3 HM3 HSG Hlf
        clear z0 z1 z2 z3 z4 z5 z6 z7 z8 z9 r0 y0 y1 y2 y3 y4 y5 y6 y7 hly hlq
        obtain ⟨zg, z0, z1, z2, z3, z4, z5, z6, z7, z8, z9⟩ := free10 hbx4
        have hlq := block_lt hbx4
        go_upto_region 28 with fail
        generalize ((((((((((v4.setCell ⟨bd, 0, none⟩ (.int .u8 (a.x0 : Int))).setCell ⟨bd, 1, none⟩ (.int .u8 (a.x1 : Int))).setCell ⟨bd, 2, none⟩ (.int .u8 (a.x2 : Int))).setCell ⟨bd, 3, none⟩ (.int .u8 (a.x3 : Int))).setCell ⟨bd, 4, none⟩ (.int .u8 (a.x4 : Int))).setCell ⟨bd, 5, none⟩ (.int .u8 (a.x5 : Int))).setCell ⟨bd, 6, none⟩ (.int .u8 (a.x6 : Int))).setCell ⟨bd, 7, none⟩ (.int .u8 (a.x7 : Int))).setCell ⟨bd, 8, none⟩ (.int .i64 (q : Int))).setCell ⟨bd, 9, none⟩ (.slice A4 n4 c4)) = v5 at *
        clear zg z0 z1 z2 z3 z4 z5 z6 z7 z8 z9 hlq hg10 hbx4 hm4 hne
        obtain ⟨zg, y0, y1, y2, y3, y4, y5, y6, y7⟩ := free8 HM5.out
        have hlm := block_lt HM5.out
        clear zg
        obtain ⟨B5, hB5, ha5⟩ := HK5.out.h
        have HSP := Lib.hid (HSP.out _ _ _ _ _ _ ha5)
        clear ha5
        go_wp2_with fail
        refine HSP.out.mono ?_
        rintro e v6 ⟨rfl, hc6, ha6⟩
        have HK6 := Lib.hid (HK5.out.ring hB5 hc6 ha6 (fun z hz => by
          rcases hz with hz | hz
          · exact .inl hz
          · exact .inr hz.1))
        have hcc : ((er : Int) != (er : Int)) = false := by simp
        have hci : ((ix : Int) != (ix : Int)) = false := by simp
        clear hc6 ha6 HK5 HM5 hlm y0 y1 y2 y3 y4 y5 y6 y7 HSP
        obtain ⟨zg, z0, z1, z2, z3, z4, z5, z6, z7, z8, z9⟩ := free10 HK6.out.b
        have hlq := block_lt HK6.out.b
        obtain ⟨Bt, hBt, hta⟩ := HK6.out.h
        have HTL := Lib.hid (toldl_yes hta a A4 n4 c4 HK6.out.r)
        clear hta hBt zg
        go_wp2_with fail
        refine HTL.out.mono ?_
        rintro e vt ⟨rfl, hbt⟩
        have HKt := Lib.hid (HK6.out.below hbt)
        clear hbt z0 z1 z2 z3 z4 z5 z6 z7 z8 z9 HTL hlq
        go_wp2
        go_roundw
        case rel => exact ⟨k + 1, _, _, _, _, _, _, _, _, Hk.out, rfl, by go_num, HKt.out⟩
        case measure => have := Hk.out; simp [RowKit.intOf]; omega
      · go_upto_region 20 with fail
        simp only [hz4]
        have HLR := Lib.hid (leafr_any a q A2 n2 c2 L m v3 HK3.out.r (by omega))
        cases hp : posD L m with
        | some i =>
          obtain ⟨zg, z0, z1, z2, z3, z4, z5, z6, z7, z8, z9⟩ := free10 HK3.out.b
          have hlq := block_lt HK3.out.b
          clear zg
          have HLI : Hid (leafI L m = (i : Int)) := Lib.hid (by unfold leafI; rw [hp])
          have HLV : Hid (leafP L m = .tuple #[.int .i64 (i : Int), .bool true]) := Lib.hid (by unfold leafP; rw [hp])
          clear hp
          go_wp2_with fail
          refine HLR.out.mono ?_
          rintro e v4 ⟨rfl, hb4⟩
          rw [HLI.out]
          have HK4 := Lib.hid (HK3.out.below hb4); have hm4 := block_below HM3.out hb4 (block_lt HM3.out)
          clear r0 y0 y1 y2 y3 y4 y5 y6 y7 z0 z1 z2 z3 z4 z5 z6 z7 z8 z9 hlq hly hb4 HLR
          obtain ⟨zg, y0, y1, y2, y3, y4, y5, y6, y7⟩ := free8 hm4
          have hlm := block_lt hm4
          obtain ⟨B4, hB4, ha4⟩ := HK4.out.h
          have HLP := Lib.hid (leaf_any m ha4 Hm.out)
          clear zg ha4 hB4
          go_wp2_with fail
          refine HLP.out.mono ?_
          rintro e v5 ⟨rfl, hb5⟩
          simp only [HLV.out]
          have HK5 := Lib.hid (HK4.out.below hb5)
          have hge : decide ((0 : Int) ≤ (i : Int)) = true := decide_eq_true (by omega)
          have hmx : max (i : Int) 0 = (i : Int) := by omega
          have hcc : ((i : Int) != (i : Int)) = false := by simp
          clear hb5 HK4 HLP hm4 hlm y0 y1 y2 y3 y4 y5 y6 y7
          obtain ⟨zg, z0, z1, z2, z3, z4, z5, z6, z7, z8, z9⟩ := free10 HK5.out.b
          have hlq := block_lt HK5.out.b
          obtain ⟨Bt, hBt, hta⟩ := HK5.out.h
          have HTL := Lib.hid (toldl_yes hta a A2 n2 c2 HK5.out.r)
          clear hta hBt zg
          go_wp2_with fail
          refine HTL.out.mono ?_
          rintro e vt ⟨rfl, hbt⟩
          have HKt := Lib.hid (HK5.out.below hbt)
          clear hbt z0 z1 z2 z3 z4 z5 z6 z7 z8 z9 HTL hlq
          go_wp2
          go_roundw
          case rel => exact ⟨k + 1, _, _, _, _, _, _, _, _, Hk.out, rfl, by go_num, HKt.out⟩
          case measure => have := Hk.out; simp [RowKit.intOf]; omega
        | none =>
          obtain ⟨zg, z0, z1, z2, z3, z4, z5, z6, z7, z8, z9⟩ := free10 HK3.out.b
          have hlq := block_lt HK3.out.b
          clear zg
          have HLI : Hid (leafI L m = -1) := Lib.hid (by unfold leafI; rw [hp])
          have HLV : Hid (leafP L m = .tuple #[.int .i64 0, .bool false]) := Lib.hid (by unfold leafP; rw [hp])
          clear hp
          go_wp2_with fail
          refine HLR.out.mono ?_
          rintro e v4 ⟨rfl, hb4⟩
          rw [HLI.out]
          have HK4 := Lib.hid (HK3.out.below hb4); have hm4 := block_below HM3.out hb4 (block_lt HM3.out)
          clear r0 y0 y1 y2 y3 y4 y5 y6 y7 z0 z1 z2 z3 z4 z5 z6 z7 z8 z9 hlq hly hb4 HLR
          obtain ⟨zg, y0, y1, y2, y3, y4, y5, y6, y7⟩ := free8 hm4
          have hlm := block_lt hm4
          obtain ⟨B4, hB4, ha4⟩ := HK4.out.h
          have HLP := Lib.hid (leaf_any m ha4 Hm.out)
          clear zg ha4 hB4
          go_wp2_with fail
          refine HLP.out.mono ?_
          rintro e v5 ⟨rfl, hb5⟩
          simp only [HLV.out]
          have HK5 := Lib.hid (HK4.out.below hb5)
          have hge : decide ((0 : Int) ≤ -1) = false := by decide
          have hmx : max (-1 : Int) 0 = 0 := by decide
          clear hb5 HK4 HLP hm4 hlm y0 y1 y2 y3 y4 y5 y6 y7
          obtain ⟨zg, z0, z1, z2, z3, z4, z5, z6, z7, z8, z9⟩ := free10 HK5.out.b
          have hlq := block_lt HK5.out.b
          obtain ⟨Bt, hBt, hta⟩ := HK5.out.h
          have HTL := Lib.hid (toldl_yes hta a A2 n2 c2 HK5.out.r)
          clear hta hBt zg
          go_wp2_with fail
          refine HTL.out.mono ?_
          rintro e vt ⟨rfl, hbt⟩
          have HKt := Lib.hid (HK5.out.below hbt)
          clear hbt z0 z1 z2 z3 z4 z5 z6 z7 z8 z9 HTL hlq
          go_wp2
          go_roundw
          case rel => exact ⟨k + 1, _, _, _, _, _, _, _, _, Hk.out, rfl, by go_num, HKt.out⟩
          case measure => have := Hk.out; simp [RowKit.intOf]; omega
      · go_upto_region 20 with fail
        simp only [hz4]
        obtain ⟨B3, hB3, ha3⟩ := HK3.out.h
        have HSV := Lib.hid (save_any ha3)
        have Hrok := Lib.hid ha3.ok
        clear ha3 hB3 r0 y0 y1 y2 y3 y4 y5 y6 y7 hly
        go_wp2_with fail
        refine HSV.out.mono ?_
        rintro e v4 ⟨A1, n1, c1, rfl, ho1, hn1, hb4⟩
        have HK4 := Lib.hid (HK3.out.below hb4)
        have HO1 := Lib.hid (Rd.of_own ho1)
        have hsl := saveB_len Hrok.out
        have HOP := Lib.hid (open_any A1 n1 c1 (saveB (RingM.mk a q L)) v4 HO1.out (by omega) (saveB_lt Hrok.out))
        have Hos := Lib.hid (open_save Hrok.out)
        clear ho1 hn1 hb4 hsl HO1 HSV HK3
        go_wp2_with fail
        refine HOP.out.mono ?_
        intro e v5 hop
        unfold GivesO at hop
        rw [Hos.out] at hop
        simp only at hop
        obtain ⟨hb5, bo, Fo, O0, O1, rfl, ho5⟩ := hop
        have HK5 := Lib.hid (HK4.out.fresh hb5 ho5 (Nat.le_refl _))
        clear hb5 ho5 HK4 HOP
        obtain ⟨zg, z0, z1, z2, z3, z4, z5, z6, z7, z8, z9⟩ := free10 HK5.out.b
        have hlq := block_lt HK5.out.b
        obtain ⟨Bt, hBt, hta⟩ := HK5.out.h
        have HTL := Lib.hid (toldl_yes hta a A2 n2 c2 HK5.out.r)
        clear hta hBt zg
        go_wp2_with fail
        refine HTL.out.mono ?_
        rintro e vt ⟨rfl, hbt⟩
        have HKt := Lib.hid (HK5.out.below hbt)
        clear hbt z0 z1 z2 z3 z4 z5 z6 z7 z8 z9 HTL hlq
        go_wp2
        go_roundw
        case rel => exact ⟨k + 1, _, _, _, _, _, _, _, _, Hk.out, rfl, by go_num, HKt.out⟩
        case measure => have := Hk.out; simp [RowKit.intOf]; omega
    · obtain rfl : k = n := by omega
      have hd2 : decide ((k : Int) < (k : Int)) = false := by simp
      clear hlt hk
      go_upto_region 39 with fail
      have hlq := block_lt HK.out.b
      have hRG : ∀ w', Below wr.heap.size wr w' → w'.heap[bd]? = some (.cells #[.int .u8 (a.x0 : Int), .int .u8 (a.x1 : Int), .int .u8 (a.x2 : Int), .int .u8 (a.x3 : Int), .int .u8 (a.x4 : Int), .int .u8 (a.x5 : Int), .int .u8 (a.x6 : Int), .int .u8 (a.x7 : Int), .int .i64 (q : Int), (.slice A2 n2 c2)] 28 (0, 0)) := fun w' hx => block_below HK.out.b hx hlq
      have hbd := (Below.refl wr.heap.size wr).drew
      have Hbd := Lib.hid hbd
      refine wp_region_held_drew (S := fun w' => Below wr.heap.size wr w') (by kernel_rfl) hbd (fun hHeld => ?_)
      rw [show Array.replicate _ false = (#[false, false, false, false, false, false] : Array Bool) from rfl]
      refine takeH 0 (some 156) (v := ?_) rfl (by kernel_rfl) (by kernel_rfl) (by kernel_rfl) (by kernel_rfl) (fun _ _ _ h => h) (Or.inl ⟨by kernel_rfl, ?hy⟩) (by assumption) ?_
      case hy =>
        intro w' hSw
        clear hSw
        first
          | (go_simp; done)
          | (go_simp; with_reducible rfl)
      simp only [Act.put, List.setIfInBounds_toArray, List.set_cons_zero, List.set_cons_succ]
      refine takeH 2 (some 158) (v := ?_) rfl (by kernel_rfl) (by kernel_rfl) (by kernel_rfl) (by kernel_rfl) (fun _ _ _ h => h) (Or.inl ⟨by kernel_rfl, ?hy⟩) (by assumption) ?_
      case hy =>
        intro w' hSw
        obtain ⟨xf, x0, x1, x2, x3, x4, x5, x6, x7, x8, x9⟩ := free10 (hRG w' hSw)
        have hxl := block_lt (hRG w' hSw)
        clear xf hSw
        first
          | (go_simp; done)
          | (go_simp; with_reducible rfl)
      simp only [Act.put, List.setIfInBounds_toArray, List.set_cons_zero, List.set_cons_succ]
      clear hRG hbd
      have HK5 := Lib.hid (HK.out.below Hbd.out)
      obtain ⟨B5, hB5, ha5⟩ := HK5.out.h
      refine wpAnyH_ready (rs := [1]) (by kernel_rfl) (by simp) ?_
      refine AllReadyH.cons rfl (fun K hK => ?_) AllReadyH.nil
      rw [if_pos (by kernel_rfl)]
      go_simp
      refine (HPB.out _ _ _ _ _ _ _ ha5).mono ?_
      rintro e v1 ⟨rfl, hb⟩
      have Hb1 := Lib.hid (Hbd.out.trans (hb.mono Hbd.out.size))
      clear hb ha5 hB5 HK5 Hbd
      refine hK.out _ _ Hb1.out (fun _ => ?_)
      clear hK K
      simp only [List.setIfInBounds_toArray, List.set_cons_zero, List.set_cons_succ]
      refine wpAnyH_ready (rs := [3]) (by kernel_rfl) (by simp) ?_
      refine AllReadyH.cons rfl (fun K hK => ?_) AllReadyH.nil
      rw [if_pos (by kernel_rfl)]
      go_simp
      refine (HPR.out _ _ _ v1).mono ?_
      rintro e v2 ⟨rfl, hb⟩
      have Hb2 := Lib.hid (Hb1.out.trans (hb.mono Hb1.out.size))
      clear hb Hb1
      refine hK.out _ _ Hb2.out (fun _ => ?_)
      clear hK K
      simp only [List.setIfInBounds_toArray, List.set_cons_zero, List.set_cons_succ]
      have hS2 := Hb2.out
      have hGn := HGe.out; have hEn := HE.out
      refine takeH 4 (some 160) (v := .bool true) rfl (by kernel_rfl) (by kernel_rfl) (by kernel_rfl) (by kernel_rfl) (fun _ _ _ h => h) (Or.inl ⟨by kernel_rfl, fun w' _ => exec_binD (by rfl) (by rfl) (by rfl) (hGn _ _ w') (hEn w')⟩) (by assumption) ?_
      simp only [Act.put, List.setIfInBounds_toArray, List.set_cons_zero, List.set_cons_succ]
      refine takeH 5 (some 6) (v := ?_) rfl (by kernel_rfl) (by kernel_rfl) (by kernel_rfl) (by kernel_rfl) (fun _ _ _ h => h) (Or.inl ⟨by kernel_rfl, ?hy⟩) (by assumption) ?_
      case hy =>
        intro w' hSw
        clear hSw
        first
          | (go_simp; done)
          | (go_simp; with_reducible rfl)
      simp only [Act.put, List.setIfInBounds_toArray, List.set_cons_zero, List.set_cons_succ]
      refine wpAnyH_done (by kernel_rfl) ?_ _
      clear hGn hEn hS2
      go_wp2
      go_ret
      exact ⟨rfl, HK.out.bl.trans (Hb2.out.mono HK.out.bl.size)⟩
end Go.Proofs.YtmpklplojfjfbaaGreatDoor
