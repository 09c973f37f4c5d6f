/- The walk of KeysOnce. Conditions: bounds. -/
import Derived.Test.YtmpklplojfjfbaaJoinK
import Derived.Test.YtmpklplojfjfbaaKhG
import Derived.Deep.RegionLaw
import Derived.Deep.DeepCutAuto
namespace Go.Proofs.Ytmpklplojfjfbaa
open Go.RowKit Go.Lib




def bvO (l : List Bool) : List Value := l.map fun x => .bool x
theorem Rd.boolO {w : World} {B n k : Nat} {A : Option Addr} {l : List Bool} (h : Rd w B 1 A n (bvO l)) (hk : k < n) : ∃ b o, A = some ⟨b, o, none⟩ ∧ b < B ∧ w.cell? ⟨b, o + k, none⟩ = some (.bool (l.getD k false)) := by
  have hl : l.length = n := by have := h.1; simp [bvO] at this; omega
  obtain ⟨b, o, e, hb, hc⟩ := h.2 (by omega)
  refine ⟨b, o, e, hb, hc k _ ?_⟩
  simp [bvO, List.getD_eq_getElem?_getD, List.getElem?_eq_getElem (show k < l.length by omega)]
theorem Rd.intO {w : World} {B n k : Nat} {A : Option Addr} {l : List Nat} (h : Rd w B 1 A n (intsV l)) (hk : k < n) : ∃ b o, A = some ⟨b, o, none⟩ ∧ b < B ∧ w.cell? ⟨b, o + k, none⟩ = some (.int .i64 ((l.getD k 0 : Nat) : Int)) := by
  have hl : l.length = n := by have := h.1; simp [intsV] at this; omega
  obtain ⟨b, o, e, hb, hc⟩ := h.2 (by omega)
  refine ⟨b, o, e, hb, hc k _ ?_⟩
  simp [intsV, List.getD_eq_getElem?_getD, List.getElem?_eq_getElem (show k < l.length by omega)]
theorem Rd.anyO {w : World} {B n k : Nat} {A : Option Addr} {l : List Value} (h : Rd w B 1 A n l) (hk : k < n) : ∃ b o, A = some ⟨b, o, none⟩ ∧ b < B ∧ w.cell? ⟨b, o + k, none⟩ = some (l.getD k undef) := by
  have hl : l.length = n := by have := h.1; omega
  obtain ⟨b, o, e, hb, hc⟩ := h.2 (by omega)
  refine ⟨b, o, e, hb, hc k _ ?_⟩
  simp [List.getD_eq_getElem?_getD, List.getElem?_eq_getElem (show k < l.length by omega)]
theorem neq_of_eql {P : Program} {t : TypeId} {xs ys : Array Value} {b : Bool} (h : ∀ u, (binOp .eql t (.agg xs) (.agg ys)).run P u = .ok (.bool b) u) : ∀ u, (binOp .neq t (.agg xs) (.agg ys)).run P u = .ok (.bool (!b)) u := by
  intro u
  have := h u
  rw [run_eql_struct] at this
  rw [run_neq_struct]
  revert this
  cases (Op.equalIn 10000 t (.agg xs) (.agg ys)).run P u <;> simp [Result.andThen]
theorem load_row8 {w : World} {b o : Nat} {d : D8} (_hl : b < w.heap.size) (x0 : w.cell? ⟨b, o, none⟩ = some (.int .u8 (d.x0 : Int))) (x1 : w.cell? ⟨b, o + 1, none⟩ = some (.int .u8 (d.x1 : Int))) (x2 : w.cell? ⟨b, o + 2, none⟩ = some (.int .u8 (d.x2 : Int))) (x3 : w.cell? ⟨b, o + 3, none⟩ = some (.int .u8 (d.x3 : Int))) (x4 : w.cell? ⟨b, o + 4, none⟩ = some (.int .u8 (d.x4 : Int))) (x5 : w.cell? ⟨b, o + 5, none⟩ = some (.int .u8 (d.x5 : Int))) (x6 : w.cell? ⟨b, o + 6, none⟩ = some (.int .u8 (d.x6 : Int))) (x7 : w.cell? ⟨b, o + 7, none⟩ = some (.int .u8 (d.x7 : Int))) : (Instr.loadAt 22 (.pointer (some ⟨b, o, none⟩))).run Try.prog w = .ok (.agg #[.int .u8 (d.x0 : Int), .int .u8 (d.x1 : Int), .int .u8 (d.x2 : Int), .int .u8 (d.x3 : Int), .int .u8 (d.x4 : Int), .int .u8 (d.x5 : Int), .int .u8 (d.x6 : Int), .int .u8 (d.x7 : Int)]) w := by
  go_simp
theorem cellK {w w' : World} {b i B : Nat} {v : Value} (h : w.cell? ⟨b, i, none⟩ = some v) (hb : Below B w w') (hl : b < B) : w'.cell? ⟨b, i, none⟩ = some v := (hb.cell (p := ⟨b, i, none⟩) hl).trans h
set_option maxRecDepth 100000 in
set_option maxHeartbeats 16000000 in
theorem konce_any (s : D8) (h : Nat) (A : Option Addr) (n c : Nat) (l : List D8) (A' : Option Addr) (n' c' : Nat) (fs : List Bool) (w : World) (hs : s.ok) (hh : h < 256) (hr : Rd w w.heap.size 8 A n (flatD l)) (hok : ∀ d ∈ l, d.ok) (hr' : Rd w w.heap.size 1 A' n' (bvO fs)) :
    Calls Try.prog 6 #[.agg #[.int .u8 (s.x0 : Int), .int .u8 (s.x1 : Int), .int .u8 (s.x2 : Int), .int .u8 (s.x3 : Int), .int .u8 (s.x4 : Int), .int .u8 (s.x5 : Int), .int .u8 (s.x6 : Int), .int .u8 (s.x7 : Int)], .int .u8 (h : Int), .slice A n c, .slice A' n' c'] w fun e w' => e = .returned (.bool true) ∧ Below w.heap.size w w' := by
  have Hs := Lib.hid hs; have Hr := Lib.hid hr; have Hok := Lib.hid hok; have Hl := Lib.hid hr.dlenD; have Hf := Lib.hid hr'
  have HX0 : Hid ((w.alloc (.cells #[.int .u8 (s.x0 : Int), .int .u8 (s.x1 : Int), .int .u8 (s.x2 : Int), .int .u8 (s.x3 : Int), .int .u8 (s.x4 : Int), .int .u8 (s.x5 : Int), .int .u8 (s.x6 : Int), .int .u8 (s.x7 : Int)] 22)).heap[w.heap.size]? = some (.cells #[.int .u8 (s.x0 : Int), .int .u8 (s.x1 : Int), .int .u8 (s.x2 : Int), .int .u8 (s.x3 : Int), .int .u8 (s.x4 : Int), .int .u8 (s.x5 : Int), .int .u8 (s.x6 : Int), .int .u8 (s.x7 : Int)] 22 (0, 0))) := heap_alloc_new w _
  have Hw0 := Lib.hid (h_one w (.cells #[.int .u8 (s.x0 : Int), .int .u8 (s.x1 : Int), .int .u8 (s.x2 : Int), .int .u8 (s.x3 : Int), .int .u8 (s.x4 : Int), .int .u8 (s.x5 : Int), .int .u8 (s.x6 : Int), .int .u8 (s.x7 : Int)] 22))
  clear hs hr hok hr'
  by_cases hbig : 12 < n
  · have hd0 : decide ((12 : Int) < (n : Int)) = true := decide_eq_true (by omega)
    clear hbig
    go_enter Try.func6, Try.ntmps6
    go_upto_region 1 with fail
    generalize w.alloc (.cells #[.int .u8 (s.x0 : Int), .int .u8 (s.x1 : Int), .int .u8 (s.x2 : Int), .int .u8 (s.x3 : Int), .int .u8 (s.x4 : Int), .int .u8 (s.x5 : Int), .int .u8 (s.x6 : Int), .int .u8 (s.x7 : Int)] 22) = w1 at *
    go_wp2_with fail
    refine (known_any w1).mono ?_
    rintro e w2 ⟨rfl, hb2⟩
    have Hw2 := Lib.hid (Hw0.out.trans (hb2.mono Hw0.out.size))
    clear hb2
    go_wp2_with fail
    refine (known_any w2).mono ?_
    rintro e w3 ⟨rfl, hb3⟩
    have Hw3 := Lib.hid (Hw2.out.trans (hb3.mono Hw2.out.size))
    clear hb3
    go_wp2
    go_ret
    exact ⟨rfl, Hw3.out⟩
  have hd0 : decide ((12 : Int) < (n : Int)) = false := decide_eq_false (by omega)
  have hn : n ≤ 12 := by omega
  have e4 : ((h % 4 : Nat) : Int) = (h : Int) % 4 := by omega
  have Hnew : Hid (∀ u : World, Calls Try.prog 8 #[.agg #[.int .u8 (s.x0 : Int), .int .u8 (s.x1 : Int), .int .u8 (s.x2 : Int), .int .u8 (s.x3 : Int), .int .u8 (s.x4 : Int), .int .u8 (s.x5 : Int), .int .u8 (s.x6 : Int), .int .u8 (s.x7 : Int)], .int .i64 ((h : Int) % 4)] u fun e u' => ∃ br F T0 T1, e = .returned (.tuple #[.pointer (some ⟨br, 0, none⟩), .int .i64 0]) ∧ RingAt u' u.heap.size F T0 T1 br (RingM.new s (h % 4)) ∧ Below u.heap.size u u') := Lib.hid fun u => by
    have := new_any s (h % 4) u Hs.out (by omega)
    rwa [e4] at this
  generalize RingM.new s (h % 4) = r0 at *
  clear hbig e4
  go_enter Try.func6, Try.ntmps6
  go_upto_region 1 with fail
  generalize w.alloc (.cells #[.int .u8 (s.x0 : Int), .int .u8 (s.x1 : Int), .int .u8 (s.x2 : Int), .int .u8 (s.x3 : Int), .int .u8 (s.x4 : Int), .int .u8 (s.x5 : Int), .int .u8 (s.x6 : Int), .int .u8 (s.x7 : Int)] 22) = w1 at *
  go_wp2_with fail
  refine (known_any w1).mono ?_
  rintro e w2 ⟨rfl, hb2⟩
  have Hw2 := Lib.hid (Hw0.out.trans (hb2.mono Hw0.out.size)); have hx2 := block_below HX0.out hb2 (block_lt HX0.out)
  have HX2 := Lib.hid hx2
  obtain ⟨zf, x0, x1, x2, x3, x4, x5, x6, x7⟩ := free8 hx2
  have hlx := block_lt hx2
  clear hb2 hx2 zf HX0 Hw0
  go_wp2_with fail
  refine (Hnew.out w2).mono ?_
  rintro e w3 ⟨br1, F1, T01, T11, rfl, ha3, hb3⟩
  have HA3 := Lib.hid ha3; have Hw3 := Lib.hid (Hw2.out.trans (hb3.mono Hw2.out.size)); have Hs2 := Lib.hid Hw2.out.size
  clear x0 x1 x2 x3 x4 x5 x6 x7 ha3 hb3 HX2 Hw2 hlx Hnew
  go_wp2_with fail
  refine (save_any HA3.out).mono ?_
  rintro e w4 ⟨A4, n4, c4, rfl, ho4, hn4, hb4⟩
  have HO4 := Lib.hid (once_start HA3.out Hs2.out Hw3.out.size ho4 hn4 hb4)
  have Hw4 := Lib.hid (Hw3.out.trans (hb4.mono Hw3.out.size))
  clear ho4 hb4 hn4 HA3 Hw3 Hs2
  generalize hC : w.heap.size = C at *
  have HC := Lib.hid hC
  clear hC
  go_wp2
  go_loopw [9, 11, 12, 13, 14, 50] (fun v9 v11 v12 v13 v14 i wr => ∃ (k n2 : Nat) (F G : Nat → Prop) (T0 T1 br : Nat) (r : RingM) (us : List Value) (bs : List Nat) (ss : List (List Nat)) (ms : List D8), k ≤ n ∧ i = .int .i64 (k : Int) ∧ n2 ≤ k ∧ v9 = .pointer (some ⟨br, 0, none⟩) ∧ OnceAt wr C F G T0 T1 br r v11 v12 v13 v14 n2 us bs ss ms ∧ Below C w wr) (fun _ _ _ _ _ i _ => n - (RowKit.intOf i).toNat)
  case atStart => exact ⟨0, 0, _, _, _, _, _, _, _, _, _, _, Nat.zero_le _, rfl, Nat.le_refl _, rfl, HO4.out, Hw4.out⟩
  case round =>
    obtain ⟨k, n2, F, G, T0, T1, br, r, us, bs, ss, ms, hk, rfl, hn2, rfl, ho, hw⟩ := hrel
    obtain ⟨wo, rfl⟩ : ∃ wo : World, wo = wr := ⟨_, rfl⟩
    have HO := Lib.hid ho; have Hw := Lib.hid hw
    obtain ⟨Av, cv, rfl⟩ := own_form HO.out.saved.1
    generalize hnv0 : (saveB r).length = nv at *
    have Hnv : Hid (nv = (saveB r).length) := Lib.hid hnv0.symm
    obtain ⟨Ab, cb, rfl⟩ := own_form HO.out.rows.b
    obtain ⟨As, cs, rfl⟩ := own_form HO.out.rows.s
    obtain ⟨Am, cm, rfl⟩ := own_form HO.out.rows.m
    clear ho hw HO4 Hw4 hnv0
    by_cases hlt : k < n
    · have hd1 : decide ((k : Int) < (n : Int)) = true := decide_eq_true (by omega)
      have hki : (k : Int) < (n : Int) := by omega
      obtain ⟨bb, o, rfl, hbB, y0, y1, y2, y3, y4, y5, y6, y7⟩ := (Hr.out.below Hw.out (Nat.le_refl _)).di8 hlt
      have Hq := Lib.hid (getD_ok Hok.out k)
      generalize l.getD k D8.zero = m at *
      have Hk := Lib.hid hlt
      have hCo : C ≤ wo.heap.size := by have h1 := Hw.out.size; have := HC.out; omega
      have hbl : bb < wo.heap.size := by have := HC.out; omega
      have hb2 := h_one wo (.cells #[.int .u8 (m.x0 : Int), .int .u8 (m.x1 : Int), .int .u8 (m.x2 : Int), .int .u8 (m.x3 : Int), .int .u8 (m.x4 : Int), .int .u8 (m.x5 : Int), .int .u8 (m.x6 : Int), .int .u8 (m.x7 : Int)] 22)
      have HM2 : Hid ((wo.alloc (.cells #[.int .u8 (m.x0 : Int), .int .u8 (m.x1 : Int), .int .u8 (m.x2 : Int), .int .u8 (m.x3 : Int), .int .u8 (m.x4 : Int), .int .u8 (m.x5 : Int), .int .u8 (m.x6 : Int), .int .u8 (m.x7 : Int)] 22)).heap[wo.heap.size]? = some (.cells #[.int .u8 (m.x0 : Int), .int .u8 (m.x1 : Int), .int .u8 (m.x2 : Int), .int .u8 (m.x3 : Int), .int .u8 (m.x4 : Int), .int .u8 (m.x5 : Int), .int .u8 (m.x6 : Int), .int .u8 (m.x7 : Int)] 22 (0, 0))) := heap_alloc_new wo _
      have HO2 := Lib.hid (HO.out.below hb2); have Hw2 := Lib.hid (Hw.out.trans (hb2.mono hCo))
      have HG := Lib.hid (fun g (hg : G g) => (HO.out.lt g hg).2)
      have HFo := Lib.hid (fun g (hg : foot F T0 T1 g) => (HO.out.ring.lt g hg).2)
      go_upto_region 13 with fail
      have hbu : wo.heap.size < (wo.alloc (.cells #[.int .u8 (m.x0 : Int), .int .u8 (m.x1 : Int), .int .u8 (m.x2 : Int), .int .u8 (m.x3 : Int), .int .u8 (m.x4 : Int), .int .u8 (m.x5 : Int), .int .u8 (m.x6 : Int), .int .u8 (m.x7 : Int)] 22)).heap.size := by simp
      generalize wo.alloc (.cells #[.int .u8 (m.x0 : Int), .int .u8 (m.x1 : Int), .int .u8 (m.x2 : Int), .int .u8 (m.x3 : Int), .int .u8 (m.x4 : Int), .int .u8 (m.x5 : Int), .int .u8 (m.x6 : Int), .int .u8 (m.x7 : Int)] 22) = u2 at *
      clear y0 y1 y2 y3 y4 y5 y6 y7 HO Hw hb2 hbl hbB
      generalize hbm : wo.heap.size = bm at *
      clear hbm
      generalize hfv : fs.getD k false = fv at *
      have Hfv := Lib.hid hfv
      clear hfv
      obtain ⟨cr, hcr⟩ : ∃ cr : Bool, cr = (decide (k < n') && fv) := ⟨_, rfl⟩
      have Hcr := Lib.hid hcr
      clear hcr
      go_cut [64] (fun s64 wx => s64 = .bool cr ∧ wx = u2)
      case first =>
        by_cases hkf : k < n'
        · obtain ⟨b5, o5, rfl, hb5, y⟩ := (Hf.out.below Hw2.out (Nat.le_refl _)).boolO hkf
          rw [Hfv.out] at y
          have hd2 : decide ((k : Int) < (n' : Int)) = true := decide_eq_true (by omega)
          have hkf2 : (k : Int) < (n' : Int) := by omega
          have hb5' : b5 < u2.heap.size := by have := HC.out; omega
          go_wp2_with fail
          go_meet
          exact ⟨by rw [Hcr.out, decide_eq_true hkf]; rfl, rfl⟩
        · have hd2 : decide ((k : Int) < (n' : Int)) = false := decide_eq_false (by omega)
          go_wp2_with fail
          go_meet
          exact ⟨by rw [Hcr.out, decide_eq_false hkf]; rfl, rfl⟩
      case rest =>
      obtain ⟨rfl, rfl⟩ := hcut
      obtain ⟨u2, rfl⟩ : ∃ u2 : World, u2 = wc := ⟨_, rfl⟩
      go_upto_if 64 with fail
      go_cut [9] (fun s9 wx => ∃ (F' : Nat → Prop) (S0 S1 bo : Nat), s9 = .pointer (some ⟨bo, 0, none⟩) ∧ OnceAt wx C F' G S0 S1 bo r (.slice Av nv cv) (.slice Ab n2 cb) (.slice As n2 cs) (.slice Am n2 cm) n2 us bs ss ms ∧ Below C w wx ∧ wx.heap[bm]? = some (.cells #[.int .u8 (m.x0 : Int), .int .u8 (m.x1 : Int), .int .u8 (m.x2 : Int), .int .u8 (m.x3 : Int), .int .u8 (m.x4 : Int), .int .u8 (m.x5 : Int), .int .u8 (m.x6 : Int), .int .u8 (m.x7 : Int)] 22 (0, 0)) ∧ (∀ g, foot F' S0 S1 g → g ≠ bm))
      case first =>
        cases cr with
        | true =>
          have Hro := Lib.hid HO2.out.ring.at_.choose_spec.2.ok
          have hn7 : nv ≤ 1000000 := by rw [Hnv.out]; exact Nat.le_trans (saveB_len Hro.out) (by decide)
          have HR6 : Hid (Rd u2 u2.heap.size 1 Av nv (bv (saveB r))) := by have := HO2.out.saved.1; rw [← Hnv.out] at this; exact Rd.of_own this
          go_wp2_with fail
          refine (open_any Av nv cv (saveB r) u2 HR6.out hn7 (saveB_lt Hro.out)).mono ?_
          intro e v7 hop
          have hsv := open_save Hro.out
          unfold GivesO at hop
          rw [hsv] at hop
          obtain ⟨hb7, bo, Fo, O0, O1, rfl, ho7⟩ := hop
          have HO7 := Lib.hid (HO2.out.opened hb7 (by omega) ho7)
          have Hw7 := Lib.hid (Hw2.out.trans (hb7.mono (by omega)))
          have HM7 := Lib.hid (block_below HM2.out hb7 (block_lt HM2.out))
          have HF7 := Lib.hid (fun g (hg : foot Fo O0 O1 g) => (ho7.foot_lt g hg).1)
          clear hb7 ho7 hsv HR6 hn7
          go_wp2
          go_meet
          exact ⟨Fo, O0, O1, bo, rfl, HO7.out, Hw7.out, HM7.out, fun g hg e => by have := HF7.out g hg; omega⟩
        | false =>
          go_wp2
          go_meet
          exact ⟨F, T0, T1, br, rfl, HO2.out, Hw2.out, HM2.out, fun g hg e => by have := HFo.out g hg; omega⟩
      case rest =>
      obtain ⟨F', S0, S1, bo, rfl, ho3, hw3, hm3, hne3⟩ := hcut
      obtain ⟨u5, rfl⟩ : ∃ u5 : World, u5 = wc := ⟨_, rfl⟩
      have HO5 := Lib.hid ho3; have Hw5 := Lib.hid hw3; have HM5 := Lib.hid hm3; have Hne := Lib.hid hne3
      clear ho3 hw3 hm3 hne3 HO2 Hw2 HM2 hbu HFo
      obtain ⟨zf, y0, y1, y2, y3, y4, y5, y6, y7⟩ := free8 HM5.out
      have hlm := block_lt HM5.out
      clear zf
      obtain ⟨BB, hCB, ha5⟩ := HO5.out.ring.at_
      have Ha5 := Lib.hid ha5
      have hB5 : BB ≤ u5.heap.size := ha5.hB
      have Hok5 := Lib.hid ha5.ok
      have HCF := Lib.hid (fun g (hg : foot F' S0 S1 g) => (HO5.out.ring.lt g hg))
      clear ha5
      go_wp2_with fail
      refine (rsign_any m Ha5.out Hq.out hB5).mono ?_
      rintro e u6 ⟨M, A6, n6, c6, hm6, hm6', rfl, ho6, hn6, hc6, ha6⟩
      have hsg := HO5.out.signed (M := M) hc6
      have HM6 := Lib.hid ((hc6.block _ hlm (fun hf => Hne.out bm (.inl hf) rfl)).trans HM5.out)
      have Hw6 := Lib.hid (Hw5.out.trans (hc6.below (fun g hg => (HCF.out g (.inl hg)).1) (by omega)))
      have Hsg := Lib.hid hsg
      have Ho6 := Lib.hid ho6; have Hn6 := Lib.hid hn6
      have Hw5s : Hid (C ≤ u5.heap.size) := Lib.hid (by have h1 := Hw5.out.size; have := HC.out; omega)
      clear y0 y1 y2 y3 y4 y5 y6 y7 hsg ho6 hn6 hc6 HM5 Hw5
      by_cases he : (r.sign m).2.2 = 0
      · have Hidx := Lib.hid (index_sign Hok5.out he)
        have Hrec := Lib.hid (HO5.out.rec_.sign he)
        have Honce := Lib.hid (fun j (hj : j < n2) => HO5.out.rec_.once Hok5.out Hq.out he hj)
        have Hlt6 := Lib.hid (sign_lt Hok5.out m); have hlen6 := sign_len Hok5.out m
        have Hfoot : Hid (∀ g, foot (upto F' u5.heap.size M) S0 S1 g → g < M) := Lib.hid fun g hg => by
          rcases hg with (h1 | h1) | h1
          · have := (HCF.out g (.inl h1)).2; omega
          · omega
          · have := (HCF.out g (.inr h1)).2; omega
        have Hlt5 := Lib.hid HO5.out.lt
        have HA6 := Lib.hid ha6
        have hn6 : n6 ≤ 219 := by rw [Hn6.out]; exact hlen6
        rw [he]
        have HCB := Lib.hid hCB
        clear ha6 he hlen6 HO5 Ha5 Hok5 hB5 hCB
        generalize (r.sign m).2.1 = sg at *
        generalize (r.reserve m).2.1 = kk at *
        generalize (r.sign m).1 = rs at *
        go_wp2_with fail
        refine (save_any HA6.out).mono ?_
        rintro e u7 ⟨A7, n7, c7, rfl, ho7, hn7, hb7⟩
        have Ho7 := Lib.hid ho7; have Hn7 := Lib.hid hn7; have Hb7 := Lib.hid hb7; have Hsg7 := Lib.hid (own_below Ho6.out hb7)
        clear ho7 hn7 hb7
        go_wp2_with fail
        refine (index_any A6 n6 c6 sg u7 (Rd.of_own Hsg7.out) (own_cap Hsg7.out) (by omega) Hlt6.out).mono ?_
        rintro e p8 ⟨rfl, hb8⟩
        rw [Hidx.out]
        have Hb8 := Lib.hid (Hb7.out.trans (hb8.mono Hb7.out.size))
        have Ho8 := Lib.hid (own_below Ho7.out hb8)
        have Hsg8 := Lib.hid (own_below Hsg7.out hb8)
        clear hb8 Ho7 Hsg7 Hb7 Hidx
        have HR8 := Lib.hid (Hsg.out.1.kept (fun g hg => Hb8.out.block g (Hsg.out.2.2.2 g hg).2))
        have HM8 := Lib.hid (block_below HM6.out Hb8.out (block_lt HM6.out))
        have Hw8 := Lib.hid (Hw6.out.trans (Hb8.out.mono (by have := Hw6.out.size; have := HC.out; omega)))
        go_wp2
        go_loopw [100] (fun i wr => ∃ (j : Nat), j ≤ n2 ∧ i = .int .i64 (j : Int) ∧ Below p8.heap.size p8 wr) (fun i _ => n2 - (RowKit.intOf i).toNat)
        case atStart => exact ⟨0, Nat.zero_le _, rfl, Below.refl _ _⟩
        case round =>
          obtain ⟨j, hj, rfl, hbw⟩ := hrel
          have Hbw := Lib.hid hbw
          clear hbw
          by_cases hjn : j < n2
          · have hd3 : decide ((j : Int) < (n2 : Int)) = true := decide_eq_true (by omega)
            have hji : (j : Int) < (n2 : Int) := by omega
            obtain ⟨b5, o5, rfl, hb5, q5⟩ := (Rd.of_own HR8.out.b).intO hjn
            obtain ⟨b6, o6, rfl, hb6, z0, z1, z2, z3, z4, z5, z6, z7⟩ := (Rd.of_own HR8.out.m).di8 hjn
            obtain ⟨b7, o7, rfl, hb7, q7⟩ := (Rd.of_own HR8.out.s).anyO hjn
            have hej := (HR8.out.each j hjn).1
            obtain ⟨Aj, cj, ej⟩ := own_form hej
            rw [ej] at q7 hej
            have HSj := Lib.hid hej
            have Hj := Lib.hid hjn
            have hon := Honce.out j hjn
            clear ej hej
            generalize bs.getD j 0 = bj at *
            generalize ss.getD j [] = sj at *
            generalize ms.getD j D8.zero = mj at *
            have hI : ∀ w', Below wr.heap.size wr w' → w'.cell? ⟨b5, o5 + j, none⟩ = some (.int .i64 (bj : Int)) := fun w' h => by
              have := Hbw.out.size
              exact cellK (cellK q5 Hbw.out hb5) h (by omega)
            have hS : ∀ w', Below wr.heap.size wr w' → w'.cell? ⟨b7, o7 + j, none⟩ = some (.slice Aj sj.length cj) := fun w' h => by
              have := Hbw.out.size
              exact cellK (cellK q7 Hbw.out hb7) h (by omega)
            have hM : ∀ w', Below wr.heap.size wr w' → (Instr.loadAt 22 (.pointer (some ⟨b6, o6 + j * 8, none⟩))).run Try.prog w' = .ok (.agg #[.int .u8 (mj.x0 : Int), .int .u8 (mj.x1 : Int), .int .u8 (mj.x2 : Int), .int .u8 (mj.x3 : Int), .int .u8 (mj.x4 : Int), .int .u8 (mj.x5 : Int), .int .u8 (mj.x6 : Int), .int .u8 (mj.x7 : Int)]) w' := fun w' h => by
              have hs := Hbw.out.size
              have hc : ∀ {i : Nat} {v : Value}, p8.cell? ⟨b6, i, none⟩ = some v → w'.cell? ⟨b6, i, none⟩ = some v := fun {i v} x => cellK (cellK x Hbw.out hb6) h (by omega)
              exact load_row8 (by have := h.size; omega) (hc z0) (hc z1) (hc z2) (hc z3) (hc z4) (hc z5) (hc z6) (hc z7)
            have hX : ∀ w', Below wr.heap.size wr w' → (Instr.loadAt 22 (.pointer (some ⟨bm, 0, none⟩))).run Try.prog w' = .ok (.agg #[.int .u8 (m.x0 : Int), .int .u8 (m.x1 : Int), .int .u8 (m.x2 : Int), .int .u8 (m.x3 : Int), .int .u8 (m.x4 : Int), .int .u8 (m.x5 : Int), .int .u8 (m.x6 : Int), .int .u8 (m.x7 : Int)]) w' := fun w' h => by
              have hs := Hbw.out.size
              have hm := block_lt HM8.out
              exact load_d8 (block_below (block_below HM8.out Hbw.out hm) h (by omega))
            have hG : ∀ (x y : Operand) u, (eqGuard .eql 22 x y (.agg #[.int .u8 (mj.x0 : Int), .int .u8 (mj.x1 : Int), .int .u8 (mj.x2 : Int), .int .u8 (mj.x3 : Int), .int .u8 (mj.x4 : Int), .int .u8 (mj.x5 : Int), .int .u8 (mj.x6 : Int), .int .u8 (mj.x7 : Int)]) (.agg #[.int .u8 (m.x0 : Int), .int .u8 (m.x1 : Int), .int .u8 (m.x2 : Int), .int .u8 (m.x3 : Int), .int .u8 (m.x4 : Int), .int .u8 (m.x5 : Int), .int .u8 (m.x6 : Int), .int .u8 (m.x7 : Int)])).run Try.prog u = .ok () u := fun x y u => by first | (go_simp; done) | exact run_eqGuard_agg _ _ _ _ _ _ (by kernel_rfl)
            have hGn : ∀ (x y : Operand) u, (eqGuard .neq 22 x y (.agg #[.int .u8 (mj.x0 : Int), .int .u8 (mj.x1 : Int), .int .u8 (mj.x2 : Int), .int .u8 (mj.x3 : Int), .int .u8 (mj.x4 : Int), .int .u8 (mj.x5 : Int), .int .u8 (mj.x6 : Int), .int .u8 (mj.x7 : Int)]) (.agg #[.int .u8 (m.x0 : Int), .int .u8 (m.x1 : Int), .int .u8 (m.x2 : Int), .int .u8 (m.x3 : Int), .int .u8 (m.x4 : Int), .int .u8 (m.x5 : Int), .int .u8 (m.x6 : Int), .int .u8 (m.x7 : Int)])).run Try.prog u = .ok () u := fun x y u => by first | (go_simp; done) | exact run_eqGuard_agg _ _ _ _ _ _ (by kernel_rfl)
            have hE : ∀ u, (binOp .eql 22 (.agg #[.int .u8 (mj.x0 : Int), .int .u8 (mj.x1 : Int), .int .u8 (mj.x2 : Int), .int .u8 (mj.x3 : Int), .int .u8 (mj.x4 : Int), .int .u8 (mj.x5 : Int), .int .u8 (mj.x6 : Int), .int .u8 (mj.x7 : Int)]) (.agg #[.int .u8 (m.x0 : Int), .int .u8 (m.x1 : Int), .int .u8 (m.x2 : Int), .int .u8 (m.x3 : Int), .int .u8 (m.x4 : Int), .int .u8 (m.x5 : Int), .int .u8 (m.x6 : Int), .int .u8 (m.x7 : Int)])).run Try.prog u = .ok (.bool (sameD mj m)) u := fun u => eql_digR _ _ _ _ _ _ _ _ _ _ _ _ _ _ _ _ u
            clear q5 q7 z0 z1 z2 z3 z4 z5 z6 z7
            go_upto_region 27 with fail
            refine wp_region_held_drew (S := fun w' => Below wr.heap.size wr w') (by kernel_rfl) ((Below.refl wr.heap.size wr).drew) (fun hHeld => ?_)
            rw [show Array.replicate _ false = (#[false, false, false, false, false, false, false, false, false, false, false, false, false, false, false, false, false, false, false, false, false, false, false, false, false, false, false, false, false, false, false, false, false, false, false, false, false, false, false] : Array Bool) from rfl]
            by_cases hbk : bj = kk
            · obtain ⟨hmj, hsj⟩ := hon.1 hbk
              subst hbk
              subst hmj
              subst hsj
              rw [show sameD mj mj = true from sameD_iff.2 rfl] at hE
              have hEn := neq_of_eql hE
              rw [show (!true) = false from rfl] at hEn
              refine takeH 0 (some 103) (v := ?_) rfl (by kernel_rfl) (by kernel_rfl) (by kernel_rfl) (by kernel_rfl) (fun _ _ _ h => h) (Or.inl ⟨by kernel_rfl, ?hy⟩) (by assumption) ?_
              case hy =>
                intro w' hSw
                clear hSw
                first
                  | (go_simp; done)
                  | (go_simp; with_reducible rfl)
              simp only [Act.put, List.setIfInBounds_toArray, List.set_cons_zero, List.set_cons_succ]
              refine takeH 1 (some 104) (v := ?_) rfl (by kernel_rfl) (by kernel_rfl) (by kernel_rfl) (by kernel_rfl) (fun _ _ _ h => h) (Or.inl ⟨by kernel_rfl, ?hy⟩) (by assumption) ?_
              case hy =>
                intro w' hSw
                clear hSw
                first
                  | (go_simp; done)
                  | (go_simp; with_reducible rfl)
              simp only [Act.put, List.setIfInBounds_toArray, List.set_cons_zero, List.set_cons_succ]
              refine takeH 2 (some 105) (v := ?_) rfl (by kernel_rfl) (by kernel_rfl) (by kernel_rfl) (by kernel_rfl) (fun _ _ _ h => h) (Or.inl ⟨by kernel_rfl, ?hy⟩) (by assumption) ?_
              case hy =>
                intro w' hSw
                clear hSw
                first
                  | (go_simp; done)
                  | (go_simp; with_reducible rfl)
              simp only [Act.put, List.setIfInBounds_toArray, List.set_cons_zero, List.set_cons_succ]
              refine takeH 3 (some 106) (v := ?_) rfl (by kernel_rfl) (by kernel_rfl) (by kernel_rfl) (by kernel_rfl) (fun _ _ _ h => h) (Or.inl ⟨by kernel_rfl, ?hy⟩) (by assumption) ?_
              case hy =>
                intro w' hSw
                have hx := hI w' hSw
                clear hSw
                first
                  | (go_simp; done)
                  | (go_simp; with_reducible rfl)
              simp only [Act.put, List.setIfInBounds_toArray, List.set_cons_zero, List.set_cons_succ]
              refine takeH 4 (some 107) (v := ?_) rfl (by kernel_rfl) (by kernel_rfl) (by kernel_rfl) (by kernel_rfl) (fun _ _ _ h => h) (Or.inl ⟨by kernel_rfl, ?hy⟩) (by assumption) ?_
              case hy =>
                intro w' hSw
                clear hSw
                first
                  | (go_simp; done)
                  | (go_simp; with_reducible rfl)
              simp only [Act.put, List.setIfInBounds_toArray, List.set_cons_zero, List.set_cons_succ]
              refine takeH 5 (some 108) (v := ?_) rfl (by kernel_rfl) (by kernel_rfl) (by kernel_rfl) (by kernel_rfl) (fun _ _ _ h => h) (Or.inl ⟨by kernel_rfl, ?hy⟩) (by assumption) ?_
              case hy =>
                intro w' hSw
                clear hSw
                first
                  | (go_simp; done)
                  | (go_simp; with_reducible rfl)
              simp only [Act.put, List.setIfInBounds_toArray, List.set_cons_zero, List.set_cons_succ]
              refine takeH 6 (some 109) (v := ?_) rfl (by kernel_rfl) (by kernel_rfl) (by kernel_rfl) (by kernel_rfl) (fun _ _ _ h => h) (Or.inl ⟨by kernel_rfl, ?hy⟩) (by assumption) ?_
              case hy =>
                intro w' hSw
                clear hSw
                first
                  | (go_simp; done)
                  | (go_simp; with_reducible rfl)
              simp only [Act.put, List.setIfInBounds_toArray, List.set_cons_zero, List.set_cons_succ]
              refine takeH 7 (some 110) (v := ?_) rfl (by kernel_rfl) (by kernel_rfl) (by kernel_rfl) (by kernel_rfl) (fun _ _ _ h => h) (Or.inl ⟨by kernel_rfl, ?hy⟩) (by assumption) ?_
              case hy =>
                intro w' hSw
                clear hSw
                first
                  | (go_simp; done)
                  | (go_simp; with_reducible rfl)
              simp only [Act.put, List.setIfInBounds_toArray, List.set_cons_zero, List.set_cons_succ]
              refine takeH 8 (some 111) (v := ?_) rfl (by kernel_rfl) (by kernel_rfl) (by kernel_rfl) (by kernel_rfl) (fun _ _ _ h => h) (Or.inl ⟨by kernel_rfl, ?hy⟩) (by assumption) ?_
              case hy =>
                intro w' hSw
                clear hSw
                first
                  | (go_simp; done)
                  | (go_simp; with_reducible rfl)
              simp only [Act.put, List.setIfInBounds_toArray, List.set_cons_zero, List.set_cons_succ]
              refine takeH 9 (some 112) (v := ?_) rfl (by kernel_rfl) (by kernel_rfl) (by kernel_rfl) (by kernel_rfl) (fun _ _ _ h => h) (Or.inl ⟨by kernel_rfl, ?hy⟩) (by assumption) ?_
              case hy =>
                intro w' hSw
                clear hSw
                first
                  | (go_simp; done)
                  | (go_simp; with_reducible rfl)
              simp only [Act.put, List.setIfInBounds_toArray, List.set_cons_zero, List.set_cons_succ]
              refine takeH 10 (some 113) (v := .agg #[.int .u8 (mj.x0 : Int), .int .u8 (mj.x1 : Int), .int .u8 (mj.x2 : Int), .int .u8 (mj.x3 : Int), .int .u8 (mj.x4 : Int), .int .u8 (mj.x5 : Int), .int .u8 (mj.x6 : Int), .int .u8 (mj.x7 : Int)]) rfl (by kernel_rfl) (by kernel_rfl) (by kernel_rfl) (by kernel_rfl) (fun _ _ _ h => h) (Or.inl ⟨by kernel_rfl, ?hy⟩) (by assumption) ?_
              case hy =>
                intro w' hSw
                simp [execOp, Act.eval, hM w' hSw, Result.andThen]
              simp only [Act.put, List.setIfInBounds_toArray, List.set_cons_zero, List.set_cons_succ]
              refine takeH 11 (some 114) (v := .agg #[.int .u8 (mj.x0 : Int), .int .u8 (mj.x1 : Int), .int .u8 (mj.x2 : Int), .int .u8 (mj.x3 : Int), .int .u8 (mj.x4 : Int), .int .u8 (mj.x5 : Int), .int .u8 (mj.x6 : Int), .int .u8 (mj.x7 : Int)]) rfl (by kernel_rfl) (by kernel_rfl) (by kernel_rfl) (by kernel_rfl) (fun _ _ _ h => h) (Or.inl ⟨by kernel_rfl, ?hy⟩) (by assumption) ?_
              case hy =>
                intro w' hSw
                simp [execOp, Act.eval, hX w' hSw, Result.andThen]
              simp only [Act.put, List.setIfInBounds_toArray, List.set_cons_zero, List.set_cons_succ]
              refine takeH 12 (some 115) (v := .bool false) rfl (by kernel_rfl) (by kernel_rfl) (by kernel_rfl) (by kernel_rfl) (fun _ _ _ h => h) (Or.inl ⟨by kernel_rfl, fun w' _ => exec_binD (by rfl) (by rfl) (by rfl) (hGn _ _ w') (hEn w')⟩) (by assumption) ?_
              simp only [Act.put, List.setIfInBounds_toArray, List.set_cons_zero, List.set_cons_succ]
              refine takeH 13 (some 116) (v := ?_) rfl (by kernel_rfl) (by kernel_rfl) (by kernel_rfl) (by kernel_rfl) (fun _ _ _ h => h) (Or.inl ⟨by kernel_rfl, ?hy⟩) (by assumption) ?_
              case hy =>
                intro w' hSw
                clear hSw
                first
                  | (go_simp; done)
                  | (go_simp; with_reducible rfl)
              simp only [Act.put, List.setIfInBounds_toArray, List.set_cons_zero, List.set_cons_succ]
              refine takeH 14 (some 117) (v := ?_) rfl (by kernel_rfl) (by kernel_rfl) (by kernel_rfl) (by kernel_rfl) (fun _ _ _ h => h) (Or.inl ⟨by kernel_rfl, ?hy⟩) (by assumption) ?_
              case hy =>
                intro w' hSw
                clear hSw
                first
                  | (go_simp; done)
                  | (go_simp; with_reducible rfl)
              simp only [Act.put, List.setIfInBounds_toArray, List.set_cons_zero, List.set_cons_succ]
              refine takeH 15 (some 118) (v := ?_) rfl (by kernel_rfl) (by kernel_rfl) (by kernel_rfl) (by kernel_rfl) (fun _ _ _ h => h) (Or.inl ⟨by kernel_rfl, ?hy⟩) (by assumption) ?_
              case hy =>
                intro w' hSw
                clear hSw
                first
                  | (go_simp; done)
                  | (go_simp; with_reducible rfl)
              simp only [Act.put, List.setIfInBounds_toArray, List.set_cons_zero, List.set_cons_succ]
              refine takeH 16 (some 119) (v := ?_) rfl (by kernel_rfl) (by kernel_rfl) (by kernel_rfl) (by kernel_rfl) (fun _ _ _ h => h) (Or.inl ⟨by kernel_rfl, ?hy⟩) (by assumption) ?_
              case hy =>
                intro w' hSw
                clear hSw
                first
                  | (go_simp; done)
                  | (go_simp; with_reducible rfl)
              simp only [Act.put, List.setIfInBounds_toArray, List.set_cons_zero, List.set_cons_succ]
              refine takeH 17 (some 120) (v := ?_) rfl (by kernel_rfl) (by kernel_rfl) (by kernel_rfl) (by kernel_rfl) (fun _ _ _ h => h) (Or.inl ⟨by kernel_rfl, ?hy⟩) (by assumption) ?_
              case hy =>
                intro w' hSw
                have hx := hS w' hSw
                clear hSw
                first
                  | (go_simp; done)
                  | (go_simp; with_reducible rfl)
              simp only [Act.put, List.setIfInBounds_toArray, List.set_cons_zero, List.set_cons_succ]
              refine takeH 18 (some 121) (v := ?_) rfl (by kernel_rfl) (by kernel_rfl) (by kernel_rfl) (by kernel_rfl) (fun _ _ _ h => h) (Or.inl ⟨by kernel_rfl, ?hy⟩) (by assumption) ?_
              case hy =>
                intro w' hSw
                clear hSw
                first
                  | (go_simp; done)
                  | (go_simp; with_reducible rfl)
              simp only [Act.put, List.setIfInBounds_toArray, List.set_cons_zero, List.set_cons_succ]
              have Hsj := Lib.hid (Rd.of_own HSj.out)
              have hbd : Below wr.heap.size wr wr.drew := (Below.refl wr.heap.size wr).drew
              have Hbd := Lib.hid (Hbw.out.trans (hbd.mono Hbw.out.size))
              have HR1 := Lib.hid (Rd.upR Hsj.out Hbd.out (Nat.le_refl _))
              have HR2 := Lib.hid (Rd.upR (Rd.of_own Hsg8.out) Hbd.out (Nat.le_refl _))
              refine wpAnyH_ready (rs := [19]) (by kernel_rfl) (by simp) ?_
              refine AllReadyH.cons rfl (fun K hK => ?_) AllReadyH.nil
              rw [if_pos (by kernel_rfl)]
              go_simp
              refine (lsame_any Aj A6 sj.length cj n6 c6 sj sj _ HR1.out HR2.out Hlt6.out Hlt6.out).mono ?_
              rintro e v1 ⟨rfl, hb1⟩
              rw [show sameB sj sj = true from sameB_yes rfl]
              have hS1 : Below wr.heap.size wr v1 := hbd.trans (hb1.mono hbd.size)
              have HS1 := Lib.hid hS1
              clear hb1 hbd
              refine hK.out _ _ hS1 (fun _ => ?_)
              clear hK K
              simp only [List.setIfInBounds_toArray, List.set_cons_zero, List.set_cons_succ]
              clear hS1
              have hS1 := HS1.out
              refine takeH 20 (some 123) (v := ?_) rfl (by kernel_rfl) (by kernel_rfl) (by kernel_rfl) (by kernel_rfl) (fun _ _ _ h => h) (Or.inl ⟨by kernel_rfl, ?hy⟩) (by assumption) ?_
              case hy =>
                intro w' hSw
                clear hSw
                first
                  | (go_simp; done)
                  | (go_simp; with_reducible rfl)
              simp only [Act.put, List.setIfInBounds_toArray, List.set_cons_zero, List.set_cons_succ]
              refine takeH 21 (some 124) (v := ?_) rfl (by kernel_rfl) (by kernel_rfl) (by kernel_rfl) (by kernel_rfl) (fun _ _ _ h => h) (Or.inl ⟨by kernel_rfl, ?hy⟩) (by assumption) ?_
              case hy =>
                intro w' hSw
                clear hSw
                first
                  | (go_simp; done)
                  | (go_simp; with_reducible rfl)
              simp only [Act.put, List.setIfInBounds_toArray, List.set_cons_zero, List.set_cons_succ]
              refine takeH 22 (some 125) (v := ?_) rfl (by kernel_rfl) (by kernel_rfl) (by kernel_rfl) (by kernel_rfl) (fun _ _ _ h => h) (Or.inl ⟨by kernel_rfl, ?hy⟩) (by assumption) ?_
              case hy =>
                intro w' hSw
                clear hSw
                first
                  | (go_simp; done)
                  | (go_simp; with_reducible rfl)
              simp only [Act.put, List.setIfInBounds_toArray, List.set_cons_zero, List.set_cons_succ]
              refine takeH 23 (some 126) (v := ?_) rfl (by kernel_rfl) (by kernel_rfl) (by kernel_rfl) (by kernel_rfl) (fun _ _ _ h => h) (Or.inl ⟨by kernel_rfl, ?hy⟩) (by assumption) ?_
              case hy =>
                intro w' hSw
                clear hSw
                first
                  | (go_simp; done)
                  | (go_simp; with_reducible rfl)
              simp only [Act.put, List.setIfInBounds_toArray, List.set_cons_zero, List.set_cons_succ]
              refine takeH 24 (some 127) (v := ?_) rfl (by kernel_rfl) (by kernel_rfl) (by kernel_rfl) (by kernel_rfl) (fun _ _ _ h => h) (Or.inl ⟨by kernel_rfl, ?hy⟩) (by assumption) ?_
              case hy =>
                intro w' hSw
                clear hSw
                first
                  | (go_simp; done)
                  | (go_simp; with_reducible rfl)
              simp only [Act.put, List.setIfInBounds_toArray, List.set_cons_zero, List.set_cons_succ]
              refine takeH 25 (some 128) (v := ?_) rfl (by kernel_rfl) (by kernel_rfl) (by kernel_rfl) (by kernel_rfl) (fun _ _ _ h => h) (Or.inl ⟨by kernel_rfl, ?hy⟩) (by assumption) ?_
              case hy =>
                intro w' hSw
                clear hSw
                first
                  | (go_simp; done)
                  | (go_simp; with_reducible rfl)
              simp only [Act.put, List.setIfInBounds_toArray, List.set_cons_zero, List.set_cons_succ]
              refine takeH 26 (some 129) (v := ?_) rfl (by kernel_rfl) (by kernel_rfl) (by kernel_rfl) (by kernel_rfl) (fun _ _ _ h => h) (Or.inl ⟨by kernel_rfl, ?hy⟩) (by assumption) ?_
              case hy =>
                intro w' hSw
                clear hSw
                first
                  | (go_simp; done)
                  | (go_simp; with_reducible rfl)
              simp only [Act.put, List.setIfInBounds_toArray, List.set_cons_zero, List.set_cons_succ]
              refine takeH 27 (some 130) (v := .agg #[.int .u8 (mj.x0 : Int), .int .u8 (mj.x1 : Int), .int .u8 (mj.x2 : Int), .int .u8 (mj.x3 : Int), .int .u8 (mj.x4 : Int), .int .u8 (mj.x5 : Int), .int .u8 (mj.x6 : Int), .int .u8 (mj.x7 : Int)]) rfl (by kernel_rfl) (by kernel_rfl) (by kernel_rfl) (by kernel_rfl) (fun _ _ _ h => h) (Or.inl ⟨by kernel_rfl, ?hy⟩) (by assumption) ?_
              case hy =>
                intro w' hSw
                simp [execOp, Act.eval, hM w' hSw, Result.andThen]
              simp only [Act.put, List.setIfInBounds_toArray, List.set_cons_zero, List.set_cons_succ]
              refine takeH 28 (some 131) (v := .agg #[.int .u8 (mj.x0 : Int), .int .u8 (mj.x1 : Int), .int .u8 (mj.x2 : Int), .int .u8 (mj.x3 : Int), .int .u8 (mj.x4 : Int), .int .u8 (mj.x5 : Int), .int .u8 (mj.x6 : Int), .int .u8 (mj.x7 : Int)]) rfl (by kernel_rfl) (by kernel_rfl) (by kernel_rfl) (by kernel_rfl) (fun _ _ _ h => h) (Or.inl ⟨by kernel_rfl, ?hy⟩) (by assumption) ?_
              case hy =>
                intro w' hSw
                simp [execOp, Act.eval, hX w' hSw, Result.andThen]
              simp only [Act.put, List.setIfInBounds_toArray, List.set_cons_zero, List.set_cons_succ]
              refine takeH 29 (some 132) (v := .bool true) rfl (by kernel_rfl) (by kernel_rfl) (by kernel_rfl) (by kernel_rfl) (fun _ _ _ h => h) (Or.inl ⟨by kernel_rfl, fun w' _ => exec_binD (by rfl) (by rfl) (by rfl) (hG _ _ w') (hE w')⟩) (by assumption) ?_
              simp only [Act.put, List.setIfInBounds_toArray, List.set_cons_zero, List.set_cons_succ]
              refine takeH 30 (some 133) (v := ?_) rfl (by kernel_rfl) (by kernel_rfl) (by kernel_rfl) (by kernel_rfl) (fun _ _ _ h => h) (Or.inl ⟨by kernel_rfl, ?hy⟩) (by assumption) ?_
              case hy =>
                intro w' hSw
                clear hSw
                first
                  | (go_simp; done)
                  | (go_simp; with_reducible rfl)
              simp only [Act.put, List.setIfInBounds_toArray, List.set_cons_zero, List.set_cons_succ]
              refine takeH 31 (some 134) (v := ?_) rfl (by kernel_rfl) (by kernel_rfl) (by kernel_rfl) (by kernel_rfl) (fun _ _ _ h => h) (Or.inl ⟨by kernel_rfl, ?hy⟩) (by assumption) ?_
              case hy =>
                intro w' hSw
                clear hSw
                first
                  | (go_simp; done)
                  | (go_simp; with_reducible rfl)
              simp only [Act.put, List.setIfInBounds_toArray, List.set_cons_zero, List.set_cons_succ]
              refine takeH 32 (some 135) (v := ?_) rfl (by kernel_rfl) (by kernel_rfl) (by kernel_rfl) (by kernel_rfl) (fun _ _ _ h => h) (Or.inl ⟨by kernel_rfl, ?hy⟩) (by assumption) ?_
              case hy =>
                intro w' hSw
                clear hSw
                first
                  | (go_simp; done)
                  | (go_simp; with_reducible rfl)
              simp only [Act.put, List.setIfInBounds_toArray, List.set_cons_zero, List.set_cons_succ]
              refine takeH 33 (some 136) (v := ?_) rfl (by kernel_rfl) (by kernel_rfl) (by kernel_rfl) (by kernel_rfl) (fun _ _ _ h => h) (Or.inl ⟨by kernel_rfl, ?hy⟩) (by assumption) ?_
              case hy =>
                intro w' hSw
                clear hSw
                first
                  | (go_simp; done)
                  | (go_simp; with_reducible rfl)
              simp only [Act.put, List.setIfInBounds_toArray, List.set_cons_zero, List.set_cons_succ]
              refine takeH 34 (some 137) (v := ?_) rfl (by kernel_rfl) (by kernel_rfl) (by kernel_rfl) (by kernel_rfl) (fun _ _ _ h => h) (Or.inl ⟨by kernel_rfl, ?hy⟩) (by assumption) ?_
              case hy =>
                intro w' hSw
                have hx := hI w' hSw
                clear hSw
                first
                  | (go_simp; done)
                  | (go_simp; with_reducible rfl)
              simp only [Act.put, List.setIfInBounds_toArray, List.set_cons_zero, List.set_cons_succ]
              refine takeH 35 (some 138) (v := ?_) rfl (by kernel_rfl) (by kernel_rfl) (by kernel_rfl) (by kernel_rfl) (fun _ _ _ h => h) (Or.inl ⟨by kernel_rfl, ?hy⟩) (by assumption) ?_
              case hy =>
                intro w' hSw
                clear hSw
                first
                  | (go_simp; done)
                  | (go_simp; with_reducible rfl)
              simp only [Act.put, List.setIfInBounds_toArray, List.set_cons_zero, List.set_cons_succ]
              refine takeH 36 (some 139) (v := ?_) rfl (by kernel_rfl) (by kernel_rfl) (by kernel_rfl) (by kernel_rfl) (fun _ _ _ h => h) (Or.inl ⟨by kernel_rfl, ?hy⟩) (by assumption) ?_
              case hy =>
                intro w' hSw
                clear hSw
                first
                  | (go_simp; done)
                  | (go_simp; with_reducible rfl)
              simp only [Act.put, List.setIfInBounds_toArray, List.set_cons_zero, List.set_cons_succ]
              refine takeH 37 (some 140) (v := ?_) rfl (by kernel_rfl) (by kernel_rfl) (by kernel_rfl) (by kernel_rfl) (fun _ _ _ h => h) (Or.inl ⟨by kernel_rfl, ?hy⟩) (by assumption) ?_
              case hy =>
                intro w' hSw
                clear hSw
                first
                  | (go_simp; done)
                  | (go_simp; with_reducible rfl)
              simp only [Act.put, List.setIfInBounds_toArray, List.set_cons_zero, List.set_cons_succ]
              refine takeH 38 (some 141) (v := ?_) rfl (by kernel_rfl) (by kernel_rfl) (by kernel_rfl) (by kernel_rfl) (fun _ _ _ h => h) (Or.inl ⟨by kernel_rfl, ?hy⟩) (by assumption) ?_
              case hy =>
                intro w' hSw
                clear hSw
                first
                  | (go_simp; done)
                  | (go_simp; with_reducible rfl)
              simp only [Act.put, List.setIfInBounds_toArray, List.set_cons_zero, List.set_cons_succ]
              refine wpAnyH_done (by kernel_rfl) ?_ _
              clear hI hS hM hX hG hGn hE hEn
              go_wp2
              go_roundw
              case rel => exact ⟨j + 1, Hj.out, by go_num, Hbw.out.trans (HS1.out.mono Hbw.out.size)⟩
              case measure => have := Hj.out; simp [RowKit.intOf]; omega
            · have hmj : mj ≠ m := fun e => hbk (hon.2 e)
              rw [show sameD mj m = false from by cases hq : sameD mj m with | false => rfl | true => exact absurd (sameD_iff.1 hq) hmj] at hE
              have e1 : ((bj : Int) == (kk : Int)) = false := by simp; omega
              have e2 : ((bj : Int) != (kk : Int)) = true := by simp; omega
              have e3 : decide ((bj : Int) = (kk : Int)) = false := decide_eq_false (by omega)
              have e4 : decide (bj = kk) = false := decide_eq_false hbk
              refine takeH 0 (some 103) (v := ?_) rfl (by kernel_rfl) (by kernel_rfl) (by kernel_rfl) (by kernel_rfl) (fun _ _ _ h => h) (Or.inl ⟨by kernel_rfl, ?hy⟩) (by assumption) ?_
              case hy =>
                intro w' hSw
                clear hSw
                first
                  | (go_simp; done)
                  | (go_simp; with_reducible rfl)
              simp only [Act.put, List.setIfInBounds_toArray, List.set_cons_zero, List.set_cons_succ]
              refine takeH 1 (some 104) (v := ?_) rfl (by kernel_rfl) (by kernel_rfl) (by kernel_rfl) (by kernel_rfl) (fun _ _ _ h => h) (Or.inl ⟨by kernel_rfl, ?hy⟩) (by assumption) ?_
              case hy =>
                intro w' hSw
                clear hSw
                first
                  | (go_simp; done)
                  | (go_simp; with_reducible rfl)
              simp only [Act.put, List.setIfInBounds_toArray, List.set_cons_zero, List.set_cons_succ]
              refine takeH 2 (some 105) (v := ?_) rfl (by kernel_rfl) (by kernel_rfl) (by kernel_rfl) (by kernel_rfl) (fun _ _ _ h => h) (Or.inl ⟨by kernel_rfl, ?hy⟩) (by assumption) ?_
              case hy =>
                intro w' hSw
                clear hSw
                first
                  | (go_simp; done)
                  | (go_simp; with_reducible rfl)
              simp only [Act.put, List.setIfInBounds_toArray, List.set_cons_zero, List.set_cons_succ]
              refine takeH 3 (some 106) (v := ?_) rfl (by kernel_rfl) (by kernel_rfl) (by kernel_rfl) (by kernel_rfl) (fun _ _ _ h => h) (Or.inl ⟨by kernel_rfl, ?hy⟩) (by assumption) ?_
              case hy =>
                intro w' hSw
                have hx := hI w' hSw
                clear hSw
                first
                  | (go_simp; done)
                  | (go_simp; with_reducible rfl)
              simp only [Act.put, List.setIfInBounds_toArray, List.set_cons_zero, List.set_cons_succ]
              refine takeH 4 (some 107) (v := ?_) rfl (by kernel_rfl) (by kernel_rfl) (by kernel_rfl) (by kernel_rfl) (fun _ _ _ h => h) (Or.inl ⟨by kernel_rfl, ?hy⟩) (by assumption) ?_
              case hy =>
                intro w' hSw
                clear hSw
                first
                  | (go_simp; done)
                  | (go_simp; with_reducible rfl)
              simp only [Act.put, List.setIfInBounds_toArray, List.set_cons_zero, List.set_cons_succ]
              refine takeH 5 (some 108) (v := ?_) rfl (by kernel_rfl) (by kernel_rfl) (by kernel_rfl) (by kernel_rfl) (fun _ _ _ h => h) (Or.inl ⟨by kernel_rfl, ?hy⟩) (by assumption) ?_
              case hy =>
                intro w' hSw
                clear hSw
                first
                  | (go_simp; done)
                  | (go_simp; with_reducible rfl)
              simp only [Act.put, List.setIfInBounds_toArray, List.set_cons_zero, List.set_cons_succ]
              refine takeH 6 (some 109) (v := ?_) rfl (by kernel_rfl) (by kernel_rfl) (by kernel_rfl) (by kernel_rfl) (fun _ _ _ h => h) (Or.inl ⟨by kernel_rfl, ?hy⟩) (by assumption) ?_
              case hy =>
                intro w' hSw
                clear hSw
                first
                  | (go_simp; done)
                  | (go_simp; with_reducible rfl)
              simp only [Act.put, List.setIfInBounds_toArray, List.set_cons_zero, List.set_cons_succ]
              refine takeH 7 (some 110) (v := undef) rfl (by kernel_rfl) (by kernel_rfl) (by kernel_rfl) (by kernel_rfl) (fun _ _ _ h => h) (Or.inr ⟨by kernel_rfl, rfl⟩) (by assumption) ?_
              simp only [Act.put, List.setIfInBounds_toArray, List.set_cons_zero, List.set_cons_succ]
              refine takeH 8 (some 111) (v := undef) rfl (by kernel_rfl) (by kernel_rfl) (by kernel_rfl) (by kernel_rfl) (fun _ _ _ h => h) (Or.inr ⟨by kernel_rfl, rfl⟩) (by assumption) ?_
              simp only [Act.put, List.setIfInBounds_toArray, List.set_cons_zero, List.set_cons_succ]
              refine takeH 9 (some 112) (v := undef) rfl (by kernel_rfl) (by kernel_rfl) (by kernel_rfl) (by kernel_rfl) (fun _ _ _ h => h) (Or.inr ⟨by kernel_rfl, rfl⟩) (by assumption) ?_
              simp only [Act.put, List.setIfInBounds_toArray, List.set_cons_zero, List.set_cons_succ]
              refine takeH 10 (some 113) (v := undef) rfl (by kernel_rfl) (by kernel_rfl) (by kernel_rfl) (by kernel_rfl) (fun _ _ _ h => h) (Or.inr ⟨by kernel_rfl, rfl⟩) (by assumption) ?_
              simp only [Act.put, List.setIfInBounds_toArray, List.set_cons_zero, List.set_cons_succ]
              refine takeH 11 (some 114) (v := undef) rfl (by kernel_rfl) (by kernel_rfl) (by kernel_rfl) (by kernel_rfl) (fun _ _ _ h => h) (Or.inr ⟨by kernel_rfl, rfl⟩) (by assumption) ?_
              simp only [Act.put, List.setIfInBounds_toArray, List.set_cons_zero, List.set_cons_succ]
              refine takeH 12 (some 115) (v := undef) rfl (by kernel_rfl) (by kernel_rfl) (by kernel_rfl) (by kernel_rfl) (fun _ _ _ h => h) (Or.inr ⟨by kernel_rfl, rfl⟩) (by assumption) ?_
              simp only [Act.put, List.setIfInBounds_toArray, List.set_cons_zero, List.set_cons_succ]
              refine takeH 13 (some 116) (v := undef) rfl (by kernel_rfl) (by kernel_rfl) (by kernel_rfl) (by kernel_rfl) (fun _ _ _ h => h) (Or.inr ⟨by kernel_rfl, rfl⟩) (by assumption) ?_
              simp only [Act.put, List.setIfInBounds_toArray, List.set_cons_zero, List.set_cons_succ]
              refine takeH 14 (some 117) (v := undef) rfl (by kernel_rfl) (by kernel_rfl) (by kernel_rfl) (by kernel_rfl) (fun _ _ _ h => h) (Or.inr ⟨by kernel_rfl, rfl⟩) (by assumption) ?_
              simp only [Act.put, List.setIfInBounds_toArray, List.set_cons_zero, List.set_cons_succ]
              refine takeH 15 (some 118) (v := undef) rfl (by kernel_rfl) (by kernel_rfl) (by kernel_rfl) (by kernel_rfl) (fun _ _ _ h => h) (Or.inr ⟨by kernel_rfl, rfl⟩) (by assumption) ?_
              simp only [Act.put, List.setIfInBounds_toArray, List.set_cons_zero, List.set_cons_succ]
              refine takeH 16 (some 119) (v := undef) rfl (by kernel_rfl) (by kernel_rfl) (by kernel_rfl) (by kernel_rfl) (fun _ _ _ h => h) (Or.inr ⟨by kernel_rfl, rfl⟩) (by assumption) ?_
              simp only [Act.put, List.setIfInBounds_toArray, List.set_cons_zero, List.set_cons_succ]
              refine takeH 17 (some 120) (v := undef) rfl (by kernel_rfl) (by kernel_rfl) (by kernel_rfl) (by kernel_rfl) (fun _ _ _ h => h) (Or.inr ⟨by kernel_rfl, rfl⟩) (by assumption) ?_
              simp only [Act.put, List.setIfInBounds_toArray, List.set_cons_zero, List.set_cons_succ]
              refine takeH 18 (some 121) (v := undef) rfl (by kernel_rfl) (by kernel_rfl) (by kernel_rfl) (by kernel_rfl) (fun _ _ _ h => h) (Or.inr ⟨by kernel_rfl, rfl⟩) (by assumption) ?_
              simp only [Act.put, List.setIfInBounds_toArray, List.set_cons_zero, List.set_cons_succ]
              refine takeH 19 (some 122) (v := undef) rfl (by kernel_rfl) (by kernel_rfl) (by kernel_rfl) (by kernel_rfl) (fun _ _ _ h => h) (Or.inr ⟨by kernel_rfl, rfl⟩) (by assumption) ?_
              simp only [Act.put, List.setIfInBounds_toArray, List.set_cons_zero, List.set_cons_succ]
              refine takeH 20 (some 123) (v := undef) rfl (by kernel_rfl) (by kernel_rfl) (by kernel_rfl) (by kernel_rfl) (fun _ _ _ h => h) (Or.inr ⟨by kernel_rfl, rfl⟩) (by assumption) ?_
              simp only [Act.put, List.setIfInBounds_toArray, List.set_cons_zero, List.set_cons_succ]
              refine takeH 21 (some 124) (v := undef) rfl (by kernel_rfl) (by kernel_rfl) (by kernel_rfl) (by kernel_rfl) (fun _ _ _ h => h) (Or.inr ⟨by kernel_rfl, rfl⟩) (by assumption) ?_
              simp only [Act.put, List.setIfInBounds_toArray, List.set_cons_zero, List.set_cons_succ]
              refine takeH 22 (some 125) (v := ?_) rfl (by kernel_rfl) (by kernel_rfl) (by kernel_rfl) (by kernel_rfl) (fun _ _ _ h => h) (Or.inl ⟨by kernel_rfl, ?hy⟩) (by assumption) ?_
              case hy =>
                intro w' hSw
                clear hSw
                first
                  | (go_simp; done)
                  | (go_simp; with_reducible rfl)
              simp only [Act.put, List.setIfInBounds_toArray, List.set_cons_zero, List.set_cons_succ]
              refine takeH 23 (some 126) (v := ?_) rfl (by kernel_rfl) (by kernel_rfl) (by kernel_rfl) (by kernel_rfl) (fun _ _ _ h => h) (Or.inl ⟨by kernel_rfl, ?hy⟩) (by assumption) ?_
              case hy =>
                intro w' hSw
                clear hSw
                first
                  | (go_simp; done)
                  | (go_simp; with_reducible rfl)
              simp only [Act.put, List.setIfInBounds_toArray, List.set_cons_zero, List.set_cons_succ]
              refine takeH 24 (some 127) (v := ?_) rfl (by kernel_rfl) (by kernel_rfl) (by kernel_rfl) (by kernel_rfl) (fun _ _ _ h => h) (Or.inl ⟨by kernel_rfl, ?hy⟩) (by assumption) ?_
              case hy =>
                intro w' hSw
                clear hSw
                first
                  | (go_simp; done)
                  | (go_simp; with_reducible rfl)
              simp only [Act.put, List.setIfInBounds_toArray, List.set_cons_zero, List.set_cons_succ]
              refine takeH 25 (some 128) (v := ?_) rfl (by kernel_rfl) (by kernel_rfl) (by kernel_rfl) (by kernel_rfl) (fun _ _ _ h => h) (Or.inl ⟨by kernel_rfl, ?hy⟩) (by assumption) ?_
              case hy =>
                intro w' hSw
                clear hSw
                first
                  | (go_simp; done)
                  | (go_simp; with_reducible rfl)
              simp only [Act.put, List.setIfInBounds_toArray, List.set_cons_zero, List.set_cons_succ]
              refine takeH 26 (some 129) (v := ?_) rfl (by kernel_rfl) (by kernel_rfl) (by kernel_rfl) (by kernel_rfl) (fun _ _ _ h => h) (Or.inl ⟨by kernel_rfl, ?hy⟩) (by assumption) ?_
              case hy =>
                intro w' hSw
                clear hSw
                first
                  | (go_simp; done)
                  | (go_simp; with_reducible rfl)
              simp only [Act.put, List.setIfInBounds_toArray, List.set_cons_zero, List.set_cons_succ]
              refine takeH 27 (some 130) (v := .agg #[.int .u8 (mj.x0 : Int), .int .u8 (mj.x1 : Int), .int .u8 (mj.x2 : Int), .int .u8 (mj.x3 : Int), .int .u8 (mj.x4 : Int), .int .u8 (mj.x5 : Int), .int .u8 (mj.x6 : Int), .int .u8 (mj.x7 : Int)]) rfl (by kernel_rfl) (by kernel_rfl) (by kernel_rfl) (by kernel_rfl) (fun _ _ _ h => h) (Or.inl ⟨by kernel_rfl, ?hy⟩) (by assumption) ?_
              case hy =>
                intro w' hSw
                simp [execOp, Act.eval, hM w' hSw, Result.andThen]
              simp only [Act.put, List.setIfInBounds_toArray, List.set_cons_zero, List.set_cons_succ]
              refine takeH 28 (some 131) (v := .agg #[.int .u8 (m.x0 : Int), .int .u8 (m.x1 : Int), .int .u8 (m.x2 : Int), .int .u8 (m.x3 : Int), .int .u8 (m.x4 : Int), .int .u8 (m.x5 : Int), .int .u8 (m.x6 : Int), .int .u8 (m.x7 : Int)]) rfl (by kernel_rfl) (by kernel_rfl) (by kernel_rfl) (by kernel_rfl) (fun _ _ _ h => h) (Or.inl ⟨by kernel_rfl, ?hy⟩) (by assumption) ?_
              case hy =>
                intro w' hSw
                simp [execOp, Act.eval, hX w' hSw, Result.andThen]
              simp only [Act.put, List.setIfInBounds_toArray, List.set_cons_zero, List.set_cons_succ]
              refine takeH 29 (some 132) (v := .bool false) rfl (by kernel_rfl) (by kernel_rfl) (by kernel_rfl) (by kernel_rfl) (fun _ _ _ h => h) (Or.inl ⟨by kernel_rfl, fun w' _ => exec_binD (by rfl) (by rfl) (by rfl) (hG _ _ w') (hE w')⟩) (by assumption) ?_
              simp only [Act.put, List.setIfInBounds_toArray, List.set_cons_zero, List.set_cons_succ]
              refine takeH 30 (some 133) (v := ?_) rfl (by kernel_rfl) (by kernel_rfl) (by kernel_rfl) (by kernel_rfl) (fun _ _ _ h => h) (Or.inl ⟨by kernel_rfl, ?hy⟩) (by assumption) ?_
              case hy =>
                intro w' hSw
                clear hSw
                first
                  | (go_simp; done)
                  | (go_simp; with_reducible rfl)
              simp only [Act.put, List.setIfInBounds_toArray, List.set_cons_zero, List.set_cons_succ]
              refine takeH 31 (some 134) (v := undef) rfl (by kernel_rfl) (by kernel_rfl) (by kernel_rfl) (by kernel_rfl) (fun _ _ _ h => h) (Or.inr ⟨by kernel_rfl, rfl⟩) (by assumption) ?_
              simp only [Act.put, List.setIfInBounds_toArray, List.set_cons_zero, List.set_cons_succ]
              refine takeH 32 (some 135) (v := undef) rfl (by kernel_rfl) (by kernel_rfl) (by kernel_rfl) (by kernel_rfl) (fun _ _ _ h => h) (Or.inr ⟨by kernel_rfl, rfl⟩) (by assumption) ?_
              simp only [Act.put, List.setIfInBounds_toArray, List.set_cons_zero, List.set_cons_succ]
              refine takeH 33 (some 136) (v := undef) rfl (by kernel_rfl) (by kernel_rfl) (by kernel_rfl) (by kernel_rfl) (fun _ _ _ h => h) (Or.inr ⟨by kernel_rfl, rfl⟩) (by assumption) ?_
              simp only [Act.put, List.setIfInBounds_toArray, List.set_cons_zero, List.set_cons_succ]
              refine takeH 34 (some 137) (v := undef) rfl (by kernel_rfl) (by kernel_rfl) (by kernel_rfl) (by kernel_rfl) (fun _ _ _ h => h) (Or.inr ⟨by kernel_rfl, rfl⟩) (by assumption) ?_
              simp only [Act.put, List.setIfInBounds_toArray, List.set_cons_zero, List.set_cons_succ]
              refine takeH 35 (some 138) (v := undef) rfl (by kernel_rfl) (by kernel_rfl) (by kernel_rfl) (by kernel_rfl) (fun _ _ _ h => h) (Or.inr ⟨by kernel_rfl, rfl⟩) (by assumption) ?_
              simp only [Act.put, List.setIfInBounds_toArray, List.set_cons_zero, List.set_cons_succ]
              refine takeH 36 (some 139) (v := undef) rfl (by kernel_rfl) (by kernel_rfl) (by kernel_rfl) (by kernel_rfl) (fun _ _ _ h => h) (Or.inr ⟨by kernel_rfl, rfl⟩) (by assumption) ?_
              simp only [Act.put, List.setIfInBounds_toArray, List.set_cons_zero, List.set_cons_succ]
              refine takeH 37 (some 140) (v := ?_) rfl (by kernel_rfl) (by kernel_rfl) (by kernel_rfl) (by kernel_rfl) (fun _ _ _ h => h) (Or.inl ⟨by kernel_rfl, ?hy⟩) (by assumption) ?_
              case hy =>
                intro w' hSw
                clear hSw
                first
                  | (go_simp; done)
                  | (go_simp; with_reducible rfl)
              simp only [Act.put, List.setIfInBounds_toArray, List.set_cons_zero, List.set_cons_succ]
              refine takeH 38 (some 141) (v := ?_) rfl (by kernel_rfl) (by kernel_rfl) (by kernel_rfl) (by kernel_rfl) (fun _ _ _ h => h) (Or.inl ⟨by kernel_rfl, ?hy⟩) (by assumption) ?_
              case hy =>
                intro w' hSw
                clear hSw
                first
                  | (go_simp; done)
                  | (go_simp; with_reducible rfl)
              simp only [Act.put, List.setIfInBounds_toArray, List.set_cons_zero, List.set_cons_succ]
              refine wpAnyH_done (by kernel_rfl) ?_ _
              clear hI hS hM hX hG hGn hE
              go_wp2
              go_roundw
              case rel => exact ⟨j + 1, Hj.out, by go_num, Hbw.out.drew⟩
              case measure => have := Hj.out; simp [RowKit.intOf]; omega
          · obtain rfl : j = n2 := by omega
            have hd3 : decide ((j : Int) < (j : Int)) = false := by simp
            obtain ⟨iI0, hi, hz0, hz1, hz2⟩ := info_parts info_I
            have HiI0 := Lib.hid (And.intro hi (And.intro hz0 (And.intro hz1 hz2))); clear hi hz0 hz1 hz2
            obtain ⟨iI1, hi, hz0, hz1, hz2⟩ := info_parts info_SB
            have HiI1 := Lib.hid (And.intro hi (And.intro hz0 (And.intro hz1 hz2))); clear hi hz0 hz1 hz2
            obtain ⟨iI2, hi, hz0, hz1, hz2⟩ := info_parts info_8
            have HiI2 := Lib.hid (And.intro hi (And.intro hz0 (And.intro hz1 hz2))); clear hi hz0 hz1 hz2
            go_upto_region 30 with fail
            obtain ⟨W, rfl⟩ : ∃ W : World, W = wr := ⟨_, rfl⟩
            obtain ⟨n2, rfl⟩ : ∃ n2 : Nat, n2 = j := ⟨_, rfl⟩
            have HRW := Lib.hid (HR8.out.kept (fun g hg => Hbw.out.block g (by have := (Hsg.out.2.2.2 g hg).2; have := Hb8.out.size; omega)))
            have HMB := Lib.hid (block_below HM8.out Hbw.out (block_lt HM8.out))
            obtain ⟨vb, hvb⟩ : ∃ vb, vb = Value.slice Ab n2 cb := ⟨_, rfl⟩
            obtain ⟨vs, hvs⟩ : ∃ vs, vs = Value.slice As n2 cs := ⟨_, rfl⟩
            obtain ⟨vm, hvm⟩ : ∃ vm, vm = Value.slice Am n2 cm := ⟨_, rfl⟩
            obtain ⟨sv, hsv⟩ : ∃ sv, sv = Value.slice A6 n6 c6 := ⟨_, rfl⟩
            have HRV : Hid (RowsG W C G vb vs vm n2 us bs ss ms) := by rw [hvb, hvs, hvm]; exact HRW
            have HRV6 : Hid (RowsG u6 C G vb vs vm n2 us bs ss ms) := by rw [hvb, hvs, hvm]; exact Lib.hid Hsg.out.1
            obtain ⟨xb, hxb⟩ : ∃ xb, xb = intsV bs := ⟨_, rfl⟩
            obtain ⟨xm, hxm⟩ : ∃ xm, xm = flatD ms := ⟨_, rfl⟩
            have HG3 : Hid (∀ g, Three vb vs vm g → G g) := Lib.hid fun g h => by
              rcases h with h | h | h
              · exact HRV.out.ib g h
              · exact HRV.out.is_ g h
              · exact HRV.out.im g h
            have HMG : Hid (¬ Three vb vs vm bm) := Lib.hid fun h => by have := HG.out bm (HG3.out bm h); omega
            have HCW : Hid (C ≤ W.heap.size) := Lib.hid (by have h1 := Hw8.out.size; have h2 := Hbw.out.size; have := HC.out; omega)
            have HSG : Hid (Value.oneCell' sv = true) := by rw [hsv]; exact Lib.hid rfl
            have HG0 : Hid (∀ g, vb.ownBlock = some g → Three vb vs vm g) := Lib.hid fun g h => .inl h
            have HG1 : Hid (∀ g, vs.ownBlock = some g → Three vb vs vm g) := Lib.hid fun g h => .inr (.inl h)
            have HG2 : Hid (∀ g, vm.ownBlock = some g → Three vb vs vm g) := Lib.hid fun g h => .inr (.inr h)
            have Hvb := Lib.hid hvb; have Hvs := Lib.hid hvs; have Hvm := Lib.hid hvm; have Hsv := Lib.hid hsv; have Hxb := Lib.hid hxb; have Hxm := Lib.hid hxm
            clear hvb hvs hvm hsv hxb hxm
            have hn12 : n2 ≤ 12 := by omega
            refine wp_region_inv0 (OnceI W C (Three vb vs vm) vb vs vm n2 xb us xm kk sv m) [0, 1, 2, 3, 4, 5, 6, 7, 8, 9, 10, 11, 12, 13, 14] (by kernel_rfl) (by kernel_rfl) (by kernel_rfl) ?_ ?_ ?_
            · refine onceI_mk ?q0 ?q1 ?q2 ?q3 ?q4 ?q5 ?q6 ?q7 ?q8 ?q9 ?q10 ?q11 (.slice Ab n2 cb) (.slice As n2 cs) (.slice Am n2 cm) ?h (Chg.of_below (Below.refl _ _).drew) ?c0 ?c1 ?c4 ?c5 ?c8 ?c9 ?d0 ?d1 ?d2 ?r0 ?r1 ?r2
              case h =>
                simp only [Act.put, List.setIfInBounds_toArray, List.set_cons_zero, List.set_cons_succ]
                rfl
              case c0 => exact fun h => absurd (none_yet.symm.trans h) (by decide)
              case c1 => exact fun h => absurd (none_yet.symm.trans h) (by decide)
              case c4 => exact fun h => absurd (none_yet.symm.trans h) (by decide)
              case c5 => exact fun h => absurd (none_yet.symm.trans h) (by decide)
              case c8 => exact fun h => absurd (none_yet.symm.trans h) (by decide)
              case c9 => exact fun h => absurd (none_yet.symm.trans h) (by decide)
              case d0 => exact Trk.start (by rw [Hxb.out]; exact own_below HRV.out.b (Below.refl _ _).drew) none_yet none_yet
              case d1 => exact Trk.start (own_below HRV.out.s (Below.refl _ _).drew) none_yet none_yet
              case d2 => exact Trk.start (by rw [Hxm.out]; exact own_below HRV.out.m (Below.refl _ _).drew) none_yet none_yet
              case r0 => exact Rs.start none_yet Hvb.out.symm
              case r1 => exact Rs.start none_yet Hvs.out.symm
              case r2 => exact Rs.start none_yet Hvm.out.symm
            · suffices hst : ∀ a0 : Act, a0.tmps.size = 156 → a0.eval (.tmp 21) = .int .i64 (kk : Int) → a0.eval (.tmp 19) = sv → a0.eval (.tmp 16) = .pointer (some ⟨bm, 0, none⟩) → StepsI _ _ _ (OnceI W C (Three vb vs vm) vb vs vm n2 xb us xm kk sv m a0) [0, 1, 2, 3, 4, 5, 6, 7, 8, 9, 10, 11, 12, 13, 14] from hst _ rfl rfl (by rw [Hsv.out]; rfl) rfl
              intro a0 hsz h21 h19 h16
              refine StepsI.cons [] rfl (by kernel_rfl) ?_ ?_
              · intro L a x hp h0 hI K hK
                obtain ⟨q0, q1, q2, q3, q4, q5, q6, q7, q8, q9, q10, q11, q12, q13, q14, ha, hc, c0, c1, c4, c5, c8, c9, d0, d1, d2, r0, r1, r2⟩ := hI
                refine step_pure q12 (by rfl) (exec_move (by rfl) (by rw [ha, ev_ne 14 12 (by decide), ev_ne 13 12 (by decide), ev_at 12 (by simp only [put_size, hsz]; decide)])) ?_
                refine hK.out _ _ ?_
                refine (onceI_mk q12 q1 q2 q3 q4 q5 q6 q7 q8 q9 q10 q11 q12 q13 q14 ?_ (hc) ?_ ?_ ?_ ?_ ?_ ?_ ?_ ?_ ?_ ?_ ?_ ?_)
                · rw [ha]; show Act.put _ (some 143) _ = _; rw [put_comm 14 143 (by decide), put_comm 13 143 (by decide), put_comm 12 143 (by decide), put_comm 154 143 (by decide), put_comm 153 143 (by decide), put_comm 152 143 (by decide), put_comm 151 143 (by decide), put_comm 150 143 (by decide), put_comm 149 143 (by decide), put_comm 148 143 (by decide), put_comm 147 143 (by decide), put_comm 146 143 (by decide), put_comm 145 143 (by decide), put_comm 144 143 (by decide), put_same 143]
                · exact fun _ => r0.old (yet h0)
                · exact fun h => c1 (listed_ne h (by decide))
                · exact fun h => c4 (listed_ne h (by decide))
                · exact fun h => c5 (listed_ne h (by decide))
                · exact fun h => c8 (listed_ne h (by decide))
                · exact fun h => c9 (listed_ne h (by decide))
                · exact d0.same (set_ne (by decide)) (set_ne (by decide))
                · exact d1.same (set_ne (by decide)) (set_ne (by decide))
                · exact d2.same (set_ne (by decide)) (set_ne (by decide))
                · exact r0.first (yet h0) (set_ne (by decide)) (set_ne (by decide))
                · exact r1.same (set_ne (by decide)) (set_ne (by decide)) (set_ne (by decide))
                · exact r2.same (set_ne (by decide)) (set_ne (by decide)) (set_ne (by decide))
              refine StepsI.cons [] rfl (by kernel_rfl) ?_ ?_
              · intro L a x hp h0 hI K hK
                obtain ⟨q0, q1, q2, q3, q4, q5, q6, q7, q8, q9, q10, q11, q12, q13, q14, ha, hc, c0, c1, c4, c5, c8, c9, d0, d1, d2, r0, r1, r2⟩ := hI
                refine step_pure (.int .i64 (kk : Int)) (by rfl) (exec_move (by rfl) (by rw [ha, ev_ne 14 21 (by decide), ev_ne 13 21 (by decide), ev_ne 12 21 (by decide), ev_ne 154 21 (by decide), ev_ne 153 21 (by decide), ev_ne 152 21 (by decide), ev_ne 151 21 (by decide), ev_ne 150 21 (by decide), ev_ne 149 21 (by decide), ev_ne 148 21 (by decide), ev_ne 147 21 (by decide), ev_ne 146 21 (by decide), ev_ne 145 21 (by decide), ev_ne 144 21 (by decide), ev_ne 143 21 (by decide), h21])) ?_
                refine hK.out _ _ ?_
                refine (onceI_mk q0 (.int .i64 (kk : Int)) q2 q3 q4 q5 q6 q7 q8 q9 q10 q11 q12 q13 q14 ?_ (hc) ?_ ?_ ?_ ?_ ?_ ?_ ?_ ?_ ?_ ?_ ?_ ?_)
                · rw [ha]; show Act.put _ (some 144) _ = _; rw [put_comm 14 144 (by decide), put_comm 13 144 (by decide), put_comm 12 144 (by decide), put_comm 154 144 (by decide), put_comm 153 144 (by decide), put_comm 152 144 (by decide), put_comm 151 144 (by decide), put_comm 150 144 (by decide), put_comm 149 144 (by decide), put_comm 148 144 (by decide), put_comm 147 144 (by decide), put_comm 146 144 (by decide), put_comm 145 144 (by decide), put_same 144]
                · exact fun h => c0 (listed_ne h (by decide))
                · exact fun _ => rfl
                · exact fun h => c4 (listed_ne h (by decide))
                · exact fun h => c5 (listed_ne h (by decide))
                · exact fun h => c8 (listed_ne h (by decide))
                · exact fun h => c9 (listed_ne h (by decide))
                · exact d0.same (set_ne (by decide)) (set_ne (by decide))
                · exact d1.same (set_ne (by decide)) (set_ne (by decide))
                · exact d2.same (set_ne (by decide)) (set_ne (by decide))
                · exact r0.same (set_ne (by decide)) (set_ne (by decide)) (set_ne (by decide))
                · exact r1.same (set_ne (by decide)) (set_ne (by decide)) (set_ne (by decide))
                · exact r2.same (set_ne (by decide)) (set_ne (by decide)) (set_ne (by decide))
              refine StepsI.cons [1] rfl (by kernel_rfl) ?_ ?_
              · intro L a x hp h0 hI K hK
                obtain ⟨q0, q1, q2, q3, q4, q5, q6, q7, q8, q9, q10, q11, q12, q13, q14, ha, hc, c0, c1, c4, c5, c8, c9, d0, d1, d2, r0, r1, r2⟩ := hI
                have ev := c1 (hp 1 (by decide))
                refine step_box (.int .i64 (kk : Int)) (([.int .i64 (kk : Int)]).toArray) iI0 (.int .i64 0) 1 53 3 _ (by rfl) (by rfl) Try.underlying53 ⟨HiI0.out.1, HiI0.out.2.1, HiI0.out.2.2.1⟩ (by rw [ha, ev_ne 14 144 (by decide), ev_ne 13 144 (by decide), ev_ne 12 144 (by decide), ev_ne 154 144 (by decide), ev_ne 153 144 (by decide), ev_ne 152 144 (by decide), ev_ne 151 144 (by decide), ev_ne 150 144 (by decide), ev_ne 149 144 (by decide), ev_ne 148 144 (by decide), ev_ne 147 144 (by decide), ev_ne 146 144 (by decide), ev_ne 145 144 (by decide), ev_at 144 (by simp only [put_size, hsz]; decide)]; exact ev) (by decide) (by decide) (by rfl) rfl ?_
                have hb := (Below.refl x.heap.size x).alloc (Nat.le_refl _) (.cells ([.int .i64 (kk : Int)]).toArray 3)
                refine hK.out _ _ ?_
                refine (onceI_mk q0 q1 (.slice (some ⟨x.heap.size, 0, none⟩) 1 1) q3 q4 q5 q6 q7 q8 q9 q10 q11 q12 q13 q14 ?_ (hc.trans0 (Chg.of_below hb)) ?_ ?_ ?_ ?_ ?_ ?_ ?_ ?_ ?_ ?_ ?_ ?_)
                · rw [ha]; show Act.put _ (some 145) _ = _; rw [put_comm 14 145 (by decide), put_comm 13 145 (by decide), put_comm 12 145 (by decide), put_comm 154 145 (by decide), put_comm 153 145 (by decide), put_comm 152 145 (by decide), put_comm 151 145 (by decide), put_comm 150 145 (by decide), put_comm 149 145 (by decide), put_comm 148 145 (by decide), put_comm 147 145 (by decide), put_comm 146 145 (by decide), put_same 145]
                · exact fun h => c0 (listed_ne h (by decide))
                · exact fun h => c1 (listed_ne h (by decide))
                · exact fun h => c4 (listed_ne h (by decide))
                · exact fun h => c5 (listed_ne h (by decide))
                · exact fun h => c8 (listed_ne h (by decide))
                · exact fun h => c9 (listed_ne h (by decide))
                · exact d0.boxed (set_ne (by decide))
                · exact d1.below hb (set_ne (by decide)) (set_ne (by decide))
                · exact d2.below hb (set_ne (by decide)) (set_ne (by decide))
                · exact r0.same (set_ne (by decide)) (set_ne (by decide)) (set_ne (by decide))
                · exact r1.same (set_ne (by decide)) (set_ne (by decide)) (set_ne (by decide))
                · exact r2.same (set_ne (by decide)) (set_ne (by decide)) (set_ne (by decide))
              refine StepsI.cons [0, 2] rfl (by kernel_rfl) ?_ ?_
              · intro L a x hp h0 hI K hK
                obtain ⟨q0, q1, q2, q3, q4, q5, q6, q7, q8, q9, q10, q11, q12, q13, q14, ha, hc, c0, c1, c4, c5, c8, c9, d0, d1, d2, r0, r1, r2⟩ := hI
                obtain ⟨g, eg, hrd, hown⟩ := d0.ask (hp 2 (by decide)) (yet h0) rfl
                have ev := c0 (hp 0 (by decide))
                refine step_append_at x (by rfl) (.tmp 143) (.tmp 145) 53 (by rfl) C 3 iI0 (.int .i64 0) 1 8 Try.underlying53 HiI0.out rfl (by decide) vb n2 xb (by rw [ha, ev_ne 14 143 (by decide), ev_ne 13 143 (by decide), ev_ne 12 143 (by decide), ev_ne 154 143 (by decide), ev_ne 153 143 (by decide), ev_ne 152 143 (by decide), ev_ne 151 143 (by decide), ev_ne 150 143 (by decide), ev_ne 149 143 (by decide), ev_ne 148 143 (by decide), ev_ne 147 143 (by decide), ev_ne 146 143 (by decide), ev_ne 145 143 (by decide), ev_ne 144 143 (by decide), ev_at 143 (by simp only [put_size, hsz]; decide)]; exact ev) hown x.heap.size g 0 1 1 ([.int .i64 (kk : Int)]) (by rw [ha, ev_ne 14 145 (by decide), ev_ne 13 145 (by decide), ev_ne 12 145 (by decide), ev_ne 154 145 (by decide), ev_ne 153 145 (by decide), ev_ne 152 145 (by decide), ev_ne 151 145 (by decide), ev_ne 150 145 (by decide), ev_ne 149 145 (by decide), ev_ne 148 145 (by decide), ev_ne 147 145 (by decide), ev_ne 146 145 (by decide), ev_at 145 (by simp only [put_size, hsz]; decide)]; exact eg) (by decide) hrd (by simp [Value.oneCell']) (by omega) (by omega) (Nat.le_trans HCW.out hc.size) ?_
                intro t' x' ho' hg' hw'
                have hoth := Oth.of_grown hown hg'
                refine hK.out _ _ ?_
                refine (onceI_mk q0 q1 q2 t' q4 q5 q6 q7 q8 q9 q10 q11 q12 q13 q14 ?_ (hc.trans0 (chg_own hg' HG0.out)) ?_ ?_ ?_ ?_ ?_ ?_ ?_ ?_ ?_ ?_ ?_ ?_)
                · rw [ha]; show Act.put _ (some 146) _ = _; rw [put_comm 14 146 (by decide), put_comm 13 146 (by decide), put_comm 12 146 (by decide), put_comm 154 146 (by decide), put_comm 153 146 (by decide), put_comm 152 146 (by decide), put_comm 151 146 (by decide), put_comm 150 146 (by decide), put_comm 149 146 (by decide), put_comm 148 146 (by decide), put_comm 147 146 (by decide), put_same 146]
                · exact fun h => c0 (listed_ne h (by decide))
                · exact fun h => c1 (listed_ne h (by decide))
                · exact fun h => c4 (listed_ne h (by decide))
                · exact fun h => c5 (listed_ne h (by decide))
                · exact fun h => c8 (listed_ne h (by decide))
                · exact fun h => c9 (listed_ne h (by decide))
                · exact Trk.grown ho' hw' hc.size (set_at h0)
                · exact d1.other hoth (by decide) (set_ne (by decide)) (set_ne (by decide))
                · exact d2.other hoth (by decide) (set_ne (by decide)) (set_ne (by decide))
                · exact r0.third (yet h0) (set_ne (by decide)) (set_ne (by decide))
                · exact r1.same (set_ne (by decide)) (set_ne (by decide)) (set_ne (by decide))
                · exact r2.same (set_ne (by decide)) (set_ne (by decide)) (set_ne (by decide))
              refine StepsI.cons [] rfl (by kernel_rfl) ?_ ?_
              · intro L a x hp h0 hI K hK
                obtain ⟨q0, q1, q2, q3, q4, q5, q6, q7, q8, q9, q10, q11, q12, q13, q14, ha, hc, c0, c1, c4, c5, c8, c9, d0, d1, d2, r0, r1, r2⟩ := hI
                refine step_pure q13 (by rfl) (exec_move (by rfl) (by rw [ha, ev_ne 14 13 (by decide), ev_at 13 (by simp only [put_size, hsz]; decide)])) ?_
                refine hK.out _ _ ?_
                refine (onceI_mk q0 q1 q2 q3 q13 q5 q6 q7 q8 q9 q10 q11 q12 q13 q14 ?_ (hc) ?_ ?_ ?_ ?_ ?_ ?_ ?_ ?_ ?_ ?_ ?_ ?_)
                · rw [ha]; show Act.put _ (some 147) _ = _; rw [put_comm 14 147 (by decide), put_comm 13 147 (by decide), put_comm 12 147 (by decide), put_comm 154 147 (by decide), put_comm 153 147 (by decide), put_comm 152 147 (by decide), put_comm 151 147 (by decide), put_comm 150 147 (by decide), put_comm 149 147 (by decide), put_comm 148 147 (by decide), put_same 147]
                · exact fun h => c0 (listed_ne h (by decide))
                · exact fun h => c1 (listed_ne h (by decide))
                · exact fun _ => r1.old (yet h0)
                · exact fun h => c5 (listed_ne h (by decide))
                · exact fun h => c8 (listed_ne h (by decide))
                · exact fun h => c9 (listed_ne h (by decide))
                · exact d0.same (set_ne (by decide)) (set_ne (by decide))
                · exact d1.same (set_ne (by decide)) (set_ne (by decide))
                · exact d2.same (set_ne (by decide)) (set_ne (by decide))
                · exact r0.same (set_ne (by decide)) (set_ne (by decide)) (set_ne (by decide))
                · exact r1.first (yet h0) (set_ne (by decide)) (set_ne (by decide))
                · exact r2.same (set_ne (by decide)) (set_ne (by decide)) (set_ne (by decide))
              refine StepsI.cons [] rfl (by kernel_rfl) ?_ ?_
              · intro L a x hp h0 hI K hK
                obtain ⟨q0, q1, q2, q3, q4, q5, q6, q7, q8, q9, q10, q11, q12, q13, q14, ha, hc, c0, c1, c4, c5, c8, c9, d0, d1, d2, r0, r1, r2⟩ := hI
                refine step_pure (sv) (by rfl) (exec_move (by rfl) (by rw [ha, ev_ne 14 19 (by decide), ev_ne 13 19 (by decide), ev_ne 12 19 (by decide), ev_ne 154 19 (by decide), ev_ne 153 19 (by decide), ev_ne 152 19 (by decide), ev_ne 151 19 (by decide), ev_ne 150 19 (by decide), ev_ne 149 19 (by decide), ev_ne 148 19 (by decide), ev_ne 147 19 (by decide), ev_ne 146 19 (by decide), ev_ne 145 19 (by decide), ev_ne 144 19 (by decide), ev_ne 143 19 (by decide), h19])) ?_
                refine hK.out _ _ ?_
                refine (onceI_mk q0 q1 q2 q3 q4 (sv) q6 q7 q8 q9 q10 q11 q12 q13 q14 ?_ (hc) ?_ ?_ ?_ ?_ ?_ ?_ ?_ ?_ ?_ ?_ ?_ ?_)
                · rw [ha]; show Act.put _ (some 148) _ = _; rw [put_comm 14 148 (by decide), put_comm 13 148 (by decide), put_comm 12 148 (by decide), put_comm 154 148 (by decide), put_comm 153 148 (by decide), put_comm 152 148 (by decide), put_comm 151 148 (by decide), put_comm 150 148 (by decide), put_comm 149 148 (by decide), put_same 148]
                · exact fun h => c0 (listed_ne h (by decide))
                · exact fun h => c1 (listed_ne h (by decide))
                · exact fun h => c4 (listed_ne h (by decide))
                · exact fun _ => rfl
                · exact fun h => c8 (listed_ne h (by decide))
                · exact fun h => c9 (listed_ne h (by decide))
                · exact d0.same (set_ne (by decide)) (set_ne (by decide))
                · exact d1.same (set_ne (by decide)) (set_ne (by decide))
                · exact d2.same (set_ne (by decide)) (set_ne (by decide))
                · exact r0.same (set_ne (by decide)) (set_ne (by decide)) (set_ne (by decide))
                · exact r1.same (set_ne (by decide)) (set_ne (by decide)) (set_ne (by decide))
                · exact r2.same (set_ne (by decide)) (set_ne (by decide)) (set_ne (by decide))
              refine StepsI.cons [5] rfl (by kernel_rfl) ?_ ?_
              · intro L a x hp h0 hI K hK
                obtain ⟨q0, q1, q2, q3, q4, q5, q6, q7, q8, q9, q10, q11, q12, q13, q14, ha, hc, c0, c1, c4, c5, c8, c9, d0, d1, d2, r0, r1, r2⟩ := hI
                have ev := c5 (hp 5 (by decide))
                refine step_box (sv) (([sv]).toArray) iI1 (.slice none 0 0) 1 54 32 _ (by rfl) (by rfl) Try.underlying54 ⟨HiI1.out.1, HiI1.out.2.1, HiI1.out.2.2.1⟩ (by rw [ha, ev_ne 14 148 (by decide), ev_ne 13 148 (by decide), ev_ne 12 148 (by decide), ev_ne 154 148 (by decide), ev_ne 153 148 (by decide), ev_ne 152 148 (by decide), ev_ne 151 148 (by decide), ev_ne 150 148 (by decide), ev_ne 149 148 (by decide), ev_at 148 (by simp only [put_size, hsz]; decide)]; exact ev) (by decide) (by decide) (by rw [Hsv.out]; rfl) rfl ?_
                have hb := (Below.refl x.heap.size x).alloc (Nat.le_refl _) (.cells ([sv]).toArray 32)
                refine hK.out _ _ ?_
                refine (onceI_mk q0 q1 q2 q3 q4 q5 (.slice (some ⟨x.heap.size, 0, none⟩) 1 1) q7 q8 q9 q10 q11 q12 q13 q14 ?_ (hc.trans0 (Chg.of_below hb)) ?_ ?_ ?_ ?_ ?_ ?_ ?_ ?_ ?_ ?_ ?_ ?_)
                · rw [ha]; show Act.put _ (some 149) _ = _; rw [put_comm 14 149 (by decide), put_comm 13 149 (by decide), put_comm 12 149 (by decide), put_comm 154 149 (by decide), put_comm 153 149 (by decide), put_comm 152 149 (by decide), put_comm 151 149 (by decide), put_comm 150 149 (by decide), put_same 149]
                · exact fun h => c0 (listed_ne h (by decide))
                · exact fun h => c1 (listed_ne h (by decide))
                · exact fun h => c4 (listed_ne h (by decide))
                · exact fun h => c5 (listed_ne h (by decide))
                · exact fun h => c8 (listed_ne h (by decide))
                · exact fun h => c9 (listed_ne h (by decide))
                · exact d0.below hb (set_ne (by decide)) (set_ne (by decide))
                · exact d1.boxed (set_ne (by decide))
                · exact d2.below hb (set_ne (by decide)) (set_ne (by decide))
                · exact r0.same (set_ne (by decide)) (set_ne (by decide)) (set_ne (by decide))
                · exact r1.same (set_ne (by decide)) (set_ne (by decide)) (set_ne (by decide))
                · exact r2.same (set_ne (by decide)) (set_ne (by decide)) (set_ne (by decide))
              refine StepsI.cons [4, 6, 3] rfl (by kernel_rfl) ?_ ?_
              · intro L a x hp h0 hI K hK
                obtain ⟨q0, q1, q2, q3, q4, q5, q6, q7, q8, q9, q10, q11, q12, q13, q14, ha, hc, c0, c1, c4, c5, c8, c9, d0, d1, d2, r0, r1, r2⟩ := hI
                obtain ⟨g, eg, hrd, hown⟩ := d1.ask (hp 6 (by decide)) (yet h0) rfl
                have ev := c4 (hp 4 (by decide))
                refine step_append_at x (by rfl) (.tmp 147) (.tmp 149) 54 (by rfl) C 32 iI1 (.slice none 0 0) 1 24 Try.underlying54 HiI1.out rfl (by decide) vs n2 us (by rw [ha, ev_ne 14 147 (by decide), ev_ne 13 147 (by decide), ev_ne 12 147 (by decide), ev_ne 154 147 (by decide), ev_ne 153 147 (by decide), ev_ne 152 147 (by decide), ev_ne 151 147 (by decide), ev_ne 150 147 (by decide), ev_ne 149 147 (by decide), ev_ne 148 147 (by decide), ev_at 147 (by simp only [put_size, hsz]; decide)]; exact ev) hown x.heap.size g 0 1 1 ([sv]) (by rw [ha, ev_ne 14 149 (by decide), ev_ne 13 149 (by decide), ev_ne 12 149 (by decide), ev_ne 154 149 (by decide), ev_ne 153 149 (by decide), ev_ne 152 149 (by decide), ev_ne 151 149 (by decide), ev_ne 150 149 (by decide), ev_at 149 (by simp only [put_size, hsz]; decide)]; exact eg) (by decide) hrd (by simp [HSG.out]) (by omega) (by omega) (Nat.le_trans HCW.out hc.size) ?_
                intro t' x' ho' hg' hw'
                have hoth := Oth.of_grown hown hg'
                refine hK.out _ _ ?_
                refine (onceI_mk q0 q1 q2 q3 q4 q5 q6 t' q8 q9 q10 q11 q12 q13 q14 ?_ (hc.trans0 (chg_own hg' HG1.out)) ?_ ?_ ?_ ?_ ?_ ?_ ?_ ?_ ?_ ?_ ?_ ?_)
                · rw [ha]; show Act.put _ (some 150) _ = _; rw [put_comm 14 150 (by decide), put_comm 13 150 (by decide), put_comm 12 150 (by decide), put_comm 154 150 (by decide), put_comm 153 150 (by decide), put_comm 152 150 (by decide), put_comm 151 150 (by decide), put_same 150]
                · exact fun h => c0 (listed_ne h (by decide))
                · exact fun h => c1 (listed_ne h (by decide))
                · exact fun h => c4 (listed_ne h (by decide))
                · exact fun h => c5 (listed_ne h (by decide))
                · exact fun h => c8 (listed_ne h (by decide))
                · exact fun h => c9 (listed_ne h (by decide))
                · exact d0.other hoth (by decide) (set_ne (by decide)) (set_ne (by decide))
                · exact Trk.grown ho' hw' hc.size (set_at h0)
                · exact d2.other hoth (by decide) (set_ne (by decide)) (set_ne (by decide))
                · exact r0.same (set_ne (by decide)) (set_ne (by decide)) (set_ne (by decide))
                · exact r1.third (yet h0) (set_ne (by decide)) (set_ne (by decide))
                · exact r2.same (set_ne (by decide)) (set_ne (by decide)) (set_ne (by decide))
              refine StepsI.cons [] rfl (by kernel_rfl) ?_ ?_
              · intro L a x hp h0 hI K hK
                obtain ⟨q0, q1, q2, q3, q4, q5, q6, q7, q8, q9, q10, q11, q12, q13, q14, ha, hc, c0, c1, c4, c5, c8, c9, d0, d1, d2, r0, r1, r2⟩ := hI
                refine step_pure q14 (by rfl) (exec_move (by rfl) (by rw [ha, ev_at 14 (by simp only [put_size, hsz]; decide)])) ?_
                refine hK.out _ _ ?_
                refine (onceI_mk q0 q1 q2 q3 q4 q5 q6 q7 q14 q9 q10 q11 q12 q13 q14 ?_ (hc) ?_ ?_ ?_ ?_ ?_ ?_ ?_ ?_ ?_ ?_ ?_ ?_)
                · rw [ha]; show Act.put _ (some 151) _ = _; rw [put_comm 14 151 (by decide), put_comm 13 151 (by decide), put_comm 12 151 (by decide), put_comm 154 151 (by decide), put_comm 153 151 (by decide), put_comm 152 151 (by decide), put_same 151]
                · exact fun h => c0 (listed_ne h (by decide))
                · exact fun h => c1 (listed_ne h (by decide))
                · exact fun h => c4 (listed_ne h (by decide))
                · exact fun h => c5 (listed_ne h (by decide))
                · exact fun _ => r2.old (yet h0)
                · exact fun h => c9 (listed_ne h (by decide))
                · exact d0.same (set_ne (by decide)) (set_ne (by decide))
                · exact d1.same (set_ne (by decide)) (set_ne (by decide))
                · exact d2.same (set_ne (by decide)) (set_ne (by decide))
                · exact r0.same (set_ne (by decide)) (set_ne (by decide)) (set_ne (by decide))
                · exact r1.same (set_ne (by decide)) (set_ne (by decide)) (set_ne (by decide))
                · exact r2.first (yet h0) (set_ne (by decide)) (set_ne (by decide))
              refine StepsI.cons [] rfl (by kernel_rfl) ?_ ?_
              · intro L a x hp h0 hI K hK
                obtain ⟨q0, q1, q2, q3, q4, q5, q6, q7, q8, q9, q10, q11, q12, q13, q14, ha, hc, c0, c1, c4, c5, c8, c9, d0, d1, d2, r0, r1, r2⟩ := hI
                have hX := (hc.block _ (block_lt HMB.out) HMG.out).trans HMB.out
                refine step_pure (.agg #[.int .u8 (m.x0 : Int), .int .u8 (m.x1 : Int), .int .u8 (m.x2 : Int), .int .u8 (m.x3 : Int), .int .u8 (m.x4 : Int), .int .u8 (m.x5 : Int), .int .u8 (m.x6 : Int), .int .u8 (m.x7 : Int)]) (by rfl) (exec_load (by rfl) (by rw [ha, ev_ne 14 16 (by decide), ev_ne 13 16 (by decide), ev_ne 12 16 (by decide), ev_ne 154 16 (by decide), ev_ne 153 16 (by decide), ev_ne 152 16 (by decide), ev_ne 151 16 (by decide), ev_ne 150 16 (by decide), ev_ne 149 16 (by decide), ev_ne 148 16 (by decide), ev_ne 147 16 (by decide), ev_ne 146 16 (by decide), ev_ne 145 16 (by decide), ev_ne 144 16 (by decide), ev_ne 143 16 (by decide), h16]) (load_d8 hX)) ?_
                refine hK.out _ _ ?_
                refine (onceI_mk q0 q1 q2 q3 q4 q5 q6 q7 q8 (.agg #[.int .u8 (m.x0 : Int), .int .u8 (m.x1 : Int), .int .u8 (m.x2 : Int), .int .u8 (m.x3 : Int), .int .u8 (m.x4 : Int), .int .u8 (m.x5 : Int), .int .u8 (m.x6 : Int), .int .u8 (m.x7 : Int)]) q10 q11 q12 q13 q14 ?_ (hc) ?_ ?_ ?_ ?_ ?_ ?_ ?_ ?_ ?_ ?_ ?_ ?_)
                · rw [ha]; show Act.put _ (some 152) _ = _; rw [put_comm 14 152 (by decide), put_comm 13 152 (by decide), put_comm 12 152 (by decide), put_comm 154 152 (by decide), put_comm 153 152 (by decide), put_same 152]
                · exact fun h => c0 (listed_ne h (by decide))
                · exact fun h => c1 (listed_ne h (by decide))
                · exact fun h => c4 (listed_ne h (by decide))
                · exact fun h => c5 (listed_ne h (by decide))
                · exact fun h => c8 (listed_ne h (by decide))
                · exact fun _ => rfl
                · exact d0.same (set_ne (by decide)) (set_ne (by decide))
                · exact d1.same (set_ne (by decide)) (set_ne (by decide))
                · exact d2.same (set_ne (by decide)) (set_ne (by decide))
                · exact r0.same (set_ne (by decide)) (set_ne (by decide)) (set_ne (by decide))
                · exact r1.same (set_ne (by decide)) (set_ne (by decide)) (set_ne (by decide))
                · exact r2.same (set_ne (by decide)) (set_ne (by decide)) (set_ne (by decide))
              refine StepsI.cons [9] rfl (by kernel_rfl) ?_ ?_
              · intro L a x hp h0 hI K hK
                obtain ⟨q0, q1, q2, q3, q4, q5, q6, q7, q8, q9, q10, q11, q12, q13, q14, ha, hc, c0, c1, c4, c5, c8, c9, d0, d1, d2, r0, r1, r2⟩ := hI
                have ev := c9 (hp 9 (by decide))
                refine step_box (.agg #[.int .u8 (m.x0 : Int), .int .u8 (m.x1 : Int), .int .u8 (m.x2 : Int), .int .u8 (m.x3 : Int), .int .u8 (m.x4 : Int), .int .u8 (m.x5 : Int), .int .u8 (m.x6 : Int), .int .u8 (m.x7 : Int)]) ((m.cells).toArray) iI2 (.agg #[.int .u8 0, .int .u8 0, .int .u8 0, .int .u8 0, .int .u8 0, .int .u8 0, .int .u8 0, .int .u8 0]) 8 23 22 _ (by rfl) (by rfl) Try.underlying23 ⟨HiI2.out.1, HiI2.out.2.1, HiI2.out.2.2.1⟩ (by rw [ha, ev_ne 14 152 (by decide), ev_ne 13 152 (by decide), ev_ne 12 152 (by decide), ev_ne 154 152 (by decide), ev_ne 153 152 (by decide), ev_at 152 (by simp only [put_size, hsz]; decide)]; exact ev) (by decide) (by decide) (by rfl) rfl ?_
                have hb := (Below.refl x.heap.size x).alloc (Nat.le_refl _) (.cells (m.cells).toArray 22)
                refine hK.out _ _ ?_
                refine (onceI_mk q0 q1 q2 q3 q4 q5 q6 q7 q8 q9 (.slice (some ⟨x.heap.size, 0, none⟩) 1 1) q11 q12 q13 q14 ?_ (hc.trans0 (Chg.of_below hb)) ?_ ?_ ?_ ?_ ?_ ?_ ?_ ?_ ?_ ?_ ?_ ?_)
                · rw [ha]; show Act.put _ (some 153) _ = _; rw [put_comm 14 153 (by decide), put_comm 13 153 (by decide), put_comm 12 153 (by decide), put_comm 154 153 (by decide), put_same 153]
                · exact fun h => c0 (listed_ne h (by decide))
                · exact fun h => c1 (listed_ne h (by decide))
                · exact fun h => c4 (listed_ne h (by decide))
                · exact fun h => c5 (listed_ne h (by decide))
                · exact fun h => c8 (listed_ne h (by decide))
                · exact fun h => c9 (listed_ne h (by decide))
                · exact d0.below hb (set_ne (by decide)) (set_ne (by decide))
                · exact d1.below hb (set_ne (by decide)) (set_ne (by decide))
                · exact d2.boxed (set_ne (by decide))
                · exact r0.same (set_ne (by decide)) (set_ne (by decide)) (set_ne (by decide))
                · exact r1.same (set_ne (by decide)) (set_ne (by decide)) (set_ne (by decide))
                · exact r2.same (set_ne (by decide)) (set_ne (by decide)) (set_ne (by decide))
              refine StepsI.cons [8, 10, 7] rfl (by kernel_rfl) ?_ ?_
              · intro L a x hp h0 hI K hK
                obtain ⟨q0, q1, q2, q3, q4, q5, q6, q7, q8, q9, q10, q11, q12, q13, q14, ha, hc, c0, c1, c4, c5, c8, c9, d0, d1, d2, r0, r1, r2⟩ := hI
                obtain ⟨g, eg, hrd, hown⟩ := d2.ask (hp 10 (by decide)) (yet h0) rfl
                have ev := c8 (hp 8 (by decide))
                refine step_append_at x (by rfl) (.tmp 151) (.tmp 153) 23 (by rfl) C 22 iI2 (.agg #[.int .u8 0, .int .u8 0, .int .u8 0, .int .u8 0, .int .u8 0, .int .u8 0, .int .u8 0, .int .u8 0]) 8 8 Try.underlying23 HiI2.out rfl (by decide) vm n2 xm (by rw [ha, ev_ne 14 151 (by decide), ev_ne 13 151 (by decide), ev_ne 12 151 (by decide), ev_ne 154 151 (by decide), ev_ne 153 151 (by decide), ev_ne 152 151 (by decide), ev_at 151 (by simp only [put_size, hsz]; decide)]; exact ev) hown x.heap.size g 0 1 1 (m.cells) (by rw [ha, ev_ne 14 153 (by decide), ev_ne 13 153 (by decide), ev_ne 12 153 (by decide), ev_ne 154 153 (by decide), ev_at 153 (by simp only [put_size, hsz]; decide)]; exact eg) (by decide) hrd (by simp [D8.cells, Value.oneCell']) (by omega) (by omega) (Nat.le_trans HCW.out hc.size) ?_
                intro t' x' ho' hg' hw'
                have hoth := Oth.of_grown hown hg'
                refine hK.out _ _ ?_
                refine (onceI_mk q0 q1 q2 q3 q4 q5 q6 q7 q8 q9 q10 t' q12 q13 q14 ?_ (hc.trans0 (chg_own hg' HG2.out)) ?_ ?_ ?_ ?_ ?_ ?_ ?_ ?_ ?_ ?_ ?_ ?_)
                · rw [ha]; show Act.put _ (some 154) _ = _; rw [put_comm 14 154 (by decide), put_comm 13 154 (by decide), put_comm 12 154 (by decide), put_same 154]
                · exact fun h => c0 (listed_ne h (by decide))
                · exact fun h => c1 (listed_ne h (by decide))
                · exact fun h => c4 (listed_ne h (by decide))
                · exact fun h => c5 (listed_ne h (by decide))
                · exact fun h => c8 (listed_ne h (by decide))
                · exact fun h => c9 (listed_ne h (by decide))
                · exact d0.other hoth (by decide) (set_ne (by decide)) (set_ne (by decide))
                · exact d1.other hoth (by decide) (set_ne (by decide)) (set_ne (by decide))
                · exact Trk.grown ho' hw' hc.size (set_at h0)
                · exact r0.same (set_ne (by decide)) (set_ne (by decide)) (set_ne (by decide))
                · exact r1.same (set_ne (by decide)) (set_ne (by decide)) (set_ne (by decide))
                · exact r2.third (yet h0) (set_ne (by decide)) (set_ne (by decide))
              refine StepsI.cons [3, 11, 0, 1, 2, 3] rfl (by kernel_rfl) ?_ ?_
              · intro L a x hp h0 hI K hK
                obtain ⟨q0, q1, q2, q3, q4, q5, q6, q7, q8, q9, q10, q11, q12, q13, q14, ha, hc, c0, c1, c4, c5, c8, c9, d0, d1, d2, r0, r1, r2⟩ := hI
                refine step_pure q3 (by rfl) (exec_assign (by rfl) (by rw [ha, ev_ne 14 146 (by decide), ev_ne 13 146 (by decide), ev_ne 12 146 (by decide), ev_ne 154 146 (by decide), ev_ne 153 146 (by decide), ev_ne 152 146 (by decide), ev_ne 151 146 (by decide), ev_ne 150 146 (by decide), ev_ne 149 146 (by decide), ev_ne 148 146 (by decide), ev_ne 147 146 (by decide), ev_at 146 (by simp only [put_size, hsz]; decide)])) ?_
                refine hK.out _ _ ?_
                refine (onceI_mk q0 q1 q2 q3 q4 q5 q6 q7 q8 q9 q10 q11 q3 q13 q14 ?_ (hc) ?_ ?_ ?_ ?_ ?_ ?_ ?_ ?_ ?_ ?_ ?_ ?_)
                · rw [ha]; show Act.put _ (some 12) _ = _; rw [put_comm 14 12 (by decide), put_comm 13 12 (by decide), put_same 12]
                · exact fun h => c0 (listed_ne h (by decide))
                · exact fun h => c1 (listed_ne h (by decide))
                · exact fun h => c4 (listed_ne h (by decide))
                · exact fun h => c5 (listed_ne h (by decide))
                · exact fun h => c8 (listed_ne h (by decide))
                · exact fun h => c9 (listed_ne h (by decide))
                · exact d0.same (set_ne (by decide)) (set_ne (by decide))
                · exact d1.same (set_ne (by decide)) (set_ne (by decide))
                · exact d2.same (set_ne (by decide)) (set_ne (by decide))
                · exact Rs.last ((set_ne (by decide)).trans (hp 0 (by decide))) ((set_ne (by decide)).trans (hp 3 (by decide))) (set_at h0)
                · exact r1.same (set_ne (by decide)) (set_ne (by decide)) (set_ne (by decide))
                · exact r2.same (set_ne (by decide)) (set_ne (by decide)) (set_ne (by decide))
              refine StepsI.cons [7, 12, 0, 1, 2, 3, 4, 5, 6, 7, 12] rfl (by kernel_rfl) ?_ ?_
              · intro L a x hp h0 hI K hK
                obtain ⟨q0, q1, q2, q3, q4, q5, q6, q7, q8, q9, q10, q11, q12, q13, q14, ha, hc, c0, c1, c4, c5, c8, c9, d0, d1, d2, r0, r1, r2⟩ := hI
                refine step_pure q7 (by rfl) (exec_assign (by rfl) (by rw [ha, ev_ne 14 150 (by decide), ev_ne 13 150 (by decide), ev_ne 12 150 (by decide), ev_ne 154 150 (by decide), ev_ne 153 150 (by decide), ev_ne 152 150 (by decide), ev_ne 151 150 (by decide), ev_at 150 (by simp only [put_size, hsz]; decide)])) ?_
                refine hK.out _ _ ?_
                refine (onceI_mk q0 q1 q2 q3 q4 q5 q6 q7 q8 q9 q10 q11 q12 q7 q14 ?_ (hc) ?_ ?_ ?_ ?_ ?_ ?_ ?_ ?_ ?_ ?_ ?_ ?_)
                · rw [ha]; show Act.put _ (some 13) _ = _; rw [put_comm 14 13 (by decide), put_same 13]
                · exact fun h => c0 (listed_ne h (by decide))
                · exact fun h => c1 (listed_ne h (by decide))
                · exact fun h => c4 (listed_ne h (by decide))
                · exact fun h => c5 (listed_ne h (by decide))
                · exact fun h => c8 (listed_ne h (by decide))
                · exact fun h => c9 (listed_ne h (by decide))
                · exact d0.same (set_ne (by decide)) (set_ne (by decide))
                · exact d1.same (set_ne (by decide)) (set_ne (by decide))
                · exact d2.same (set_ne (by decide)) (set_ne (by decide))
                · exact r0.same (set_ne (by decide)) (set_ne (by decide)) (set_ne (by decide))
                · exact Rs.last ((set_ne (by decide)).trans (hp 4 (by decide))) ((set_ne (by decide)).trans (hp 7 (by decide))) (set_at h0)
                · exact r2.same (set_ne (by decide)) (set_ne (by decide)) (set_ne (by decide))
              refine StepsI.cons [11, 13, 0, 1, 2, 3, 4, 5, 6, 7, 8, 9, 10, 11, 12, 13] rfl (by kernel_rfl) ?_ ?_
              · intro L a x hp h0 hI K hK
                obtain ⟨q0, q1, q2, q3, q4, q5, q6, q7, q8, q9, q10, q11, q12, q13, q14, ha, hc, c0, c1, c4, c5, c8, c9, d0, d1, d2, r0, r1, r2⟩ := hI
                refine step_pure q11 (by rfl) (exec_assign (by rfl) (by rw [ha, ev_ne 14 154 (by decide), ev_ne 13 154 (by decide), ev_ne 12 154 (by decide), ev_at 154 (by simp only [put_size, hsz]; decide)])) ?_
                refine hK.out _ _ ?_
                refine (onceI_mk q0 q1 q2 q3 q4 q5 q6 q7 q8 q9 q10 q11 q12 q13 q11 ?_ (hc) ?_ ?_ ?_ ?_ ?_ ?_ ?_ ?_ ?_ ?_ ?_ ?_)
                · rw [ha]; show Act.put _ (some 14) _ = _; rw [put_same 14]
                · exact fun h => c0 (listed_ne h (by decide))
                · exact fun h => c1 (listed_ne h (by decide))
                · exact fun h => c4 (listed_ne h (by decide))
                · exact fun h => c5 (listed_ne h (by decide))
                · exact fun h => c8 (listed_ne h (by decide))
                · exact fun h => c9 (listed_ne h (by decide))
                · exact d0.same (set_ne (by decide)) (set_ne (by decide))
                · exact d1.same (set_ne (by decide)) (set_ne (by decide))
                · exact d2.same (set_ne (by decide)) (set_ne (by decide))
                · exact r0.same (set_ne (by decide)) (set_ne (by decide)) (set_ne (by decide))
                · exact r1.same (set_ne (by decide)) (set_ne (by decide)) (set_ne (by decide))
                · exact Rs.last ((set_ne (by decide)).trans (hp 8 (by decide))) ((set_ne (by decide)).trans (hp 11 (by decide))) (set_at h0)
              exact StepsI.nil
            · intro L b x hp hI
              obtain ⟨q0, q1, q2, q3, q4, q5, q6, q7, q8, q9, q10, q11, q12, q13, q14, ha, hc, -, -, -, -, -, -, d0, d1, d2, r0, r1, r2⟩ := hI
              obtain ⟨o0, w0⟩ := d0.new (hp 3 (by decide))
              obtain ⟨o1, w1⟩ := d1.new (hp 7 (by decide))
              obtain ⟨o2, w2⟩ := d2.new (hp 11 (by decide))
              have s0 := (r0.1 (hp 12 (by decide))).2.2
              have s1 := (r1.1 (hp 13 (by decide))).2.2
              have s2 := (r2.1 (hp 14 (by decide))).2.2
              rw [Hxb.out] at o0
              rw [Hxm.out] at o2
              have hbW : Below u6.heap.size u6 W := Hb8.out.trans (Hbw.out.mono Hb8.out.size)
              have hCM : C ≤ M := by have := Hw5s.out; omega
              have hosig : u6.ownsRow M 5 1 sv n6 (bv sg) := by rw [Hsv.out]; exact Ho6.out
              have hosav : W.ownsRow u6.heap.size 5 1 (.slice A7 n7 c7) n7 (bv (saveB rs)) := own_below Ho8.out Hbw.out
              have hring : Held u6 C (upto F' u5.heap.size M) S0 S1 bo rs := ⟨BB, HCB.out, HA6.out⟩
              have HN := Lib.hid (once_next (u5 := u5) (u6 := u6) (W := W) (x := x) (C := C) (M := M) (F2 := upto F' u5.heap.size M) (G := G) (T0 := S0) (T1 := S1) (br := bo) (r2 := rs) (vv2 := .slice A7 n7 c7) (vb := vb) (vs := vs) (vm := vm) (vsig := sv) (t0 := q3) (t1 := q7) (t2 := q11) (n := n2) (nv := n7) (ng := n6) (us := us) (bs := bs) (ss := ss) (ms := ms) (k := kk) (sg := sg) (m := m) HRV6.out Hsg.out.2.2.1 Hlt5.out hm6 hm6' hCM hring Hfoot.out hosig Hn6.out hbW hosav Hn7.out hc o0 w0 o1 w1 o2 w2 Hrec.out)
              have Hwx := Lib.hid ((Hw8.out.trans (Hbw.out.mono (by have := Hw8.out.size; have := HC.out; omega))).trans (hc.below (fun g hg => (Hlt5.out g (HG3.out g hg)).1) HCW.out))
              clear d0 d1 d2 r0 r1 r2 o0 o1 o2 w0 w1 w2 hc hp hbW
              simp only [ha, s0, s1, s2, Act.put, List.setIfInBounds_toArray, List.set_cons_zero, List.set_cons_succ]
              clear ha s0 s1 s2
              go_wp2
              go_roundw
              case rel => exact ⟨k + 1, n2 + 1, _, _, S0, S1, bo, rs, _, _, _, _, Hk.out, by go_num, by omega, rfl, HN.out, Hwx.out⟩
              case measure => have := Hk.out; simp [RowKit.intOf]; omega
      · obtain ⟨h17, hr17⟩ := sign_spent he
        rw [hr17] at ha6
        have HO6 : Hid (OnceAt u6 C (upto F' u5.heap.size M) G S0 S1 bo r (.slice Av nv cv) (.slice Ab n2 cb) (.slice As n2 cs) (.slice Am n2 cm) n2 us bs ss ms) := Lib.hid ⟨⟨BB, hCB, ha6⟩, Hsg.out.2.1, Hsg.out.1, HO5.out.rec_, Hsg.out.2.2.1, Hsg.out.2.2.2⟩
        rw [h17]
        clear he h17 hr17 ha6 Ho6 Hn6 HO5 Ha5
        go_wp2
        go_roundw
        case rel => exact ⟨k + 1, n2, _, G, S0, S1, bo, r, us, bs, ss, ms, Hk.out, by go_num, by omega, rfl, HO6.out, Hw6.out⟩
        case measure => have := Hk.out; simp [RowKit.intOf]; omega
    · obtain rfl : k = n := by omega
      have hd1 : decide ((k : Int) < (k : Int)) = false := by simp
      go_wp2
      go_ret
      exact ⟨rfl, by rw [HC.out]; exact Hw.out⟩
end Go.Proofs.Ytmpklplojfjfbaa
