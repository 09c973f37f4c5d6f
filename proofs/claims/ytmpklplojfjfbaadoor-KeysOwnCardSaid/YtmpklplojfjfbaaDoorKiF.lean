/- The walk of KeysOwn. Condition: none. -/
import Derived.Test.YtmpklplojfjfbaaDoorJoinK
import Derived.Test.YtmpklplojfjfbaaDoorKgC
namespace Go.Proofs.YtmpklplojfjfbaaDoor
open Go.RowKit Go.Lib




theorem neq_from_eql {P : Program} {t : TypeId} {xs ys : Array Value} {b : Bool} (h : ∀ u, (binOp .eql t (.agg xs) (.agg ys)).run P u = .ok (.bool b) u) : ∀ u, (binOp .neq t (.agg xs) (.agg ys)).run P u = .ok (.bool (!b)) u := by
  intro u
  have := h u
  rw [run_eql_struct] at this
  rw [run_neq_struct]
  revert this
  cases (Op.equalIn 10000 t (.agg xs) (.agg ys)).run P u <;> simp [Result.andThen]
set_option maxRecDepth 100000 in
set_option maxHeartbeats 16000000 in
theorem kown_any (s f : D8) (h : Nat) (w : World) (hs : s.ok) (hf : f.ok) (hh : h < 256) :
    Calls Tryd.prog 4 #[.agg #[.int .u8 (s.x0 : Int), .int .u8 (s.x1 : Int), .int .u8 (s.x2 : Int), .int .u8 (s.x3 : Int), .int .u8 (s.x4 : Int), .int .u8 (s.x5 : Int), .int .u8 (s.x6 : Int), .int .u8 (s.x7 : Int)], .agg #[.int .u8 (f.x0 : Int), .int .u8 (f.x1 : Int), .int .u8 (f.x2 : Int), .int .u8 (f.x3 : Int), .int .u8 (f.x4 : Int), .int .u8 (f.x5 : Int), .int .u8 (f.x6 : Int), .int .u8 (f.x7 : Int)], .int .u8 (h : Int)] w fun e w' => e = .returned (.bool true) ∧ Below w.heap.size w w' := by
  obtain ⟨hs0, hf0, hw0, hz0⟩ := alloc2 w (.cells #[.int .u8 (s.x0 : Int), .int .u8 (s.x1 : Int), .int .u8 (s.x2 : Int), .int .u8 (s.x3 : Int), .int .u8 (s.x4 : Int), .int .u8 (s.x5 : Int), .int .u8 (s.x6 : Int), .int .u8 (s.x7 : Int)] 22) (.cells #[.int .u8 (f.x0 : Int), .int .u8 (f.x1 : Int), .int .u8 (f.x2 : Int), .int .u8 (f.x3 : Int), .int .u8 (f.x4 : Int), .int .u8 (f.x5 : Int), .int .u8 (f.x6 : Int), .int .u8 (f.x7 : Int)] 22)
  have HS0 := Lib.hid hs0; have HF0 := Lib.hid hf0; have Hw0 := Lib.hid hw0
  have Hs := Lib.hid hs; have Hf := Lib.hid hf
  clear hs0 hf0 hw0 hz0 hs hf
  obtain ⟨q, hq⟩ : ∃ q, q = h % 4 := ⟨_, rfl⟩
  have e4 : (h : Int) % 4 = (q : Int) := by omega
  have hq8 : q ≤ 8 := by omega
  have hq0 : decide ((q : Int) < 0) = false := by simp
  obtain ⟨N, hN⟩ : ∃ N, N = 2 ^ q := ⟨_, rfl⟩
  have hNp := pow_le8 hq8
  have hsh : wrap64 ((2 : Int) ^ q) = (N : Int) := by rw [hN]; exact wrap_pow hq8
  have hsh2 : IntKind.i64.wrap ((2 : Int) ^ q) = (N : Int) := by rw [hN]; exact shl_one hq8
  rw [← hN] at hNp
  have HN := Lib.hid hN
  clear hq hN
  go_enter Tryd.func4, Tryd.ntmps4
  go_upto_region 1 with fail
  generalize (w.alloc (.cells #[.int .u8 (s.x0 : Int), .int .u8 (s.x1 : Int), .int .u8 (s.x2 : Int), .int .u8 (s.x3 : Int), .int .u8 (s.x4 : Int), .int .u8 (s.x5 : Int), .int .u8 (s.x6 : Int), .int .u8 (s.x7 : Int)] 22)).alloc (.cells #[.int .u8 (f.x0 : Int), .int .u8 (f.x1 : Int), .int .u8 (f.x2 : Int), .int .u8 (f.x3 : Int), .int .u8 (f.x4 : Int), .int .u8 (f.x5 : Int), .int .u8 (f.x6 : Int), .int .u8 (f.x7 : Int)] 22) = v0 at *
  obtain ⟨zf, r0, r1, r2, r3, r4, r5, r6, r7⟩ := free8 HS0.out
  have hl0 := block_lt HS0.out
  clear zf
  go_upto_region 2 with fail
  simp only [e4]
  go_wp2_with fail
  refine (new_any s q v0 Hs.out hq8).mono ?_
  rintro e v1 ⟨br, F, T0, T1, rfl, ha1, hb1⟩
  have HA1 := Lib.hid ha1; have HF1 := Lib.hid (block_below HF0.out hb1 (block_lt HF0.out)); have Hw1 := Lib.hid (Hw0.out.trans (hb1.mono Hw0.out.size)); have Hw0s := Lib.hid Hw0.out.size
  clear r0 r1 r2 r3 r4 r5 r6 r7 ha1 hb1 HS0 HF0 Hw0 hl0
  generalize v0.heap.size = B at *
  go_wp2_with fail
  refine (known_any v1).mono ?_
  rintro e v2 ⟨rfl, hb2⟩
  have HA2 := Lib.hid (HA1.out.below hb2); have HF2 := Lib.hid (block_below HF1.out hb2 (block_lt HF1.out)); have Hw2 := Lib.hid (Hw1.out.trans (hb2.mono Hw1.out.size))
  clear hb2 HA1 HF1 Hw1
  go_wp2_with fail
  refine (rpublic_any HA2.out).mono ?_
  rintro e v3 ⟨rfl, hb3⟩
  obtain ⟨PB, hPB⟩ : ∃ PB, PB = rootD (keysD s q) q := ⟨_, rfl⟩
  have HPB := Lib.hid hPB
  rw [show rootD (keysD (RingM.new s q).secret (RingM.new s q).h) (RingM.new s q).h = PB from hPB.symm]
  have hb4 := hb3.trans ((h_one v3 (.cells #[.int .u8 (PB.x0 : Int), .int .u8 (PB.x1 : Int), .int .u8 (PB.x2 : Int), .int .u8 (PB.x3 : Int), .int .u8 (PB.x4 : Int), .int .u8 (PB.x5 : Int), .int .u8 (PB.x6 : Int), .int .u8 (PB.x7 : Int)] 27)).mono hb3.size)
  have HP4 : Hid ((v3.alloc (.cells #[.int .u8 (PB.x0 : Int), .int .u8 (PB.x1 : Int), .int .u8 (PB.x2 : Int), .int .u8 (PB.x3 : Int), .int .u8 (PB.x4 : Int), .int .u8 (PB.x5 : Int), .int .u8 (PB.x6 : Int), .int .u8 (PB.x7 : Int)] 27)).heap[v3.heap.size]? = some (.cells #[.int .u8 (PB.x0 : Int), .int .u8 (PB.x1 : Int), .int .u8 (PB.x2 : Int), .int .u8 (PB.x3 : Int), .int .u8 (PB.x4 : Int), .int .u8 (PB.x5 : Int), .int .u8 (PB.x6 : Int), .int .u8 (PB.x7 : Int)] 27 (0, 0))) := heap_alloc_new v3 _
  have HA4 := Lib.hid (HA2.out.below hb4); have HF4 := Lib.hid (block_below HF2.out hb4 (block_lt HF2.out)); have Hw4 := Lib.hid (Hw2.out.trans (hb4.mono Hw2.out.size))
  have Hnf := Lib.hid (fun g (hg : foot F T0 T1 g) => Nat.lt_of_lt_of_le (HA2.out.foot_lt g hg).2 hb3.size)
  clear hb3 hb4 HA2 HF2 Hw2 hPB
  go_upto_region 6 with fail
  generalize v3.alloc (.cells #[.int .u8 (PB.x0 : Int), .int .u8 (PB.x1 : Int), .int .u8 (PB.x2 : Int), .int .u8 (PB.x3 : Int), .int .u8 (PB.x4 : Int), .int .u8 (PB.x5 : Int), .int .u8 (PB.x6 : Int), .int .u8 (PB.x7 : Int)] 27) = v4 at *
  generalize v3.heap.size = bp at *
  obtain ⟨zf, r0, r1, r2, r3, r4, r5, r6, r7⟩ := free8 HF4.out
  have hlf := block_lt HF4.out
  clear zf
  go_wp2_with fail
  refine (hnum_any f v4 Hf.out).mono ?_
  rintro e v5 ⟨rfl, hb5⟩
  have HA5 : Hid (RingAt v5 B F T0 T1 br (ringI s q f.num 0)) := Lib.hid (HA4.out.below hb5); have HP5 := Lib.hid (block_below HP4.out hb5 (block_lt HP4.out)); have Hw5 := Lib.hid (Hw4.out.trans (hb5.mono Hw4.out.size))
  clear hb5 r0 r1 r2 r3 r4 r5 r6 r7 HA4 HP4 HF4 Hw4 hlf
  generalize f.num = st at *
  go_wp2
  go_loopw [48] (fun i wr => ∃ (k : Nat) (F' : Nat → Prop), k ≤ N ∧ i = .int .i64 (k : Int) ∧ RingAt wr B F' T0 T1 br (ringI s q st k) ∧ wr.heap[bp]? = some (.cells #[.int .u8 (PB.x0 : Int), .int .u8 (PB.x1 : Int), .int .u8 (PB.x2 : Int), .int .u8 (PB.x3 : Int), .int .u8 (PB.x4 : Int), .int .u8 (PB.x5 : Int), .int .u8 (PB.x6 : Int), .int .u8 (PB.x7 : Int)] 27 (0, 0)) ∧ ¬ F' bp ∧ Below w.heap.size w wr) (fun i _ => N - (RowKit.intOf i).toNat)
  case atStart => exact ⟨0, F, Nat.zero_le _, rfl, HA5.out, HP5.out, fun hf => by have := Hnf.out bp (.inl hf); omega, Hw5.out⟩
  case round =>
    obtain ⟨k, F', hk, rfl, ha, hp, hnf, hw⟩ := hrel
    have HA := Lib.hid ha; have HP := Lib.hid hp; have Hw := Lib.hid hw; have Hn := Lib.hid hnf
    clear ha hp hnf hw HA5 HP5 Hw5
    by_cases hlt : k < N
    · have hd1 : decide ((k : Int) < (N : Int)) = true := decide_eq_true (by omega)
      have hki : (k : Int) < (N : Int) := by omega
      have Hk := Lib.hid hlt
      have hkq : k < 2 ^ q := by have := HN.out; omega
      obtain ⟨hsg1, hsg2⟩ := ringI_sign (s := s) (st := st) hq8 hkq
      have hres := ringI_res (s := s) (st := st) hq8 hkq
      have hrok := ringI_ok (st := st) Hs.out hq8 (Nat.le_of_lt hkq)
      have hwk0 : IntKind.u64.wrap (k : Int) = (k : Int) := by rw [IntKind.wrap_u64]; omega
      have hwk : IntKind.u64.wrap ((st : Int) + (k : Int)) = (((st + k) % 18446744073709551616 : Nat) : Int) := by rw [IntKind.wrap_u64]; omega
      have hidx := index_sign hrok hsg2
      have hver := verify_sign hrok (msgN_ok st k) hsg2
      rw [hres] at hidx
      have hlt8 := sign_lt hrok (msgN st k); have hlen8 := sign_len hrok (msgN st k)
      have hmo := msgN_ok st k
      obtain ⟨m, hm⟩ : ∃ m, m = msgN st k := ⟨_, rfl⟩
      rw [← hm] at hsg1 hsg2 hidx hver hlt8 hlen8 hmo
      have Hsg1 := Lib.hid hsg1; have Hsg2 := Lib.hid hsg2; have Hidx := Lib.hid hidx
      have Hver : Hid (verifyN PB m ((ringI s q st k).sign m).2.1 = true) := by rw [HPB.out]; exact Lib.hid hver
      have Hlt8 := Lib.hid hlt8; have Hmo := Lib.hid hmo; have Hm := Lib.hid hm; have Hkq := Lib.hid hkq; have Hlen := Lib.hid hlen8
      clear hsg1 hsg2 hres hrok hidx hver hlt8 hlen8 hmo hm hkq hlt
      go_wp2_with fail
      refine (hfrom_any ((st + k) % 18446744073709551616) wr (Nat.mod_lt _ (by decide))).mono ?_
      rintro e v6 ⟨rfl, hb6⟩
      rw [show D8.of ((st + k) % 18446744073709551616) = m from Hm.out.symm]
      have hb7 := hb6.trans ((h_one v6 (.cells #[.int .u8 (m.x0 : Int), .int .u8 (m.x1 : Int), .int .u8 (m.x2 : Int), .int .u8 (m.x3 : Int), .int .u8 (m.x4 : Int), .int .u8 (m.x5 : Int), .int .u8 (m.x6 : Int), .int .u8 (m.x7 : Int)] 27)).mono hb6.size)
      have HM7 : Hid ((v6.alloc (.cells #[.int .u8 (m.x0 : Int), .int .u8 (m.x1 : Int), .int .u8 (m.x2 : Int), .int .u8 (m.x3 : Int), .int .u8 (m.x4 : Int), .int .u8 (m.x5 : Int), .int .u8 (m.x6 : Int), .int .u8 (m.x7 : Int)] 27)).heap[v6.heap.size]? = some (.cells #[.int .u8 (m.x0 : Int), .int .u8 (m.x1 : Int), .int .u8 (m.x2 : Int), .int .u8 (m.x3 : Int), .int .u8 (m.x4 : Int), .int .u8 (m.x5 : Int), .int .u8 (m.x6 : Int), .int .u8 (m.x7 : Int)] 27 (0, 0))) := heap_alloc_new v6 _
      have HA7 := Lib.hid (HA.out.below hb7); have HP7 := Lib.hid (block_below HP.out hb7 (block_lt HP.out)); have Hw7 := Lib.hid (Hw.out.trans (hb7.mono Hw.out.size))
      have Hfl := Lib.hid (fun g (hg : foot F' T0 T1 g) => Nat.lt_of_lt_of_le (HA.out.foot_lt g hg).2 hb6.size)
      have Hlo := Lib.hid (fun g (hg : foot F' T0 T1 g) => (HA.out.foot_lt g hg).1)
      have hbpl : bp < v6.heap.size := Nat.lt_of_lt_of_le (block_lt HP.out) hb6.size
      clear hb6 hb7 HA HP Hw
      go_upto_region 12 with fail
      have hbm : v6.heap.size < (v6.alloc (.cells #[.int .u8 (m.x0 : Int), .int .u8 (m.x1 : Int), .int .u8 (m.x2 : Int), .int .u8 (m.x3 : Int), .int .u8 (m.x4 : Int), .int .u8 (m.x5 : Int), .int .u8 (m.x6 : Int), .int .u8 (m.x7 : Int)] 27)).heap.size := block_lt HM7.out
      generalize v6.alloc (.cells #[.int .u8 (m.x0 : Int), .int .u8 (m.x1 : Int), .int .u8 (m.x2 : Int), .int .u8 (m.x3 : Int), .int .u8 (m.x4 : Int), .int .u8 (m.x5 : Int), .int .u8 (m.x6 : Int), .int .u8 (m.x7 : Int)] 27) = v7 at *
      generalize v6.heap.size = bm at *
      obtain ⟨zf, r0, r1, r2, r3, r4, r5, r6, r7⟩ := free8 HM7.out
      clear zf
      go_wp2_with fail
      refine (rsign_any m HA7.out Hmo.out HA7.out.hB).mono ?_
      rintro e v8 ⟨M, A8, n8, c8, hm8, hm8', rfl, ho8, hn8, hc8, ha8⟩
      rw [Hsg1.out] at ha8
      rw [Hsg2.out]
      have hn8l : n8 ≤ 219 := by rw [hn8]; exact Hlen.out
      have HP8 := Lib.hid ((hc8.block bp (block_lt HP7.out) Hn.out).trans HP7.out)
      have HM8 := Lib.hid ((hc8.block bm hbm (fun hf => by have := Hfl.out bm (.inl hf); omega)).trans HM7.out)
      have Hn8 : Hid (¬ upto F' v7.heap.size M bp) := Lib.hid (by
        rintro (h1 | h1)
        · exact Hn.out h1
        · omega)
      have Hw8 := Lib.hid (Hw7.out.trans (hc8.below (fun g hg => Nat.le_trans Hw0s.out (Hlo.out g (.inl hg))) Hw7.out.size))
      have HA8 := Lib.hid ha8; have HS8 := Lib.hid ho8
      clear ha8 ho8 hc8 hn8 hm8 hm8' r0 r1 r2 r3 r4 r5 r6 r7 HA7 HP7 HM7 Hw7 Hfl Hlo Hn Hlen hbpl hbm Hsg1 Hsg2
      generalize ((ringI s q st k).sign m).2.1 = sg at *
      go_wp2_with fail
      refine (index_any A8 n8 c8 sg v8 (Rd.of_own HS8.out) (own_cap HS8.out) (by omega) Hlt8.out).mono ?_
      rintro e v9 ⟨rfl, hb9⟩
      rw [Hidx.out]
      have HA9 := Lib.hid (HA8.out.below hb9); have HP9 := Lib.hid (block_below HP8.out hb9 (block_lt HP8.out)); have HM9 := Lib.hid (block_below HM8.out hb9 (block_lt HM8.out)); have Hw9 := Lib.hid (Hw8.out.trans (hb9.mono Hw8.out.size)); have HS9 := Lib.hid (own_below HS8.out hb9)
      clear hb9 HA8 HP8 HM8 Hw8 HS8 Hidx
      have hw1 : wrap64 ((N : Int) - 1) = ((N - 1 : Nat) : Int) := by simp only [wrap64]; omega
      have hw1' : IntKind.i64.wrap ((N : Int) - 1) = ((N - 1 : Nat) : Int) := by rw [IntKind.wrap_i64]; omega
      have hw2 : wrap64 (((N - 1 : Nat) : Int) - (k : Int)) = ((N - (k + 1) : Nat) : Int) := by simp only [wrap64]; omega
      have hw2' : IntKind.i64.wrap (((N - 1 : Nat) : Int) - (k : Int)) = ((N - (k + 1) : Nat) : Int) := by rw [IntKind.wrap_i64]; omega
      have hPl : ∀ w', Below v9.heap.size v9 w' → (Instr.loadAt 27 (.pointer (some ⟨bp, 0, none⟩))).run Tryd.prog w' = .ok (.agg #[.int .u8 (PB.x0 : Int), .int .u8 (PB.x1 : Int), .int .u8 (PB.x2 : Int), .int .u8 (PB.x3 : Int), .int .u8 (PB.x4 : Int), .int .u8 (PB.x5 : Int), .int .u8 (PB.x6 : Int), .int .u8 (PB.x7 : Int)]) w' := fun w' hb => load_dig w' bp PB (block_below HP9.out hb (block_lt HP9.out))
      have hMl : ∀ w', Below v9.heap.size v9 w' → (Instr.loadAt 27 (.pointer (some ⟨bm, 0, none⟩))).run Tryd.prog w' = .ok (.agg #[.int .u8 (m.x0 : Int), .int .u8 (m.x1 : Int), .int .u8 (m.x2 : Int), .int .u8 (m.x3 : Int), .int .u8 (m.x4 : Int), .int .u8 (m.x5 : Int), .int .u8 (m.x6 : Int), .int .u8 (m.x7 : Int)]) w' := fun w' hb => load_dig w' bm m (block_below HM9.out hb (block_lt HM9.out))
      have hGn : ∀ (x y : Operand) u, (eqGuard .neq 27 x y (.agg #[.int .u8 (PB.x0 : Int), .int .u8 (PB.x1 : Int), .int .u8 (PB.x2 : Int), .int .u8 (PB.x3 : Int), .int .u8 (PB.x4 : Int), .int .u8 (PB.x5 : Int), .int .u8 (PB.x6 : Int), .int .u8 (PB.x7 : Int)]) (.agg #[.int .u8 (PB.x0 : Int), .int .u8 (PB.x1 : Int), .int .u8 (PB.x2 : Int), .int .u8 (PB.x3 : Int), .int .u8 (PB.x4 : Int), .int .u8 (PB.x5 : Int), .int .u8 (PB.x6 : Int), .int .u8 (PB.x7 : Int)])).run Tryd.prog u = .ok () u := fun x y u => by first | (go_simp; done) | exact run_eqGuard_agg _ _ _ _ _ _ (by kernel_rfl)
      have hE : ∀ u, (binOp .eql 27 (.agg #[.int .u8 (PB.x0 : Int), .int .u8 (PB.x1 : Int), .int .u8 (PB.x2 : Int), .int .u8 (PB.x3 : Int), .int .u8 (PB.x4 : Int), .int .u8 (PB.x5 : Int), .int .u8 (PB.x6 : Int), .int .u8 (PB.x7 : Int)]) (.agg #[.int .u8 (PB.x0 : Int), .int .u8 (PB.x1 : Int), .int .u8 (PB.x2 : Int), .int .u8 (PB.x3 : Int), .int .u8 (PB.x4 : Int), .int .u8 (PB.x5 : Int), .int .u8 (PB.x6 : Int), .int .u8 (PB.x7 : Int)])).run Tryd.prog u = .ok (.bool (sameD PB PB)) u := fun u => eql_dig _ _ _ _ _ _ _ _ _ _ _ _ _ _ _ _ u
      rw [show sameD PB PB = true from sameD_iff.2 rfl] at hE
      have hEn := neq_from_eql hE
      rw [show (!true) = false from rfl] at hEn
      clear hE
      go_upto_region 14 with fail
      refine wp_region_held_drew (S := fun w' => Below v9.heap.size v9 w') (by kernel_rfl) ((Below.refl v9.heap.size v9).drew) (fun hHeld => ?_)
      rw [show Array.replicate _ false = (#[false, false, false, false, false, false, false, false, false, false, false, false, false, false, false, false, false, false, false, false, false, false, false, false, false, false, false, false, false, false, false, false, false] : Array Bool) from rfl]
      refine takeH 0 (some 67) (v := ?_) rfl (by kernel_rfl) (by kernel_rfl) (by kernel_rfl) (by kernel_rfl) (fun _ _ _ h => h) (Or.inl ⟨by kernel_rfl, ?hy⟩) (by assumption) ?_
      case hy =>
        intro w' hSw
        clear hSw
        first
          | (go_simp; done)
          | (go_simp; with_reducible rfl)
      simp only [Act.put, List.setIfInBounds_toArray, List.set_cons_zero, List.set_cons_succ]
      refine takeH 1 (some 68) (v := ?_) rfl (by kernel_rfl) (by kernel_rfl) (by kernel_rfl) (by kernel_rfl) (fun _ _ _ h => h) (Or.inl ⟨by kernel_rfl, ?hy⟩) (by assumption) ?_
      case hy =>
        intro w' hSw
        clear hSw
        first
          | (go_simp; done)
          | (go_simp; with_reducible rfl)
      simp only [Act.put, List.setIfInBounds_toArray, List.set_cons_zero, List.set_cons_succ]
      refine takeH 2 (some 69) (v := ?_) rfl (by kernel_rfl) (by kernel_rfl) (by kernel_rfl) (by kernel_rfl) (fun _ _ _ h => h) (Or.inl ⟨by kernel_rfl, ?hy⟩) (by assumption) ?_
      case hy =>
        intro w' hSw
        clear hSw
        first
          | (go_simp; done)
          | (go_simp; with_reducible rfl)
      simp only [Act.put, List.setIfInBounds_toArray, List.set_cons_zero, List.set_cons_succ]
      refine takeH 3 (some 70) (v := ?_) rfl (by kernel_rfl) (by kernel_rfl) (by kernel_rfl) (by kernel_rfl) (fun _ _ _ h => h) (Or.inl ⟨by kernel_rfl, ?hy⟩) (by assumption) ?_
      case hy =>
        intro w' hSw
        clear hSw
        first
          | (go_simp; done)
          | (go_simp; with_reducible rfl)
      simp only [Act.put, List.setIfInBounds_toArray, List.set_cons_zero, List.set_cons_succ]
      refine takeH 4 (some 71) (v := ?_) rfl (by kernel_rfl) (by kernel_rfl) (by kernel_rfl) (by kernel_rfl) (fun _ _ _ h => h) (Or.inl ⟨by kernel_rfl, ?hy⟩) (by assumption) ?_
      case hy =>
        intro w' hSw
        clear hSw
        first
          | (go_simp; done)
          | (go_simp; with_reducible rfl)
      simp only [Act.put, List.setIfInBounds_toArray, List.set_cons_zero, List.set_cons_succ]
      refine takeH 5 (some 72) (v := ?_) rfl (by kernel_rfl) (by kernel_rfl) (by kernel_rfl) (by kernel_rfl) (fun _ _ _ h => h) (Or.inl ⟨by kernel_rfl, ?hy⟩) (by assumption) ?_
      case hy =>
        intro w' hSw
        clear hSw
        first
          | (go_simp; done)
          | (go_simp; with_reducible rfl)
      simp only [Act.put, List.setIfInBounds_toArray, List.set_cons_zero, List.set_cons_succ]
      refine takeH 6 (some 73) (v := ?_) rfl (by kernel_rfl) (by kernel_rfl) (by kernel_rfl) (by kernel_rfl) (fun _ _ _ h => h) (Or.inl ⟨by kernel_rfl, ?hy⟩) (by assumption) ?_
      case hy =>
        intro w' hSw
        clear hSw
        first
          | (go_simp; done)
          | (go_simp; with_reducible rfl)
      simp only [Act.put, List.setIfInBounds_toArray, List.set_cons_zero, List.set_cons_succ]
      refine takeH 7 (some 74) (v := ?_) rfl (by kernel_rfl) (by kernel_rfl) (by kernel_rfl) (by kernel_rfl) (fun _ _ _ h => h) (Or.inl ⟨by kernel_rfl, ?hy⟩) (by assumption) ?_
      case hy =>
        intro w' hSw
        clear hSw
        first
          | (go_simp; done)
          | (go_simp; with_reducible rfl)
      simp only [Act.put, List.setIfInBounds_toArray, List.set_cons_zero, List.set_cons_succ]
      refine takeH 8 (some 75) (v := ?_) rfl (by kernel_rfl) (by kernel_rfl) (by kernel_rfl) (by kernel_rfl) (fun _ _ _ h => h) (Or.inl ⟨by kernel_rfl, ?hy⟩) (by assumption) ?_
      case hy =>
        intro w' hSw
        clear hSw
        first
          | (go_simp; done)
          | (go_simp; with_reducible rfl)
      simp only [Act.put, List.setIfInBounds_toArray, List.set_cons_zero, List.set_cons_succ]
      refine takeH 9 (some 76) (v := ?_) rfl (by kernel_rfl) (by kernel_rfl) (by kernel_rfl) (by kernel_rfl) (fun _ _ _ h => h) (Or.inl ⟨by kernel_rfl, ?hy⟩) (by assumption) ?_
      case hy =>
        intro w' hSw
        clear hSw
        first
          | (go_simp; done)
          | (go_simp; with_reducible rfl)
      simp only [Act.put, List.setIfInBounds_toArray, List.set_cons_zero, List.set_cons_succ]
      refine takeH 10 (some 77) (v := ?_) rfl (by kernel_rfl) (by kernel_rfl) (by kernel_rfl) (by kernel_rfl) (fun _ _ _ h => h) (Or.inl ⟨by kernel_rfl, ?hy⟩) (by assumption) ?_
      case hy =>
        intro w' hSw
        clear hSw
        first
          | (go_simp; done)
          | (go_simp; with_reducible rfl)
      simp only [Act.put, List.setIfInBounds_toArray, List.set_cons_zero, List.set_cons_succ]
      refine takeH 11 (some 78) (v := ?_) rfl (by kernel_rfl) (by kernel_rfl) (by kernel_rfl) (by kernel_rfl) (fun _ _ _ h => h) (Or.inl ⟨by kernel_rfl, ?hy⟩) (by assumption) ?_
      case hy =>
        intro w' hSw
        clear hSw
        first
          | (go_simp; done)
          | (go_simp; with_reducible rfl)
      simp only [Act.put, List.setIfInBounds_toArray, List.set_cons_zero, List.set_cons_succ]
      refine takeH 12 (some 79) (v := .agg #[.int .u8 (PB.x0 : Int), .int .u8 (PB.x1 : Int), .int .u8 (PB.x2 : Int), .int .u8 (PB.x3 : Int), .int .u8 (PB.x4 : Int), .int .u8 (PB.x5 : Int), .int .u8 (PB.x6 : Int), .int .u8 (PB.x7 : Int)]) rfl (by kernel_rfl) (by kernel_rfl) (by kernel_rfl) (by kernel_rfl) (fun _ _ _ h => h) (Or.inl ⟨by kernel_rfl, ?hy⟩) (by assumption) ?_
      case hy =>
        intro w' hSw
        simp [execOp, Act.eval, hPl w' hSw, Result.andThen]
      simp only [Act.put, List.setIfInBounds_toArray, List.set_cons_zero, List.set_cons_succ]
      refine takeH 13 (some 80) (v := .agg #[.int .u8 (m.x0 : Int), .int .u8 (m.x1 : Int), .int .u8 (m.x2 : Int), .int .u8 (m.x3 : Int), .int .u8 (m.x4 : Int), .int .u8 (m.x5 : Int), .int .u8 (m.x6 : Int), .int .u8 (m.x7 : Int)]) rfl (by kernel_rfl) (by kernel_rfl) (by kernel_rfl) (by kernel_rfl) (fun _ _ _ h => h) (Or.inl ⟨by kernel_rfl, ?hy⟩) (by assumption) ?_
      case hy =>
        intro w' hSw
        simp [execOp, Act.eval, hMl w' hSw, Result.andThen]
      simp only [Act.put, List.setIfInBounds_toArray, List.set_cons_zero, List.set_cons_succ]
      refine takeH 14 (some 81) (v := ?_) rfl (by kernel_rfl) (by kernel_rfl) (by kernel_rfl) (by kernel_rfl) (fun _ _ _ h => h) (Or.inl ⟨by kernel_rfl, ?hy⟩) (by assumption) ?_
      case hy =>
        intro w' hSw
        clear hSw
        first
          | (go_simp; done)
          | (go_simp; with_reducible rfl)
      simp only [Act.put, List.setIfInBounds_toArray, List.set_cons_zero, List.set_cons_succ]
      have hbd : Below v9.heap.size v9 v9.drew := (Below.refl v9.heap.size v9).drew
      have HRd := Lib.hid (((Rd.of_own HS9.out).below hbd (Nat.le_refl _)).more hbd.size)
      have HAd := Lib.hid (HA9.out.below hbd)
      refine wpAnyH_ready (rs := [15]) (by kernel_rfl) (by simp) ?_
      refine AllReadyH.cons rfl (fun K hK => ?_) AllReadyH.nil
      rw [if_pos (by kernel_rfl)]
      go_simp
      refine (verify_any PB m A8 n8 c8 sg v9.drew Hmo.out HRd.out (own_cap HS9.out) (by omega) Hlt8.out).mono ?_
      rintro e v10 ⟨rfl, hb10⟩
      rw [Hver.out]
      have HSb := Lib.hid (hbd.trans (hb10.mono hbd.size)); have HA10 := Lib.hid (HAd.out.below hb10)
      clear hb10 hbd HRd HAd
      refine hK.out _ _ HSb.out (fun _ => ?_)
      clear hK K
      simp only [List.setIfInBounds_toArray, List.set_cons_zero, List.set_cons_succ]
      have hS1 := HSb.out
      refine takeH 16 (some 83) (v := ?_) rfl (by kernel_rfl) (by kernel_rfl) (by kernel_rfl) (by kernel_rfl) (fun _ _ _ h => h) (Or.inl ⟨by kernel_rfl, ?hy⟩) (by assumption) ?_
      case hy =>
        intro w' hSw
        clear hSw
        first
          | (go_simp; done)
          | (go_simp; with_reducible rfl)
      simp only [Act.put, List.setIfInBounds_toArray, List.set_cons_zero, List.set_cons_succ]
      refine takeH 17 (some 84) (v := ?_) rfl (by kernel_rfl) (by kernel_rfl) (by kernel_rfl) (by kernel_rfl) (fun _ _ _ h => h) (Or.inl ⟨by kernel_rfl, ?hy⟩) (by assumption) ?_
      case hy =>
        intro w' hSw
        clear hSw
        first
          | (go_simp; done)
          | (go_simp; with_reducible rfl)
      simp only [Act.put, List.setIfInBounds_toArray, List.set_cons_zero, List.set_cons_succ]
      refine takeH 18 (some 85) (v := ?_) rfl (by kernel_rfl) (by kernel_rfl) (by kernel_rfl) (by kernel_rfl) (fun _ _ _ h => h) (Or.inl ⟨by kernel_rfl, ?hy⟩) (by assumption) ?_
      case hy =>
        intro w' hSw
        clear hSw
        first
          | (go_simp; done)
          | (go_simp; with_reducible rfl)
      simp only [Act.put, List.setIfInBounds_toArray, List.set_cons_zero, List.set_cons_succ]
      refine takeH 19 (some 86) (v := ?_) rfl (by kernel_rfl) (by kernel_rfl) (by kernel_rfl) (by kernel_rfl) (fun _ _ _ h => h) (Or.inl ⟨by kernel_rfl, ?hy⟩) (by assumption) ?_
      case hy =>
        intro w' hSw
        clear hSw
        first
          | (go_simp; done)
          | (go_simp; with_reducible rfl)
      simp only [Act.put, List.setIfInBounds_toArray, List.set_cons_zero, List.set_cons_succ]
      refine takeH 21 (some 88) (v := ?_) rfl (by kernel_rfl) (by kernel_rfl) (by kernel_rfl) (by kernel_rfl) (fun _ _ _ h => h) (Or.inl ⟨by kernel_rfl, ?hy⟩) (by assumption) ?_
      case hy =>
        intro w' hSw
        clear hSw
        first
          | (go_simp; done)
          | (go_simp; with_reducible rfl)
      simp only [Act.put, List.setIfInBounds_toArray, List.set_cons_zero, List.set_cons_succ]
      refine takeH 22 (some 89) (v := ?_) rfl (by kernel_rfl) (by kernel_rfl) (by kernel_rfl) (by kernel_rfl) (fun _ _ _ h => h) (Or.inl ⟨by kernel_rfl, ?hy⟩) (by assumption) ?_
      case hy =>
        intro w' hSw
        clear hSw
        first
          | (go_simp; done)
          | (go_simp; with_reducible rfl)
      simp only [Act.put, List.setIfInBounds_toArray, List.set_cons_zero, List.set_cons_succ]
      refine takeH 23 (some 90) (v := ?_) rfl (by kernel_rfl) (by kernel_rfl) (by kernel_rfl) (by kernel_rfl) (fun _ _ _ h => h) (Or.inl ⟨by kernel_rfl, ?hy⟩) (by assumption) ?_
      case hy =>
        intro w' hSw
        clear hSw
        first
          | (go_simp; done)
          | (go_simp; with_reducible rfl)
      simp only [Act.put, List.setIfInBounds_toArray, List.set_cons_zero, List.set_cons_succ]
      refine takeH 24 (some 91) (v := ?_) rfl (by kernel_rfl) (by kernel_rfl) (by kernel_rfl) (by kernel_rfl) (fun _ _ _ h => h) (Or.inl ⟨by kernel_rfl, ?hy⟩) (by assumption) ?_
      case hy =>
        intro w' hSw
        clear hSw
        first
          | (go_simp; done)
          | (go_simp; with_reducible rfl)
      simp only [Act.put, List.setIfInBounds_toArray, List.set_cons_zero, List.set_cons_succ]
      refine wpAnyH_ready (rs := [20]) (by kernel_rfl) (by simp) ?_
      refine AllReadyH.cons rfl (fun K hK => ?_) AllReadyH.nil
      rw [if_pos (by kernel_rfl)]
      go_simp
      refine (left_led (HA10.out.led.choose_spec.choose_spec.1) hq8 (by have := Hkq.out; simp [ringI]; omega)).mono ?_
      rintro e v11 ⟨rfl, hb11⟩
      rw [show ((2 ^ (ringI s q st (k + 1)).h - (ringI s q st (k + 1)).led.length : Nat) : Int) = ((N - (k + 1) : Nat) : Int) from by rw [HN.out]; simp [ringI]]
      have HSb2 := Lib.hid (HSb.out.trans (hb11.mono HSb.out.size)); have HA11 := Lib.hid (HA10.out.below hb11)
      clear hb11 hS1 HSb HA10
      refine hK.out _ _ HSb2.out (fun _ => ?_)
      clear hK K
      simp only [List.setIfInBounds_toArray, List.set_cons_zero, List.set_cons_succ]
      have hS1 := HSb2.out
      refine takeH 25 (some 92) (v := ?_) rfl (by kernel_rfl) (by kernel_rfl) (by kernel_rfl) (by kernel_rfl) (fun _ _ _ h => h) (Or.inl ⟨by kernel_rfl, ?hy⟩) (by assumption) ?_
      case hy =>
        intro w' hSw
        clear hSw
        first
          | (go_simp; done)
          | (go_simp; with_reducible rfl)
      simp only [Act.put, List.setIfInBounds_toArray, List.set_cons_zero, List.set_cons_succ]
      refine takeH 26 (some 93) (v := ?_) rfl (by kernel_rfl) (by kernel_rfl) (by kernel_rfl) (by kernel_rfl) (fun _ _ _ h => h) (Or.inl ⟨by kernel_rfl, ?hy⟩) (by assumption) ?_
      case hy =>
        intro w' hSw
        clear hSw
        first
          | (go_simp; done)
          | (go_simp; with_reducible rfl)
      simp only [Act.put, List.setIfInBounds_toArray, List.set_cons_zero, List.set_cons_succ]
      refine takeH 27 (some 94) (v := ?_) rfl (by kernel_rfl) (by kernel_rfl) (by kernel_rfl) (by kernel_rfl) (fun _ _ _ h => h) (Or.inl ⟨by kernel_rfl, ?hy⟩) (by assumption) ?_
      case hy =>
        intro w' hSw
        clear hSw
        first
          | (go_simp; done)
          | (go_simp; with_reducible rfl)
      simp only [Act.put, List.setIfInBounds_toArray, List.set_cons_zero, List.set_cons_succ]
      refine takeH 28 (some 95) (v := ?_) rfl (by kernel_rfl) (by kernel_rfl) (by kernel_rfl) (by kernel_rfl) (fun _ _ _ h => h) (Or.inl ⟨by kernel_rfl, ?hy⟩) (by assumption) ?_
      case hy =>
        intro w' hSw
        clear hSw
        first
          | (go_simp; done)
          | (go_simp; with_reducible rfl)
      simp only [Act.put, List.setIfInBounds_toArray, List.set_cons_zero, List.set_cons_succ]
      refine takeH 30 (some 97) (v := .agg #[.int .u8 (PB.x0 : Int), .int .u8 (PB.x1 : Int), .int .u8 (PB.x2 : Int), .int .u8 (PB.x3 : Int), .int .u8 (PB.x4 : Int), .int .u8 (PB.x5 : Int), .int .u8 (PB.x6 : Int), .int .u8 (PB.x7 : Int)]) rfl (by kernel_rfl) (by kernel_rfl) (by kernel_rfl) (by kernel_rfl) (fun _ _ _ h => h) (Or.inl ⟨by kernel_rfl, ?hy⟩) (by assumption) ?_
      case hy =>
        intro w' hSw
        simp [execOp, Act.eval, hPl w' hSw, Result.andThen]
      simp only [Act.put, List.setIfInBounds_toArray, List.set_cons_zero, List.set_cons_succ]
      refine wpAnyH_ready (rs := [29]) (by kernel_rfl) (by simp) ?_
      refine AllReadyH.cons rfl (fun K hK => ?_) AllReadyH.nil
      rw [if_pos (by kernel_rfl)]
      go_simp
      refine (rpublic_any HA11.out).mono ?_
      rintro e v12 ⟨rfl, hb12⟩
      rw [show rootD (keysD (ringI s q st (k + 1)).secret (ringI s q st (k + 1)).h) (ringI s q st (k + 1)).h = PB from HPB.out.symm]
      have HSb3 := Lib.hid (HSb2.out.trans (hb12.mono HSb2.out.size)); have HA12 := Lib.hid (HA11.out.below hb12)
      clear hb12 hS1 HSb2 HA11
      refine hK.out _ _ HSb3.out (fun _ => ?_)
      clear hK K
      simp only [List.setIfInBounds_toArray, List.set_cons_zero, List.set_cons_succ]
      have hS1 := HSb3.out
      refine takeH 31 (some 98) (v := .bool false) rfl (by kernel_rfl) (by kernel_rfl) (by kernel_rfl) (by kernel_rfl) (fun _ _ _ h => h) (Or.inl ⟨by kernel_rfl, fun w' _ => exec_binD (by rfl) (by rfl) (by rfl) (hGn _ _ w') (hEn w')⟩) (by assumption) ?_
      simp only [Act.put, List.setIfInBounds_toArray, List.set_cons_zero, List.set_cons_succ]
      refine takeH 32 (some 99) (v := ?_) rfl (by kernel_rfl) (by kernel_rfl) (by kernel_rfl) (by kernel_rfl) (fun _ _ _ h => h) (Or.inl ⟨by kernel_rfl, ?hy⟩) (by assumption) ?_
      case hy =>
        intro w' hSw
        clear hSw
        first
          | (go_simp; done)
          | (go_simp; with_reducible rfl)
      simp only [Act.put, List.setIfInBounds_toArray, List.set_cons_zero, List.set_cons_succ]
      refine wpAnyH_done (by kernel_rfl) ?_ _
      clear hPl hMl hGn hEn hS1
      have HP12 := Lib.hid (block_below HP9.out HSb3.out (block_lt HP9.out)); have Hw12 := Lib.hid (Hw9.out.trans (HSb3.out.mono Hw9.out.size))
      go_wp2
      go_roundw
      case rel => exact ⟨k + 1, _, Hk.out, by go_num, HA12.out, HP12.out, Hn8.out, Hw12.out⟩
      case measure => have := Hk.out; simp [RowKit.intOf]; omega
    · obtain rfl : k = N := by omega
      have hd1 : decide ((k : Int) < (k : Int)) = false := by simp
      have hrk : ringI s q st k = ringI s q st (2 ^ q) := by rw [HN.out]
      have Hsp : Hid ((ringI s q st k).sign (msgN st k) = (ringI s q st k, [], 17)) := by rw [HN.out]; exact Lib.hid (ringI_spent hq8)
      have Hrok : Hid ((ringI s q st k).ok) := Lib.hid (ringI_ok Hs.out hq8 (by rw [HN.out]; exact Nat.le_refl _))
      have Hll : Hid ((ringI s q st k).led.length = k) := Lib.hid (by simp [ringI])
      have hwk0 : IntKind.u64.wrap (k : Int) = (k : Int) := by rw [IntKind.wrap_u64]; omega
      have hwk : IntKind.u64.wrap ((st : Int) + (k : Int)) = (((st + k) % 18446744073709551616 : Nat) : Int) := by rw [IntKind.wrap_u64]; omega
      obtain ⟨m, hm⟩ : ∃ m, m = msgN st k := ⟨_, rfl⟩
      have Hmo : Hid m.ok := by rw [hm]; exact Lib.hid (msgN_ok _ _)
      rw [← hm] at Hsp
      have Hm := Lib.hid hm
      clear hm hrk hk
      generalize ringI s q st k = rk at *
      go_wp2_with fail
      refine (rclone_any HA.out).mono ?_
      rintro e v6 ⟨Fc, bc, mc, pc, rfl, hlc, hb6⟩
      have HA6 := Lib.hid (HA.out.below hb6); have HL6 := Lib.hid hlc; have Hw6 := Lib.hid (Hw.out.trans (hb6.mono Hw.out.size)); have Hfl := Lib.hid (fun g (hg : foot F' T0 T1 g) => (HA.out.foot_lt g hg))
      clear hlc hb6 HA Hw HP Hn
      generalize wr.heap.size = Bc at *
      go_wp2_with fail
      refine (hfrom_any ((st + k) % 18446744073709551616) v6 (Nat.mod_lt _ (by decide))).mono ?_
      rintro e v7 ⟨rfl, hb7⟩
      rw [show D8.of ((st + k) % 18446744073709551616) = m from Hm.out.symm]
      have HA7 := Lib.hid (HA6.out.below hb7); have HL7 := Lib.hid (HL6.out.below hb7); have Hw7 := Lib.hid (Hw6.out.trans (hb7.mono Hw6.out.size))
      clear hb7 HA6 HL6 Hw6
      go_wp2_with fail
      refine (rsign_any m HA7.out Hmo.out HA7.out.hB).mono ?_
      rintro e v8 ⟨M, A8, n8, c8, hm8, hm8', rfl, ho8, hn8, hc8, ha8⟩
      rw [Hsp.out] at ha8 hn8 ⊢
      obtain rfl : n8 = 0 := hn8
      have HL8 := Lib.hid (HL7.out.kept hc8.size (fun g hg => hc8.block g (HL7.out.fl g hg).2 (fun hf => by have := (Hfl.out g (.inl hf)).2; have := (HL7.out.fl g hg).1; omega)))
      have Hw8 := Lib.hid (Hw7.out.trans (hc8.below (fun g hg => Nat.le_trans Hw0s.out (Hfl.out g (.inl hg)).1) Hw7.out.size))
      have HA8 := Lib.hid ha8
      have Hkk := Lib.hid (And.intro Hrok.out.2.1 Hrok.out.2.2.2.2)
      have Hself := Lib.hid (sameR_self rk)
      clear ha8 ho8 hc8 hm8 hm8' HA7 HL7 Hw7 Hfl
      go_wp2_with fail
      refine (same_led (r := rk) (r' := rk) HA8.out.led.choose_spec.choose_spec.1 HL8.out Hkk.out Hkk.out).mono ?_
      rintro e v9 ⟨rfl, hb9⟩
      rw [Hself.out]
      have HA9 := Lib.hid (HA8.out.below hb9); have Hw9 := Lib.hid (Hw8.out.trans (hb9.mono Hw8.out.size))
      clear hb9 HA8 HL8 Hw8
      go_wp2_with fail
      refine (used_led HA9.out.led.choose_spec.choose_spec.1).mono ?_
      rintro e v10 ⟨rfl, hb10⟩
      rw [Hll.out]
      have Hw10 := Lib.hid (Hw9.out.trans (hb10.mono Hw9.out.size))
      clear hb10 HA9 Hw9
      go_wp2
      go_ret
      exact ⟨rfl, Hw10.out⟩
end Go.Proofs.YtmpklplojfjfbaaDoor
