/- The walk of the reference's Sign. Condition: bounds. -/
import Derived.Test.YtepdinfopcohiaaNoS
import Derived.Test.YtepdinfopcohiaaStepApp
namespace Go.Proofs.Ytepdinfopcohiaa
open Go.RowKit Go.Lib
theorem info_Nu : (Try.prog.info? 53).map (fun i => (i.zero, i.size, i.bytes)) = some (some (.agg #[.int .u64 0, .int .u64 0]), 2, 16) := by kernel_rfl
theorem own_weak {w : World} {b b' : Nat} {e : TypeId} {sz n : Nat} {v : Value} {xs : List Value} (h : w.ownsRow b e sz v n xs) (hb : b' ≤ b) : w.ownsRow b' e sz v n xs := by
  refine ⟨h.1, ?_⟩
  rcases h.2 with h1 | ⟨g, cap, cur, h1, h2, h3⟩
  · exact .inl h1
  · exact .inr ⟨g, cap, cur, h1, Nat.le_trans hb h2, h3⟩
theorem flatN_one (l : List Nu) : ∀ u ∈ flatN l, u.oneCell' = true := by
  intro u hu
  simp only [flatN, List.mem_flatMap] at hu
  obtain ⟨x, _, hx⟩ := hu
  simp [Nu.cells] at hx
  rcases hx with rfl | rfl <;> rfl
theorem rd_one {w : World} {g : Nat} {e : Nu} {t : TypeId} {fz : Nat × Nat} (h : w.heap[g]? = some (.cells #[.int .u64 (e.k : Int), .int .u64 (e.m : Int)] t fz)) : Rd w w.heap.size 2 (some ⟨g, 0, none⟩) 1 (flatN [e]) := by
  refine ⟨rfl, fun _ => ⟨g, 0, rfl, block_lt h, fun j u hu => ?_⟩⟩
  rw [block_cell h]
  simpa [flatN, Nu.cells] using hu
set_option maxRecDepth 100000 in
set_option maxHeartbeats 2000000 in
theorem signr_any (l : List Nu) (e : Nu) (A : Option Addr) (n c base : Nat) (w : World) (ho : w.ownsRow base 53 2 (.slice A n c) n (flatN l)) (hbase : base ≤ w.heap.size) (hn : n ≤ 1000000) :
    Calls Try.prog 21 #[.slice A n c, .agg #[.int .u64 (e.k : Int), .int .u64 (e.m : Int)]] w fun r w' => ∃ A' n' c', r = .returned (.tuple #[.slice A' n' c', .int .i64 ((signN l e).2 : Int)]) ∧ w'.ownsRow base 53 2 (.slice A' n' c') n' (flatN (signN l e).1) ∧ Below w.heap.size w w' := by
  have Ho := Lib.hid ho
  have hr := Rd.of_own ho
  have hb0 := below_one w (.cells #[.int .u64 (e.k : Int), .int .u64 (e.m : Int)] 53)
  have Hr := Lib.hid (Rd.of_own (own_below ho hb0))
  have Hl := Lib.hid hr.nlen
  have HE : Hid ((w.alloc (.cells #[.int .u64 (e.k : Int), .int .u64 (e.m : Int)] 53)).heap[w.heap.size]? = some (.cells #[.int .u64 (e.k : Int), .int .u64 (e.m : Int)] 53 (0, 0))) := heap_alloc_new w _
  have Hb0 := Lib.hid hb0
  clear hr ho hb0
  obtain ⟨i0, hi, hz0, hz1, hz2⟩ := info_parts info_Nu
  have HI := Lib.hid (And.intro hi (And.intro hz0 (And.intro hz1 hz2))); clear hi hz0 hz1 hz2
  go_enter Try.func21, Try.ntmps21
  go_wp2_with fail
  refine (findr_any l e A n c (w.alloc (.cells #[.int .u64 (e.k : Int), .int .u64 (e.m : Int)] 53)) Hr.out hn).mono ?_
  rintro r w1 ⟨rfl, hb1⟩
  have HE1 := Lib.hid (block_below HE.out hb1 (by simp))
  have Hb1 := Lib.hid (Hb0.out.trans (hb1.mono (by simp)))
  have HO1 := Lib.hid (own_below Ho.out Hb1.out)
  clear hb1
  cases hp : posN l e with
  | some i =>
    have Hf : Hid (findN l e = (i : Int)) := by show _ = _; unfold findN; rw [hp]
    have Hs : Hid (signN l e = (l, i)) := by show _ = _; unfold signN; rw [hp]
    have hd : decide ((0 : Int) ≤ (i : Int)) = true := decide_eq_true (by omega)
    rw [Hf.out]
    clear hp
    go_wp2
    go_ret2
    exact ⟨A, n, c, by rw [Hs.out]; rfl, by rw [Hs.out]; exact HO1.out, Hb1.out⟩
  | none =>
    have Hf : Hid (findN l e = -1) := by show _ = _; unfold findN; rw [hp]
    have Hs : Hid (signN l e = (l ++ [e], l.length)) := by show _ = _; unfold signN; rw [hp]
    have hd : decide ((0 : Int) ≤ findN l e) = false := by rw [Hf.out]; rfl
    generalize findN l e = q at *
    clear hp
    have z0 := block_cell HE1.out 0; have z1 := block_cell HE1.out 1
    simp at z0 z1
    have hlt := block_lt HE1.out
    have HOd : Hid (w1.drew.ownsRow base 53 2 (.slice A n c) n (flatN l)) := own_below HO1.out (Below.refl _ _).drew
    have own0 : ∀ (u : World) (B : Nat), B ≤ u.heap.size → (u.alloc (.cells #[] 53)).ownsRow B 53 2 (.slice (some ⟨u.heap.size, 0, none⟩) 0 0) 0 [] := fun u B hB => ⟨rfl, .inr ⟨u.heap.size, 0, #[], rfl, hB, heap_alloc_new u _, by omega, by omega, rfl, rfl⟩⟩
    have HOa : Hid ((w1.drew.alloc (.cells #[] 53)).ownsRow w1.heap.size 53 2 (.slice (some ⟨w1.heap.size, 0, none⟩) 0 0) 0 []) := own0 w1.drew _ (Nat.le_refl _)
    have HRa : Hid (Rd (w1.drew.alloc (.cells #[] 53)) (w1.drew.alloc (.cells #[] 53)).heap.size 2 A n (flatN l)) := Rd.of_own (HOd.out.alloc _)
    have HOb : Hid (((w1.drew.alloc (.cells #[] 53)).alloc (.cells #[.int .u64 (e.k : Int), .int .u64 (e.m : Int)] 53)).ownsRow w1.heap.size 53 2 (.slice (some ⟨w1.heap.size, 0, none⟩) 0 0) 0 []) := HOa.out.alloc _
    have HRb : Hid (Rd ((w1.drew.alloc (.cells #[] 53)).alloc (.cells #[.int .u64 (e.k : Int), .int .u64 (e.m : Int)] 53)) ((w1.drew.alloc (.cells #[] 53)).alloc (.cells #[.int .u64 (e.k : Int), .int .u64 (e.m : Int)] 53)).heap.size 2 A n (flatN l)) := Rd.of_own ((HOd.out.alloc _).alloc _)
    have HOc : Hid (((w1.drew.alloc (.cells #[.int .u64 (e.k : Int), .int .u64 (e.m : Int)] 53)).alloc (.cells #[] 53)).ownsRow w1.heap.size 53 2 (.slice (some ⟨w1.heap.size + 1, 0, none⟩) 0 0) 0 []) := by
      have := own0 (w1.drew.alloc (.cells #[.int .u64 (e.k : Int), .int .u64 (e.m : Int)] 53)) w1.heap.size (by simp)
      show World.ownsRow _ _ _ _ _ _ _
      simpa using this
    have HRc : Hid (Rd ((w1.drew.alloc (.cells #[.int .u64 (e.k : Int), .int .u64 (e.m : Int)] 53)).alloc (.cells #[] 53)) ((w1.drew.alloc (.cells #[.int .u64 (e.k : Int), .int .u64 (e.m : Int)] 53)).alloc (.cells #[] 53)).heap.size 2 A n (flatN l)) := Rd.of_own ((HOd.out.alloc _).alloc _)
    have HSb : Hid (((w1.drew.alloc (.cells #[] 53)).alloc (.cells #[.int .u64 (e.k : Int), .int .u64 (e.m : Int)] 53)).heap[w1.heap.size + 1]? = some (.cells #[.int .u64 (e.k : Int), .int .u64 (e.m : Int)] 53 (0, 0))) := by
      have := heap_alloc_new (w1.drew.alloc (.cells #[] 53)) (.cells #[.int .u64 (e.k : Int), .int .u64 (e.m : Int)] 53)
      show _ = _
      simpa using this
    have HSc : Hid (((w1.drew.alloc (.cells #[.int .u64 (e.k : Int), .int .u64 (e.m : Int)] 53)).alloc (.cells #[] 53)).heap[w1.heap.size]? = some (.cells #[.int .u64 (e.k : Int), .int .u64 (e.m : Int)] 53 (0, 0))) := block_alloc (heap_alloc_new w1.drew _) _
    have hk1 : w.heap.size ≤ w1.heap.size := Hb1.out.size
    have Hba : Hid (Below w1.heap.size w1 (w1.drew.alloc (.cells #[] 53))) := (Below.refl _ _).drew.alloc (Nat.le_refl _) (.cells #[] 53)
    have Hbb : Hid (Below w1.heap.size w1 ((w1.drew.alloc (.cells #[] 53)).alloc (.cells #[.int .u64 (e.k : Int), .int .u64 (e.m : Int)] 53))) := ((Below.refl _ _).drew.alloc (Nat.le_refl _) (.cells #[] 53)).alloc (by simp) (.cells #[.int .u64 (e.k : Int), .int .u64 (e.m : Int)] 53)
    have Hbc : Hid (Below w1.heap.size w1 ((w1.drew.alloc (.cells #[.int .u64 (e.k : Int), .int .u64 (e.m : Int)] 53)).alloc (.cells #[] 53))) := ((Below.refl _ _).drew.alloc (Nat.le_refl _) (.cells #[.int .u64 (e.k : Int), .int .u64 (e.m : Int)] 53)).alloc (by simp) (.cells #[] 53)
    have hl1 := flatN_one l
    have hl2 := flatN_one [e]
    have Hu := Lib.hid Try.underlying25
    clear own0
    go_wp2
    go_region_law (first
      | (refine step_append_rdg (w1.drew.alloc (.cells #[] 53)) (by rfl) (.tmp 14) (.tmp 15) 25 (by rfl) w1.heap.size 53 i0 (.agg #[.int .u64 0, .int .u64 0]) 2 16 Hu.out HI.out rfl (by decide) _ _ _ (by rfl) HOa.out _ A n c _ (by rfl) HRa.out hl1 (by omega) (by omega) (by first | (simp; done) | (simp; omega)) ?_; go_must (intro v4 w4 ho4 hb4 hg4; obtain ⟨A4, c4, rfl⟩ := own_form ho4; simp only [Nat.zero_add, List.nil_append] at ho4; have HO4 := Lib.hid ho4; have hd4 := Hba.out.trans hb4; have HD4 := Lib.hid hd4; have hs4 := hd4.size; have hE4 := block_below HE1.out hd4 hlt; have y0 := block_cell hE4 0; have y1 := block_cell hE4 1; simp at y0 y1; clear hE4 hd4); clear z0 z1)
      | (refine step_append_rdg ((w1.drew.alloc (.cells #[] 53)).alloc (.cells #[.int .u64 (e.k : Int), .int .u64 (e.m : Int)] 53)) (by rfl) (.tmp 14) (.tmp 15) 25 (by rfl) w1.heap.size 53 i0 (.agg #[.int .u64 0, .int .u64 0]) 2 16 Hu.out HI.out rfl (by decide) _ _ _ (by rfl) HOb.out _ A n c _ (by rfl) HRb.out hl1 (by omega) (by omega) (by first | (simp; done) | (simp; omega)) ?_; go_must (intro v4 w4 ho4 hb4 hg4; obtain ⟨A4, c4, rfl⟩ := own_form ho4; simp only [Nat.zero_add, List.nil_append] at ho4; have HO4 := Lib.hid ho4; have hd4 := Hbb.out.trans hb4; have HD4 := Lib.hid hd4; have hs4 := hd4.size; have hE4 := block_below HE1.out hd4 hlt; have y0 := block_cell hE4 0; have y1 := block_cell hE4 1; simp at y0 y1; clear hE4 hd4); have HS4 := Lib.hid (block_grown HSb.out hg4 (by simp [Value.ownBlock])); clear z0 z1)
      | (refine step_append_rdg ((w1.drew.alloc (.cells #[.int .u64 (e.k : Int), .int .u64 (e.m : Int)] 53)).alloc (.cells #[] 53)) (by rfl) (.tmp 14) (.tmp 15) 25 (by rfl) w1.heap.size 53 i0 (.agg #[.int .u64 0, .int .u64 0]) 2 16 Hu.out HI.out rfl (by decide) _ _ _ (by rfl) HOc.out _ A n c _ (by rfl) HRc.out hl1 (by omega) (by omega) (by first | (simp; done) | (simp; omega)) ?_; go_must (intro v4 w4 ho4 hb4 hg4; obtain ⟨A4, c4, rfl⟩ := own_form ho4; simp only [Nat.zero_add, List.nil_append] at ho4; have HO4 := Lib.hid ho4; have hd4 := Hbc.out.trans hb4; have HD4 := Lib.hid hd4; have hs4 := hd4.size; have hE4 := block_below HE1.out hd4 hlt; have y0 := block_cell hE4 0; have y1 := block_cell hE4 1; simp at y0 y1; clear hE4 hd4); have HS4 := Lib.hid (block_grown HSc.out hg4 (by simp [Value.ownBlock])); clear z0 z1)
      | (refine step_append_rdg (w4.alloc (.cells #[.int .u64 (e.k : Int), .int .u64 (e.m : Int)] 53)) (by rfl) (.tmp 16) (.tmp 18) 25 (by rfl) w1.heap.size 53 i0 (.agg #[.int .u64 0, .int .u64 0]) 2 16 Hu.out HI.out rfl (by decide) _ _ _ (by rfl) (HO4.out.alloc _) (w4.alloc (.cells #[.int .u64 (e.k : Int), .int .u64 (e.m : Int)] 53)).heap.size (some ⟨w4.heap.size, 0, none⟩) 1 1 (flatN [e]) (by rfl) (rd_one (heap_alloc_new w4 _)) hl2 (by omega) (by omega) (by simp; omega) ?_; go_must (intro v5 w5 ho5 hb5 hg5; obtain ⟨A5, c5, rfl⟩ := own_form ho5; have HO5 := Lib.hid ho5; have HD5 := Lib.hid ((HD4.out.alloc hs4 _).trans hb5); clear ho5 hb5 hg5))
      | (refine step_append_rdg w4 (by rfl) (.tmp 16) (.tmp 18) 25 (by rfl) w1.heap.size 53 i0 (.agg #[.int .u64 0, .int .u64 0]) 2 16 Hu.out HI.out rfl (by decide) _ _ _ (by rfl) HO4.out w4.heap.size _ 1 1 (flatN [e]) (by rfl) (rd_one HS4.out) hl2 (by omega) (by omega) hs4 ?_; go_must (intro v5 w5 ho5 hb5 hg5; obtain ⟨A5, c5, rfl⟩ := own_form ho5; have HO5 := Lib.hid ho5; have HD5 := Lib.hid (HD4.out.trans hb5); clear ho5 hb5 hg5)))
    all_goals
      go_wp2
      go_ret2
      refine ⟨A5, n + 1, c5, by rw [Hs.out]; simp only; rw [Hl.out]; rfl, ?_, Hb1.out.trans ((HD5.out.mono hk1))⟩
      rw [Hs.out, flatN_append]
      exact own_weak HO5.out (by omega)
end Go.Proofs.Ytepdinfopcohiaa
