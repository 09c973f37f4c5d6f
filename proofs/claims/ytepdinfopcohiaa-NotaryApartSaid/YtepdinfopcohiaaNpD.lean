/- The walk of Gather, by signers of one book. Conditions: room in the book. -/
import Derived.Test.YtepdinfopcohiaaNpB
namespace Go.Proofs.Ytepdinfopcohiaa
open Go.RowKit Go.Lib


theorem own_blk {w : World} {C n : Nat} {v : Value} {s : List Nat} (h : w.ownsRow C 5 1 v n (bvN s)) (hs : s ≠ []) : BytesBlk w C v s := by
  have hn : s.length = n := by have := h.1; simp [bvN] at this; omega
  rcases h.2 with ⟨_, h1⟩ | ⟨g, cap, cur, rfl, h1, h2, h3, h4, h5, h6⟩
  · exact absurd (List.eq_nil_of_length_eq_zero (by omega)) hs
  · subst hn
    refine ⟨g, cap, cur, (0, 0), rfl, h1, h2, fun j u hu => ?_⟩
    have hj : j < s.length := by
      have := (List.getElem?_eq_some_iff.1 hu).1
      simpa [bvN] using this
    rw [← h6] at hu
    rw [List.getElem?_take] at hu
    split at hu
    · simpa using hu
    · simp at hu
set_option maxRecDepth 100000 in
set_option maxHeartbeats 2000000 in
theorem bclone_own (s : List Nat) (a : Addr) (n c : Nat) (w : World) (hr : Rd w w.heap.size 1 (some a) n (bvN s)) (hn : n ≤ 1000000) :
    Calls Try.prog 32 #[.slice (some a) n c] w fun r w' => ∃ A' c', r = .returned (.slice A' n c') ∧ w'.ownsRow w.heap.size 5 1 (.slice A' n c') n (bvN s) ∧ Below w.heap.size w w' := by
  obtain ⟨i0, hi, hz0, hz1, hz2⟩ := info_parts info_u8
  have HI := Lib.hid (And.intro hi (And.intro hz0 (And.intro hz1 hz2))); clear hi hz0 hz1 hz2
  have HO : Hid ((w.alloc (.cells #[] 5)).ownsRow w.heap.size 5 1 (.slice (some ⟨w.heap.size, 0, none⟩) 0 0) 0 []) := own_empty w _ _ _ (Nat.le_refl _)
  have Hr := Lib.hid ((hr.alloc (Nat.le_refl _) (.cells #[] 5)).more (B' := (w.alloc (.cells #[] 5)).heap.size) (by simp))
  have h1 := bvN_one s
  have Hu := Lib.hid Try.underlying37
  clear hr
  have heq : ∀ w : World, (binOp .eql 37 (.slice (some a) n c) (.slice none 0 0)).run Try.prog w = .ok (.bool false) w := fun w => run_eql_slice_nil w _ _ (some a) n c 0 0 Try.underlying37
  go_enter Try.func32, Try.ntmps32
  go_wp2_with (at_builtin; go_must (refine wpList_append_rd (w.alloc (.cells #[] 5)) (by rfl) _ _ 37 (by rfl) w.heap.size 5 i0 (.int .u8 0) 1 1 Hu.out HI.out rfl (by decide) _ _ _ (by rfl) HO.out (w.alloc (.cells #[] 5)).heap.size (some a) n c _ (by rfl) Hr.out h1 (by omega) (by omega) (by simp) ?_); intro v4 w4 ho4 hb4; obtain ⟨A4, c4, rfl⟩ := own_form ho4; simp only [Nat.zero_add, List.nil_append] at ho4; have HO4 := Lib.hid ho4; have Hb4 := Lib.hid ((below_one w (.cells #[] 5)).trans (hb4.mono (Nat.le_refl _))); clear ho4 hb4)
  go_ret
  exact ⟨A4, c4, by simp, HO4.out, Hb4.out⟩
theorem BookAt.gt {w w' : World} {C B bk mb : Nat} {e : TypeId} {L : List En} (h : BookAt w B bk mb L) (hg : GT C e w w') (h1 : 86 ≠ e) (h2 : 84 ≠ e) : BookAt w' B bk mb L := by
  obtain ⟨A, n, c, hb, ho⟩ := h.book
  have hs : w.heap.size ≤ w'.heap.size := by obtain ⟨row, a, _⟩ := hg; exact a.size
  refine ⟨⟨A, n, c, hg.blk hb h2, hg.own ho h1⟩, ?_, h.lb, h.lm, Nat.le_trans h.hB hs, h.nodup, h.ok⟩
  obtain ⟨row, a, b⟩ := hg
  refine h.places.same (a.block mb h.places.lt (fun hr => ?_))
  obtain ⟨_, cs, fz, h3⟩ := b mb hr.symm
  obtain ⟨es, cl, h4, _⟩ := h.places
  rw [h3] at h4
  simp at h4
theorem Kept.low_trans {w w1 w2 : World} {bk mb : Nat} (h : Kept w w1 bk mb) (hb : Below w.heap.size w1 w2) (hbl : bk < w.heap.size) : Kept w w2 bk mb :=
  ⟨hb.os.trans h.os, hb.tape.trans h.tape, hb.output.trans h.output, Nat.le_trans h.size hb.size, fun k h1 h2 => (hb.block k (Nat.lt_of_lt_of_le h1 (Nat.le_of_lt hbl))).trans (h.low k h1 h2), fun k cs t fz a b c => (hb.block k (block_lt a)).trans (h.typed k cs t fz a b c), fun k es cl a b c => (hb.block k (block_lt a)).trans (h.maps k es cl a b c)⟩
/-- A book behind a message's signatures by the first k keys. -/
def gatB (L : List En) (m : D8) (ks : List D8) : List En := ks.foldl (fun X k => (signE X ⟨k, m⟩).1) L
def gatS (L : List En) (m : D8) (ks : List D8) (j : Nat) : List Nat := sigL (signE (gatB L m (ks.take j)) ⟨ks.getD j ⟨0, 0, 0, 0, 0, 0, 0, 0⟩, m⟩).2
def gatSs (L : List En) (m : D8) (ks : List D8) (k : Nat) : List (List Nat) := (List.range k).map (gatS L m ks)
theorem gatSs_snoc (L : List En) (m : D8) (ks : List D8) (k : Nat) : gatSs L m ks (k + 1) = gatSs L m ks k ++ [gatS L m ks k] := by simp [gatSs, List.range_succ]
theorem gatB_snoc (L : List En) (m : D8) (ks : List D8) {k : Nat} (hk : k < ks.length) : gatB L m (ks.take (k + 1)) = (signE (gatB L m (ks.take k)) ⟨ks.getD k ⟨0, 0, 0, 0, 0, 0, 0, 0⟩, m⟩).1 := by
  unfold gatB
  rw [List.take_succ_eq_append_getElem hk, List.foldl_append, List.getD_eq_getElem?_getD, List.getElem?_eq_getElem hk]
  rfl
theorem signE_len (L : List En) (e : En) : (signE L e).1.length ≤ L.length + 1 ∧ (signE L e).2 ≤ L.length := by
  unfold signE
  cases h : posE L e with
  | some i => exact ⟨by simp, by have := posE_lt h; simp only; omega⟩
  | none => simp
theorem gatB_len (L : List En) (m : D8) (ks : List D8) : ∀ k, k ≤ ks.length → (gatB L m (ks.take k)).length ≤ L.length + k := by
  intro k
  induction k with
  | zero => intro _; simp [gatB]
  | succ k ih =>
    intro hk
    rw [gatB_snoc L m ks (by omega)]
    have := (signE_len (gatB L m (ks.take k)) ⟨ks.getD k ⟨0, 0, 0, 0, 0, 0, 0, 0⟩, m⟩).1
    have := ih (by omega)
    omega
def wvs (bk : Nat) (ks : List D8) : List Value := ks.map fun k => .iface 79 (.agg #[.pointer (some ⟨bk, 0, none⟩), .int .u8 (k.x0 : Int), .int .u8 (k.x1 : Int), .int .u8 (k.x2 : Int), .int .u8 (k.x3 : Int), .int .u8 (k.x4 : Int), .int .u8 (k.x5 : Int), .int .u8 (k.x6 : Int), .int .u8 (k.x7 : Int)])
theorem Rd.wlen {w : World} {B n bk : Nat} {A : Option Addr} {l : List D8} (h : Rd w B 1 A n (wvs bk l)) : l.length = n := by have := h.1; simp [wvs] at this; omega
theorem Rd.wv {w : World} {B n k bk : Nat} {A : Option Addr} {l : List D8} (h : Rd w B 1 A n (wvs bk l)) (hk : k < n) : ∃ b o, A = some ⟨b, o, none⟩ ∧ b < B ∧ w.cell? ⟨b, o + k, none⟩ = some (.iface 79 (.agg #[.pointer (some ⟨bk, 0, none⟩), .int .u8 ((l.getD k ⟨0, 0, 0, 0, 0, 0, 0, 0⟩).x0 : Int), .int .u8 ((l.getD k ⟨0, 0, 0, 0, 0, 0, 0, 0⟩).x1 : Int), .int .u8 ((l.getD k ⟨0, 0, 0, 0, 0, 0, 0, 0⟩).x2 : Int), .int .u8 ((l.getD k ⟨0, 0, 0, 0, 0, 0, 0, 0⟩).x3 : Int), .int .u8 ((l.getD k ⟨0, 0, 0, 0, 0, 0, 0, 0⟩).x4 : Int), .int .u8 ((l.getD k ⟨0, 0, 0, 0, 0, 0, 0, 0⟩).x5 : Int), .int .u8 ((l.getD k ⟨0, 0, 0, 0, 0, 0, 0, 0⟩).x6 : Int), .int .u8 ((l.getD k ⟨0, 0, 0, 0, 0, 0, 0, 0⟩).x7 : Int)])) := by
  have hl := h.wlen
  obtain ⟨b, o, e, hb, hc⟩ := h.2 (by omega)
  refine ⟨b, o, e, hb, hc k _ ?_⟩
  have hkl : k < l.length := by omega
  simp [wvs, hkl, List.getD_eq_getElem?_getD]
theorem BytesBlk.weak {w : World} {C C' : Nat} {v : Value} {s : List Nat} (h : BytesBlk w C v s) (hC : C' ≤ C) : BytesBlk w C' v s := by
  obtain ⟨g, c, cs, fz, h1, h2, h3, h4⟩ := h
  exact ⟨g, c, cs, fz, h1, by omega, h3, h4⟩
theorem SigOwn.book {w w' : World} {C n bk mb : Nat} {v : Value} {ss : List (List Nat)} (h : SigOwn w C v n ss) (hk : Kept w w' bk mb) (hb : ∃ cs, w.heap[bk]? = some (.cells cs 84 (0, 0))) : SigOwn w' C v n ss := by
  obtain ⟨vs, ho, hl, hv⟩ := h
  obtain ⟨cb, hb⟩ := hb
  refine ⟨vs, hk.own ho (by decide) (fun cs e => ?_), hl, fun k hk1 => ?_⟩
  · rw [hb] at e
    injection e with e
    injection e with _ e
    exact absurd e (by decide)
  · obtain ⟨g, c, cs, fz, h1, h2, h3, h4⟩ := hv k hk1
    refine ⟨g, c, cs, fz, h1, h2, hk.typed g cs _ fz h3 (by decide) ?_, h4⟩
    rintro rfl
    rw [hb] at h3
    injection h3 with e
    injection e with _ e
    exact absurd e (by decide)
theorem BookAt.bk {w : World} {B bk mb : Nat} {L : List En} (h : BookAt w B bk mb L) : ∃ cs, w.heap[bk]? = some (.cells cs 84 (0, 0)) := by
  obtain ⟨A, n, c, h1, _⟩ := h.book
  exact ⟨_, h1⟩
theorem Kept.ownS {w w' : World} {bk mb base sz n : Nat} {v : Value} {xs : List Value} (h : Kept w w' bk mb) (hb : ∃ cs, w.heap[bk]? = some (.cells cs 84 (0, 0))) (ho : w.ownsRow base 29 sz v n xs) : w'.ownsRow base 29 sz v n xs := by
  obtain ⟨cb, hb⟩ := hb
  refine h.own ho (by decide) (fun cs e => ?_)
  rw [hb] at e
  injection e with e
  injection e with _ e
  exact absurd e (by decide)
theorem getD_memD {l : List D8} {k : Nat} (h : k < l.length) : l.getD k ⟨0, 0, 0, 0, 0, 0, 0, 0⟩ ∈ l := by
  rw [List.getD_eq_getElem?_getD, List.getElem?_eq_getElem h]; exact List.getElem_mem h
theorem info_bytes : (Try.prog.info? 37).map (fun i => (i.zero, i.size, i.bytes)) = some (some (.slice none 0 0), 1, 24) := by kernel_rfl
set_option maxRecDepth 100000 in
set_option maxHeartbeats 4000000 in
theorem gather_any (B bk mb : Nat) (L : List En) (ks : List D8) (m : D8) (As : Option Addr) (ns cs base : Nat) (w : World) (h : BookAt w B bk mb L) (hlen : L.length + ns < 60000) (hs : w.ownsRow base 29 1 (.slice As ns cs) ns (wvs bk ks)) (hks : ∀ k ∈ ks, k.ok) (hm : m.ok) :
    Calls Try.prog 28 #[.agg #[.int .u8 (m.x0 : Int), .int .u8 (m.x1 : Int), .int .u8 (m.x2 : Int), .int .u8 (m.x3 : Int), .int .u8 (m.x4 : Int), .int .u8 (m.x5 : Int), .int .u8 (m.x6 : Int), .int .u8 (m.x7 : Int)], .slice As ns cs] w fun r w' => ∃ A' c', r = .returned (.tuple #[.slice A' ns c', .int .i64 0]) ∧ SigOwn w' w.heap.size (.slice A' ns c') ns (gatSs L m ks ns) ∧ BookAt w' B bk mb (gatB L m ks) ∧ Kept w w' bk mb := by
  have hna := fun k => nil_sign bk k
  have hme := fun k => meth_sign bk k
  rw [types_many] at hna hme
  obtain ⟨i0, hi, hz0, hz1, hz2⟩ := info_parts info_bytes
  have HI := Lib.hid (And.intro hi (And.intro hz0 (And.intro hz1 hz2))); clear hi hz0 hz1 hz2
  have Hu := Lib.hid Try.underlying65
  have Hls := Lib.hid (Rd.of_own hs).wlen
  have HBk0 : Hid (∃ cs, w.heap[bk]? = some (.cells cs 84 (0, 0))) := by
    obtain ⟨A, n, c, h1, _⟩ := h.book
    exact ⟨_, h1⟩
  have hb0 := below_one w (.cells #[.int .u8 (m.x0 : Int), .int .u8 (m.x1 : Int), .int .u8 (m.x2 : Int), .int .u8 (m.x3 : Int), .int .u8 (m.x4 : Int), .int .u8 (m.x5 : Int), .int .u8 (m.x6 : Int), .int .u8 (m.x7 : Int)] 32)
  have HM0 : Hid ((w.alloc (.cells #[.int .u8 (m.x0 : Int), .int .u8 (m.x1 : Int), .int .u8 (m.x2 : Int), .int .u8 (m.x3 : Int), .int .u8 (m.x4 : Int), .int .u8 (m.x5 : Int), .int .u8 (m.x6 : Int), .int .u8 (m.x7 : Int)] 32)).heap[w.heap.size]? = some (.cells #[.int .u8 (m.x0 : Int), .int .u8 (m.x1 : Int), .int .u8 (m.x2 : Int), .int .u8 (m.x3 : Int), .int .u8 (m.x4 : Int), .int .u8 (m.x5 : Int), .int .u8 (m.x6 : Int), .int .u8 (m.x7 : Int)] 32 (0, 0))) := heap_alloc_new w _
  have HB0 := Lib.hid (h.below hb0)
  have hbl : bk < w.heap.size := Nat.lt_of_lt_of_le h.lb h.hB
  have hml := h.places.lt
  have HK0 := Lib.hid (Kept.of_below hb0 hbl hml)
  have Hs := Lib.hid hs; have Hks := Lib.hid hks; have Hm := Lib.hid hm
  have Hz0 : Hid ((w.alloc (.cells #[.int .u8 (m.x0 : Int), .int .u8 (m.x1 : Int), .int .u8 (m.x2 : Int), .int .u8 (m.x3 : Int), .int .u8 (m.x4 : Int), .int .u8 (m.x5 : Int), .int .u8 (m.x6 : Int), .int .u8 (m.x7 : Int)] 32)).heap.size = w.heap.size + 1) := Lib.hid (by simp)
  have HBz := Lib.hid h.hB; have HBl := Lib.hid h.lb
  clear h hs hks hm hb0
  go_enter Try.func28, Try.ntmps28
  go_wp2_with (at_make; go_must (refine wpList_make_own (w.alloc (.cells #[.int .u8 (m.x0 : Int), .int .u8 (m.x1 : Int), .int .u8 (m.x2 : Int), .int .u8 (m.x3 : Int), .int .u8 (m.x4 : Int), .int .u8 (m.x5 : Int), .int .u8 (m.x6 : Int), .int .u8 (m.x7 : Int)] 32)) (by rfl) _ _ 65 (by rfl) (w.heap.size + 1) 37 i0 (.slice none 0 0) 1 Hu.out HI.out.1 HI.out.2.1 HI.out.2.2.1 .i64 .i64 _ ns (by rfl) (by rfl) (by simp) (by rw [HI.out.2.2.2]; omega) (by simp only [maxLen]; omega) (by simp) ?_); intro w1 ho1 hg1; have HO1 : Hid (SigOwn w1 w.heap.size (.slice (some ⟨(w.alloc (.cells #[.int .u8 (m.x0 : Int), .int .u8 (m.x1 : Int), .int .u8 (m.x2 : Int), .int .u8 (m.x3 : Int), .int .u8 (m.x4 : Int), .int .u8 (m.x5 : Int), .int .u8 (m.x6 : Int), .int .u8 (m.x7 : Int)] 32)).heap.size, 0, none⟩) 0 ns) 0 []) := (⟨[], own_weak ho1 (by omega), rfl, fun k hk => absurd hk (by omega)⟩); have hbg : Below (w.alloc (.cells #[.int .u8 (m.x0 : Int), .int .u8 (m.x1 : Int), .int .u8 (m.x2 : Int), .int .u8 (m.x3 : Int), .int .u8 (m.x4 : Int), .int .u8 (m.x5 : Int), .int .u8 (m.x6 : Int), .int .u8 (m.x7 : Int)] 32)).heap.size (w.alloc (.cells #[.int .u8 (m.x0 : Int), .int .u8 (m.x1 : Int), .int .u8 (m.x2 : Int), .int .u8 (m.x3 : Int), .int .u8 (m.x4 : Int), .int .u8 (m.x5 : Int), .int .u8 (m.x6 : Int), .int .u8 (m.x7 : Int)] 32)) w1 := (below_of_grown hg1 (Nat.le_refl _) (fun k hk => by cases hk)); have HM1 := Lib.hid (block_below HM0.out hbg (by rw [Hz0.out]; omega)); have HB1 := Lib.hid (HB0.out.below hbg); have HK1 := Lib.hid (HK0.out.low_trans (hbg.mono (by rw [Hz0.out]; omega)) hbl); clear ho1 hg1 hbg)
  rw [Hz0.out] at HO1
  go_loopw [6, 16] (fun v6 i wr => ∃ k : Nat, k ≤ ns ∧ i = .int .i64 (k : Int) ∧ Hid (SigOwn wr w.heap.size v6 k (gatSs L m ks k)) ∧ Hid (BookAt wr B bk mb (gatB L m (ks.take k))) ∧ Hid (Kept w wr bk mb) ∧ Hid (wr.heap[w.heap.size]? = some (.cells #[.int .u8 (m.x0 : Int), .int .u8 (m.x1 : Int), .int .u8 (m.x2 : Int), .int .u8 (m.x3 : Int), .int .u8 (m.x4 : Int), .int .u8 (m.x5 : Int), .int .u8 (m.x6 : Int), .int .u8 (m.x7 : Int)] 32 (0, 0)))) (fun _ i _ => ns - (Lib.intOf i).toNat)
  case atStart => exact ⟨0, Nat.zero_le _, rfl, HO1, HB1, HK1, HM1⟩
  case round =>
    obtain ⟨k, hk, rfl, HS, HB, HK, HM⟩ := hrel
    obtain ⟨A6, c6, rfl⟩ := HS.out.form
    have HOs := Lib.hid (HK.out.ownS HBk0.out Hs.out)
    have hsz := HK.out.size
    by_cases hlt : k < ns
    · obtain ⟨b, o, rfl, hbB, x0⟩ := (Rd.of_own HOs.out).wv hlt
      have hkl : k < ks.length := by have := Hls.out; omega
      have hko := Hks.out _ (getD_memD hkl)
      have Hgs := Lib.hid (gatSs_snoc L m ks k)
      have Hgb := Lib.hid (gatB_snoc L m ks hkl)
      have Hgl := Lib.hid (gatB_len L m ks k (by omega))
      have Hat : Hid (gatS L m ks k = sigL (signE (gatB L m (ks.take k)) ⟨ks.getD k ⟨0, 0, 0, 0, 0, 0, 0, 0⟩, m⟩).2) := rfl
      generalize gatSs L m ks k = sk at *
      generalize gatS L m ks k = sg at *
      generalize gatB L m (ks.take k) = Lk at *
      generalize ks.getD k ⟨0, 0, 0, 0, 0, 0, 0, 0⟩ = d at *
      have Hko := Lib.hid hko
      have x := block_cell HM.out
      have y0 := x 0; have y1 := x 1; have y2 := x 2; have y3 := x 3; have y4 := x 4; have y5 := x 5; have y6 := x 6; have y7 := x 7
      simp at y0 y1 y2 y3 y4 y5 y6 y7
      have hd1 : decide ((k : Int) < (ns : Int)) = true := decide_eq_true (by omega)
      have hi0 : (0 : Int) ≤ (k : Int) := by omega
      have hki : (k : Int) < (ns : Int) := by omega
      clear x hko
      go_wp2_with fail
      refine (wsign_any B bk mb Lk d m wr HB.out Hko.out Hm.out (by have := Hgl.out; omega)).mono ?_
      rintro r w2 ⟨g, rfl, h81, h82, h83, h84⟩
      have hb2 := HB.out.bk
      have HS2 := Lib.hid (HS.out.book h84 hb2); have HB2 := Lib.hid h83; have HK2 := Lib.hid (HK.out.trans h84); have Hsig := Lib.hid h82
      have HM2 := Lib.hid (h84.typed _ _ _ _ HM.out (by decide) (by omega))
      clear h81 h82 h83 h84 hb2 HS HB HK HM x0 y0 y1 y2 y3 y4 y5 y6 y7 hsz
      go_wp2_with fail
      refine (bclone_own (sigL (signE Lk ⟨d, m⟩).2) ⟨g, 0, none⟩ 2 2 w2 (sig_rd Hsig.out) (by omega)).mono ?_
      rintro r w3 ⟨A7, c7, rfl, ho, hb⟩
      have hz2 := HK2.out.size
      have hba := hb.alloc hb.size (.cells #[.slice A7 2 c7] 37)
      have HU : Hid (BytesBlk (w3.alloc (.cells #[.slice A7 2 c7] 37)) w.heap.size (.slice A7 2 c7) (sigL (signE Lk ⟨d, m⟩).2)) := ((own_blk ho (by simp [sigL])).weak hz2).below (below_one _ _)
      obtain ⟨vs, hov, hlv, hkv⟩ := HS2.out
      have hvl : vs.length = k := by have := hov.1; omega
      have HOVa := Lib.hid (own_below hov hba)
      have HKa : Hid (∀ j, j < k → BytesBlk (w3.alloc (.cells #[.slice A7 2 c7] 37)) w.heap.size (vs.getD j undef) (sk.getD j [])) := fun j hj => (hkv j hj).below hba
      have HRa : Hid (Rd (w3.alloc (.cells #[.slice A7 2 c7] 37)) (w3.alloc (.cells #[.slice A7 2 c7] 37)).heap.size 1 (some ⟨w3.heap.size, 0, none⟩) 1 [.slice A7 2 c7]) := Rd.newA (n := 1) (sz := 1) (xs := [.slice A7 2 c7]) w3 37 #[.slice A7 2 c7] rfl rfl
      have hla : ∀ u ∈ [Value.slice A7 2 c7], u.oneCell' = true := by simp [Value.oneCell']
      have HBa := Lib.hid (HB2.out.below hba); have HKk := Lib.hid (HK2.out.low_trans (hba.mono hz2) hbl); have HMa := Lib.hid (block_below HM2.out hba (block_lt HM2.out))
      have hza : w.heap.size ≤ (w3.alloc (.cells #[.slice A7 2 c7] 37)).heap.size := Nat.le_trans hz2 hba.size
      have Hlv := Lib.hid hlv; have Hvl := Lib.hid hvl
      clear hb hba ho hov hlv hkv hvl HS2 HB2 HK2 HM2 hz2 Hsig
      go_wp2_with (at_builtin; refine wpList_append_rdg (w3.alloc (.cells #[.slice A7 2 c7] 37)) (by rfl) _ _ 65 (by rfl) w.heap.size 37 i0 (.slice none 0 0) 1 24 Hu.out HI.out rfl (by decide) _ _ _ (by rfl) HOVa.out (w3.alloc (.cells #[.slice A7 2 c7] 37)).heap.size (some ⟨w3.heap.size, 0, none⟩) 1 1 _ (by rfl) HRa.out hla (by omega) (by omega) hza ?_; go_must (intro v5 w5 ho5 hb5 hg5; obtain ⟨A5, c5, rfl⟩ := own_form ho5; have hgt := GT.of_own HOVa.out hg5; have HS5 := Lib.hid (SigOwn.snoc ho5 Hlv.out Hvl.out (fun j hj => (HKa.out j hj).kept hgt (by decide)) (HU.out.kept hgt (by decide))); have HB5 := Lib.hid (HBa.out.gt hgt (by decide) (by decide)); have HK5 := Lib.hid (HKk.out.low_trans hb5 hbl); have HM5 := Lib.hid (hgt.blk HMa.out (by decide)); clear ho5 hb5 hg5 hgt))
      go_roundw
      case rel => exact ⟨k + 1, hlt, by go_num, by rw [Hgs.out, Hat.out]; exact HS5, by rw [Hgb.out]; exact HB5, HK5, HM5⟩
      case measure => simp [Lib.intOf]; omega
    · obtain rfl : ns = k := by omega
      have hd1 : decide ((ns : Int) < (ns : Int)) = false := by simp
      have ht : ks.take ns = ks := List.take_of_length_le (by have := Hls.out; omega)
      rw [ht] at HB
      clear hlt ht
      go_wp2
      go_ret2
      exact ⟨A6, c6, rfl, HS.out, HB.out, HK.out⟩
end Go.Proofs.Ytepdinfopcohiaa
