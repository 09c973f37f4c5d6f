/- The walk of NotaryBooks: whatever is signed. Condition: bounds on the list. -/
import Derived.Test.YtepdinfopcohiaaNoK
import Derived.Test.YtepdinfopcohiaaNoQ
namespace Go.Proofs.Ytepdinfopcohiaa
open Go.RowKit Go.Lib


theorem Rd.dlenD {w : World} {B n : Nat} {A : Option Addr} {l : List D8} (h : Rd w B 8 A n (flatD l)) : l.length = n := by have := h.1; rw [flatD_len] at this; omega
theorem Rd.di {w : World} {B n : Nat} {A : Option Addr} {l : List D8} (h : Rd w B 8 A n (flatD l)) {k : Nat} (hk : k < n) :
    ∃ b o, A = some ⟨b, o, none⟩ ∧ b < B ∧ ∀ j, j < 8 → w.cell? ⟨b, o + k * 8 + j, none⟩ = (l.getD k ⟨0, 0, 0, 0, 0, 0, 0, 0⟩).cells[j]? := by
  have hl := h.dlenD
  obtain ⟨b, o, e, hb, hc⟩ := h.2 (by omega)
  refine ⟨b, o, e, hb, fun j hj => ?_⟩
  have hs : ∃ u, (l.getD k ⟨0, 0, 0, 0, 0, 0, 0, 0⟩).cells[j]? = some u := ⟨_, List.getElem?_eq_getElem (by simpa [D8.cells] using hj)⟩
  obtain ⟨u, hu⟩ := hs
  rw [hu, Nat.add_assoc]
  exact hc (k * 8 + j) u ((flatD_at l k j (by omega) hj).trans hu)
theorem Rd.n64 {w : World} {B n k : Nat} {A : Option Addr} {l : List Nat} (h : Rd w B 1 A n (bv64 l)) (hk : k < n) : ∃ b o, A = some ⟨b, o, none⟩ ∧ b < B ∧ w.cell? ⟨b, o + k, none⟩ = some (.int .u64 ((l.getD k 0 : Nat) : Int)) := by
  have hl : l.length = n := by have := h.1; simp [bv64] at this; omega
  obtain ⟨b, o, e, hb, hc⟩ := h.2 (by omega)
  refine ⟨b, o, e, hb, hc k _ ?_⟩
  simp only [bv64, List.getElem?_map]
  rw [getD_atN l (by omega)]; rfl
theorem signedN_lt {W : List Nu} {k : Nat} (hW : ∀ x ∈ W, x.ok) : ∀ j, j < (signedN W k).length → (signedN W k).getD j 0 < 18446744073709551616 := by
  intro j hj
  have hm : (signedN W k).getD j 0 ∈ signedN W k := by
    rw [List.getD_eq_getElem?_getD, List.getElem?_eq_getElem hj]; exact List.getElem_mem hj
  unfold signedN at hm
  obtain ⟨x, hx, h2⟩ := List.mem_map.1 hm
  have h3 : x.m = (signedN W k).getD j 0 := h2
  rw [← h3]
  exact (hW x (List.mem_filter.1 hx).1).2
set_option maxRecDepth 100000 in
set_option maxHeartbeats 4000000 in
theorem books_any (l : List Nu) (A : Option Addr) (n c : Nat) (e : Nu) (As : Option Addr) (ms cs : Nat) (s : List Nat) (w : World) (hr : Rd w w.heap.size 2 A n (flatL l)) (hs : ∀ x ∈ l, x.small) (he : e.small) (hrs : Rd w w.heap.size 1 As ms (bvN s)) (hss : ∀ x ∈ s, x < 256) :
    Calls Try.prog 5 #[.slice A n c, .agg #[.int .u8 (e.k : Int), .int .u8 (e.m : Int)], .slice As ms cs] w fun r w' => r = .returned (.bool true) ∧ Below w.heap.size w w' := by
  have Hl := Lib.hid hr.llen
  have hb0 := below_one w (.cells #[.int .u8 (e.k : Int), .int .u8 (e.m : Int)] 36)
  have Hb0 := Lib.hid hb0
  have HX0 : Hid ((w.alloc (.cells #[.int .u8 (e.k : Int), .int .u8 (e.m : Int)] 36)).heap[w.heap.size]? = some (.cells #[.int .u8 (e.k : Int), .int .u8 (e.m : Int)] 36 (0, 0))) := heap_alloc_new w _
  have Hr0 := Lib.hid ((hr.below hb0 (Nat.le_refl _)).more (B' := (w.alloc (.cells #[.int .u8 (e.k : Int), .int .u8 (e.m : Int)] 36)).heap.size) (by simp))
  have Hrs0 := Lib.hid ((hrs.below hb0 (Nat.le_refl _)).more (B' := (w.alloc (.cells #[.int .u8 (e.k : Int), .int .u8 (e.m : Int)] 36)).heap.size) (by simp))
  have Hz0 : Hid ((w.alloc (.cells #[.int .u8 (e.k : Int), .int .u8 (e.m : Int)] 36)).heap.size = w.heap.size + 1) := Lib.hid (by simp)
  have Hs := Lib.hid hs; have Hss := Lib.hid hss; have He := Lib.hid he
  clear hr hs hrs hss hb0
  by_cases hbig : 60 < n
  · have hd0 : decide ((60 : Int) < (n : Int)) = true := decide_eq_true (by omega)
    clear hbig
    go_enter Try.func5, Try.ntmps5
    go_wp2_with (go_at_call 10; refine (told_any (w.alloc (.cells #[.int .u8 (e.k : Int), .int .u8 (e.m : Int)] 36))).mono ?_; rintro r w1 ⟨rfl, hb1⟩; have Hb1 := Lib.hid (Hb0.out.trans (hb1.mono Hb0.out.size)); clear hb1)
    go_ret
    exact ⟨rfl, Hb1.out⟩
  have hd0 : decide ((60 : Int) < (n : Int)) = false := decide_eq_false (by omega)
  have hn : n ≤ 60 := by omega
  have heq := eql_dig
  have hneq := neq_dig
  clear hbig
  go_enter Try.func5, Try.ntmps5
  go_wp2_with fail
  generalize w.alloc (.cells #[.int .u8 (e.k : Int), .int .u8 (e.m : Int)] 36) = w0 at *
  refine (book_any l A n c w0 Hr0.out Hs.out (by omega)).mono ?_
  rintro r w1 ⟨A', n', c', rfl, hO1, hB1, hb1⟩
  have HB1 := Lib.hid hB1; have HO1 := Lib.hid hO1
  have HX1 := Lib.hid (block_below HX0.out hb1 (by rw [Hz0.out]; omega))
  have Hrs1 := Lib.hid (Hrs0.out.below hb1 (Nat.le_refl _))
  have Hb1 := Lib.hid (Hb0.out.trans (hb1.mono Hb0.out.size))
  have Hg1 := Lib.hid hb1.size
  have Hok : Hid (∀ x ∈ bookN l, x.ok) := by
    have := bookN_ok Hs.out l.length (Nat.le_refl _)
    rwa [List.take_length] at this
  have Hln : Hid ((bookN l).length ≤ 60) := by
    have := bookN_len (l := l) l.length (Nat.le_refl _)
    rw [List.take_length] at this
    have := Hl.out
    show _ ≤ _
    omega
  clear hO1 hB1 hb1
  generalize bookN l = W at *
  have ek := He.out.1; have em := He.out.2
  have hwk : IntKind.u64.wrap (e.k : Int) = (e.k : Int) := by rw [IntKind.wrap_u64]; omega
  have hwm : IntKind.u64.wrap (e.m : Int) = (e.m : Int) := by rw [IntKind.wrap_u64]; omega
  go_wp2_with fail
  have x0 := block_cell HX1.out 0; have x1 := block_cell HX1.out 1
  simp at x0 x1
  refine wp_region_held_drew (S := fun w' => w'.cell? ⟨w.heap.size, 0, none⟩ = some (.int .u8 (e.k : Int)) ∧ w'.cell? ⟨w.heap.size, 1, none⟩ = some (.int .u8 (e.m : Int))) (by kernel_rfl) ⟨x0, x1⟩ (fun hHeld => ?_)
  refine takeH 0 (some 27) (v := ?_) rfl (by kernel_rfl) (by kernel_rfl) (by kernel_rfl) (by kernel_rfl) (fun _ _ _ h => h) (Or.inl ⟨by kernel_rfl, ?hy⟩) (by assumption) ?_
  case hy =>
    intro w' hSw
    try dsimp only at hSw
    first
      | (go_simp; done)
      | (go_simp; with_reducible rfl)
  simp only [Act.put, List.setIfInBounds_toArray, List.set_cons_zero, List.set_cons_succ]
  refine takeH 1 (some 28) (v := ?_) rfl (by kernel_rfl) (by kernel_rfl) (by kernel_rfl) (by kernel_rfl) (fun _ _ _ h => h) (Or.inl ⟨by kernel_rfl, ?hy⟩) (by assumption) ?_
  case hy =>
    intro w' hSw
    try dsimp only at hSw
    first
      | (go_simp; done)
      | (go_simp; with_reducible rfl)
  simp only [Act.put, List.setIfInBounds_toArray, List.set_cons_zero, List.set_cons_succ]
  refine takeH 2 (some 29) (v := ?_) rfl (by kernel_rfl) (by kernel_rfl) (by kernel_rfl) (by kernel_rfl) (fun _ _ _ h => h) (Or.inl ⟨by kernel_rfl, ?hy⟩) (by assumption) ?_
  case hy =>
    intro w' hSw
    try dsimp only at hSw
    first
      | (go_simp; done)
      | (go_simp; with_reducible rfl)
  simp only [Act.put, List.setIfInBounds_toArray, List.set_cons_zero, List.set_cons_succ]
  refine takeH 3 (some 30) (v := ?_) rfl (by kernel_rfl) (by kernel_rfl) (by kernel_rfl) (by kernel_rfl) (fun _ _ _ h => h) (Or.inl ⟨by kernel_rfl, ?hy⟩) (by assumption) ?_
  case hy =>
    intro w' hSw
    try dsimp only at hSw
    first
      | (go_simp; done)
      | (go_simp; with_reducible rfl)
  simp only [Act.put, List.setIfInBounds_toArray, List.set_cons_zero, List.set_cons_succ]
  refine takeH 4 (some 31) (v := ?_) rfl (by kernel_rfl) (by kernel_rfl) (by kernel_rfl) (by kernel_rfl) (fun _ _ _ h => h) (Or.inl ⟨by kernel_rfl, ?hy⟩) (by assumption) ?_
  case hy =>
    intro w' hSw
    try dsimp only at hSw
    first
      | (go_simp; done)
      | (go_simp; with_reducible rfl)
  simp only [Act.put, List.setIfInBounds_toArray, List.set_cons_zero, List.set_cons_succ]
  refine takeH 5 (some 32) (v := ?_) rfl (by kernel_rfl) (by kernel_rfl) (by kernel_rfl) (by kernel_rfl) (fun _ _ _ h => h) (Or.inl ⟨by kernel_rfl, ?hy⟩) (by assumption) ?_
  case hy =>
    intro w' hSw
    try dsimp only at hSw
    first
      | (go_simp; done)
      | (go_simp; with_reducible rfl)
  simp only [Act.put, List.setIfInBounds_toArray, List.set_cons_zero, List.set_cons_succ]
  refine takeH 6 (some 10) (v := ?_) rfl (by kernel_rfl) (by kernel_rfl) (by kernel_rfl) (by kernel_rfl) (fun _ _ _ h => h) (Or.inl ⟨by kernel_rfl, ?hy⟩) (by assumption) ?_
  case hy =>
    intro w' hSw
    try dsimp only at hSw
    first
      | (go_simp; done)
      | (go_simp; with_reducible rfl)
  simp only [Act.put, List.setIfInBounds_toArray, List.set_cons_zero, List.set_cons_succ]
  refine takeH 7 (some 11) (v := ?_) rfl (by kernel_rfl) (by kernel_rfl) (by kernel_rfl) (by kernel_rfl) (fun _ _ _ h => h) (Or.inl ⟨by kernel_rfl, ?hy⟩) (by assumption) ?_
  case hy =>
    intro w' hSw
    try dsimp only at hSw
    first
      | (go_simp; done)
      | (go_simp; with_reducible rfl)
  simp only [Act.put, List.setIfInBounds_toArray, List.set_cons_zero, List.set_cons_succ]
  refine wpAnyH_done (by kernel_rfl) ?_ _
  clear x0 x1
  go_wp2_with fail
  have HB2 := Lib.hid (HB1.out.below (Below.refl _ _).drew); have HO2 := Lib.hid (own_below HO1.out (Below.refl w1.heap.size w1).drew)
  have Hb2 := Lib.hid Hb1.out.drew; have Hrs2 : Hid (Rd w1.drew w0.heap.size 1 As ms (bvN s)) := Hrs1.out
  have Hg2 : Hid (w0.heap.size ≤ w1.drew.heap.size) := Hg1.out
  clear HB1 HO1 Hb1 Hrs1 Hg1
  generalize w1.drew = w2 at *
  refine wp_region_held_drew (S := fun w' => Rd w' w0.heap.size 1 As ms (bvN s)) (by kernel_rfl) Hrs2.out (fun hHeld => ?_)
  refine takeH 0 (some 33) (v := ?_) rfl (by kernel_rfl) (by kernel_rfl) (by kernel_rfl) (by kernel_rfl) (fun _ _ _ h => h) (Or.inl ⟨by kernel_rfl, ?hy⟩) (by assumption) ?_
  case hy =>
    intro w' hSw
    try dsimp only at hSw
    first
      | (go_simp; done)
      | (go_simp; with_reducible rfl)
  simp only [Act.put, List.setIfInBounds_toArray, List.set_cons_zero, List.set_cons_succ]
  refine takeH 1 (some 34) (v := ?_) rfl (by kernel_rfl) (by kernel_rfl) (by kernel_rfl) (by kernel_rfl) (fun _ _ _ h => h) (Or.inl ⟨by kernel_rfl, ?hy⟩) (by assumption) ?_
  case hy =>
    intro w' hSw
    try dsimp only at hSw
    first
      | (go_simp; done)
      | (go_simp; with_reducible rfl)
  simp only [Act.put, List.setIfInBounds_toArray, List.set_cons_zero, List.set_cons_succ]
  refine takeH 3 (some 36) (v := ?_) rfl (by kernel_rfl) (by kernel_rfl) (by kernel_rfl) (by kernel_rfl) (fun _ _ _ h => h) (Or.inl ⟨by kernel_rfl, ?hy⟩) (by assumption) ?_
  case hy =>
    intro w' hSw
    try dsimp only at hSw
    first
      | (go_simp; done)
      | (go_simp; with_reducible rfl)
  simp only [Act.put, List.setIfInBounds_toArray, List.set_cons_zero, List.set_cons_succ]
  refine takeH 5 (some 38) (v := ?_) rfl (by kernel_rfl) (by kernel_rfl) (by kernel_rfl) (by kernel_rfl) (fun _ _ _ h => h) (Or.inl ⟨by kernel_rfl, ?hy⟩) (by assumption) ?_
  case hy =>
    intro w' hSw
    try dsimp only at hSw
    first
      | (go_simp; done)
      | (go_simp; with_reducible rfl)
  simp only [Act.put, List.setIfInBounds_toArray, List.set_cons_zero, List.set_cons_succ]
  refine takeH 7 (some 40) (v := ?_) rfl (by kernel_rfl) (by kernel_rfl) (by kernel_rfl) (by kernel_rfl) (fun _ _ _ h => h) (Or.inl ⟨by kernel_rfl, ?hy⟩) (by assumption) ?_
  case hy =>
    intro w' hSw
    try dsimp only at hSw
    first
      | (go_simp; done)
      | (go_simp; with_reducible rfl)
  simp only [Act.put, List.setIfInBounds_toArray, List.set_cons_zero, List.set_cons_succ]
  refine takeH 8 (some 41) (v := ?_) rfl (by kernel_rfl) (by kernel_rfl) (by kernel_rfl) (by kernel_rfl) (fun _ _ _ h => h) (Or.inl ⟨by kernel_rfl, ?hy⟩) (by assumption) ?_
  case hy =>
    intro w' hSw
    try dsimp only at hSw
    first
      | (go_simp; done)
      | (go_simp; with_reducible rfl)
  simp only [Act.put, List.setIfInBounds_toArray, List.set_cons_zero, List.set_cons_succ]
  refine takeH 9 (some 42) (v := ?_) rfl (by kernel_rfl) (by kernel_rfl) (by kernel_rfl) (by kernel_rfl) (fun _ _ _ h => h) (Or.inl ⟨by kernel_rfl, ?hy⟩) (by assumption) ?_
  case hy =>
    intro w' hSw
    try dsimp only at hSw
    first
      | (go_simp; done)
      | (go_simp; with_reducible rfl)
  simp only [Act.put, List.setIfInBounds_toArray, List.set_cons_zero, List.set_cons_succ]
  refine takeH 10 (some 43) (v := ?_) rfl (by kernel_rfl) (by kernel_rfl) (by kernel_rfl) (by kernel_rfl) (fun _ _ _ h => h) (Or.inl ⟨by kernel_rfl, ?hy⟩) (by assumption) ?_
  case hy =>
    intro w' hSw
    try dsimp only at hSw
    first
      | (go_simp; done)
      | (go_simp; with_reducible rfl)
  simp only [Act.put, List.setIfInBounds_toArray, List.set_cons_zero, List.set_cons_succ]
  refine takeH 11 (some 44) (v := ?_) rfl (by kernel_rfl) (by kernel_rfl) (by kernel_rfl) (by kernel_rfl) (fun _ _ _ h => h) (Or.inl ⟨by kernel_rfl, ?hy⟩) (by assumption) ?_
  case hy =>
    intro w' hSw
    try dsimp only at hSw
    first
      | (go_simp; done)
      | (go_simp; with_reducible rfl)
  simp only [Act.put, List.setIfInBounds_toArray, List.set_cons_zero, List.set_cons_succ]
  refine takeH 12 (some 45) (v := .string (strNo s)) rfl (by kernel_rfl) (by kernel_rfl) (by kernel_rfl) (by kernel_rfl) (fun _ _ _ h => h) (Or.inl ⟨by kernel_rfl, ?hy⟩) (by assumption) ?_
  case hy =>
    intro w' hSw
    try dsimp only at hSw
    have hcv := conv_no hSw cs
    go_simp
  simp only [Act.put, List.setIfInBounds_toArray, List.set_cons_zero, List.set_cons_succ]
  refine wpAnyH_ready (rs := [2]) (by kernel_rfl) (by simp) ?_
  refine AllReadyH.cons rfl (fun K hK => ?_) AllReadyH.nil
  rw [if_pos (by kernel_rfl)]
  go_simp
  refine (digest_any e.k w2.drew (by omega)).mono ?_
  rintro r w3 ⟨rfl, hb⟩
  have hq := (Below.refl w2.heap.size w2).drew.trans hb
  have hS := Hrs2.out.below hq Hg2.out
  have HB3 := Lib.hid (HB2.out.below hq); have HO3 := Lib.hid (own_below HO2.out hq); have Hb3 := Lib.hid (Hb2.out.trans (hq.mono Hb2.out.size)); have Hrs3 := Lib.hid hS; have Hg3 := Lib.hid (Nat.le_trans Hg2.out hq.size)
  clear hb hq HB2 HO2 Hb2 Hrs2 Hg2
  refine hK.out _ _ hS (fun _ => ?_)
  clear hK K hS
  refine wpAnyH_ready (rs := [4]) (by kernel_rfl) (by simp) ?_
  refine AllReadyH.cons rfl (fun K hK => ?_) AllReadyH.nil
  rw [if_pos (by kernel_rfl)]
  go_simp
  refine (digest_any e.m w3 (by omega)).mono ?_
  rintro r w4 ⟨rfl, hq⟩
  have hS := Hrs3.out.below hq Hg3.out
  have HB4 := Lib.hid (HB3.out.below hq); have HO4 := Lib.hid (own_below HO3.out hq); have Hb4 := Lib.hid (Hb3.out.trans (hq.mono Hb3.out.size)); have Hrs4 := Lib.hid hS; have Hg4 := Lib.hid (Nat.le_trans Hg3.out hq.size)
  clear hq HB3 HO3 Hb3 Hrs3 Hg3
  refine hK.out _ _ hS (fun _ => ?_)
  clear hK K hS
  refine wpAnyH_ready (rs := [6]) (by kernel_rfl) (by simp) ?_
  refine AllReadyH.cons rfl (fun K hK => ?_) AllReadyH.nil
  rw [if_pos (by kernel_rfl)]
  go_simp
  refine (verify_any _ _ _ _ ⟨D8.of e.k, D8.of e.m⟩ As ms cs s w4 HB4.out ⟨d8_ok _, d8_ok _⟩ (by rw [List.length_map]; have := Hln.out; omega) (Hrs4.out.more Hg4.out) Hss.out).mono ?_
  rintro r w5 ⟨rfl, hq⟩
  rw [show (⟨D8.of e.k, D8.of e.m⟩ : En) = e.en from rfl, verN_en Hok.out He.out.ok]
  have hS := Hrs4.out.below hq Hg4.out
  have HB5 := Lib.hid (HB4.out.below hq); have HO5 := Lib.hid (own_below HO4.out hq); have Hb5 := Lib.hid (Hb4.out.trans (hq.mono Hb4.out.size)); have Hrs5 := Lib.hid hS; have Hg5 := Lib.hid (Nat.le_trans Hg4.out hq.size)
  clear hq HB4 HO4 Hb4 Hrs4 Hg4
  refine hK.out _ _ hS (fun _ => ?_)
  clear hK K hS
  refine wpAnyH_ready (rs := [13]) (by kernel_rfl) (by simp) ?_
  refine AllReadyH.cons rfl (fun K hK => ?_) AllReadyH.nil
  rw [if_pos (by kernel_rfl)]
  go_simp
  refine (verifyr_any W e s A' n' c' w5 (Rd.of_own HO5.out) (by have := (Rd.of_own HO5.out).nlen; have := Hln.out; omega) Hss.out).mono ?_
  rintro r w6 ⟨rfl, hq⟩
  have hS := Hrs5.out.below hq Hg5.out
  have HB6 := Lib.hid (HB5.out.below hq); have HO6 := Lib.hid (own_below HO5.out hq); have Hb6 := Lib.hid (Hb5.out.trans (hq.mono Hb5.out.size)); have Hrs6 := Lib.hid hS; have Hg6 := Lib.hid (Nat.le_trans Hg5.out hq.size)
  clear hq HB5 HO5 Hb5 Hrs5 Hg5
  refine hK.out _ _ hS (fun _ => ?_)
  clear hK K hS
  generalize verN W e s = vb at *
  have hx : (vb != vb) = false := by simp
  refine takeH 14 (some 47) (v := ?_) rfl (by kernel_rfl) (by kernel_rfl) (by kernel_rfl) (by kernel_rfl) (fun _ _ _ h => h) (Or.inl ⟨by kernel_rfl, ?hy⟩) (by assumption) ?_
  case hy =>
    intro w' hSw
    try dsimp only at hSw
    first
      | (go_simp; done)
      | (go_simp; with_reducible rfl)
  simp only [Act.put, List.setIfInBounds_toArray, List.set_cons_zero, List.set_cons_succ]
  refine wpAnyH_done (by kernel_rfl) ?_ _
  go_wp2_with fail
  refine (digest_any e.k w6 (by omega)).mono ?_
  rintro r w7 ⟨rfl, hq⟩
  have HB7 := Lib.hid (HB6.out.below hq); have HO7 := Lib.hid (own_below HO6.out hq); have Hb7 := Lib.hid (Hb6.out.trans (hq.mono Hb6.out.size))
  clear hq HB6 HO6 Hb6
  go_wp2_with fail
  refine (signed_any _ _ _ _ (D8.of e.k) w7 HB7.out (by rw [List.length_map]; have := Hln.out; omega)).mono ?_
  rintro r w8 ⟨A1, n1, c1, rfl, ho, hq⟩
  rw [signed_en Hok.out He.out.ok.1] at ho
  have HD8 := Lib.hid ho; have HO8 := Lib.hid (own_below HO7.out hq); have Hb8 := Lib.hid (Hb7.out.trans (hq.mono Hb7.out.size))
  clear hq ho HB7 HO7 Hb7
  go_wp2_with fail
  refine (signedr_any W e.k A' n' c' w8 (Rd.of_own HO8.out) (by have := (Rd.of_own HO8.out).nlen; have := Hln.out; omega) (by omega)).mono ?_
  rintro r w9 ⟨A2, n2, c2, rfl, ho, hq⟩
  have HD9 := Lib.hid (Rd.of_own (own_below HD8.out hq)); have HN9 := Lib.hid (Rd.of_own ho); have Hb9 := Lib.hid (Hb8.out.trans (hq.mono Hb8.out.size))
  have Hlt := Lib.hid (signedN_lt (k := e.k) Hok.out)
  have hl1 := HD9.out.dlenD
  have hl2 : (signedN W e.k).length = n2 := by have := HN9.out.1; simp [bv64] at this; omega
  rw [List.length_map, hl2] at hl1
  subst hl1
  have hsl := signedN_len W e.k
  have hnn : n2 ≤ 60 := by have := Hln.out; omega
  have Hl2 := Lib.hid hl2
  clear hq ho HD8 HO8 Hb8 hl2 hsl
  generalize signedN W e.k = M at *
  have hne : ((n2 : Int) != (n2 : Int)) = false := by simp
  go_wp2
  go_loopw [14] (fun i wr => ∃ (k : Nat), k ≤ n2 ∧ i = .int .i64 (k : Int) ∧ Hid (Below w9.heap.size w9 wr)) (fun i _ => n2 - (Lib.intOf i).toNat)
  case atStart => exact ⟨0, Nat.zero_le _, rfl, Lib.hid (Below.refl _ _)⟩
  case round =>
    obtain ⟨k, hk, rfl, Hb⟩ := hrel
    by_cases hlt : k < n2
    · obtain ⟨b, o, rfl, hbB, x⟩ := (HD9.out.below Hb.out (Nat.le_refl _)).di hlt
      obtain ⟨b2, o2, rfl, hbB2, y⟩ := (HN9.out.below Hb.out (Nat.le_refl _)).n64 hlt
      have hmlt := Hlt.out k (by have := Hl2.out; omega)
      have hget : (M.map D8.of).getD k ⟨0, 0, 0, 0, 0, 0, 0, 0⟩ = D8.of (M.getD k 0) := by
        have hkl : k < M.length := by have := Hl2.out; omega
        simp [List.getD_eq_getElem?_getD, hkl]
      rw [hget] at x
      generalize M.getD k 0 = m at *
      have x0 := x 0 (by decide); have x1 := x 1 (by decide); have x2 := x 2 (by decide); have x3 := x 3 (by decide); have x4 := x 4 (by decide); have x5 := x 5 (by decide); have x6 := x 6 (by decide); have x7 := x 7 (by decide)
      simp [D8.cells] at x0 x1 x2 x3 x4 x5 x6 x7
      have hd1 : decide ((k : Int) < (n2 : Int)) = true := decide_eq_true (by omega)
      have hi0 : (0 : Int) ≤ (k : Int) := by omega
      have hki : (k : Int) < (n2 : Int) := by omega
      have hself : eqI [((D8.of m).x0 : Int), ((D8.of m).x1 : Int), ((D8.of m).x2 : Int), ((D8.of m).x3 : Int), ((D8.of m).x4 : Int), ((D8.of m).x5 : Int), ((D8.of m).x6 : Int), ((D8.of m).x7 : Int)] [((D8.of m).x0 : Int), ((D8.of m).x1 : Int), ((D8.of m).x2 : Int), ((D8.of m).x3 : Int), ((D8.of m).x4 : Int), ((D8.of m).x5 : Int), ((D8.of m).x6 : Int), ((D8.of m).x7 : Int)] = true := eqN_iff.2 rfl
      clear x hget
      go_wp2_with fail
      refine wp_region_held_drew (S := fun w' => Below w9.heap.size w9 w' ∧ w'.cell? ⟨b, o + k * 8, none⟩ = some (.int .u8 ((D8.of m).x0 : Int)) ∧ w'.cell? ⟨b, o + k * 8 + 1, none⟩ = some (.int .u8 ((D8.of m).x1 : Int)) ∧ w'.cell? ⟨b, o + k * 8 + 2, none⟩ = some (.int .u8 ((D8.of m).x2 : Int)) ∧ w'.cell? ⟨b, o + k * 8 + 3, none⟩ = some (.int .u8 ((D8.of m).x3 : Int)) ∧ w'.cell? ⟨b, o + k * 8 + 4, none⟩ = some (.int .u8 ((D8.of m).x4 : Int)) ∧ w'.cell? ⟨b, o + k * 8 + 5, none⟩ = some (.int .u8 ((D8.of m).x5 : Int)) ∧ w'.cell? ⟨b, o + k * 8 + 6, none⟩ = some (.int .u8 ((D8.of m).x6 : Int)) ∧ w'.cell? ⟨b, o + k * 8 + 7, none⟩ = some (.int .u8 ((D8.of m).x7 : Int)) ∧ w'.cell? ⟨b2, o2 + k, none⟩ = some (.int .u64 (m : Int))) (by kernel_rfl) ⟨Hb.out.drew, x0, x1, x2, x3, x4, x5, x6, x7, y⟩ (fun hHeld => ?_)
      refine takeH 0 (some 66) (v := ?_) rfl (by kernel_rfl) (by kernel_rfl) (by kernel_rfl) (by kernel_rfl) (fun _ _ _ h => h) (Or.inl ⟨by kernel_rfl, ?hy⟩) (by assumption) ?_
      case hy =>
        intro w' hSw
        try dsimp only at hSw
        first
          | (go_simp; done)
          | (go_simp; with_reducible rfl)
      simp only [Act.put, List.setIfInBounds_toArray, List.set_cons_zero, List.set_cons_succ]
      refine takeH 1 (some 67) (v := ?_) rfl (by kernel_rfl) (by kernel_rfl) (by kernel_rfl) (by kernel_rfl) (fun _ _ _ h => h) (Or.inl ⟨by kernel_rfl, ?hy⟩) (by assumption) ?_
      case hy =>
        intro w' hSw
        try dsimp only at hSw
        first
          | (go_simp; done)
          | (go_simp; with_reducible rfl)
      simp only [Act.put, List.setIfInBounds_toArray, List.set_cons_zero, List.set_cons_succ]
      refine takeH 2 (some 68) (v := ?_) rfl (by kernel_rfl) (by kernel_rfl) (by kernel_rfl) (by kernel_rfl) (fun _ _ _ h => h) (Or.inl ⟨by kernel_rfl, ?hy⟩) (by assumption) ?_
      case hy =>
        intro w' hSw
        try dsimp only at hSw
        first
          | (go_simp; done)
          | (go_simp; with_reducible rfl)
      simp only [Act.put, List.setIfInBounds_toArray, List.set_cons_zero, List.set_cons_succ]
      refine takeH 3 (some 69) (v := ?_) rfl (by kernel_rfl) (by kernel_rfl) (by kernel_rfl) (by kernel_rfl) (fun _ _ _ h => h) (Or.inl ⟨by kernel_rfl, ?hy⟩) (by assumption) ?_
      case hy =>
        intro w' hSw
        try dsimp only at hSw
        first
          | (go_simp; done)
          | (go_simp; with_reducible rfl)
      simp only [Act.put, List.setIfInBounds_toArray, List.set_cons_zero, List.set_cons_succ]
      refine takeH 4 (some 70) (v := ?_) rfl (by kernel_rfl) (by kernel_rfl) (by kernel_rfl) (by kernel_rfl) (fun _ _ _ h => h) (Or.inl ⟨by kernel_rfl, ?hy⟩) (by assumption) ?_
      case hy =>
        intro w' hSw
        try dsimp only at hSw
        first
          | (go_simp; done)
          | (go_simp; with_reducible rfl)
      simp only [Act.put, List.setIfInBounds_toArray, List.set_cons_zero, List.set_cons_succ]
      refine takeH 5 (some 71) (v := ?_) rfl (by kernel_rfl) (by kernel_rfl) (by kernel_rfl) (by kernel_rfl) (fun _ _ _ h => h) (Or.inl ⟨by kernel_rfl, ?hy⟩) (by assumption) ?_
      case hy =>
        intro w' hSw
        try dsimp only at hSw
        first
          | (go_simp; done)
          | (go_simp; with_reducible rfl)
      simp only [Act.put, List.setIfInBounds_toArray, List.set_cons_zero, List.set_cons_succ]
      refine takeH 6 (some 72) (v := ?_) rfl (by kernel_rfl) (by kernel_rfl) (by kernel_rfl) (by kernel_rfl) (fun _ _ _ h => h) (Or.inl ⟨by kernel_rfl, ?hy⟩) (by assumption) ?_
      case hy =>
        intro w' hSw
        try dsimp only at hSw
        first
          | (go_simp; done)
          | (go_simp; with_reducible rfl)
      simp only [Act.put, List.setIfInBounds_toArray, List.set_cons_zero, List.set_cons_succ]
      refine takeH 7 (some 73) (v := ?_) rfl (by kernel_rfl) (by kernel_rfl) (by kernel_rfl) (by kernel_rfl) (fun _ _ _ h => h) (Or.inl ⟨by kernel_rfl, ?hy⟩) (by assumption) ?_
      case hy =>
        intro w' hSw
        try dsimp only at hSw
        first
          | (go_simp; done)
          | (go_simp; with_reducible rfl)
      simp only [Act.put, List.setIfInBounds_toArray, List.set_cons_zero, List.set_cons_succ]
      refine wpAnyH_ready (rs := [8]) (by kernel_rfl) (by simp) ?_
      refine AllReadyH.cons rfl (fun K hK => ?_) AllReadyH.nil
      rw [if_pos (by kernel_rfl)]
      go_simp
      refine (digest_any m wr.drew (by omega)).mono ?_
      rintro r v1 ⟨rfl, hb⟩
      have hq := (Below.refl wr.heap.size wr).drew.trans hb
      have hl : ∀ (q i : Nat) (u : Value), q < w9.heap.size → wr.cell? ⟨q, i, none⟩ = some u → v1.cell? ⟨q, i, none⟩ = some u := fun q i u h1 h2 => cell_kept h2 hq (by have := Hb.out.size; omega)
      have Hbv := Lib.hid (Hb.out.trans (hq.mono Hb.out.size))
      refine hK.out _ _ ⟨Hbv.out, hl _ _ _ hbB x0, hl _ _ _ hbB x1, hl _ _ _ hbB x2, hl _ _ _ hbB x3, hl _ _ _ hbB x4, hl _ _ _ hbB x5, hl _ _ _ hbB x6, hl _ _ _ hbB x7, hl _ _ _ hbB2 y⟩ (fun _ => ?_)
      clear hK K hb hq hl x0 x1 x2 x3 x4 x5 x6 x7 y
      refine takeH 9 (some 75) (v := ?_) rfl (by kernel_rfl) (by kernel_rfl) (by kernel_rfl) (by kernel_rfl) (fun _ _ _ h => h) (Or.inl ⟨by kernel_rfl, ?hy⟩) (by assumption) ?_
      case hy =>
        intro w' hSw
        try dsimp only at hSw
        first
          | (go_simp; done)
          | (go_simp; with_reducible rfl)
      simp only [Act.put, List.setIfInBounds_toArray, List.set_cons_zero, List.set_cons_succ]
      refine wpAnyH_done (by kernel_rfl) ?_ _
      go_wp2
      go_roundw
      case rel => exact ⟨k + 1, hlt, by go_num, Hbv⟩
      case measure => simp [Lib.intOf]; omega
    · have hkn : k = n2 := by omega
      subst hkn
      have hd1 : decide ((k : Int) < (k : Int)) = false := by simp
      clear hlt
      go_wp2_with (go_at_call 10; refine (told_any wr).mono ?_; rintro r v9 ⟨rfl, hb9⟩; have Hv9 := Lib.hid (Hb9.out.trans ((Hb.out.trans (hb9.mono Hb.out.size)).mono Hb9.out.size)); clear hb9)
      go_ret
      exact ⟨rfl, Hv9.out⟩
end Go.Proofs.Ytepdinfopcohiaa
