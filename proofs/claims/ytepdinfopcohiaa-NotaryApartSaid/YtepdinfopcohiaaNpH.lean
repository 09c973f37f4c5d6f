/- The walks of a book's Clone and Same. Conditions: bounds on how many. -/
import Derived.Test.YtepdinfopcohiaaNpG
import Derived.Test.YtepdinfopcohiaaInv
import Derived.Shelf.SlMaps.Clone
import Derived.Deep.RegionLaw
namespace Go.Proofs.Ytepdinfopcohiaa
open Go.RowKit Go.Lib


instance : DecidableEq En := fun _ _ => decidable_of_iff _ sameEn_iff
theorem flatE_one (L : List En) : ∀ u ∈ flatE L, u.oneCell' = true := by
  intro u hu
  simp only [flatE, List.mem_flatMap] at hu
  obtain ⟨x, _, hx⟩ := hu
  simp [En.cells] at hx
  rcases hx with rfl | rfl | rfl | rfl | rfl | rfl | rfl | rfl | rfl | rfl | rfl | rfl | rfl | rfl | rfl | rfl <;> rfl
set_option maxRecDepth 100000 in
set_option maxHeartbeats 2000000 in
theorem sclone_any (L : List En) (A : Option Addr) (n c C : Nat) (w : World) (ho : w.ownsRow C 86 16 (.slice A n c) n (flatE L)) (hn : n ≤ 1000000) :
    Calls Try.prog 29 #[.slice A n c] w fun r w' => ∃ A' c', r = .returned (.slice A' n c') ∧ w'.ownsRow w.heap.size 86 16 (.slice A' n c') n (flatE L) ∧ Below w.heap.size w w' := by
  have hr := Rd.of_own ho
  cases A with
  | none =>
    have h0 : n = 0 := by
      rcases Nat.eq_zero_or_pos n with h0 | h0
      · exact h0
      · obtain ⟨_, _, h2, _⟩ := hr.2 h0
        cases h2
    subst h0
    have hL : flatE L = [] := List.eq_nil_of_length_eq_zero (by have := hr.1; omega)
    rw [hL]
    clear hr ho
    have heq : ∀ w : World, (binOp .eql 81 (.slice none 0 c) (.slice none 0 0)).run Try.prog w = .ok (.bool true) w := fun w => run_eql_slice_nil w _ _ none 0 c 0 0 Try.underlying81
    go_enter Try.func29, Try.ntmps29
    go_wp2
    go_ret
    exact ⟨none, 0, rfl, World.ownsRow_nil _ _ _ _, Below.refl _ _⟩
  | some a =>
    obtain ⟨i0, hi, hz0, hz1, hz2⟩ := info_parts info_En
    have HI := Lib.hid (And.intro hi (And.intro hz0 (And.intro hz1 hz2))); clear hi hz0 hz1 hz2
    have HO : Hid ((w.alloc (.cells #[] 86)).ownsRow w.heap.size 86 16 (.slice (some ⟨w.heap.size, 0, none⟩) 0 0) 0 []) := own_empty w _ _ _ (Nat.le_refl _)
    have Hr := Lib.hid ((hr.alloc (Nat.le_refl _) (.cells #[] 86)).more (B' := (w.alloc (.cells #[] 86)).heap.size) (by simp))
    have h1 := flatE_one L
    have Hu := Lib.hid Try.underlying81
    have heq : ∀ w : World, (binOp .eql 81 (.slice (some a) n c) (.slice none 0 0)).run Try.prog w = .ok (.bool false) w := fun w => run_eql_slice_nil w _ _ (some a) n c 0 0 Try.underlying81
    clear hr ho
    go_enter Try.func29, Try.ntmps29
    go_wp2_with (at_builtin; go_must (refine wpList_append_rd (w.alloc (.cells #[] 86)) (by rfl) _ _ 81 (by rfl) w.heap.size 86 i0 (.agg #[.int .u8 0, .int .u8 0, .int .u8 0, .int .u8 0, .int .u8 0, .int .u8 0, .int .u8 0, .int .u8 0, .int .u8 0, .int .u8 0, .int .u8 0, .int .u8 0, .int .u8 0, .int .u8 0, .int .u8 0, .int .u8 0]) 16 16 Hu.out HI.out rfl (by decide) _ _ _ (by rfl) HO.out (w.alloc (.cells #[] 86)).heap.size (some a) n c _ (by rfl) Hr.out h1 (by omega) (by omega) (by simp) ?_); intro v4 w4 ho4 hb4; obtain ⟨A4, c4, rfl⟩ := own_form ho4; simp only [Nat.zero_add, List.nil_append] at ho4; have HO4 := Lib.hid ho4; have Hb4 := Lib.hid ((below_one w (.cells #[] 86)).trans (hb4.mono (Nat.le_refl _))); clear ho4 hb4)
    go_ret
    exact ⟨A4, c4, by simp, HO4.out, Hb4.out⟩
set_option maxRecDepth 100000 in
set_option maxHeartbeats 2000000 in
theorem mclone_any (L : List En) (b : Nat) (w : World) (h : PlacesAt w b L) :
    Calls Try.prog 30 #[.map (some b)] w fun r w' => r = .returned (.map (some w.heap.size)) ∧ PlacesAt w' w.heap.size L ∧ Below w.heap.size w w' := by
  obtain ⟨es, clock, hb, hes⟩ := h
  have hq := fun w => run_eql_map_nil_sl (P := Try.prog) w 82 _ _ (some b) Try.underlying82
  have Hes := Lib.hid hes
  clear hes
  go_enter Try.func30, Try.ntmps30
  go_wp2
  rw [run_callFunc_extern Try.func33 (by kernel_rfl) (by kernel_rfl) (by kernel_rfl) (e := Extern.MapsClone.clone) (by kernel_rfl), run_maps_clone_sl w 82 hb]
  simp only [Result.andThen]
  rw [Oper.upon_value]
  go_wp2
  rw [run_typeAssert_map_sl _ 82 20 _ _ _ Try.underlying82]
  simp only [Result.andThen]
  rw [Oper.upon_value]
  go_wp2
  go_ret
  exact ⟨rfl, ⟨es, clock, heap_alloc_new w _, Hes.out⟩, below_one w _⟩
set_option maxRecDepth 100000 in
set_option maxHeartbeats 2000000 in
theorem bookClone_any (B bk mb : Nat) (L : List En) (w : World) (h : BookAt w B bk mb L) (hlen : L.length ≤ 60000) :
    Calls Try.prog 19 #[.pointer (some ⟨bk, 0, none⟩)] w fun r w' => ∃ b m, r = .returned (.pointer (some ⟨b, 0, none⟩)) ∧ BookG w' w.heap.size b m L ∧ Below w.heap.size w w' := by
  obtain ⟨A, n, c, hbk, hown⟩ := h.book
  have q0 := block_cell hbk 0
  have q1 := block_cell hbk 1
  simp at q0 q1
  have hbl := block_lt hbk
  have hn : n ≤ 60000 := by have := (Rd.of_own hown).elen; omega
  have HN := Lib.hid h.nodup; have HOk := Lib.hid h.ok; have HP := Lib.hid h.places; have HO := Lib.hid hown; have HBk := Lib.hid hbk
  clear h hbk hown
  go_enter Try.func19, Try.ntmps19
  go_wp2_with fail
  refine wp_region_held_drew (S := fun w' => w'.cell? ⟨bk, 0, none⟩ = some (.slice A n c) ∧ w'.cell? ⟨bk, 1, none⟩ = some (.map (some mb))) (by kernel_rfl) ⟨q0, q1⟩ (fun hHeld => ?_)
  refine takeH 0 (some 5) (v := ?_) rfl (by kernel_rfl) (by kernel_rfl) (by kernel_rfl) (by kernel_rfl) (fun _ _ _ h => h) (Or.inl ⟨by kernel_rfl, ?hy⟩) (by assumption) ?_
  case hy =>
    intro w' hSw
    try dsimp only at hSw
    first
      | (go_simp; done)
      | (go_simp; with_reducible rfl)
  simp only [Act.put, List.setIfInBounds_toArray, List.set_cons_zero, List.set_cons_succ]
  refine takeH 1 (some 6) (v := ?_) rfl (by kernel_rfl) (by kernel_rfl) (by kernel_rfl) (by kernel_rfl) (fun _ _ _ h => h) (Or.inl ⟨by kernel_rfl, ?hy⟩) (by assumption) ?_
  case hy =>
    intro w' hSw
    try dsimp only at hSw
    first
      | (go_simp; done)
      | (go_simp; with_reducible rfl)
  simp only [Act.put, List.setIfInBounds_toArray, List.set_cons_zero, List.set_cons_succ]
  refine takeH 2 (some 7) (v := ?_) rfl (by kernel_rfl) (by kernel_rfl) (by kernel_rfl) (by kernel_rfl) (fun _ _ _ h => h) (Or.inl ⟨by kernel_rfl, ?hy⟩) (by assumption) ?_
  case hy =>
    intro w' hSw
    try dsimp only at hSw
    first
      | (go_simp; done)
      | (go_simp; with_reducible rfl)
  simp only [Act.put, List.setIfInBounds_toArray, List.set_cons_zero, List.set_cons_succ]
  refine takeH 3 (some 8) (v := ?_) rfl (by kernel_rfl) (by kernel_rfl) (by kernel_rfl) (by kernel_rfl) (fun _ _ _ h => h) (Or.inl ⟨by kernel_rfl, ?hy⟩) (by assumption) ?_
  case hy =>
    intro w' hSw
    try dsimp only at hSw
    first
      | (go_simp; done)
      | (go_simp; with_reducible rfl)
  simp only [Act.put, List.setIfInBounds_toArray, List.set_cons_zero, List.set_cons_succ]
  refine takeH 5 (some 10) (v := ?_) rfl (by kernel_rfl) (by kernel_rfl) (by kernel_rfl) (by kernel_rfl) (fun _ _ _ h => h) (Or.inl ⟨by kernel_rfl, ?hy⟩) (by assumption) ?_
  case hy =>
    intro w' hSw
    try dsimp only at hSw
    first
      | (go_simp; done)
      | (go_simp; with_reducible rfl)
  simp only [Act.put, List.setIfInBounds_toArray, List.set_cons_zero, List.set_cons_succ]
  refine takeH 6 (some 11) (v := ?_) rfl (by kernel_rfl) (by kernel_rfl) (by kernel_rfl) (by kernel_rfl) (fun _ _ _ h => h) (Or.inl ⟨by kernel_rfl, ?hy⟩) (by assumption) ?_
  case hy =>
    intro w' hSw
    try dsimp only at hSw
    first
      | (go_simp; done)
      | (go_simp; with_reducible rfl)
  simp only [Act.put, List.setIfInBounds_toArray, List.set_cons_zero, List.set_cons_succ]
  refine takeH 7 (some 12) (v := ?_) rfl (by kernel_rfl) (by kernel_rfl) (by kernel_rfl) (by kernel_rfl) (fun _ _ _ h => h) (Or.inl ⟨by kernel_rfl, ?hy⟩) (by assumption) ?_
  case hy =>
    intro w' hSw
    try dsimp only at hSw
    first
      | (go_simp; done)
      | (go_simp; with_reducible rfl)
  simp only [Act.put, List.setIfInBounds_toArray, List.set_cons_zero, List.set_cons_succ]
  refine takeH 8 (some 13) (v := ?_) rfl (by kernel_rfl) (by kernel_rfl) (by kernel_rfl) (by kernel_rfl) (fun _ _ _ h => h) (Or.inl ⟨by kernel_rfl, ?hy⟩) (by assumption) ?_
  case hy =>
    intro w' hSw
    try dsimp only at hSw
    first
      | (go_simp; done)
      | (go_simp; with_reducible rfl)
  simp only [Act.put, List.setIfInBounds_toArray, List.set_cons_zero, List.set_cons_succ]
  refine wpAnyH_ready (rs := [4]) (by kernel_rfl) (by simp) ?_
  refine AllReadyH.cons rfl (fun K hK => ?_) AllReadyH.nil
  rw [if_pos (by kernel_rfl)]
  go_simp
  refine (sclone_any L A n c B w.drew (own_below HO.out (Below.refl _ _).drew) (by omega)).mono ?_
  rintro r w1 ⟨A1, c1, rfl, ho, hb⟩
  have hq := (Below.refl w.heap.size w).drew.trans hb
  have Hq := Lib.hid hq; have HP1 := Lib.hid (HP.out.same (hq.block _ HP.out.lt)); have HO1 := Lib.hid ho
  refine hK.out _ _ ⟨cell_kept q0 hq hbl, cell_kept q1 hq hbl⟩ (fun _ => ?_)
  clear hK K hb ho
  refine wpAnyH_ready (rs := [9]) (by kernel_rfl) (by simp) ?_
  refine AllReadyH.cons rfl (fun K hK => ?_) AllReadyH.nil
  rw [if_pos (by kernel_rfl)]
  go_simp
  refine (mclone_any L mb w1 HP1.out).mono ?_
  rintro r w2 ⟨rfl, hp, hb⟩
  have Hz2 := Lib.hid hb; have Hq2 := Lib.hid (Hq.out.trans (hb.mono Hq.out.size)); have HP2 := Lib.hid hp; have HO2 := Lib.hid (own_below HO1.out hb)
  refine hK.out _ _ ⟨cell_kept (cell_kept q0 hq hbl) hb (by have := hq.size; omega), cell_kept (cell_kept q1 hq hbl) hb (by have := hq.size; omega)⟩ (fun _ => ?_)
  clear hK K hb hp hq
  refine takeH 10 (some 15) (v := ?_) rfl (by kernel_rfl) (by kernel_rfl) (by kernel_rfl) (by kernel_rfl) (fun _ _ _ h => h) (Or.inl ⟨by kernel_rfl, ?hy⟩) (by assumption) ?_
  case hy =>
    intro w' hSw
    try dsimp only at hSw
    first
      | (go_simp; done)
      | (go_simp; with_reducible rfl)
  simp only [Act.put, List.setIfInBounds_toArray, List.set_cons_zero, List.set_cons_succ]
  refine wpAnyH_ready (rs := [11]) (by kernel_rfl) (by simp) ?_
  refine AllReadyH.cons rfl (fun K hK => ?_) AllReadyH.nil
  rw [if_pos (by kernel_rfl)]
  go_simp
  have hs2 := Hq2.out.size
  have hbb : Below w2.heap.size w2 (w2.alloc (.cells #[.slice A1 n c1, .map (some w1.heap.size)] 84)) := below_one w2 _
  have HB3 : Hid ((w2.alloc (.cells #[.slice A1 n c1, .map (some w1.heap.size)] 84)).heap[w2.heap.size]? = some (.cells #[.slice A1 n c1, .map (some w1.heap.size)] 84 (0, 0))) := heap_alloc_new w2 _
  have q0' := cell_kept (cell_kept (cell_kept q0 Hq.out hbl) (Below.mono Hz2.out (Nat.le_refl _)) (by have := Hq.out.size; omega)) hbb (by omega)
  have q1' := cell_kept (cell_kept (cell_kept q1 Hq.out hbl) (Below.mono Hz2.out (Nat.le_refl _)) (by have := Hq.out.size; omega)) hbb (by omega)
  refine hK.out _ _ ⟨q0', q1'⟩ (fun _ => ?_)
  clear hK K
  refine takeH 12 (some 2) (v := ?_) rfl (by kernel_rfl) (by kernel_rfl) (by kernel_rfl) (by kernel_rfl) (fun _ _ _ h => h) (Or.inl ⟨by kernel_rfl, ?hy⟩) (by assumption) ?_
  case hy =>
    intro w' hSw
    try dsimp only at hSw
    first
      | (go_simp; done)
      | (go_simp; with_reducible rfl)
  simp only [Act.put, List.setIfInBounds_toArray, List.set_cons_zero, List.set_cons_succ]
  refine wpAnyH_done (by kernel_rfl) ?_ _
  go_wp2
  go_ret
  have hq1 := Hq.out.size
  exact ⟨w2.heap.size, w1.heap.size, rfl, ⟨⟨A1, n, c1, HB3.out, HO2.out.alloc _⟩, HP2.out.same (Below.heap_alloc _ _ _ HP2.out.lt), by omega, hq1, HN.out, HOk.out⟩, Hq2.out.alloc Hq2.out.size _⟩
theorem part_key (a b : D8) (w : World) : (part 32 #[.int .u8 (a.x0 : Int), .int .u8 (a.x1 : Int), .int .u8 (a.x2 : Int), .int .u8 (a.x3 : Int), .int .u8 (a.x4 : Int), .int .u8 (a.x5 : Int), .int .u8 (a.x6 : Int), .int .u8 (a.x7 : Int), .int .u8 (b.x0 : Int), .int .u8 (b.x1 : Int), .int .u8 (b.x2 : Int), .int .u8 (b.x3 : Int), .int .u8 (b.x4 : Int), .int .u8 (b.x5 : Int), .int .u8 (b.x6 : Int), .int .u8 (b.x7 : Int)] 0).run Try.prog w = .ok (.agg #[.int .u8 (a.x0 : Int), .int .u8 (a.x1 : Int), .int .u8 (a.x2 : Int), .int .u8 (a.x3 : Int), .int .u8 (a.x4 : Int), .int .u8 (a.x5 : Int), .int .u8 (a.x6 : Int), .int .u8 (a.x7 : Int)]) w := by kernel_rfl
theorem part_msg (a b : D8) (w : World) : (part 32 #[.int .u8 (a.x0 : Int), .int .u8 (a.x1 : Int), .int .u8 (a.x2 : Int), .int .u8 (a.x3 : Int), .int .u8 (a.x4 : Int), .int .u8 (a.x5 : Int), .int .u8 (a.x6 : Int), .int .u8 (a.x7 : Int), .int .u8 (b.x0 : Int), .int .u8 (b.x1 : Int), .int .u8 (b.x2 : Int), .int .u8 (b.x3 : Int), .int .u8 (b.x4 : Int), .int .u8 (b.x5 : Int), .int .u8 (b.x6 : Int), .int .u8 (b.x7 : Int)] 8).run Try.prog w = .ok (.agg #[.int .u8 (b.x0 : Int), .int .u8 (b.x1 : Int), .int .u8 (b.x2 : Int), .int .u8 (b.x3 : Int), .int .u8 (b.x4 : Int), .int .u8 (b.x5 : Int), .int .u8 (b.x6 : Int), .int .u8 (b.x7 : Int)]) w := by kernel_rfl
theorem flds_en : (Try.prog.fieldsOf 86).toList.map (fun f => (f.name, f.type, f.offset)) = [("key", 32, 0), ("msg", 32, 8)] := by kernel_rfl
theorem und_en : Try.prog.underlying 86 = some (.struct (Try.prog.fieldsOf 86)) := by kernel_rfl
theorem eqIn_en (a b : En) (w : World) : (Op.equalIn (9997 + 3) 86 (.agg #[.int .u8 (a.key.x0 : Int), .int .u8 (a.key.x1 : Int), .int .u8 (a.key.x2 : Int), .int .u8 (a.key.x3 : Int), .int .u8 (a.key.x4 : Int), .int .u8 (a.key.x5 : Int), .int .u8 (a.key.x6 : Int), .int .u8 (a.key.x7 : Int), .int .u8 (a.msg.x0 : Int), .int .u8 (a.msg.x1 : Int), .int .u8 (a.msg.x2 : Int), .int .u8 (a.msg.x3 : Int), .int .u8 (a.msg.x4 : Int), .int .u8 (a.msg.x5 : Int), .int .u8 (a.msg.x6 : Int), .int .u8 (a.msg.x7 : Int)]) (.agg #[.int .u8 (b.key.x0 : Int), .int .u8 (b.key.x1 : Int), .int .u8 (b.key.x2 : Int), .int .u8 (b.key.x3 : Int), .int .u8 (b.key.x4 : Int), .int .u8 (b.key.x5 : Int), .int .u8 (b.key.x6 : Int), .int .u8 (b.key.x7 : Int), .int .u8 (b.msg.x0 : Int), .int .u8 (b.msg.x1 : Int), .int .u8 (b.msg.x2 : Int), .int .u8 (b.msg.x3 : Int), .int .u8 (b.msg.x4 : Int), .int .u8 (b.msg.x5 : Int), .int .u8 (b.msg.x6 : Int), .int .u8 (b.msg.x7 : Int)])).run Try.prog w = .ok (sameEn a b) w := by
  rw [show 9997 + 3 = (9997 + 2) + 1 from rfl, run_equalIn_struct w (9997 + 2) 86 _ _ und_en (by kernel_rfl)]
  obtain ⟨f1, r1, e1, n1, t1, o1, h1⟩ := fields_cons flds_en
  obtain ⟨f2, r2, rfl, n2, t2, o2, h2⟩ := fields_cons h1
  obtain rfl : r2 = [] := by simpa using h2
  rw [e1]
  have p1 := fun w => part_key a.key a.msg w
  have p2 := fun w => part_msg a.key a.msg w
  have p3 := fun w => part_key b.key b.msg w
  have p4 := fun w => part_msg b.key b.msg w
  have q1 := fun w => eqIn_dig (a.key.x0 : Int) a.key.x1 a.key.x2 a.key.x3 a.key.x4 a.key.x5 a.key.x6 a.key.x7 b.key.x0 b.key.x1 b.key.x2 b.key.x3 b.key.x4 b.key.x5 b.key.x6 b.key.x7 9997 w
  have q2 := fun w => eqIn_dig (a.msg.x0 : Int) a.msg.x1 a.msg.x2 a.msg.x3 a.msg.x4 a.msg.x5 a.msg.x6 a.msg.x7 b.msg.x0 b.msg.x1 b.msg.x2 b.msg.x3 b.msg.x4 b.msg.x5 b.msg.x6 b.msg.x7 9997 w
  have u1 : ("key" : String) ≠ "_" := by decide
  have u2 : ("msg" : String) ≠ "_" := by decide
  have hs : sameEn a b = (eqI [(a.key.x0 : Int), a.key.x1, a.key.x2, a.key.x3, a.key.x4, a.key.x5, a.key.x6, a.key.x7] [(b.key.x0 : Int), b.key.x1, b.key.x2, b.key.x3, b.key.x4, b.key.x5, b.key.x6, b.key.x7] && eqI [(a.msg.x0 : Int), a.msg.x1, a.msg.x2, a.msg.x3, a.msg.x4, a.msg.x5, a.msg.x6, a.msg.x7] [(b.msg.x0 : Int), b.msg.x1, b.msg.x2, b.msg.x3, b.msg.x4, b.msg.x5, b.msg.x6, b.msg.x7]) := rfl
  rw [hs]
  simp only [Op.eqFields, n1, n2, t1, t2, o1, o2, if_pos u1, if_pos u2, Sem.run_bind, Result.andThen_ok, p1, p2, p3, p4, q1, q2, Sem.run_ite, Sem.run_pure]
  cases (eqI [(a.key.x0 : Int), a.key.x1, a.key.x2, a.key.x3, a.key.x4, a.key.x5, a.key.x6, a.key.x7] [(b.key.x0 : Int), b.key.x1, b.key.x2, b.key.x3, b.key.x4, b.key.x5, b.key.x6, b.key.x7]) <;> cases (eqI [(a.msg.x0 : Int), a.msg.x1, a.msg.x2, a.msg.x3, a.msg.x4, a.msg.x5, a.msg.x6, a.msg.x7] [(b.msg.x0 : Int), b.msg.x1, b.msg.x2, b.msg.x3, b.msg.x4, b.msg.x5, b.msg.x6, b.msg.x7]) <;> rfl
theorem neq_en (a b : En) (w : World) : (binOp .neq 86 (.agg #[.int .u8 (a.key.x0 : Int), .int .u8 (a.key.x1 : Int), .int .u8 (a.key.x2 : Int), .int .u8 (a.key.x3 : Int), .int .u8 (a.key.x4 : Int), .int .u8 (a.key.x5 : Int), .int .u8 (a.key.x6 : Int), .int .u8 (a.key.x7 : Int), .int .u8 (a.msg.x0 : Int), .int .u8 (a.msg.x1 : Int), .int .u8 (a.msg.x2 : Int), .int .u8 (a.msg.x3 : Int), .int .u8 (a.msg.x4 : Int), .int .u8 (a.msg.x5 : Int), .int .u8 (a.msg.x6 : Int), .int .u8 (a.msg.x7 : Int)]) (.agg #[.int .u8 (b.key.x0 : Int), .int .u8 (b.key.x1 : Int), .int .u8 (b.key.x2 : Int), .int .u8 (b.key.x3 : Int), .int .u8 (b.key.x4 : Int), .int .u8 (b.key.x5 : Int), .int .u8 (b.key.x6 : Int), .int .u8 (b.key.x7 : Int), .int .u8 (b.msg.x0 : Int), .int .u8 (b.msg.x1 : Int), .int .u8 (b.msg.x2 : Int), .int .u8 (b.msg.x3 : Int), .int .u8 (b.msg.x4 : Int), .int .u8 (b.msg.x5 : Int), .int .u8 (b.msg.x6 : Int), .int .u8 (b.msg.x7 : Int)])).run Try.prog w = .ok (.bool (!sameEn a b)) w := by
  rw [run_neq_struct, show (10000 : Nat) = 9997 + 3 from rfl, eqIn_en]; rfl
theorem list_no {L M : List En} {k : Nat} (_hk : k < L.length) (h : sameEn (L.getD k default) (M.getD k default) = false) : decide (L = M) = false := by
  refine decide_eq_false ?_
  rintro rfl
  rw [sameEn_iff.2 rfl] at h
  simp at h
theorem list_yes {L M : List En} (hl : L.length = M.length) (h : ∀ k, k < L.length → sameEn (L.getD k default) (M.getD k default) = true) : decide (L = M) = true := by
  refine decide_eq_true (List.ext_getElem hl fun k h1 h2 => ?_)
  have := sameEn_iff.1 (h k h1)
  simpa [List.getD_eq_getElem?_getD, h1, h2] using this
set_option maxRecDepth 100000 in
set_option maxHeartbeats 4000000 in
theorem eequal_any (A A' : Option Addr) (n c n' c' : Nat) (L M : List En) (w : World) (hr : Rd w w.heap.size 16 A n (flatE L)) (hr' : Rd w w.heap.size 16 A' n' (flatE M)) (hn : n ≤ 1000000) (hn' : n' ≤ 1000000) :
    Calls Try.prog 31 #[.slice A n c, .slice A' n' c'] w fun e w' => e = .returned (.bool (decide (L = M))) ∧ Below w.heap.size w w' := by
  have Hr := Lib.hid hr; have Hr' := Lib.hid hr'
  have Hl := Lib.hid hr.elen; have Hl' := Lib.hid hr'.elen
  clear hr hr'
  by_cases hlen : n = n'
  · subst hlen
    have heq := neq_en
    have b1 : ((n : Int) != (n : Int)) = false := by simp
    go_enter Try.func31, Try.ntmps31
    go_wp2
    go_loopw [13] (fun i wr => ∃ k : Nat, k ≤ n ∧ i = .int .i64 (k : Int) ∧ (∀ j, j < k → sameEn (L.getD j default) (M.getD j default) = true) ∧ Below w.heap.size w wr) (fun i _ => n - (Lib.intOf i).toNat)
    case atStart => exact ⟨0, by omega, rfl, fun j hj => absurd hj (by omega), Below.refl _ _⟩
    case round =>
      obtain ⟨k, hk, rfl, h0, hbel⟩ := hrel
      have H0 := Lib.hid h0; have Hbel := Lib.hid hbel
      clear h0
      by_cases hlt : k < n
      · obtain ⟨b, o, rfl, hbB, x⟩ := (Hr.out.below hbel (Nat.le_refl _)).en hlt
        obtain ⟨b', o', rfl, hbB', y⟩ := (Hr'.out.below hbel (Nat.le_refl _)).en hlt
        have hd1 : decide ((k : Int) < (n : Int)) = true := decide_eq_true (by omega)
        have hki : (k : Int) < (n : Int) := by omega
        have Hfin : Hid (sameEn (L.getD k default) (M.getD k default) = false → decide (L = M) = false) := fun h => list_no (by have := Hl.out; omega) h
        generalize hhk : L.getD k default = h at *
        generalize hhm : M.getD k default = h' at *
        have Hhk := Lib.hid hhk; have Hhm := Lib.hid hhm
        have x0 := x 0 (by decide); have x1 := x 1 (by decide); have x2 := x 2 (by decide); have x3 := x 3 (by decide); have x4 := x 4 (by decide); have x5 := x 5 (by decide); have x6 := x 6 (by decide); have x7 := x 7 (by decide)
        have x8 := x 8 (by decide); have x9 := x 9 (by decide); have x10 := x 10 (by decide); have x11 := x 11 (by decide); have x12 := x 12 (by decide); have x13 := x 13 (by decide); have x14 := x 14 (by decide); have x15 := x 15 (by decide)
        have y0 := y 0 (by decide); have y1 := y 1 (by decide); have y2 := y 2 (by decide); have y3 := y 3 (by decide); have y4 := y 4 (by decide); have y5 := y 5 (by decide); have y6 := y 6 (by decide); have y7 := y 7 (by decide)
        have y8 := y 8 (by decide); have y9 := y 9 (by decide); have y10 := y 10 (by decide); have y11 := y 11 (by decide); have y12 := y 12 (by decide); have y13 := y 13 (by decide); have y14 := y 14 (by decide); have y15 := y 15 (by decide)
        simp [En.cells] at x0 x1 x2 x3 x4 x5 x6 x7 x8 x9 x10 x11 x12 x13 x14 x15 y0 y1 y2 y3 y4 y5 y6 y7 y8 y9 y10 y11 y12 y13 y14 y15
        clear hhk hhm hbel x y
        cases hS : sameEn h h' with
        | true =>
          have HS := Lib.hid hS
          go_wp2
          go_region
          all_goals
            go_wp2
            go_roundw
            case rel =>
              refine ⟨k + 1, by omega, by go_num, fun j hj => ?_, Hbel.out.drew⟩
              rcases Nat.lt_or_ge j k with h1 | h1
              · exact H0.out j h1
              · obtain rfl : j = k := by omega
                rw [Hhk.out, Hhm.out]; exact HS.out
            case measure => simp [Lib.intOf]; omega
        | false =>
          have Hr2 := Lib.hid (Hfin.out hS)
          go_wp2
          go_region
          all_goals
            go_wp2
            go_ret
            exact ⟨by rw [Hr2.out]; rfl, Hbel.out.drew⟩
      · have hkn : k = n := by omega
        subst hkn
        have hd1 : decide ((k : Int) < (k : Int)) = false := decide_eq_false (by omega)
        have Hr2 : Hid (decide (L = M) = true) := list_yes (by rw [Hl.out, Hl'.out]) (by rw [Hl.out]; exact H0.out)
        clear hlt hbel
        go_wp2
        go_ret
        exact ⟨by rw [Hr2.out]; rfl, Hbel.out⟩
  · have b1 : ((n : Int) != (n' : Int)) = true := by rw [bne_iff_ne]; omega
    have Hr2 : Hid (decide (L = M) = false) := decide_eq_false (by rintro rfl; exact hlen (Hl.out.symm.trans Hl'.out))
    clear hlen
    go_enter Try.func31, Try.ntmps31
    go_wp2
    go_ret
    exact ⟨by rw [Hr2.out]; rfl, Below.refl _ _⟩
/-- A book's list, for reading. -/
def ListAt (w : World) (bk : Nat) (L : List En) : Prop := ∃ A n c v, w.heap[bk]? = some (.cells #[.slice A n c, v] 84 (0, 0)) ∧ Rd w w.heap.size 16 A n (flatE L)
theorem BookAt.list {w : World} {B bk mb : Nat} {L : List En} (h : BookAt w B bk mb L) : ListAt w bk L := by
  obtain ⟨A, n, c, h1, h2⟩ := h.book
  exact ⟨A, n, c, _, h1, Rd.of_own h2⟩
theorem BookG.list {w : World} {C bk mb : Nat} {L : List En} (h : BookG w C bk mb L) : ListAt w bk L := by
  obtain ⟨A, n, c, h1, h2⟩ := h.book
  exact ⟨A, n, c, _, h1, Rd.of_own h2⟩
set_option maxRecDepth 100000 in
set_option maxHeartbeats 2000000 in
theorem bookSame_any (b1 b2 : Nat) (L M : List En) (w : World) (h : ListAt w b1 L) (h2 : ListAt w b2 M) (hl : L.length ≤ 60000) (hm : M.length ≤ 60000) :
    Calls Try.prog 20 #[.pointer (some ⟨b1, 0, none⟩), .pointer (some ⟨b2, 0, none⟩)] w fun r w' => r = .returned (.bool (decide (L = M))) ∧ Below w.heap.size w w' := by
  obtain ⟨A, n, c, v, hb, hr⟩ := h
  obtain ⟨A', n', c', v', hb', hr'⟩ := h2
  have q0 := block_cell hb 0
  have q1 := block_cell hb' 0
  simp at q0 q1
  have hn := hr.elen; have hn' := hr'.elen
  have Hr := Lib.hid hr; have Hr' := Lib.hid hr'
  have hl1 := block_lt hb; have hl2 := block_lt hb'
  clear hb hb' hr hr'
  go_enter Try.func20, Try.ntmps20
  go_wp2_with fail
  refine wp_region_held_drew (S := fun w' => w'.cell? ⟨b1, 0, none⟩ = some (.slice A n c) ∧ w'.cell? ⟨b2, 0, none⟩ = some (.slice A' n' c')) (by kernel_rfl) ⟨q0, q1⟩ (fun hHeld => ?_)
  refine takeH 0 (some 17) (v := ?_) rfl (by kernel_rfl) (by kernel_rfl) (by kernel_rfl) (by kernel_rfl) (fun _ _ _ h => h) (Or.inl ⟨by kernel_rfl, ?hy⟩) (by assumption) ?_
  case hy =>
    intro w' hSw
    try dsimp only at hSw
    first
      | (go_simp; done)
      | (go_simp; with_reducible rfl)
  simp only [Act.put, List.setIfInBounds_toArray, List.set_cons_zero, List.set_cons_succ]
  refine takeH 1 (some 18) (v := ?_) rfl (by kernel_rfl) (by kernel_rfl) (by kernel_rfl) (by kernel_rfl) (fun _ _ _ h => h) (Or.inl ⟨by kernel_rfl, ?hy⟩) (by assumption) ?_
  case hy =>
    intro w' hSw
    try dsimp only at hSw
    first
      | (go_simp; done)
      | (go_simp; with_reducible rfl)
  simp only [Act.put, List.setIfInBounds_toArray, List.set_cons_zero, List.set_cons_succ]
  refine takeH 2 (some 19) (v := ?_) rfl (by kernel_rfl) (by kernel_rfl) (by kernel_rfl) (by kernel_rfl) (fun _ _ _ h => h) (Or.inl ⟨by kernel_rfl, ?hy⟩) (by assumption) ?_
  case hy =>
    intro w' hSw
    try dsimp only at hSw
    first
      | (go_simp; done)
      | (go_simp; with_reducible rfl)
  simp only [Act.put, List.setIfInBounds_toArray, List.set_cons_zero, List.set_cons_succ]
  refine takeH 3 (some 20) (v := ?_) rfl (by kernel_rfl) (by kernel_rfl) (by kernel_rfl) (by kernel_rfl) (fun _ _ _ h => h) (Or.inl ⟨by kernel_rfl, ?hy⟩) (by assumption) ?_
  case hy =>
    intro w' hSw
    try dsimp only at hSw
    first
      | (go_simp; done)
      | (go_simp; with_reducible rfl)
  simp only [Act.put, List.setIfInBounds_toArray, List.set_cons_zero, List.set_cons_succ]
  refine takeH 4 (some 21) (v := ?_) rfl (by kernel_rfl) (by kernel_rfl) (by kernel_rfl) (by kernel_rfl) (fun _ _ _ h => h) (Or.inl ⟨by kernel_rfl, ?hy⟩) (by assumption) ?_
  case hy =>
    intro w' hSw
    try dsimp only at hSw
    first
      | (go_simp; done)
      | (go_simp; with_reducible rfl)
  simp only [Act.put, List.setIfInBounds_toArray, List.set_cons_zero, List.set_cons_succ]
  refine takeH 5 (some 22) (v := ?_) rfl (by kernel_rfl) (by kernel_rfl) (by kernel_rfl) (by kernel_rfl) (fun _ _ _ h => h) (Or.inl ⟨by kernel_rfl, ?hy⟩) (by assumption) ?_
  case hy =>
    intro w' hSw
    try dsimp only at hSw
    first
      | (go_simp; done)
      | (go_simp; with_reducible rfl)
  simp only [Act.put, List.setIfInBounds_toArray, List.set_cons_zero, List.set_cons_succ]
  refine takeH 6 (some 23) (v := ?_) rfl (by kernel_rfl) (by kernel_rfl) (by kernel_rfl) (by kernel_rfl) (fun _ _ _ h => h) (Or.inl ⟨by kernel_rfl, ?hy⟩) (by assumption) ?_
  case hy =>
    intro w' hSw
    try dsimp only at hSw
    first
      | (go_simp; done)
      | (go_simp; with_reducible rfl)
  simp only [Act.put, List.setIfInBounds_toArray, List.set_cons_zero, List.set_cons_succ]
  refine takeH 7 (some 24) (v := ?_) rfl (by kernel_rfl) (by kernel_rfl) (by kernel_rfl) (by kernel_rfl) (fun _ _ _ h => h) (Or.inl ⟨by kernel_rfl, ?hy⟩) (by assumption) ?_
  case hy =>
    intro w' hSw
    try dsimp only at hSw
    first
      | (go_simp; done)
      | (go_simp; with_reducible rfl)
  simp only [Act.put, List.setIfInBounds_toArray, List.set_cons_zero, List.set_cons_succ]
  refine wpAnyH_ready (rs := [8]) (by kernel_rfl) (by simp) ?_
  refine AllReadyH.cons rfl (fun K hK => ?_) AllReadyH.nil
  rw [if_pos (by kernel_rfl)]
  go_simp
  refine (eequal_any A A' n c n' c' L M w.drew Hr.out Hr'.out (by omega) (by omega)).mono ?_
  rintro r w1 ⟨rfl, hq⟩
  have hq2 := (Below.refl w.heap.size w).drew.trans hq
  have Hq := Lib.hid hq2
  refine hK.out _ _ ⟨cell_kept q0 hq2 hl1, cell_kept q1 hq2 hl2⟩ (fun _ => ?_)
  clear hK K hq hq2
  refine takeH 9 (some 4) (v := ?_) rfl (by kernel_rfl) (by kernel_rfl) (by kernel_rfl) (by kernel_rfl) (fun _ _ _ h => h) (Or.inl ⟨by kernel_rfl, ?hy⟩) (by assumption) ?_
  case hy =>
    intro w' hSw
    try dsimp only at hSw
    first
      | (go_simp; done)
      | (go_simp; with_reducible rfl)
  simp only [Act.put, List.setIfInBounds_toArray, List.set_cons_zero, List.set_cons_succ]
  refine wpAnyH_done (by kernel_rfl) ?_ _
  go_wp2
  go_ret
  exact ⟨rfl, Hq.out⟩
end Go.Proofs.Ytepdinfopcohiaa
