/- The walk of the example's text. Condition: internal/bytealg.MaxLen holds a number. -/
import Derived.Test.YtigolkdclacikaaDoorChT
import Derived.Test.YtigolkdclacikaaDoorChC
namespace Go.Proofs.YtigolkdclacikaaDoor
open Go.RowKit Go.Lib
theorem cutA : Lib.cut (⟨#[51, 32, 108, 111, 115, 101, 32, 48, 32, 53, 32, 48, 10]⟩ : ByteArray).data.toList (⟨#[10]⟩ : ByteArray).data.toList = ([51, 32, 108, 111, 115, 101, 32, 48, 32, 53, 32, 48], [], true) := cut5
theorem cutB : Lib.cut (⟨#[48, 51, 32, 108, 111, 115, 101, 32, 48, 32, 53, 32, 48, 10]⟩ : ByteArray).data.toList (⟨#[10]⟩ : ByteArray).data.toList = ([48, 51, 32, 108, 111, 115, 101, 32, 48, 32, 53, 32, 48], [], true) := cut6
set_option maxRecDepth 100000 in
set_option maxHeartbeats 1000000 in
theorem parse_bad (w : World) (hM : MaxAt w) : Calls Tryd.prog 24 #[.string ⟨#[48, 51, 32, 108, 111, 115, 101, 32, 48, 32, 53, 32, 48, 10]⟩] w fun e w' =>
    e = .returned (.tuple #[.slice none 0 0, .int .i64 3]) ∧ Below w.heap.size w w' := by
  obtain ⟨m, hm⟩ := hM.2
  go_enter Tryd.func24, Tryd.ntmps24
  go_wp2
  refine wp_loop_rounds 1 ?_
  rw [rounds_succ]
  go_wp2_with (first
    | (go_at_call 46; refine (Tryd.strings_Cut _ _ m _ (by decide) hm).mono ?_; rintro e w' ⟨rfl, k, rfl⟩; rw [cutB]; have hMk := hM.below (below_drewN (Below.refl w.heap.size w) k) hM.1; have hbk := below_drewN (Below.refl w.heap.size w) k)
    | (go_at_call 47; refine (deed_bad _ hMk).mono ?_; rintro e w2 ⟨rfl, hb2⟩; have Hb2 := Lib.hid (hbk.trans (hb2.mono hbk.size)); clear hb2))
  go_ret2
  exact ⟨rfl, Hb2.out.alloc Hb2.out.size _⟩
theorem check1 : checkD [⟨3, 1, 0, 5, 0⟩] 16 = 0 := by decide
set_option maxRecDepth 100000 in
set_option maxHeartbeats 1000000 in
theorem parse_good (w : World) (hM : MaxAt w) : Calls Tryd.prog 24 #[.string ⟨#[51, 32, 108, 111, 115, 101, 32, 48, 32, 53, 32, 48, 10]⟩] w fun e w' =>
    ∃ A c, e = .returned (.tuple #[.slice A 1 c, .int .i64 0]) ∧ Rd w' w'.heap.size 5 A 1 (flat [⟨3, 1, 0, 5, 0⟩]) ∧ Below w.heap.size w w' := by
  obtain ⟨i0, hi, hz0, hz1, hz2⟩ := info_parts info_De
  have HI := Lib.hid (And.intro hi (And.intro hz0 (And.intro hz1 hz2))); clear hi hz0 hz1 hz2
  obtain ⟨m, hm⟩ := hM.2
  go_enter Tryd.func24, Tryd.ntmps24
  go_wp2
  refine wp_loop_rounds 2 ?_
  rw [rounds_succ]
  go_wp2_with (first
    | (go_at_call 46; refine (Tryd.strings_Cut _ _ m _ (by decide) hm).mono ?_; rintro e w' ⟨rfl, k, rfl⟩; rw [cutA]; have hMk := hM.below (below_drewN (Below.refl w.heap.size w) k) hM.1; have hbk := below_drewN (Below.refl w.heap.size w) k)
    | (go_at_call 47; refine (deed_good _ hMk).mono ?_; rintro e w2 ⟨rfl, hb2⟩; have Hb2 := Lib.hid ((hbk.trans (hb2.mono hbk.size)).alloc (hbk.trans (hb2.mono hbk.size)).size (.cells #[.int .i64 3, .int .i64 1, .int .i64 0, .int .i64 5, .int .i64 0] 46)); have hs2 := (hbk.trans (hb2.mono hbk.size)).size; clear hb2)
    | (at_builtin; go_must (refine wpList_append_lit (w2.alloc (.cells #[.int .i64 3, .int .i64 1, .int .i64 0, .int .i64 5, .int .i64 0] 46)) (by rfl) _ _ 28 (by rfl) w.heap.size 46 i0 (.agg #[.int .i64 0, .int .i64 0, .int .i64 0, .int .i64 0, .int .i64 0]) 5 40 Tryd.underlying28 HI.out rfl (by decide) _ _ _ (by rfl) (World.ownsRow_nil _ _ _ _) 1 1 #[.int .i64 3, .int .i64 1, .int .i64 0, .int .i64 5, .int .i64 0] 46 (by simp [Act.eval]) rfl (by simp [Value.oneCell']) (by omega) (by omega) (by simp; omega) ?_); intro v4 w4 hown4 hbel4; obtain ⟨A4, c4, rfl⟩ := own_form hown4; have Hown4 := Lib.hid hown4; have Hb4 := Lib.hid (Hb2.out.trans hbel4); clear hown4 hbel4))
  rw [rounds_succ]
  have hrd : Rd w4 w4.heap.size 5 A4 (0 + 1) (flat [⟨3, 1, 0, 5, 0⟩]) := Rd.of_own Hown4.out
  simp only [Nat.zero_add] at hrd
  go_wp2_with (go_at_call 13; refine (check_any A4 1 c4 [⟨3, 1, 0, 5, 0⟩] 16 w4 hrd (by omega)).mono ?_; rintro e w5 ⟨rfl, hb5⟩; rw [check1]; have Hb5 := Lib.hid (Hb4.out.trans (hb5.mono Hb4.out.size)); have Hrd5 := Lib.hid ((hrd.below hb5 (Nat.le_refl _)).more hb5.size); clear hb5)
  go_ret2
  exact ⟨A4, c4, rfl, Hrd5.out, Hb5.out⟩
theorem isAgg_int : ∀ w, (isAgg 3).run Tryd.prog w = .ok false w := fun w => by kernel_rfl
theorem run_part_int {P : Program} {e : TypeId} (ha : ∀ w, (isAgg e).run P w = .ok false w) (cs : Array Value) (off : Nat) (v : Value) (w : World) (h : cs[off]? = some v) : (part e cs off).run P w = .ok v w := by
  simp [part, Sem.run_bind, ha, h]
theorem fields_cons {fs : List Field} {n : String} {t : TypeId} {o : Nat} {r : List (String × TypeId × Nat)} (h : fs.map (fun f => (f.name, f.type, f.offset)) = (n, t, o) :: r) :
    ∃ f fs', fs = f :: fs' ∧ f.name = n ∧ f.type = t ∧ f.offset = o ∧ fs'.map (fun f => (f.name, f.type, f.offset)) = r := by
  cases fs with
  | nil => simp at h
  | cons f fs' =>
    simp only [List.map_cons, List.cons.injEq, Prod.mk.injEq] at h
    exact ⟨f, fs', rfl, h.1.1, h.1.2.1, h.1.2.2, h.2⟩
theorem flds_De : (Tryd.prog.fieldsOf 46).toList.map (fun f => (f.name, f.type, f.offset)) = [("At", 3, 0), ("Kind", 3, 1), ("Who", 3, 2), ("A", 3, 3), ("B", 3, 4)] := by kernel_rfl
theorem und_De : Tryd.prog.underlying 46 = some (.struct (Tryd.prog.fieldsOf 46)) := by kernel_rfl
def sameE (a b : De) : Bool := (a.t == b.t) && (a.k == b.k) && (a.w == b.w) && (a.a == b.a) && (a.b == b.b)
theorem eqIn_De (a b : De) (w : World) : (Op.equalIn (9997 + 3) 46 (.agg #[.int .i64 a.t, .int .i64 a.k, .int .i64 a.w, .int .i64 a.a, .int .i64 a.b]) (.agg #[.int .i64 b.t, .int .i64 b.k, .int .i64 b.w, .int .i64 b.a, .int .i64 b.b])).run Tryd.prog w = .ok (sameE a b) w := by
  rw [show 9997 + 3 = (9997 + 2) + 1 from rfl, run_equalIn_struct w (9997 + 2) 46 _ _ und_De (by kernel_rfl)]
  obtain ⟨f1, r1, e1, n1, t1, o1, h1⟩ := fields_cons flds_De
  obtain ⟨f2, r2, rfl, n2, t2, o2, h2⟩ := fields_cons h1
  obtain ⟨f3, r3, rfl, n3, t3, o3, h3⟩ := fields_cons h2
  obtain ⟨f4, r4, rfl, n4, t4, o4, h4⟩ := fields_cons h3
  obtain ⟨f5, r5, rfl, n5, t5, o5, h5⟩ := fields_cons h4
  obtain rfl : r5 = [] := by simpa using h5
  rw [e1]
  have p1 : ∀ (h : De) w, (part 3 #[.int .i64 h.t, .int .i64 h.k, .int .i64 h.w, .int .i64 h.a, .int .i64 h.b] 0).run Tryd.prog w = .ok (.int .i64 h.t) w := fun h w => run_part_int isAgg_int _ _ _ w rfl
  have p2 : ∀ (h : De) w, (part 3 #[.int .i64 h.t, .int .i64 h.k, .int .i64 h.w, .int .i64 h.a, .int .i64 h.b] 1).run Tryd.prog w = .ok (.int .i64 h.k) w := fun h w => run_part_int isAgg_int _ _ _ w rfl
  have p3 : ∀ (h : De) w, (part 3 #[.int .i64 h.t, .int .i64 h.k, .int .i64 h.w, .int .i64 h.a, .int .i64 h.b] 2).run Tryd.prog w = .ok (.int .i64 h.w) w := fun h w => run_part_int isAgg_int _ _ _ w rfl
  have p4 : ∀ (h : De) w, (part 3 #[.int .i64 h.t, .int .i64 h.k, .int .i64 h.w, .int .i64 h.a, .int .i64 h.b] 3).run Tryd.prog w = .ok (.int .i64 h.a) w := fun h w => run_part_int isAgg_int _ _ _ w rfl
  have p5 : ∀ (h : De) w, (part 3 #[.int .i64 h.t, .int .i64 h.k, .int .i64 h.w, .int .i64 h.a, .int .i64 h.b] 4).run Tryd.prog w = .ok (.int .i64 h.b) w := fun h w => run_part_int isAgg_int _ _ _ w rfl
  have q2 := fun (x y : Int) w => run_equalIn_int (P := Tryd.prog) w (9997 + 1) 3 .i64 .i64 x y Tryd.underlying3
  unfold sameE
  have u1 : ("At" : String) ≠ "_" := by decide
  have u2 : ("Kind" : String) ≠ "_" := by decide
  have u3 : ("Who" : String) ≠ "_" := by decide
  have u4 : ("A" : String) ≠ "_" := by decide
  have u5 : ("B" : String) ≠ "_" := by decide
  simp only [Op.eqFields, n1, n2, n3, n4, n5, t1, t2, t3, t4, t5, o1, o2, o3, o4, o5, if_pos u1, if_pos u2, if_pos u3, if_pos u4, if_pos u5, Sem.run_bind, Result.andThen_ok, p1, p2, p3, p4, p5, q2, Sem.run_ite, Sem.run_pure]
  cases (a.t == b.t) <;> cases (a.k == b.k) <;> cases (a.w == b.w) <;> cases (a.a == b.a) <;> cases (a.b == b.b) <;> rfl
theorem eql_De (a b : De) (w : World) : (binOp .eql 46 (.agg #[.int .i64 a.t, .int .i64 a.k, .int .i64 a.w, .int .i64 a.a, .int .i64 a.b]) (.agg #[.int .i64 b.t, .int .i64 b.k, .int .i64 b.w, .int .i64 b.a, .int .i64 b.b])).run Tryd.prog w = .ok (.bool (sameE a b)) w := by
  rw [run_eql_struct, show (10000 : Nat) = 9997 + 3 from rfl, eqIn_De]; rfl
set_option maxRecDepth 100000 in
set_option maxHeartbeats 1000000 in
theorem told_any (w : World) (hM : MaxAt w) : Calls Tryd.prog 10 #[] w fun e w' => e = .returned (.bool true) ∧ Below w.heap.size w w' := by
  have heq : ∀ w, (binOp .eql 46 (.agg #[.int .i64 3, .int .i64 1, .int .i64 0, .int .i64 5, .int .i64 0]) (.agg #[.int .i64 3, .int .i64 1, .int .i64 0, .int .i64 5, .int .i64 0])).run Tryd.prog w = .ok (.bool true) w := fun w => eql_De ⟨3, 1, 0, 5, 0⟩ ⟨3, 1, 0, 5, 0⟩ w
  go_enter Tryd.func10, Tryd.ntmps10
  go_wp2_with fail
  refine (parse_good w hM).mono ?_
  rintro e w1 ⟨A1, c1, rfl, hr1, hb1⟩
  have Hb1 := Lib.hid hb1
  have hM1 := hM.below hb1 hM.1
  go_wp2_with fail
  refine (parse_bad w1 hM1).mono ?_
  rintro e w2 ⟨rfl, hb2⟩
  have Hb2 := Lib.hid (hb1.trans (hb2.mono hb1.size))
  obtain ⟨b, o, rfl, hbB, x0, x1, x2, x3, x4⟩ := (hr1.below hb2 (Nat.le_refl _)).de (k := 0) (by omega)
  simp only [Nat.zero_mul, Nat.add_zero] at x0 x1 x2 x3 x4
  change w2.cell? ⟨b, o, none⟩ = some (.int .i64 3) at x0
  change w2.cell? ⟨b, o + 1, none⟩ = some (.int .i64 1) at x1
  change w2.cell? ⟨b, o + 2, none⟩ = some (.int .i64 0) at x2
  change w2.cell? ⟨b, o + 3, none⟩ = some (.int .i64 5) at x3
  change w2.cell? ⟨b, o + 4, none⟩ = some (.int .i64 0) at x4
  clear hb1 hb2 hr1 hM1
  go_wp2
  go_ret
  exact ⟨rfl, Hb2.out⟩
end Go.Proofs.YtigolkdclacikaaDoor
