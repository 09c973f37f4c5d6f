/- Held ones compared. Nothing of the program stands in it but its tables, so there is no condition. -/
import Derived.Test.YthjpaclcoipocaaPuB
import Derived.Test.YthjpaclcoipocaaPuP
import Derived.Laws.StructEq
namespace Go.Proofs.Ythjpaclcoipocaa
open Go.RowKit Go.Lib

theorem fields_cons {fs : List Field} {n : String} {t : TypeId} {o : Nat} {r : List (String × TypeId × Nat)} (h : fs.map (fun f => (f.name, f.type, f.offset)) = (n, t, o) :: r) :
    ∃ f fs', fs = f :: fs' ∧ f.name = n ∧ f.type = t ∧ f.offset = o ∧ fs'.map (fun f => (f.name, f.type, f.offset)) = r := by
  cases fs with
  | nil => simp at h
  | cons f fs' =>
    simp only [List.map_cons, List.cons.injEq, Prod.mk.injEq] at h
    exact ⟨f, fs', rfl, h.1.1, h.1.2.1, h.1.2.2, h.2⟩
theorem isAgg_dig : ∀ w, (isAgg 32).run Try.prog w = .ok true w := fun w => by kernel_rfl
theorem sizeOf_dig : ∀ w, (sizeOf 32).run Try.prog w = .ok 8 w := fun w => by kernel_rfl
theorem isAgg_digR : ∀ w, (isAgg 22).run Try.prog w = .ok true w := fun w => by kernel_rfl
theorem sizeOf_digR : ∀ w, (sizeOf 22).run Try.prog w = .ok 8 w := fun w => by kernel_rfl
theorem flds_held : (Try.prog.fieldsOf 56).toList.map (fun f => (f.name, f.type, f.offset)) = [("Name", 32, 0), ("Amount", 3, 8), ("From", 3, 9), ("Until", 3, 10)] := by kernel_rfl
theorem und_held : Try.prog.underlying 56 = some (.struct (Try.prog.fieldsOf 56)) := by kernel_rfl
theorem eqIn_held (a b : Hd) (w : World) : (Op.equalIn (9997 + 3) 56 (.agg #[.int .u8 (a.nm.x0 : Int), .int .u8 (a.nm.x1 : Int), .int .u8 (a.nm.x2 : Int), .int .u8 (a.nm.x3 : Int), .int .u8 (a.nm.x4 : Int), .int .u8 (a.nm.x5 : Int), .int .u8 (a.nm.x6 : Int), .int .u8 (a.nm.x7 : Int), .int .i64 a.am, .int .i64 a.fr, .int .i64 a.un]) (.agg #[.int .u8 (b.nm.x0 : Int), .int .u8 (b.nm.x1 : Int), .int .u8 (b.nm.x2 : Int), .int .u8 (b.nm.x3 : Int), .int .u8 (b.nm.x4 : Int), .int .u8 (b.nm.x5 : Int), .int .u8 (b.nm.x6 : Int), .int .u8 (b.nm.x7 : Int), .int .i64 b.am, .int .i64 b.fr, .int .i64 b.un])).run Try.prog w = .ok (sameHd a b) w := by
  rw [show 9997 + 3 = (9997 + 2) + 1 from rfl, run_equalIn_struct w (9997 + 2) 56 _ _ und_held (by kernel_rfl)]
  obtain ⟨f1, r1, e1, n1, t1, o1, h1⟩ := fields_cons flds_held
  obtain ⟨f2, r2, rfl, n2, t2, o2, h2⟩ := fields_cons h1
  obtain ⟨f3, r3, rfl, n3, t3, o3, h3⟩ := fields_cons h2
  obtain ⟨f4, r4, rfl, n4, t4, o4, h4⟩ := fields_cons h3
  obtain rfl : r4 = [] := by simpa using h4
  rw [e1]
  have p1 : ∀ (h : Hd) w, (part 32 #[.int .u8 (h.nm.x0 : Int), .int .u8 (h.nm.x1 : Int), .int .u8 (h.nm.x2 : Int), .int .u8 (h.nm.x3 : Int), .int .u8 (h.nm.x4 : Int), .int .u8 (h.nm.x5 : Int), .int .u8 (h.nm.x6 : Int), .int .u8 (h.nm.x7 : Int), .int .i64 h.am, .int .i64 h.fr, .int .i64 h.un] 0).run Try.prog w = .ok (.agg #[.int .u8 (h.nm.x0 : Int), .int .u8 (h.nm.x1 : Int), .int .u8 (h.nm.x2 : Int), .int .u8 (h.nm.x3 : Int), .int .u8 (h.nm.x4 : Int), .int .u8 (h.nm.x5 : Int), .int .u8 (h.nm.x6 : Int), .int .u8 (h.nm.x7 : Int)]) w := fun h w => by
    simp [part]
  have p2 : ∀ (h : Hd) w, (part 3 #[.int .u8 (h.nm.x0 : Int), .int .u8 (h.nm.x1 : Int), .int .u8 (h.nm.x2 : Int), .int .u8 (h.nm.x3 : Int), .int .u8 (h.nm.x4 : Int), .int .u8 (h.nm.x5 : Int), .int .u8 (h.nm.x6 : Int), .int .u8 (h.nm.x7 : Int), .int .i64 h.am, .int .i64 h.fr, .int .i64 h.un] 8).run Try.prog w = .ok (.int .i64 h.am) w := fun h w => run_part_u8 isAgg_int _ _ _ w rfl
  have p3 : ∀ (h : Hd) w, (part 3 #[.int .u8 (h.nm.x0 : Int), .int .u8 (h.nm.x1 : Int), .int .u8 (h.nm.x2 : Int), .int .u8 (h.nm.x3 : Int), .int .u8 (h.nm.x4 : Int), .int .u8 (h.nm.x5 : Int), .int .u8 (h.nm.x6 : Int), .int .u8 (h.nm.x7 : Int), .int .i64 h.am, .int .i64 h.fr, .int .i64 h.un] 9).run Try.prog w = .ok (.int .i64 h.fr) w := fun h w => run_part_u8 isAgg_int _ _ _ w rfl
  have p4 : ∀ (h : Hd) w, (part 3 #[.int .u8 (h.nm.x0 : Int), .int .u8 (h.nm.x1 : Int), .int .u8 (h.nm.x2 : Int), .int .u8 (h.nm.x3 : Int), .int .u8 (h.nm.x4 : Int), .int .u8 (h.nm.x5 : Int), .int .u8 (h.nm.x6 : Int), .int .u8 (h.nm.x7 : Int), .int .i64 h.am, .int .i64 h.fr, .int .i64 h.un] 10).run Try.prog w = .ok (.int .i64 h.un) w := fun h w => run_part_u8 isAgg_int _ _ _ w rfl
  have q1 := fun (a b : Hd) w => eqIn_dig a.nm.x0 a.nm.x1 a.nm.x2 a.nm.x3 a.nm.x4 a.nm.x5 a.nm.x6 a.nm.x7 b.nm.x0 b.nm.x1 b.nm.x2 b.nm.x3 b.nm.x4 b.nm.x5 b.nm.x6 b.nm.x7 9997 w
  have q2 := fun (x y : Int) w => run_equalIn_int (P := Try.prog) w (9997 + 1) 3 .i64 .i64 x y Try.underlying3
  unfold sameHd
  rw [show eqI a.nm.L b.nm.L = eqI [(a.nm.x0 : Int), (a.nm.x1 : Int), (a.nm.x2 : Int), (a.nm.x3 : Int), (a.nm.x4 : Int), (a.nm.x5 : Int), (a.nm.x6 : Int), (a.nm.x7 : Int)] [(b.nm.x0 : Int), (b.nm.x1 : Int), (b.nm.x2 : Int), (b.nm.x3 : Int), (b.nm.x4 : Int), (b.nm.x5 : Int), (b.nm.x6 : Int), (b.nm.x7 : Int)] from rfl]
  have u1 : ("Name" : String) ≠ "_" := by decide
  have u2 : ("Amount" : String) ≠ "_" := by decide
  have u3 : ("From" : String) ≠ "_" := by decide
  have u4 : ("Until" : String) ≠ "_" := by decide
  simp only [Op.eqFields, n1, n2, n3, n4, t1, t2, t3, t4, o1, o2, o3, o4, if_pos u1, if_pos u2, if_pos u3, if_pos u4, Sem.run_bind, Result.andThen_ok, p1, p2, p3, p4, q1, q2, Sem.run_ite, Sem.run_pure]
  cases eqI [(a.nm.x0 : Int), (a.nm.x1 : Int), (a.nm.x2 : Int), (a.nm.x3 : Int), (a.nm.x4 : Int), (a.nm.x5 : Int), (a.nm.x6 : Int), (a.nm.x7 : Int)] [(b.nm.x0 : Int), (b.nm.x1 : Int), (b.nm.x2 : Int), (b.nm.x3 : Int), (b.nm.x4 : Int), (b.nm.x5 : Int), (b.nm.x6 : Int), (b.nm.x7 : Int)] <;> cases (a.am == b.am) <;> cases (a.fr == b.fr) <;> cases (a.un == b.un) <;> rfl
theorem neq_held (a b : Hd) (w : World) : (binOp .neq 56 (.agg #[.int .u8 (a.nm.x0 : Int), .int .u8 (a.nm.x1 : Int), .int .u8 (a.nm.x2 : Int), .int .u8 (a.nm.x3 : Int), .int .u8 (a.nm.x4 : Int), .int .u8 (a.nm.x5 : Int), .int .u8 (a.nm.x6 : Int), .int .u8 (a.nm.x7 : Int), .int .i64 a.am, .int .i64 a.fr, .int .i64 a.un]) (.agg #[.int .u8 (b.nm.x0 : Int), .int .u8 (b.nm.x1 : Int), .int .u8 (b.nm.x2 : Int), .int .u8 (b.nm.x3 : Int), .int .u8 (b.nm.x4 : Int), .int .u8 (b.nm.x5 : Int), .int .u8 (b.nm.x6 : Int), .int .u8 (b.nm.x7 : Int), .int .i64 b.am, .int .i64 b.fr, .int .i64 b.un])).run Try.prog w = .ok (.bool (!sameHd a b)) w := by
  rw [run_neq_struct, show (10000 : Nat) = 9997 + 3 from rfl, eqIn_held]; rfl
theorem eql_held (a b : Hd) (w : World) : (binOp .eql 56 (.agg #[.int .u8 (a.nm.x0 : Int), .int .u8 (a.nm.x1 : Int), .int .u8 (a.nm.x2 : Int), .int .u8 (a.nm.x3 : Int), .int .u8 (a.nm.x4 : Int), .int .u8 (a.nm.x5 : Int), .int .u8 (a.nm.x6 : Int), .int .u8 (a.nm.x7 : Int), .int .i64 a.am, .int .i64 a.fr, .int .i64 a.un]) (.agg #[.int .u8 (b.nm.x0 : Int), .int .u8 (b.nm.x1 : Int), .int .u8 (b.nm.x2 : Int), .int .u8 (b.nm.x3 : Int), .int .u8 (b.nm.x4 : Int), .int .u8 (b.nm.x5 : Int), .int .u8 (b.nm.x6 : Int), .int .u8 (b.nm.x7 : Int), .int .i64 b.am, .int .i64 b.fr, .int .i64 b.un])).run Try.prog w = .ok (.bool (sameHd a b)) w := by
  rw [run_eql_struct, show (10000 : Nat) = 9997 + 3 from rfl, eqIn_held]; rfl
theorem flds_heldR : (Try.prog.fieldsOf 60).toList.map (fun f => (f.name, f.type, f.offset)) = [("Name", 22, 0), ("Amount", 3, 8), ("From", 3, 9), ("Until", 3, 10)] := by kernel_rfl
theorem und_heldR : Try.prog.underlying 60 = some (.struct (Try.prog.fieldsOf 60)) := by kernel_rfl
theorem eqIn_heldR (a b : Hd) (w : World) : (Op.equalIn (9997 + 3) 60 (.agg #[.int .u8 (a.nm.x0 : Int), .int .u8 (a.nm.x1 : Int), .int .u8 (a.nm.x2 : Int), .int .u8 (a.nm.x3 : Int), .int .u8 (a.nm.x4 : Int), .int .u8 (a.nm.x5 : Int), .int .u8 (a.nm.x6 : Int), .int .u8 (a.nm.x7 : Int), .int .i64 a.am, .int .i64 a.fr, .int .i64 a.un]) (.agg #[.int .u8 (b.nm.x0 : Int), .int .u8 (b.nm.x1 : Int), .int .u8 (b.nm.x2 : Int), .int .u8 (b.nm.x3 : Int), .int .u8 (b.nm.x4 : Int), .int .u8 (b.nm.x5 : Int), .int .u8 (b.nm.x6 : Int), .int .u8 (b.nm.x7 : Int), .int .i64 b.am, .int .i64 b.fr, .int .i64 b.un])).run Try.prog w = .ok (sameHd a b) w := by
  rw [show 9997 + 3 = (9997 + 2) + 1 from rfl, run_equalIn_struct w (9997 + 2) 60 _ _ und_heldR (by kernel_rfl)]
  obtain ⟨f1, r1, e1, n1, t1, o1, h1⟩ := fields_cons flds_heldR
  obtain ⟨f2, r2, rfl, n2, t2, o2, h2⟩ := fields_cons h1
  obtain ⟨f3, r3, rfl, n3, t3, o3, h3⟩ := fields_cons h2
  obtain ⟨f4, r4, rfl, n4, t4, o4, h4⟩ := fields_cons h3
  obtain rfl : r4 = [] := by simpa using h4
  rw [e1]
  have p1 : ∀ (h : Hd) w, (part 22 #[.int .u8 (h.nm.x0 : Int), .int .u8 (h.nm.x1 : Int), .int .u8 (h.nm.x2 : Int), .int .u8 (h.nm.x3 : Int), .int .u8 (h.nm.x4 : Int), .int .u8 (h.nm.x5 : Int), .int .u8 (h.nm.x6 : Int), .int .u8 (h.nm.x7 : Int), .int .i64 h.am, .int .i64 h.fr, .int .i64 h.un] 0).run Try.prog w = .ok (.agg #[.int .u8 (h.nm.x0 : Int), .int .u8 (h.nm.x1 : Int), .int .u8 (h.nm.x2 : Int), .int .u8 (h.nm.x3 : Int), .int .u8 (h.nm.x4 : Int), .int .u8 (h.nm.x5 : Int), .int .u8 (h.nm.x6 : Int), .int .u8 (h.nm.x7 : Int)]) w := fun h w => by
    simp [part]
  have p2 : ∀ (h : Hd) w, (part 3 #[.int .u8 (h.nm.x0 : Int), .int .u8 (h.nm.x1 : Int), .int .u8 (h.nm.x2 : Int), .int .u8 (h.nm.x3 : Int), .int .u8 (h.nm.x4 : Int), .int .u8 (h.nm.x5 : Int), .int .u8 (h.nm.x6 : Int), .int .u8 (h.nm.x7 : Int), .int .i64 h.am, .int .i64 h.fr, .int .i64 h.un] 8).run Try.prog w = .ok (.int .i64 h.am) w := fun h w => run_part_u8 isAgg_int _ _ _ w rfl
  have p3 : ∀ (h : Hd) w, (part 3 #[.int .u8 (h.nm.x0 : Int), .int .u8 (h.nm.x1 : Int), .int .u8 (h.nm.x2 : Int), .int .u8 (h.nm.x3 : Int), .int .u8 (h.nm.x4 : Int), .int .u8 (h.nm.x5 : Int), .int .u8 (h.nm.x6 : Int), .int .u8 (h.nm.x7 : Int), .int .i64 h.am, .int .i64 h.fr, .int .i64 h.un] 9).run Try.prog w = .ok (.int .i64 h.fr) w := fun h w => run_part_u8 isAgg_int _ _ _ w rfl
  have p4 : ∀ (h : Hd) w, (part 3 #[.int .u8 (h.nm.x0 : Int), .int .u8 (h.nm.x1 : Int), .int .u8 (h.nm.x2 : Int), .int .u8 (h.nm.x3 : Int), .int .u8 (h.nm.x4 : Int), .int .u8 (h.nm.x5 : Int), .int .u8 (h.nm.x6 : Int), .int .u8 (h.nm.x7 : Int), .int .i64 h.am, .int .i64 h.fr, .int .i64 h.un] 10).run Try.prog w = .ok (.int .i64 h.un) w := fun h w => run_part_u8 isAgg_int _ _ _ w rfl
  have q1 := fun (a b : Hd) w => eqIn_digR a.nm.x0 a.nm.x1 a.nm.x2 a.nm.x3 a.nm.x4 a.nm.x5 a.nm.x6 a.nm.x7 b.nm.x0 b.nm.x1 b.nm.x2 b.nm.x3 b.nm.x4 b.nm.x5 b.nm.x6 b.nm.x7 9997 w
  have q2 := fun (x y : Int) w => run_equalIn_int (P := Try.prog) w (9997 + 1) 3 .i64 .i64 x y Try.underlying3
  unfold sameHd
  rw [show eqI a.nm.L b.nm.L = eqI [(a.nm.x0 : Int), (a.nm.x1 : Int), (a.nm.x2 : Int), (a.nm.x3 : Int), (a.nm.x4 : Int), (a.nm.x5 : Int), (a.nm.x6 : Int), (a.nm.x7 : Int)] [(b.nm.x0 : Int), (b.nm.x1 : Int), (b.nm.x2 : Int), (b.nm.x3 : Int), (b.nm.x4 : Int), (b.nm.x5 : Int), (b.nm.x6 : Int), (b.nm.x7 : Int)] from rfl]
  have u1 : ("Name" : String) ≠ "_" := by decide
  have u2 : ("Amount" : String) ≠ "_" := by decide
  have u3 : ("From" : String) ≠ "_" := by decide
  have u4 : ("Until" : String) ≠ "_" := by decide
  simp only [Op.eqFields, n1, n2, n3, n4, t1, t2, t3, t4, o1, o2, o3, o4, if_pos u1, if_pos u2, if_pos u3, if_pos u4, Sem.run_bind, Result.andThen_ok, p1, p2, p3, p4, q1, q2, Sem.run_ite, Sem.run_pure]
  cases eqI [(a.nm.x0 : Int), (a.nm.x1 : Int), (a.nm.x2 : Int), (a.nm.x3 : Int), (a.nm.x4 : Int), (a.nm.x5 : Int), (a.nm.x6 : Int), (a.nm.x7 : Int)] [(b.nm.x0 : Int), (b.nm.x1 : Int), (b.nm.x2 : Int), (b.nm.x3 : Int), (b.nm.x4 : Int), (b.nm.x5 : Int), (b.nm.x6 : Int), (b.nm.x7 : Int)] <;> cases (a.am == b.am) <;> cases (a.fr == b.fr) <;> cases (a.un == b.un) <;> rfl
theorem neq_heldR (a b : Hd) (w : World) : (binOp .neq 60 (.agg #[.int .u8 (a.nm.x0 : Int), .int .u8 (a.nm.x1 : Int), .int .u8 (a.nm.x2 : Int), .int .u8 (a.nm.x3 : Int), .int .u8 (a.nm.x4 : Int), .int .u8 (a.nm.x5 : Int), .int .u8 (a.nm.x6 : Int), .int .u8 (a.nm.x7 : Int), .int .i64 a.am, .int .i64 a.fr, .int .i64 a.un]) (.agg #[.int .u8 (b.nm.x0 : Int), .int .u8 (b.nm.x1 : Int), .int .u8 (b.nm.x2 : Int), .int .u8 (b.nm.x3 : Int), .int .u8 (b.nm.x4 : Int), .int .u8 (b.nm.x5 : Int), .int .u8 (b.nm.x6 : Int), .int .u8 (b.nm.x7 : Int), .int .i64 b.am, .int .i64 b.fr, .int .i64 b.un])).run Try.prog w = .ok (.bool (!sameHd a b)) w := by
  rw [run_neq_struct, show (10000 : Nat) = 9997 + 3 from rfl, eqIn_heldR]; rfl
theorem eql_heldR (a b : Hd) (w : World) : (binOp .eql 60 (.agg #[.int .u8 (a.nm.x0 : Int), .int .u8 (a.nm.x1 : Int), .int .u8 (a.nm.x2 : Int), .int .u8 (a.nm.x3 : Int), .int .u8 (a.nm.x4 : Int), .int .u8 (a.nm.x5 : Int), .int .u8 (a.nm.x6 : Int), .int .u8 (a.nm.x7 : Int), .int .i64 a.am, .int .i64 a.fr, .int .i64 a.un]) (.agg #[.int .u8 (b.nm.x0 : Int), .int .u8 (b.nm.x1 : Int), .int .u8 (b.nm.x2 : Int), .int .u8 (b.nm.x3 : Int), .int .u8 (b.nm.x4 : Int), .int .u8 (b.nm.x5 : Int), .int .u8 (b.nm.x6 : Int), .int .u8 (b.nm.x7 : Int), .int .i64 b.am, .int .i64 b.fr, .int .i64 b.un])).run Try.prog w = .ok (.bool (sameHd a b)) w := by
  rw [run_eql_struct, show (10000 : Nat) = 9997 + 3 from rfl, eqIn_heldR]; rfl
end Go.Proofs.Ythjpaclcoipocaa
