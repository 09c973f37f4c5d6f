/- The walk of the reference's Same: two lists of instructions compared. Condition: a bound on how many. -/
import Derived.Test.YtecolkpnllikaaaDoorCodeJ
import Derived.Test.YtecolkpnllikaaaDoorCodeB
import Derived.Laws.StructEq
namespace Go.Proofs.YtecolkpnllikaaaDoor
open Go.RowKit Go.Lib
theorem isAgg_int : ∀ w, (isAgg 3).run Tryd.prog w = .ok false w := fun w => by kernel_rfl
theorem run_part_int {P : Program} {e : TypeId} (ha : ∀ w, (isAgg e).run P w = .ok false w) (cs : Array Value) (off : Nat) (v : Value) (w : World) (h : cs[off]? = some v) : (part e cs off).run P w = .ok v w := by
  simp [part, Sem.run_bind, ha, h]
theorem fields_cons {fs : List Field} {n : String} {t : TypeId} {o : Nat} {r : List (String × TypeId × Nat)} (h : fs.map (fun f => (f.name, f.type, f.offset)) = (n, t, o) :: r) :
    ∃ f fs', fs = f :: fs' ∧ f.name = n ∧ f.type = t ∧ f.offset = o ∧ fs'.map (fun f => (f.name, f.type, f.offset)) = r := by
  cases fs with
  | nil => simp at h
  | cons f fs' =>
    simp only [List.map_cons, List.cons.injEq, Prod.mk.injEq] at h
    exact ⟨f, fs', rfl, h.1.1, h.1.2.1, h.1.2.2, h.2⟩
def sameI (a b : Ins) : Bool := (a.op == b.op) && (a.a == b.a) && (a.b == b.b) && (a.c == b.c)
theorem sameI_iff {a b : Ins} : sameI a b = true ↔ a = b := by
  obtain ⟨a0, a1, a2, a3⟩ := a
  obtain ⟨b0, b1, b2, b3⟩ := b
  simp [sameI, and_assoc]
theorem flds_I : (Tryd.prog.fieldsOf 23).toList.map (fun f => (f.name, f.type, f.offset)) = [("Op", 3, 0), ("A", 3, 1), ("B", 3, 2), ("C", 3, 3)] := by kernel_rfl
theorem und_I : Tryd.prog.underlying 23 = some (.struct (Tryd.prog.fieldsOf 23)) := by kernel_rfl
theorem eqIn_I (a b : Ins) (w : World) : (Op.equalIn (9997 + 3) 23 (.agg #[.int .i64 a.op, .int .i64 a.a, .int .i64 a.b, .int .i64 a.c]) (.agg #[.int .i64 b.op, .int .i64 b.a, .int .i64 b.b, .int .i64 b.c])).run Tryd.prog w = .ok (sameI a b) w := by
  rw [show 9997 + 3 = (9997 + 2) + 1 from rfl, run_equalIn_struct w (9997 + 2) 23 _ _ und_I (by kernel_rfl)]
  obtain ⟨f1, r1, e1, n1, t1, o1, h1⟩ := fields_cons flds_I
  obtain ⟨f2, r2, rfl, n2, t2, o2, h2⟩ := fields_cons h1
  obtain ⟨f3, r3, rfl, n3, t3, o3, h3⟩ := fields_cons h2
  obtain ⟨f4, r4, rfl, n4, t4, o4, h4⟩ := fields_cons h3
  obtain rfl : r4 = [] := by simpa using h4
  rw [e1]
  have p1 : ∀ (h : Ins) w, (part 3 #[.int .i64 h.op, .int .i64 h.a, .int .i64 h.b, .int .i64 h.c] 0).run Tryd.prog w = .ok (.int .i64 h.op) w := fun h w => run_part_int isAgg_int _ _ _ w rfl
  have p2 : ∀ (h : Ins) w, (part 3 #[.int .i64 h.op, .int .i64 h.a, .int .i64 h.b, .int .i64 h.c] 1).run Tryd.prog w = .ok (.int .i64 h.a) w := fun h w => run_part_int isAgg_int _ _ _ w rfl
  have p3 : ∀ (h : Ins) w, (part 3 #[.int .i64 h.op, .int .i64 h.a, .int .i64 h.b, .int .i64 h.c] 2).run Tryd.prog w = .ok (.int .i64 h.b) w := fun h w => run_part_int isAgg_int _ _ _ w rfl
  have p4 : ∀ (h : Ins) w, (part 3 #[.int .i64 h.op, .int .i64 h.a, .int .i64 h.b, .int .i64 h.c] 3).run Tryd.prog w = .ok (.int .i64 h.c) w := fun h w => run_part_int isAgg_int _ _ _ w rfl
  have q2 := fun (x y : Int) w => run_equalIn_int (P := Tryd.prog) w (9997 + 1) 3 .i64 .i64 x y Tryd.underlying3
  unfold sameI
  have u1 : ("Op" : String) ≠ "_" := by decide
  have u2 : ("A" : String) ≠ "_" := by decide
  have u3 : ("B" : String) ≠ "_" := by decide
  have u4 : ("C" : String) ≠ "_" := by decide
  simp only [Op.eqFields, n1, n2, n3, n4, t1, t2, t3, t4, o1, o2, o3, o4, if_pos u1, if_pos u2, if_pos u3, if_pos u4, Sem.run_bind, Result.andThen_ok, p1, p2, p3, p4, q2, Sem.run_ite, Sem.run_pure]
  cases (a.op == b.op) <;> cases (a.a == b.a) <;> cases (a.b == b.b) <;> cases (a.c == b.c) <;> rfl
theorem neq_I (a b : Ins) (w : World) : (binOp .neq 23 (.agg #[.int .i64 a.op, .int .i64 a.a, .int .i64 a.b, .int .i64 a.c]) (.agg #[.int .i64 b.op, .int .i64 b.a, .int .i64 b.b, .int .i64 b.c])).run Tryd.prog w = .ok (.bool (!sameI a b)) w := by
  rw [run_neq_struct, show (10000 : Nat) = 9997 + 3 from rfl, eqIn_I]; rfl
theorem ins_take {xs ys : List Ins} {k : Nat} (h : xs.take k = ys.take k) (hx : k < xs.length) (hy : k < ys.length) (e : xs.getD k default = ys.getD k default) : xs.take (k + 1) = ys.take (k + 1) := by
  rw [take_ins hx, take_ins hy, h, e]
def sameL (l m : List Ins) : Bool := l.length == m.length && decide (∀ j, j < l.length → sameI (l.getD j default) (m.getD j default) = true)
theorem sameL_yes {l m : List Ins} (hl : l.length = m.length) (h : ∀ j, j < l.length → sameI (l.getD j default) (m.getD j default) = true) : sameL l m = true := by
  unfold sameL
  rw [decide_eq_true h, hl]; simp
theorem sameL_no {l m : List Ins} {k : Nat} (hk : k < l.length) (h : sameI (l.getD k default) (m.getD k default) = false) : sameL l m = false := by
  unfold sameL
  rw [decide_eq_false (fun h2 => by rw [h2 k hk] at h; simp at h)]; simp
theorem sameL_len {l m : List Ins} (h : ¬ l.length = m.length) : sameL l m = false := by
  unfold sameL
  rw [show (l.length == m.length) = false by simpa using h]; rfl
theorem sameL_self (l : List Ins) : sameL l l = true := sameL_yes rfl fun _ _ => sameI_iff.2 rfl
set_option maxRecDepth 100000 in
set_option maxHeartbeats 1000000 in
theorem same_any (A B : Option Addr) (n m c d : Nat) (xs ys : List Ins) (w : World) (hx : Rd w w.heap.size 4 A n (flat xs)) (hy : Rd w w.heap.size 4 B m (flat ys)) (hn : n ≤ 1000000) (hm : m ≤ 1000000) :
    Calls Tryd.prog 29 #[.slice A n c, .slice B m d] w fun e w' => e = .returned (.bool (sameL xs ys)) ∧ Below w.heap.size w w' := by
  have lx : xs.length = n := by have := hx.1; rw [flat_len] at this; omega
  have ly : ys.length = m := by have := hy.1; rw [flat_len] at this; omega
  by_cases he : n = m
  · subst he
    have Hx := Lib.hid hx; have Hy := Lib.hid hy; have Lx := Lib.hid lx; have Ly := Lib.hid ly
    have b4 : ((n : Int) != (n : Int)) = false := by simp
    have heq3 := neq_I
    clear hx hy lx ly
    go_enter Tryd.func29, Tryd.ntmps29
    go_wp2
    go_loopw [5] (fun i wr => ∃ k : Nat, k ≤ n ∧ i = .int .i64 (k : Int) ∧ (∀ j, j < k → sameI (xs.getD j default) (ys.getD j default) = true) ∧ Below w.heap.size w wr) (fun i _ => n - (intOf i).toNat)
    case atStart => exact ⟨0, Nat.zero_le _, rfl, fun j hj => absurd hj (by omega), Below.refl _ _⟩
    case round =>
      obtain ⟨k, hk, rfl, ht, hb⟩ := hrel
      have H0 := Lib.hid ht; have Hbel := Lib.hid hb; clear ht
      by_cases hlt : k < n
      · obtain ⟨b, o, rfl, hbB, x0, x1, x2, x3⟩ := (Hx.out.below hb (Nat.le_refl _)).ins hlt
        obtain ⟨b', o', rfl, hbB', y0, y1, y2, y3⟩ := (Hy.out.below hb (Nat.le_refl _)).ins hlt
        have hki0 : (0 : Int) ≤ (k : Int) := by omega
        have hki : (k : Int) < (n : Int) := by omega
        have Hno := Lib.hid (sameL_no (l := xs) (m := ys) (k := k))
        generalize hhk : xs.getD k default = h at *
        generalize hhm : ys.getD k default = h' at *
        have Hhk := Lib.hid hhk; have Hhm := Lib.hid hhm
        clear hhk hhm hb
        cases hS : sameI h h' with
        | true =>
          have HS := Lib.hid hS
          go_wp2
          go_region
          all_goals
            go_wp2
            go_roundw
            case rel =>
              refine ⟨k + 1, by omega, by go_num, fun j hj => ?_, Hbel.out.drew⟩
              rcases Nat.lt_or_ge j k with h1 | h1
              · exact H0.out j h1
              · obtain rfl : j = k := by omega
                rw [Hhk.out, Hhm.out]; exact HS.out
            case measure => simp [intOf]; omega
        | false =>
          have Hr3 := Lib.hid (Hno.out (by have := Lx.out; omega) hS)
          go_wp2
          go_region
          all_goals
            go_wp2
            go_ret
            exact ⟨ret_bool Hr3.out.symm, Hbel.out.drew⟩
      · have hkn : n ≤ k := by omega
        have Hr3 : Hid (sameL xs ys = true) := by
          show _ = _
          exact sameL_yes (by rw [Lx.out, Ly.out]) (fun j hj => H0.out j (by have := Lx.out; omega))
        clear hlt hb
        go_wp2
        go_ret
        exact ⟨ret_bool Hr3.out.symm, Hbel.out⟩
  · have b4 : ((n : Int) != (m : Int)) = true := by rw [bne_iff_ne]; omega
    have Hr3 : Hid (sameL xs ys = false) := by show _ = _; exact sameL_len (by omega)
    clear hx hy lx ly he
    go_enter Tryd.func29, Tryd.ntmps29
    go_wp2
    go_ret
    exact ⟨ret_bool Hr3.out.symm, Below.refl _ _⟩
end Go.Proofs.YtecolkpnllikaaaDoor
