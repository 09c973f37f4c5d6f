/- Operations of a region that draws its order, each by a law of its own; slots put and read. Nothing of the program stands in it, so there is no condition. Operations of a region in one order, each by a law of its own. Nothing of the program stands in it, so there is no condition. -/
import Derived.Test.YthjpaclcoipocaaInv
import Derived.Great.BuildSlice
namespace Go.Proofs.Ythjpaclcoipocaa
section
variable {a : Act} {u v : Value}
theorem put_size (d : Option Tmp) : (a.put d v).tmps.size = a.tmps.size := by
  cases d <;> simp [Act.put]
theorem put_same (i : Nat) : (a.put (some i) u).put (some i) v = a.put (some i) v := by
  simp [Act.put, Array.setIfInBounds_setIfInBounds]
theorem put_comm (i j : Nat) (h : i ≠ j) : (a.put (some i) u).put (some j) v = (a.put (some j) v).put (some i) u := by
  simp only [Act.put]
  rw [Array.setIfInBounds_comm _ _ h]
theorem ev_ne (i j : Nat) (h : i ≠ j) : (a.put (some i) v).eval (.tmp j) = a.eval (.tmp j) := by
  simp only [Act.put, Act.eval, Array.getD_eq_getD_getElem?]
  rw [Array.getElem?_setIfInBounds_ne h]
theorem ev_at (i : Nat) (h : i < a.tmps.size) : (a.put (some i) v).eval (.tmp i) = v := by
  simp only [Act.put, Act.eval, Array.getD_eq_getD_getElem?]
  rw [Array.getElem?_setIfInBounds_self_of_lt h]
  rfl
end
section
variable {P : Program} {ops : Array Oper} {o : Oper} {a : Act} {w : World} {K : Act → World → Prop} {Q : Exit → Act → World → Prop} {E : Prop}
theorem step_pure (V : Value) (hg : o.guard = none) (hrun : (execOp a.eval o).run P w = .ok (.value V) w) (h : K (a.put o.dst V) w) : if Region.wanted o (yielded ops a.tmps) = true then Oper.wp P o a w K Q else E := by
  rw [if_pos (by simp [Region.wanted, hg])]
  unfold Oper.wp
  rw [hrun]
  exact h
theorem exec_move {x : Operand} {V : Value} (ho : o.op = .move x) (hx : a.eval x = V) : (execOp a.eval o).run P w = .ok (.value V) w := by
  unfold execOp
  rw [ho]
  show Result.ok _ w = _
  rw [hx]
theorem exec_assign {x : Operand} {V : Value} (ho : o.op = .assign x) (hx : a.eval x = V) : (execOp a.eval o).run P w = .ok (.value V) w := by
  unfold execOp
  rw [ho]
  show Result.ok _ w = _
  rw [hx]
theorem exec_load {x : Operand} {X V : Value} {t : TypeId} (ho : o.op = .load t x) (hx : a.eval x = X) (hr : (Instr.loadAt t X).run P w = .ok V w) : (execOp a.eval o).run P w = .ok (.value V) w := by
  simp [execOp, ho, hx, hr, Result.andThen]
theorem fill_one {sz : Nat} (cells cs : Array Value) (V : Value) (hV : V.cells = cs) (hcs : cs.size = sz) (hp : 0 < sz) (hc : cells.size = sz) : Instr.fill (fun i => some (i * sz, sz)) cells [(0, V)] = some cs := by
  obtain ⟨r, h1, h2, h3⟩ := Great.fill_dense hp [V] 0 cells (fun v hv => by simp only [List.mem_singleton] at hv; subst hv; rw [hV, hcs]) (by simp [hc])
  have e : ([V].zipIdx 0).map (fun x => (x.2, x.1)) = [(0, V)] := rfl
  rw [e] at h1
  rw [h1]
  congr 1
  apply Array.ext_getElem?
  intro k
  rw [h3 k]
  simp only [Nat.zero_mul, List.length_cons, List.length_nil, Nat.zero_add, Nat.one_mul, Nat.zero_le, true_and, Nat.sub_zero]
  by_cases hk : k < sz
  · rw [if_pos hk, Nat.div_eq_of_lt hk, Nat.mod_eq_of_lt hk]
    simp [hV]
  · rw [if_neg hk, Array.getElem?_eq_none (by omega), Array.getElem?_eq_none (by omega)]
theorem step_box (V : Value) (cs : Array Value) (i : TypeInfo) (z : Value) (sz : Nat) (t e : TypeId) (x : Operand) (hg : o.guard = none) (ho : o.op = .buildSlice t 1 #[(0, x)]) (hu : P.underlying t = some (.slice e)) (hi : P.info? e = some i ∧ i.zero = some z ∧ i.size = sz)
    (hx : a.eval x = V) (hs : ¬ sz > 2 ^ 24) (hp : 0 < sz) (hV : V.cells = cs) (hcs : cs.size = sz)
    (h : K (a.put o.dst (.slice (some ⟨w.heap.size, 0, none⟩) 1 1)) (w.alloc (.cells cs e))) : if Region.wanted o (yielded ops a.tmps) = true then Oper.wp P o a w K Q else E := by
  rw [if_pos (by simp [Region.wanted, hg])]
  obtain ⟨h1, h2, h3⟩ := hi
  subst h3
  refine wp_buildSlice t e 1 #[(0, x)] ho cs i z hu h1 h2 (by rw [Nat.one_mul]; exact hs) (by rw [Nat.one_mul]; omega) ?_ h
  have := fill_one ((Array.range (1 * i.size)).map (z.cells[· % z.cells.size]!)) cs V hV hcs hp (by simp)
  simpa [hx] using this
end
end Go.Proofs.Ythjpaclcoipocaa
namespace Go.Proofs.Ythjpaclcoipocaa
section
variable {P : Program} {ops : Array Oper} {rest : List Oper} {o : Oper} {a : Act} {w : World} {Q : Exit → Act → World → Prop}
theorem wpList_val (V : Value) (hw : Region.wanted o (yielded ops a.tmps) = true) (hrun : (execOp a.eval o).run P w = .ok (.value V) w) (h : wpList P ops Q rest (a.put o.dst V) w) : wpList P ops Q (o :: rest) a w := by
  unfold wpList
  rw [if_pos hw]
  left
  unfold Oper.wp
  rw [hrun]
  exact h
end
end Go.Proofs.Ythjpaclcoipocaa
