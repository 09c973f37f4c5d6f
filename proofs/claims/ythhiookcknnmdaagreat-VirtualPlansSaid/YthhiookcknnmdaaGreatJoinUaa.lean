/- What Virtual's laws are handed, opened: numbers, pairs of numbers. Condition: the row's own. Rows that lie apart, and an append that tells where the row lies then. Nothing of the program stands in it, so there is no condition. Whole structs loaded and stored. Nothing of the program stands in it, so there is no condition. Maps, by keys of any sort: what is looked up, and what is put. Conditions: the keys may be. A table of two players over a way of purses, plainly: plans, locks, outcomes, what each deed does. No program in it, so there is no condition. -/
import Derived.Test.YthhiookcknnmdaaGreatOpenB
import Derived.Test.YthhiookcknnmdaaGreatWords
import Derived.Test.YthhiookcknnmdaaGreatAppend
import Derived.Maps.AppendAt
import Derived.Test.YthhiookcknnmdaaGreatPuH0
import Derived.Test.YthhiookcknnmdaaGreatInv
import Derived.Test.YthhiookcknnmdaaGreatStepApp
import Derived.Deep.MidRow
import Derived.Deep.DeepCutAuto
import Derived.Test.YthhiookcknnmdaaGreatProg
import Derived.WalkLawsBesides
import Derived.Maps.Keyed
import Derived.OpenShut
import Derived.DeepKeys5
import Derived.Test.YthhiookcknnmdaaGreatJoinM
import Derived.Test.YthhiookcknnmdaaGreatJoinZ
import Derived.Test.YthhiookcknnmdaaGreatOctT
import Derived.Test.YthhiookcknnmdaaGreatJoinB
import Derived.Test.YthhiookcknnmdaaGreatPuG
import Derived.Test.YthhiookcknnmdaaGreatOctI
namespace Go.Proofs.YthhiookcknnmdaaGreat
open Go.ChangeShapes Go.WideShapes Go.ChangeAt Go.RowKit Go.Joins Go.Deep
section
variable {H : Type} {enc : TypeId × Value → H} {W : World} {base : Nat}
theorem okWide_arrV {P : Program} {w : World} {r : Reach} {b t e : TypeId} {n : Nat} {v : Value} (ht : P.underlying t = some (.array n e)) (h : Value.okWide P w r b t v) : ∃ cs, v = .agg cs ∧ cs.size = P.cellsOf t := by
 simp only [Value.okWide, ht] at h
 obtain ⟨cs, h1, h2, _⟩ := h
 exact ⟨cs, h1, h2⟩
set_option maxRecDepth 100000 in
theorem open_u8V {v : Value} {d : DataW H} {p : List MemPlace} (a0 : Value.okWide Tryz.prog W .any base 5 v) (h0 : DataW.Trod enc Tryz.prog W 0 (fun _ => true) true 5 v d p) : ∃ b : Nat, v = .int .u8 b ∧ b < 256 := by
 obtain ⟨n, rfl, _, _, hw⟩ := open_int Tryz.underlying5 a0 h0
 simp [Lit.wf, show IntKind.u8.min = 0 from rfl, show IntKind.u8.max = 255 from rfl] at hw
 obtain ⟨b, rfl⟩ := Int.eq_ofNat_of_zero_le hw.1
 exact ⟨b, rfl, by omega⟩
set_option maxRecDepth 100000 in
theorem open_u16V {v : Value} {d : DataW H} {p : List MemPlace} (a0 : Value.okWide Tryz.prog W .any base 22 v) (h0 : DataW.Trod enc Tryz.prog W 0 (fun _ => true) true 22 v d p) : ∃ b : Nat, v = .int .u16 b ∧ b < 65536 := by
 obtain ⟨n, rfl, _, _, hw⟩ := open_int Tryz.underlying22 a0 h0
 simp [Lit.wf, show IntKind.u16.min = 0 from rfl, show IntKind.u16.max = 65535 from rfl] at hw
 obtain ⟨b, rfl⟩ := Int.eq_ofNat_of_zero_le hw.1
 exact ⟨b, rfl, by omega⟩
set_option maxRecDepth 100000 in
theorem open_u32V {v : Value} {d : DataW H} {p : List MemPlace} (a0 : Value.okWide Tryz.prog W .any base 24 v) (h0 : DataW.Trod enc Tryz.prog W 0 (fun _ => true) true 24 v d p) : ∃ b : Nat, v = .int .u32 b ∧ b < 4294967296 := by
 obtain ⟨n, rfl, _, _, hw⟩ := open_int Tryz.underlying24 a0 h0
 simp [Lit.wf, show IntKind.u32.min = 0 from rfl, show IntKind.u32.max = 4294967295 from rfl] at hw
 obtain ⟨b, rfl⟩ := Int.eq_ofNat_of_zero_le hw.1
 exact ⟨b, rfl, by omega⟩
theorem u16_of_cells {n : Nat} {spare : Nat → Bool} {held : Bool} {cs : List Value} {x : DataW H × List MemPlace} (h : DataW.trod enc Tryz.prog W base spare held n 22 cs = some x) : ∃ b : Nat, cs = [.int .u16 b] ∧ b < 65536 := by
 obtain ⟨m, rfl, _, hw⟩ := DataW.trod_int Tryz.underlying22 h
 simp [Lit.wf, show IntKind.u16.min = 0 from rfl, show IntKind.u16.max = 65535 from rfl] at hw
 obtain ⟨b, rfl⟩ := Int.eq_ofNat_of_zero_le hw.1
 exact ⟨b, rfl, by omega⟩
theorem cellsU16 : Tryz.prog.cellsOf 22 = 1 := by kernel_rfl
theorem cells2U16 : Tryz.prog.cellsOf 23 = 2 := by kernel_rfl
theorem cells2U8 : Tryz.prog.cellsOf 45 = 2 := by kernel_rfl
set_option maxRecDepth 100000 in
theorem open_two16 {v : Value} {d : DataW H} {p : List MemPlace} (a0 : Value.okWide Tryz.prog W .any base 23 v) (h0 : DataW.Trod enc Tryz.prog W 0 (fun _ => true) true 23 v d p) : ∃ a b : Nat, v = .agg #[.int .u16 a, .int .u16 b] ∧ a < 65536 ∧ b < 65536 := by
 obtain ⟨cs, rfl, _⟩ : ∃ cs, v = .agg cs ∧ cs.size = Tryz.prog.cellsOf 23 := okWide_arrV Tryz.underlying23 a0
 obtain ⟨fuel, hf⟩ := h0
 obtain ⟨xs, m, _, _, hl, hx, hi⟩ := DataW.trod_array Tryz.underlying23 hf
 rw [cells2U16] at hl
 rw [cellsU16] at hi
 simp only [Value.cells] at hl hi
 have get : ∀ i, i < 2 → ∃ b : Nat, (cs.toList.drop (i * 1)).take 1 = [.int .u16 b] ∧ b < 65536 := fun i hi8 => by
  have h1 := hi i hi8
  rw [List.getElem?_eq_getElem (by omega)] at h1
  exact u16_of_cells h1
 obtain ⟨b0, e0, l0⟩ := get 0 (by omega)
 obtain ⟨b1, e1, l1⟩ := get 1 (by omega)
 obtain ⟨l⟩ := cs
 match l, hl with
 | [c0, c1], _ =>
  simp at e0 e1
  exact ⟨b0, b1, by simp [e0, e1], l0, l1⟩
set_option maxRecDepth 100000 in
theorem open_two8 {v : Value} {d : DataW H} {p : List MemPlace} (a0 : Value.okWide Tryz.prog W .any base 45 v) (h0 : DataW.Trod enc Tryz.prog W 0 (fun _ => true) true 45 v d p) : ∃ a b : Nat, v = .agg #[.int .u8 a, .int .u8 b] ∧ a < 256 ∧ b < 256 := by
 obtain ⟨cs, rfl, _⟩ : ∃ cs, v = .agg cs ∧ cs.size = Tryz.prog.cellsOf 45 := okWide_arrV Tryz.underlying45 a0
 obtain ⟨fuel, hf⟩ := h0
 obtain ⟨xs, m, _, _, hl, hx, hi⟩ := DataW.trod_array Tryz.underlying45 hf
 rw [cells2U8] at hl
 rw [cellsU8] at hi
 simp only [Value.cells] at hl hi
 have get : ∀ i, i < 2 → ∃ b : Nat, (cs.toList.drop (i * 1)).take 1 = [.int .u8 b] ∧ b < 256 := fun i hi8 => by
  have h1 := hi i hi8
  rw [List.getElem?_eq_getElem (by omega)] at h1
  exact byte_of_cells h1
 obtain ⟨b0, e0, l0⟩ := get 0 (by omega)
 obtain ⟨b1, e1, l1⟩ := get 1 (by omega)
 obtain ⟨l⟩ := cs
 match l, hl with
 | [c0, c1], _ =>
  simp at e0 e1
  exact ⟨b0, b1, by simp [e0, e1], l0, l1⟩
end
end Go.Proofs.YthhiookcknnmdaaGreat
namespace Go.Proofs.YthhiookcknnmdaaGreat
open Go.RowKit Go.Lib
def Ap (x y : Value) : Prop := ∀ g, ¬ (x.ownBlock = some g ∧ y.ownBlock = some g)
theorem Ap.symm {x y : Value} (h : Ap x y) : Ap y x := fun g hg => h g ⟨hg.2, hg.1⟩
theorem Ap.ne {x y : Value} (h : Ap x y) : x.ownBlock = none ∨ x.ownBlock ≠ y.ownBlock := by
 cases e : x.ownBlock with
 | none => exact .inl rfl
 | some g => exact .inr fun e2 => h g ⟨e, e2.symm⟩
theorem Ap.nil (y : Value) : Ap (.slice none 0 0) y := fun g hg => by simp [Value.ownBlock] at hg
theorem Ap.grown {x y y' : Value} {w : World} {base : Nat} {e : TypeId} {sz n : Nat} {xs : List Value} (h : Ap x y) (hx : w.ownsRow base e sz x n xs) (hy : y'.ownBlock = y.ownBlock ∨ y'.ownBlock = some (w.heap.size + 1)) : Ap x y' := by
 rintro g ⟨h1, h2⟩
 rcases hy with e1 | e1
 ·exact h g ⟨h1, by rw [← e1]; exact h2⟩
 ·rw [e1] at h2
  have := (hx.lt g h1).2
  injection h2 with h2
  omega
theorem append_at {P : Program} {ops : Array Oper} {rest : List Oper} {o : Oper} {a : Act} {Q : Exit → Act → World → Prop} (w : World) (hgd : o.guard = none) (s x : Operand) (t : TypeId)
  (ho : o.op = .call { callee := .builtin .append, args := #[s, x], argTypes := #[t, t] })
  (base : Nat) (e : TypeId) (i : TypeInfo) (z : Value) (sz bytes : Nat) (ht : P.underlying t = some (.slice e)) (hinfo : P.info? e = some i ∧ i.zero = some z ∧ i.size = sz ∧ i.bytes = bytes)
  (hzs : z.cells.size = sz) (hsz : 0 < sz) (v : Value) (n : Nat) (xs : List Value) (hs : a.eval s = v) (hown : w.ownsRow base e sz v n xs)
  (m c : Nat) (cs : Array Value) (e' : TypeId) (hx : a.eval x = .slice (some ⟨w.heap.size, 0, none⟩) m c) (hl : cs.size = m * sz) (h1 : ∀ u ∈ cs.toList, u.oneCell' = true)
  (h63 : n + m ≤ 281474976710656) (hbytes : (n + m) * bytes ≤ 140737488355328) (hbase : base ≤ w.heap.size)
  (h : ∀ v' w', w'.ownsRow base e sz v' (n + m) (xs ++ cs.toList) → Below base w w' → (w.alloc (.cells cs e')).grownBy w' v.ownBlock → (v'.ownBlock = v.ownBlock ∨ v'.ownBlock = some (w.heap.size + 1)) → wpList P ops Q rest (a.put o.dst v') w') : wpList P ops Q (o :: rest) a (w.alloc (.cells cs e')) := by
 refine wpList_append_own_at (w.alloc (.cells cs e')) hgd s x t ho base e i z sz bytes ht hinfo.1 hinfo.2.1 hinfo.2.2.1 hinfo.2.2.2 hzs hsz v n xs hs (hown.alloc _) ⟨w.heap.size, 0, none⟩ m c cs.toList hx (by simpa using hl) ?_ h1 (by simp only [maxLen]; omega) hbytes (by simp; omega) ?_
 ·intro j u hu
  have := cell_of_row (w.alloc (.cells cs e')) w.heap.size j cs e' (0, 0) (heap_alloc_new w _)
  have e0 : (⟨w.heap.size, 0, none⟩ : Addr).add j = ⟨w.heap.size, j, none⟩ := by unfold Addr.add; split <;> simp_all
  rw [e0, this]; simpa using hu
 ·intro v' w' hown' hg _ hat
  refine h v' w' hown' (((Below.refl _ _).alloc hbase _).grown hg (by simp; omega) (fun k hk => (hown.lt k hk).1)) hg (by simpa using hat)
theorem layA_all (cs : Array Value) (vs : List Value) (h : cs.size = vs.length) : layA cs 0 vs = vs.toArray := by
 apply Array.ext
 ·rw [layA_size, h]; simp
 ·intro j hj1 hj2
  have h3 := layA_at vs cs 0 j (by omega)
  have hj3 : j < vs.length := by rw [layA_size, h] at hj1; exact hj1
  rw [if_pos ⟨Nat.zero_le _, by omega⟩, Array.getElem?_eq_getElem hj1, Nat.sub_zero, List.getElem?_eq_getElem hj3] at h3
  injection h3
theorem set_all {w : World} {g : Nat} {T : TypeId} {cs : Array Value} (h : w.heap[g]? = some (.cells cs T (0, 0))) (vs : List Value) (hs : cs.size = vs.length) :
  (w.setCells g 0 vs).heap[g]? = some (.cells vs.toArray T (0, 0)) ∧ w.grownBy (w.setCells g 0 vs) (some g) := by
 have h1 := block_setCells (g := g) vs 0 w cs h
 rw [layA_all cs vs hs] at h1
 exact ⟨h1, grown_setCells (g := g) vs 0 w⟩
theorem range_all {w : World} {b : Nat} {cs : Array Value} {T : TypeId} {fz : Nat × Nat} (h : w.heap[b]? = some (.cells cs T fz)) : w.rangeAt b 0 cs.toList := fun j v hv => by
 rw [Nat.zero_add, block_cell h]; simpa using hv
theorem there_all {w : World} {b : Nat} {cs : Array Value} {T : TypeId} (h : w.heap[b]? = some (.cells cs T (0, 0))) : w.there b 0 cs.size := fun j hj => by
 rw [Nat.zero_add, block_cell h]
 exact ⟨by simp [hj], block_free h j⟩
theorem range_mid {w : World} {b o : Nat} {cs : Array Value} {T : TypeId} {fz : Nat × Nat} (h : w.heap[b]? = some (.cells cs T fz)) (vs : List Value) (hv : ∀ j v, vs[j]? = some v → cs[o + j]? = some v) : w.rangeAt b o vs := fun j v hj => by
 rw [block_cell h]; exact hv j v hj
theorem there_mid {w : World} {b o n : Nat} {cs : Array Value} {T : TypeId} (h : w.heap[b]? = some (.cells cs T (0, 0))) (hn : o + n ≤ cs.size) : w.there b o n := fun j hj => by
 rw [block_cell h]
 exact ⟨by rw [Array.getElem?_eq_getElem (by omega)]; rfl, block_free h _⟩
theorem grown_row {wc w w' : World} {row row' : Option Nat} (h : wc.grownBy w row') (h2 : w.grownBy w' row) (hr : ∀ g, row = some g → wc.heap.size ≤ g) : wc.grownBy w' row' :=
 ⟨h2.os.trans h.os, h2.tape.trans h.tape, h2.output.trans h.output, Nat.le_trans h.size h2.size, fun k hk hne => (h2.block k (Nat.lt_of_lt_of_le hk h.size) (fun e => by have := hr k e.symm; omega)).trans (h.block k hk hne)⟩
theorem grown_alloc {wc w : World} {row : Option Nat} (h : wc.grownBy w row) (x : Obj) : wc.grownBy (w.alloc x) row :=
 grown_row h (row := none) ⟨rfl, rfl, rfl, by simp, fun j hj _ => Below.heap_alloc w x j hj⟩ (fun _ e => by cases e)
theorem results_cell {P : Program} {fn : Func} {w : World} {tmps : Array Value} (r : Tmp) (t : TypeId) (b : Nat) (cs : Array Value) (d : TypeDesc) (fz : Nat × Nat) (T : TypeId) (h : fn.results = #[.cell r t]) (hp : tmps.getD r undef = .pointer (some ⟨b, 0, none⟩))
  (hb : w.heap[b]? = some (.cells cs T fz)) (hu : P.underlying t = some d) (hd : d.isRow = true) (hi : (P.info? t).map (·.size) = some cs.toList.length) : (results fn tmps).run P w = .ok (.agg cs) w := by
 have e : (asAddr (.pointer (some ⟨b, 0, none⟩))).run P w = .ok ⟨b, 0, none⟩ w := rfl
 have hl := run_loadVar_mid (P := P) w b 0 t cs.toList d (range_all hb) hu hd hi
 simp only [results, h, Array.mapM_eq_mapM_toList, List.mapM_cons, List.mapM_nil, hp, Sem.run_bind, Sem.run_pure, Result.andThen_ok, Sem.run_map, e, hl]
 rfl
theorem results_cellT {P : Program} {fn : Func} {w : World} {tmps : Array Value} (r q : Tmp) (t : TypeId) (b : Nat) (cs : Array Value) (d : TypeDesc) (fz : Nat × Nat) (T : TypeId) (h : fn.results = #[.cell r t, .tmp q]) (hp : tmps.getD r undef = .pointer (some ⟨b, 0, none⟩))
  (hb : w.heap[b]? = some (.cells cs T fz)) (hu : P.underlying t = some d) (hd : d.isRow = true) (hi : (P.info? t).map (·.size) = some cs.toList.length) : (results fn tmps).run P w = .ok (.tuple #[.agg cs, tmps.getD q undef]) w := by
 have e : (asAddr (.pointer (some ⟨b, 0, none⟩))).run P w = .ok ⟨b, 0, none⟩ w := rfl
 have hl := run_loadVar_mid (P := P) w b 0 t cs.toList d (range_all hb) hu hd hi
 simp only [results, h, Array.mapM_eq_mapM_toList, List.mapM_cons, List.mapM_nil, hp, Sem.run_bind, Sem.run_pure, Result.andThen_ok, Sem.run_map, e, hl]
 rfl
section
variable {P : Program} {ops : Array Oper} {rest : List Oper} {o : Oper} {a : Act} {w : World} {Q : Exit → Act → World → Prop}
theorem wpList_value (V : Value) (hw : Region.wanted o (yielded ops a.tmps) = true) (hrun : (execOp a.eval o).run P w = .ok (.value V) w) (h : wpList P ops Q rest (a.put o.dst V) w) : wpList P ops Q (o :: rest) a w := by
 unfold wpList
 rw [if_pos hw]
 left
 unfold Oper.wp
 rw [hrun]
 exact h
end
theorem op_append_rdg {P : Program} {o : Oper} {a : Act} {K : Act → World → Prop} {Q : Exit → Act → World → Prop} (w : World) (hgd : o.guard = none) (s x : Operand) (t : TypeId)
  (ho : o.op = .call { callee := .builtin .append, args := #[s, x], argTypes := #[t, t] })
  (base : Nat) (e : TypeId) (i : TypeInfo) (z : Value) (sz bytes : Nat) (ht : P.underlying t = some (.slice e)) (hinfo : P.info? e = some i ∧ i.zero = some z ∧ i.size = sz ∧ i.bytes = bytes)
  (hzs : z.cells.size = sz) (hsz : 0 < sz) (v : Value) (n : Nat) (xs : List Value) (hs : a.eval s = v) (hown : w.ownsRow base e sz v n xs)
  (B : Nat) (A : Option Addr) (m c : Nat) (news : List Value) (hx : a.eval x = .slice A m c) (hr : Rd w B sz A m news) (h1 : ∀ u ∈ news, u.oneCell' = true)
  (h63 : n + m ≤ 281474976710656) (hbytes : (n + m) * bytes ≤ 140737488355328) (hbase : base ≤ w.heap.size)
  (h : ∀ v' w', w'.ownsRow base e sz v' (n + m) (xs ++ news) → Below base w w' → w.grownBy w' v.ownBlock → K (a.put o.dst v') w') : Oper.wp P o a w K Q := by
 have := step_append_rdg (ops := #[]) (Q := Q) (E := False) w hgd s x t ho base e i z sz bytes ht hinfo hzs hsz v n xs hs hown B A m c news hx hr h1 h63 hbytes hbase h
 rwa [if_pos (by simp [Region.wanted, hgd])] at this
def alGet {α β : Type} [DecidableEq α] (d : β) (l : List (α × β)) (s : α) : β := match l.find? (fun x => decide (x.1 = s)) with | some x => x.2 | none => d
def alSet {α β : Type} [DecidableEq α] (l : List (α × β)) (s : α) (v : β) : List (α × β) :=
 if s ∈ l.map (·.1) then l.map (fun x => if x.1 = s then (s, v) else x) else l ++ [(s, v)]
theorem alGet_set {α β : Type} [DecidableEq α] (d : β) (l : List (α × β)) (s t : α) (v : β) : alGet d (alSet l s v) t = if t = s then v else alGet d l t := by
 unfold alGet alSet
 by_cases h : s ∈ l.map (·.1)
 ·rw [if_pos h]
  induction l with
  | nil => simp at h
  | cons x l ih =>
   by_cases hx : x.1 = s
   ·by_cases ht : t = s
    ·subst ht; simp [hx]
    ·have h1 : s ≠ t := fun e => ht e.symm
     rw [if_neg ht]
     simp only [List.map_cons, List.find?_cons, hx, if_true, h1, decide_false]
     by_cases hl : s ∈ l.map (·.1)
     ·have := ih hl
      rw [if_neg ht] at this
      exact this
     ·have hm : l.map (fun x => if x.1 = s then (s, v) else x) = l := by
       conv => rhs; rw [← List.map_id l]
       refine List.map_congr_left fun y hy => ?_
       rw [if_neg (fun e => hl (List.mem_map.2 ⟨y, hy, e⟩))]
       rfl
      rw [hm]
   ·have hl : s ∈ l.map (·.1) := by
     rw [List.map_cons, List.mem_cons] at h
     exact h.resolve_left (fun e => hx e.symm)
    have := ih hl
    simp only [List.map_cons, if_neg hx, List.find?_cons]
    by_cases hxt : x.1 = t
    ·have h2 : t ≠ s := by rw [← hxt]; exact hx
     simp [hxt, h2]
    ·simpa [hxt] using this
 ·rw [if_neg h, List.find?_append]
  by_cases ht : t = s
  ·subst ht
   have : l.find? (fun x => decide (x.1 = t)) = none := by
    rw [List.find?_eq_none]; intro y hy; simp only [decide_eq_true_eq]; exact fun e => h (List.mem_map.2 ⟨y, hy, e⟩)
   simp [this]
  ·have h1 : s ≠ t := fun e => ht e.symm
   rw [if_neg ht]
   cases hf : l.find? (fun x => decide (x.1 = t)) with
   | some y => simp
   | none => simp [h1]
theorem alSet_keys {α β : Type} [DecidableEq α] {l : List (α × β)} (s : α) (v : β) (hn : (l.map (·.1)).Nodup) : ((alSet l s v).map (·.1)).Nodup := by
 unfold alSet
 by_cases h : s ∈ l.map (·.1)
 ·rw [if_pos h, List.map_map]
  have : (Prod.fst ∘ fun (x : α × β) => if x.1 = s then (s, v) else x) = (fun x : α × β => x.1) := by
   funext x
   simp only [Function.comp]
   split
   ·rename_i e; exact e.symm
   ·rfl
  rw [this]; exact hn
 ·rw [if_neg h, List.map_append, List.nodup_append]
  refine ⟨hn, by simp, fun a ha b hb e => ?_⟩
  simp at hb
  subst hb e
  exact h ha
theorem alSet_mem {α β : Type} [DecidableEq α] {l : List (α × β)} {s : α} {v : β} {x : α × β} (h : x ∈ alSet l s v) : x ∈ l ∨ x = (s, v) := by
 unfold alSet at h
 split at h
 ·obtain ⟨y, hy, e⟩ := List.mem_map.1 h
  split at e
  ·exact .inr e.symm
  ·exact .inl (e ▸ hy)
 ·rcases List.mem_append.1 h with h | h
  ·exact .inl h
  ·exact .inr (by simpa using h)
structure KeySort (P : Program) (t kt et : TypeId) (α : Type) (V : α → Value) (ok : α → Prop) : Prop where
 und : P.underlying t = some (.map kt et)
 law : Go.Maps.Keyed P kt
 inj : ∀ a b, V a = V b → a = b
 key : ∀ a, ok a → ∃ l, keyOf P kt (V a) = some l
def MapG {α : Type} (V : α → Value) (w : World) (b : Nat) (L : List (α × Value)) : Prop :=
 ∃ es clock, w.heap[b]? = some (.map es clock) ∧ es.toList.map (fun x => (x.key, x.val)) = L.map (fun p => (V p.1, p.2))
section
variable {α : Type} {V : α → Value} {ok : α → Prop} {P : Program} {t kt et : TypeId} {w w' : World} {b : Nat} {L : List (α × Value)}
theorem MapG.same (h : MapG V w b L) (hb : w'.heap[b]? = w.heap[b]?) : MapG V w' b L := by
 obtain ⟨es, clock, h1, h2⟩ := h
 exact ⟨es, clock, hb.trans h1, h2⟩
theorem MapG.lt (h : MapG V w b L) : b < w.heap.size := by
 obtain ⟨es, clock, h1, _⟩ := h
 exact (Array.getElem?_eq_some_iff.1 h1).1
theorem MapG.below (h : MapG V w b L) (hb : Below w.heap.size w w') : MapG V w' b L := h.same (hb.block b h.lt)
theorem MapG.ent {es : Array MapEntry} (hes : es.toList.map (fun x => (x.key, x.val)) = L.map (fun p => (V p.1, p.2))) :
  ∀ (j : Nat) (x : MapEntry), es.toList[j]? = some x → ∃ p, L[j]? = some p ∧ x.key = V p.1 ∧ x.val = p.2 := by
 intro j x hx
 have h1 : (es.toList.map (fun x => (x.key, x.val)))[j]? = some (x.key, x.val) := by rw [List.getElem?_map, hx]; rfl
 rw [hes, List.getElem?_map] at h1
 cases hL : L[j]? with
 | none => rw [hL] at h1; simp at h1
 | some p =>
  rw [hL] at h1
  simp only [Option.map_some, Option.some.injEq, Prod.mk.injEq] at h1
  exact ⟨p, rfl, h1.1.symm, h1.2.symm⟩
theorem MapG.keys (S : KeySort P t kt et α V ok) {es : Array MapEntry} (hes : es.toList.map (fun x => (x.key, x.val)) = L.map (fun p => (V p.1, p.2))) (hok : ∀ p ∈ L, ok p.1) :
  ∀ x ∈ es.toList, ∃ l, keyOf P kt x.key = some l := by
 intro x hx
 obtain ⟨j, hj, hjx⟩ := List.mem_iff_getElem.1 hx
 obtain ⟨y, h1, h2, _⟩ := MapG.ent hes j x (by rw [List.getElem?_eq_getElem hj, hjx])
 rw [h2]
 exact S.key _ (hok y (List.mem_of_getElem? h1))
theorem MapG.len {es : Array MapEntry} (hes : es.toList.map (fun x => (x.key, x.val)) = L.map (fun p => (V p.1, p.2))) : es.toList.length = L.length := by
 have := congrArg List.length hes
 simpa using this
variable [DecidableEq α]
theorem MapG.find (S : KeySort P t kt et α V ok) {es : Array MapEntry} (hes : es.toList.map (fun x => (x.key, x.val)) = L.map (fun p => (V p.1, p.2))) (hok : ∀ p ∈ L, ok p.1) (hn : (L.map (·.1)).Nodup) (a : α) (ha : ok a) (w : World) :
  ((Instr.findKey kt (V a) es.toList).run P w = .ok none w ∧ a ∉ L.map (·.1) ∧ (∀ e ∈ es.toList, e.key ≠ V a) ∧ L.find? (fun x => decide (x.1 = a)) = none) ∨
  ∃ j p e0, (Instr.findKey kt (V a) es.toList).run P w = .ok (some (j, p.2)) w ∧ L[j]? = some p ∧ p.1 = a ∧ es.toList[j]? = some e0 ∧ e0.key = V a ∧ e0.val = p.2 ∧ L.find? (fun x => decide (x.1 = a)) = some p := by
 obtain ⟨kl, hkey⟩ := S.key a ha
 rcases S.law.find w hkey es.toList (MapG.keys S hes hok) with ⟨h1, h2⟩ | ⟨j, e0, h1, h2, h3⟩
 ·have hnm : a ∉ L.map (·.1) := by
   intro hm
   obtain ⟨p, hp, hpa⟩ := List.mem_map.1 hm
   obtain ⟨j, hj, hje⟩ := List.mem_iff_getElem.1 hp
   have hjs : j < es.toList.length := by rw [MapG.len hes]; exact hj
   obtain ⟨y, k1, k2, _⟩ := MapG.ent hes j _ (List.getElem?_eq_getElem hjs)
   rw [List.getElem?_eq_getElem hj, hje] at k1
   injection k1 with k1
   subst k1
   rw [hpa] at k2
   exact h2 _ (List.getElem_mem hjs) k2
  refine .inl ⟨h1, hnm, h2, ?_⟩
  rw [List.find?_eq_none]
  intro y hy
  simp only [decide_eq_true_eq]
  exact fun e => hnm (List.mem_map.2 ⟨y, hy, e⟩)
 ·obtain ⟨p, k1, k2, k3⟩ := MapG.ent hes j e0 h2
  have hpa : p.1 = a := S.inj _ _ (k2.symm.trans h3)
  refine .inr ⟨j, p, e0, by rw [h1, k3], k1, hpa, h2, h3, k3, ?_⟩
  rw [List.find?_eq_some_iff_getElem]
  obtain ⟨hj, hje⟩ := List.getElem?_eq_some_iff.1 k1
  refine ⟨by simpa using hpa, j, hj, hje, fun i hi => ?_⟩
  simp only [Bool.not_eq_true', decide_eq_false_iff_not]
  intro e
  have := List.pairwise_iff_getElem.1 hn i j (by simpa using by omega) (by simpa using hj) hi
  simp only [List.getElem_map] at this
  exact this (by rw [e, hje, hpa])
theorem look_mapG (S : KeySort P t kt et α V ok) (h : MapG V w b L) (hok : ∀ p ∈ L, ok p.1) (hn : (L.map (·.1)).Nodup) (a : α) (ha : ok a) {z : Value} (hz : (zeroValue et).run P w = .ok z w) :
  (Instr.lookup t (.map (some b)) (V a) false).run P w = .ok (alGet z L a) w := by
 obtain ⟨es, clock, hb, hes⟩ := h
 obtain ⟨kl, hkey⟩ := S.key a ha
 rcases MapG.find S hes hok hn a ha w with ⟨h1, _, _, h2⟩ | ⟨j, p, e0, h1, _, _, _, _, _, h2⟩
 ·simp [Instr.lookup, run_underlying S.und, MapKept.run_getObj_map hb, S.law.check w _ hkey, h1, hz, Result.andThen, alGet, h2]
 ·simp [Instr.lookup, run_underlying S.und, MapKept.run_getObj_map hb, S.law.check w _ hkey, h1, Result.andThen, alGet, h2]
theorem put_mapG (S : KeySort P t kt et α V ok) (h : MapG V w b L) (hok : ∀ p ∈ L, ok p.1) (hn : (L.map (·.1)).Nodup) (a : α) (ha : ok a) (v : Value) :
  ∃ w', (Instr.mapUpdate t (.map (some b)) (V a) v).run P w = .ok () w' ∧ MapG V w' b (alSet L a v) ∧ w.grownBy w' (some b) ∧ w'.heap.size = w.heap.size := by
 obtain ⟨es, clock, hb, hes⟩ := h
 obtain ⟨kl, hkey⟩ := S.key a ha
 have hbl : b < w.heap.size := (Array.getElem?_eq_some_iff.1 hb).1
 have hgr : ∀ o : Obj, w.grownBy (Go.ChangeMaps.setBlock w b o) (some b) := fun o => by
  refine ⟨rfl, rfl, rfl, by simp [Go.ChangeMaps.setBlock], fun k hk hne => ?_⟩
  have hkb : b ≠ k := fun e => hne (by rw [e])
  simp [Go.ChangeMaps.setBlock, hkb]
 rcases MapG.find S hes hok hn a ha w with ⟨h1, hm, _, _⟩ | ⟨j, p, e0, h1, hL, hpa, hj, hk0, hv0, _⟩
 ·refine ⟨Go.ChangeMaps.setBlock w b (.map (es.push ⟨V a, v, clock⟩) (clock + 1)), ?_, ⟨es.push ⟨V a, v, clock⟩, clock + 1, ?_, ?_⟩, hgr _, by simp [Go.ChangeMaps.setBlock]⟩
  ·simp [Instr.mapUpdate, run_underlying S.und, MapKept.run_getObj_map hb, S.law.check w false hkey, h1, MapKept.run_setObj_map _ hb, Result.andThen, Go.ChangeMaps.setBlock]
  ·simp [Go.ChangeMaps.setBlock, hbl]
  ·unfold alSet
   rw [if_neg hm, Array.toList_push, List.map_append, hes, List.map_append]; rfl
 ·have hj' : es[j]? = some e0 := by simpa using hj
  have hmem : a ∈ L.map (·.1) := List.mem_map.2 ⟨p, List.mem_of_getElem? hL, hpa⟩
  refine ⟨Go.ChangeMaps.setBlock w b (.map (es.modify j (fun e' => { e' with key := V a, val := v })) clock), ?_, ⟨es.modify j (fun e' => { e' with key := V a, val := v }), clock, ?_, ?_⟩, hgr _, by simp [Go.ChangeMaps.setBlock]⟩
  ·simp [Instr.mapUpdate, run_underlying S.und, MapKept.run_getObj_map hb, S.law.check w false hkey, h1, hj', hk0, S.law.stays w hkey, MapKept.run_setObj_map _ hb, Result.andThen, Go.ChangeMaps.setBlock]
  ·simp [Go.ChangeMaps.setBlock, hbl]
  ·unfold alSet
   rw [if_pos hmem]
   refine List.ext_getElem? fun i => ?_
   rw [List.getElem?_map, Array.toList_modify, List.getElem?_modify, List.getElem?_map, List.getElem?_map]
   cases hi : L[i]? with
   | none =>
    have : es.toList[i]? = none := by
     rw [List.getElem?_eq_none_iff] at hi ⊢
     rw [MapG.len hes]; exact hi
    rw [this]; simp
   | some q =>
    obtain ⟨hil, hie⟩ := List.getElem?_eq_some_iff.1 hi
    have his : i < es.toList.length := by rw [MapG.len hes]; exact hil
    obtain ⟨q', k1, k2, k3⟩ := MapG.ent hes i _ (List.getElem?_eq_getElem his)
    rw [hi] at k1
    injection k1 with k1
    subst k1
    rw [List.getElem?_eq_getElem his]
    obtain ⟨hjl, hje⟩ := List.getElem?_eq_some_iff.1 hL
    by_cases hij : j = i
    ·subst hij
     rw [hi] at hL
     injection hL with hL
     subst hL
     simp [hpa]
    ·have hqa : q.1 ≠ a := by
      intro e
      rcases Nat.lt_or_gt_of_ne hij with h | h
      ·have := List.pairwise_iff_getElem.1 hn j i (by simpa using hjl) (by simpa using hil) h
       simp only [List.getElem_map] at this
       exact this (by rw [hie, hje, e, hpa])
      ·have := List.pairwise_iff_getElem.1 hn i j (by simpa using hil) (by simpa using hjl) h
       simp only [List.getElem_map] at this
       exact this (by rw [hie, hje, e, hpa])
     simp [hij, hqa]
     exact ⟨by simpa using k2, by simpa using k3⟩
end
end Go.Proofs.YthhiookcknnmdaaGreat
namespace Go.Proofs.YthhiookcknnmdaaGreat
structure Pl where
 tb : D8
 ks : List D8
 s0 : Int
 s1 : Int
 nr : List Int
 fr : List Int
def dz8 : D8 := ⟨0, 0, 0, 0, 0, 0, 0, 0⟩
def pl0 : Pl := ⟨dz8, [], 0, 0, [], []⟩
def winB (n : Int) : Bool := decide (1 ≤ n) && decide (n ≤ 1048576)
def stkB (n : Int) : Bool := decide (1 ≤ n) && decide (n ≤ 562949953421312)
def manyB (n : Nat) : Bool := decide (2 ≤ n) && decide (n ≤ 8)
def Pl.hops (p : Pl) : Nat := p.ks.length - 1
def Pl.st (p : Pl) (k : Int) : Int := if k = 0 then p.s0 else p.s1
def Pl.un (p : Pl) (hop : Nat) (k : Int) : Int := if k = 0 then p.nr.getD hop 0 else p.fr.getD hop 0
def dupK (ks : List D8) (k : Nat) : Bool := (List.range k).any fun j => eqI (ks.getD j dz8).L (ks.getD k dz8).L
def gapB (p : Pl) (wn : Int) (i : Nat) : Bool := decide (p.nr.getD (i - 1) 0 - p.nr.getD i 0 < wn) || decide (p.fr.getD i 0 - p.fr.getD (i - 1) 0 < wn)
def Pl.check (p : Pl) (wn : Int) : Int :=
 if winB wn then
  if manyB p.ks.length then
   if (List.range p.ks.length).any (dupK p.ks) then 7
   else if stkB p.s0 && stkB p.s1 then
    if p.nr.length = p.ks.length - 1 ∧ p.fr.length = p.ks.length - 1 then
     if (List.range (p.ks.length - 1)).all (fun i => far (p.nr.getD i 0) && far (p.fr.getD i 0)) then
      if (List.range (p.ks.length - 1)).any (fun i => decide (1 ≤ i) && gapB p wn i) then 20 else 0
     else 2
    else 3
   else 2
  else 3
 else 1
def Pl.mk_ (tb : D8) (ks : List D8) (s0 s1 last wn : Int) : Pl :=
 ⟨tb, ks, s0, s1, (List.range (ks.length - 1)).map fun (i : Nat) => last + ((ks.length - 1 : Nat) - (i : Int)) * wn, (List.range (ks.length - 1)).map fun (i : Nat) => last + ((i : Int) + 1) * wn⟩
def Pl.new (tb : D8) (ks : List D8) (s0 s1 last wn : Int) : Int × Pl :=
 if winB wn then
  if far last then
   if manyB ks.length then
    if (Pl.mk_ tb ks s0 s1 last wn).check wn = 0 then (0, Pl.mk_ tb ks s0 s1 last wn) else ((Pl.mk_ tb ks s0 s1 last wn).check wn, pl0)
   else (3, pl0)
  else (2, pl0)
 else (1, pl0)
def u64 (n : Int) : Nat := (n % 18446744073709551616).toNat
def wayT : List Nat := [119, 97, 121]
def lockT : List Nat := [108, 111, 99, 107]
def payT : List Nat := [112, 97, 121]
def encKs (ks : List D8) : List Nat := ks.flatMap fun k => encN k.num
def encIs (l : List Int) : List Nat := l.flatMap fun n => encN (u64 n)
def Pl.bytes (p : Pl) : List Nat := encB wayT ++ encN p.tb.num ++ encN p.ks.length ++ encKs p.ks ++ encIs [p.s0, p.s1] ++ encIs p.nr ++ encIs p.fr
def Pl.digest (p : Pl) : D8 := hashOf p.bytes
structure Lk where
 kd : Int
 hs : D8
 ks : List D8
 st : Int
 cp : Int
 un : Int
def lk0 : Lk := ⟨0, dz8, [], 0, 0, 0⟩
def Pl.lock (p : Pl) (hop : Nat) (k : Int) : Lk := ⟨1, p.tb, [p.ks.getD 0 dz8, p.ks.getD (p.ks.length - 1) dz8], k, p.st k, p.un hop k⟩
def encDs (ks : List D8) : List Nat := ks.flatMap fun k => encB k.bytes
def Lk.bytes (l : Lk) : List Nat := encN l.kd.toNat ++ encB l.hs.bytes ++ encN l.ks.length ++ encDs l.ks ++ encN l.st.toNat ++ encN l.cp.toNat ++ encN l.un.toNat
def Lk.name (l : Lk) : D8 := hashOf (encB lockT ++ { l with un := 0 }.bytes)
def Lk.check (l : Lk) : Int :=
 if l.kd ≠ 0 ∧ l.kd ≠ 1 then 11
 else if l.cp < 1 ∨ 1125899906842624 < l.cp ∨ l.un < 0 ∨ 1099511627776 < l.un then 2
 else if l.kd = 0 then (if l.ks.length ≠ 0 then 3 else if l.st ≠ 0 then 28 else 0)
 else if l.ks.length < 2 ∨ 8 < l.ks.length then 3
 else if l.st < 0 ∨ (l.ks.length : Int) ≤ l.st then 28 else 0
structure Ou where
 pays : List Int
 sigs : List (List Nat)
def ou0 : Ou := ⟨[], []⟩
def encPs (l : List Int) : List Nat := l.flatMap fun n => encN (foldN n)
def payB (tb : D8) (l : List Int) : List Nat := encB payT ++ encB tb.bytes ++ encN l.length ++ encPs l
def payD (tb : D8) (l : List Int) : D8 := hashOf (payB tb l)
def allE (L : List En) (m : D8) (ks : List D8) (ss : List (List Nat)) : Bool := (List.range ks.length).all fun i => !(lacksE L m ks ss [] i)
def Lk.byOut (L : List En) (l : Lk) (o : Ou) : Int × Int :=
 if o.pays.length ≠ l.ks.length then (0, 3)
 else if o.pays.all rgt then
  if o.sigs.length = l.ks.length ∧ allE L (payD l.hs o.pays) l.ks o.sigs then (max 0 (l.cp - o.pays.getD l.st.toNat 0), 0) else (0, 16)
 else (0, 22)
def Lk.open_ (L : List En) (l : Lk) (now : Int) (o : Ou) : Int × Int :=
 if l.check ≠ 0 then (0, l.check) else if l.un < now then (0, 19) else l.byOut L o
structure Wy where
 pl : Pl
 pu : List Pu
 at_ : List ((Int × Int) × Int)
 by_ : List ((Int × Int) × Ou)
 ag : List Bool
instance : Inhabited Pu := ⟨pu0⟩
def Wy.atI (w : Wy) (hop which : Int) : Int := alGet 0 w.at_ (hop, which)
def Wy.byI (w : Wy) (hop which : Int) : Ou := alGet ou0 w.by_ (hop, which)
def Wy.isHop (w : Wy) (hop : Int) : Bool := decide (0 ≤ hop) && decide (hop < w.pu.length)
def Wy.isSpot (w : Wy) (hop which : Int) : Bool := w.isHop hop && decide (0 ≤ which) && decide (which ≤ 1)
def Wy.behind (w : Wy) (hop : Int) : Bool := (List.range hop.toNat).any fun i => w.atI i 0 == 0
def Pl.heldOf (p : Pl) (hop : Nat) (k : Int) : Hd := ⟨(p.lock hop k).name, (p.lock hop k).cp, k, (p.lock hop k).un⟩
def Wy.lockI (w : Wy) (hop now : Int) : Int × Pu :=
 if w.isHop hop then
  if far now then
   if w.atI hop 0 = 0 ∧ w.atI hop 1 = 0 then
    if w.behind hop then (18, pu0)
    else if now ≤ w.pl.nr.getD hop.toNat 0 ∧ now ≤ w.pl.fr.getD hop.toNat 0 then
     if ((w.pu.getD hop.toNat default).hold (w.pl.heldOf hop.toNat 0)).1 = 0 then
      ((w.pu.getD hop.toNat default).hold (w.pl.heldOf hop.toNat 0)).2.hold (w.pl.heldOf hop.toNat 1)
     else (((w.pu.getD hop.toNat default).hold (w.pl.heldOf hop.toNat 0)).1, pu0)
    else (19, pu0)
   else (10, pu0)
  else (2, pu0)
 else (9, pu0)
def Wy.lock (w : Wy) (hop now : Int) : Int × Wy :=
 if (w.lockI hop now).1 = 0 then (0, { w with pu := w.pu.set hop.toNat (w.lockI hop now).2, at_ := alSet (alSet w.at_ (hop, 0) 1) (hop, 1) 1 }) else ((w.lockI hop now).1, w)
def Wy.agreeI (w : Wy) (L : List En) (party : Int) (sig : List Nat) : Int :=
 if 0 ≤ party ∧ party < w.ag.length then
  if w.ag.getD party.toNat false then 7
  else if verS L ⟨w.pl.ks.getD party.toNat dz8, w.pl.digest⟩ sig then 0 else 16
 else 28
def Wy.agree (w : Wy) (L : List En) (party : Int) (sig : List Nat) : Int × Wy :=
 if w.agreeI L party sig = 0 then (0, { w with ag := w.ag.set party.toNat true }) else (w.agreeI L party sig, w)
def Wy.ready (w : Wy) : Bool := w.ag.all id
def Wy.openI (w : Wy) (L : List En) (hop which now : Int) (o : Ou) : Int × Pu :=
 if w.isSpot hop which then
  if far now then
   if w.atI hop which = 1 then
    if w.ready then
     if ((w.pl.lock hop.toNat which).open_ L now o).2 = 0 then
      (w.pu.getD hop.toNat default).free (w.pl.lock hop.toNat which).name ((w.pl.lock hop.toNat which).open_ L now o).1
     else (((w.pl.lock hop.toNat which).open_ L now o).2, pu0)
    else (20, pu0)
   else (10, pu0)
  else (2, pu0)
 else (9, pu0)
def Wy.open_ (w : Wy) (L : List En) (hop which now : Int) (o : Ou) : Int × Wy :=
 if (w.openI L hop which now o).1 = 0 then (0, { w with pu := w.pu.set hop.toNat (w.openI L hop which now o).2, at_ := alSet w.at_ (hop, which) 2, by_ := alSet w.by_ (hop, which) o }) else ((w.openI L hop which now o).1, w)
def Wy.backI (w : Wy) (hop which now : Int) : Int × Pu :=
 if w.isSpot hop which then
  if far now then
   if w.atI hop which = 1 then (w.pu.getD hop.toNat default).back (w.pl.lock hop.toNat which).name now
   else (10, pu0)
  else (2, pu0)
 else (9, pu0)
def Wy.back (w : Wy) (hop which now : Int) : Int × Wy :=
 if (w.backI hop which now).1 = 0 then (0, { w with pu := w.pu.set hop.toNat (w.backI hop which now).2, at_ := alSet w.at_ (hop, which) 3 }) else ((w.backI hop which now).1, w)
def Pu.worth (p : Pu) (side : Int) : Int := p.have_ side + sumL (p.held.filter fun h => h.fr == side)
def Wy.worth (w : Wy) (party : Int) : Int :=
 if party < 0 ∨ (w.pu.length : Int) < party then 0
 else (if w.isHop party then (w.pu.getD party.toNat default).worth 0 else 0) + (if w.isHop (party - 1) then (w.pu.getD (party - 1).toNat default).worth 1 else 0)
end Go.Proofs.YthhiookcknnmdaaGreat
