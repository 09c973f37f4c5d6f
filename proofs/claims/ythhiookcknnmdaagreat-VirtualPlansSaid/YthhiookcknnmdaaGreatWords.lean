/- Own words for memory: a slice that reads as a list of cells; small facts on worlds. Nothing of the program stands in it, so there is no condition. -/
import Derived.WalkKit
import Derived.WalkSpells
import Derived.Laws.OwnMore
import Derived.Deep.AppendLies
import Derived.Deep.Draws
import Derived.Laws.Rows
import Derived.Lib.Hide
import Derived.Lib.OthersKept
namespace Go.Proofs.YthhiookcknnmdaaGreat
open Go.RowKit Go.Lib

theorem bcell {B : Nat} {W w1 : World} (hb : Below B W w1) : (∀ b o, b < B → w1.cell? ⟨b, o, none⟩ = W.cell? ⟨b, o, none⟩) ∧ (∀ b o, b < B → w1.frozen? ⟨b, o, none⟩ = W.frozen? ⟨b, o, none⟩) :=
 ⟨fun b o h => hb.cell (p := ⟨b, o, none⟩) h, fun b o h => hb.frozen (p := ⟨b, o, none⟩) h⟩

theorem below_drewN {B : Nat} {a w : World} (h : Below B a w) (n : Nat) : Below B a (w.drewN n) := ⟨h.os, h.tape, h.output, h.size, h.block⟩
theorem ret_bool {a b : Bool} (h : a = b) : Ending.returned (.bool a) = .returned (.bool b) := by rw [h]
theorem ret_int {k : IntKind} {a b : Int} (h : a = b) : Ending.returned (.int k a) = .returned (.int k b) := by rw [h]
theorem ret_str {a b : ByteArray} (h : a = b) : Ending.returned (.string a) = .returned (.string b) := by rw [h]

def Rd (w : World) (B sz : Nat) (A : Option Addr) (n : Nat) (xs : List Value) : Prop :=
 xs.length = n * sz ∧ (0 < n → ∃ b o, A = some ⟨b, o, none⟩ ∧ b < B ∧ ∀ j u, xs[j]? = some u → w.cell? ⟨b, o + j, none⟩ = some u)

section
variable {w w' : World} {B B' sz n : Nat} {A : Option Addr} {xs : List Value}
theorem Rd.empty : Rd w B sz A 0 [] := ⟨by simp, fun h => absurd h (by omega)⟩
theorem Rd.lenEq (h : Rd w B sz A n xs) : xs.length = n * sz := h.1
theorem Rd.keep (h : Rd w B sz A n xs) (hk : ∀ b o, b < B → w'.cell? ⟨b, o, none⟩ = w.cell? ⟨b, o, none⟩) : Rd w' B sz A n xs :=
 ⟨h.1, fun hn => by
  obtain ⟨b, o, e, hb, hc⟩ := h.2 hn
  exact ⟨b, o, e, hb, fun j u hu => (hk _ _ hb).trans (hc j u hu)⟩⟩
theorem Rd.more (h : Rd w B sz A n xs) (hB : B ≤ B') : Rd w B' sz A n xs :=
 ⟨h.1, fun hn => by
  obtain ⟨b, o, e, hb, hc⟩ := h.2 hn
  exact ⟨b, o, e, by omega, hc⟩⟩
theorem Rd.below {C : Nat} (h : Rd w B sz A n xs) (hb : Below C w w') (hC : B ≤ C) : Rd w' B sz A n xs :=
 h.keep fun b o hlt => hb.cell (p := ⟨b, o, none⟩) (show b < C by omega)
theorem Rd.drew (h : Rd w B sz A n xs) : Rd w.drew B sz A n xs := h
theorem Rd.drewN (h : Rd w B sz A n xs) (k : Nat) : Rd (w.drewN k) B sz A n xs := h
theorem Rd.alloc (h : Rd w B sz A n xs) (hB : B ≤ w.heap.size) (o : Obj) : Rd (w.alloc o) B sz A n xs :=
 h.keep fun b i hb => World.cell?_alloc_lt w o ⟨b, i, none⟩ (by show b < _; omega)
theorem Rd.setCell (h : Rd w B sz A n xs) {p : Addr} (hB : B ≤ p.block) (u : Value) : Rd (w.setCell p u) B sz A n xs :=
 h.keep fun b i hb => World.cell?_setCell_other w p ⟨b, i, none⟩ u (fun e => by subst e; exact absurd hb (by simpa using hB))
theorem Rd.grown (h : Rd w B sz A n xs) {row : Option Nat} (hg : w.grownBy w' row) (hB : B ≤ w.heap.size) (hr : ∀ g, row = some g → B ≤ g) : Rd w' B sz A n xs :=
 h.keep fun b i hb => World.cell?_of_block (a := ⟨b, i, none⟩) (hg.block b (by omega) (fun e => by have := hr _ e.symm; omega))
theorem Rd.at_ {k j : Nat} (h : Rd w B sz A n xs) (hk : k < n) (hj : j < sz) :
  ∃ b o u, A = some ⟨b, o, none⟩ ∧ b < B ∧ xs[k * sz + j]? = some u ∧ w.cell? ⟨b, o + (k * sz + j), none⟩ = some u := by
 obtain ⟨b, o, e, hb, hc⟩ := h.2 (by omega)
 have hl : k * sz + j < xs.length := by
  rw [h.1]
  have : (k + 1) * sz ≤ n * sz := Nat.mul_le_mul_right _ hk
  rw [Nat.add_mul] at this
  omega
 exact ⟨b, o, xs[k * sz + j], e, hb, List.getElem?_eq_getElem hl, hc _ _ (List.getElem?_eq_getElem hl)⟩
theorem Rd.new (w : World) (t : TypeId) (l : List Value) (hl : l.length = n * sz) : Rd (w.alloc (.cells l.toArray t)) (w.alloc (.cells l.toArray t)).heap.size sz (some ⟨w.heap.size, 0, none⟩) n l :=
 ⟨hl, fun _ => ⟨w.heap.size, 0, rfl, by simp, fun j u hu => by
  have := cell_of_row (w.alloc (.cells l.toArray t)) w.heap.size (0 + j) l.toArray t (0, 0) (heap_alloc_new w _)
  rw [this]; simpa using hu⟩⟩
theorem Rd.newA (w : World) (t : TypeId) (cs : Array Value) (h : cs.toList = xs) (hl : xs.length = n * sz) : Rd (w.alloc (.cells cs t)) (w.alloc (.cells cs t)).heap.size sz (some ⟨w.heap.size, 0, none⟩) n xs := by
 subst h
 have := Rd.new (n := n) (sz := sz) w t cs.toList hl
 simpa using this
theorem Rd.of_own {base : Nat} {e : TypeId} {c : Nat} (h : w.ownsRow base e sz (.slice A n c) n xs) : Rd w w.heap.size sz A n xs := by
 refine ⟨h.1, fun hn => ?_⟩
 obtain ⟨g, cap, hv, _, hlt⟩ := h.form hn
 have hA : A = some ⟨g, 0, none⟩ := by injection hv
 subst hA
 refine ⟨g, 0, rfl, hlt, fun j u hu => ?_⟩
 have := h.cells (g := g) rfl j u hu
 unfold Addr.add at this
 split at this
 ·subst_vars; simpa using this
 ·simpa using this
end

theorem own_form {w : World} {base : Nat} {e : TypeId} {sz n : Nat} {v : Value} {xs : List Value} (h : w.ownsRow base e sz v n xs) : ∃ A c, v = .slice A n c := by
 rcases h.2 with ⟨rfl, hx⟩ | ⟨g, cap, cur, rfl, hrest⟩
 ·rcases Nat.eq_zero_or_pos n with rfl | hn
  ·exact ⟨none, 0, rfl⟩
  ·exact ⟨none, 0, by simp_all⟩
 ·exact ⟨_, _, rfl⟩

theorem block_below {w w' : World} {B j : Nat} {o : Obj} (h : w.heap[j]? = some o) (hb : Below B w w') (hj : j < B) : w'.heap[j]? = some o := (hb.block j hj).trans h
theorem block_lt {w : World} {j : Nat} {o : Obj} (h : w.heap[j]? = some o) : j < w.heap.size := (Array.getElem?_eq_some_iff.1 h).1
theorem block_alloc {w : World} {j : Nat} {o : Obj} (h : w.heap[j]? = some o) (x : Obj) : (w.alloc x).heap[j]? = some o := (Below.heap_alloc w x j (block_lt h)).trans h
theorem block_iter {w : World} {j : Nat} {o : Obj} (h : w.heap[j]? = some o) (s : ByteArray) (p : Nat) : (w.iter s p).heap[j]? = some o := block_alloc h _
theorem block_drewN {w : World} {j : Nat} {o : Obj} (h : w.heap[j]? = some o) (n : Nat) : (w.drewN n).heap[j]? = some o := h
theorem block_grown {w w' : World} {j : Nat} {o : Obj} {row : Option Nat} (h : w.heap[j]? = some o) (hg : w.grownBy w' row) (hne : some j ≠ row) : w'.heap[j]? = some o := (hg.block j (block_lt h) hne).trans h
theorem block_cell {w : World} {g : Nat} {cs : Array Value} {t : TypeId} {fz : Nat × Nat} (h : w.heap[g]? = some (.cells cs t fz)) (j : Nat) : w.cell? ⟨g, j, none⟩ = cs[j]? := cell_of_row w g j cs t fz h
theorem block_free {w : World} {g : Nat} {cs : Array Value} {t : TypeId} (h : w.heap[g]? = some (.cells cs t (0, 0))) (j : Nat) : w.frozen? ⟨g, j, none⟩ = false := by
 simp [World.frozen?, h]
theorem own_below {w w' : World} {base : Nat} {e : TypeId} {sz n : Nat} {v : Value} {xs : List Value} (h : w.ownsRow base e sz v n xs) (hb : Below w.heap.size w w') : w'.ownsRow base e sz v n xs :=
 h.kept (row := none) ⟨hb.os, hb.tape, hb.output, hb.size, fun k hk _ => hb.block k hk⟩ (by cases hv : v.ownBlock <;> simp)
theorem below_of_grown {w w' : World} {B : Nat} {row : Option Nat} (hg : w.grownBy w' row) (hB : B ≤ w.heap.size) (hr : ∀ k, row = some k → B ≤ k) : Below B w w' :=
 (Below.refl _ _).grown hg hB hr
theorem iter_next {P : Program} {w : World} {k pos : Nat} {s : ByteArray} (ty : TypeId) (hk : w.heap[k]? = some (.stringIter s pos)) (x : UInt8) (hx : s.data.toList[pos]? = some x) (ha : x.toNat < 128) :
  ∃ w2, (Instr.next (.pointer (some ⟨k, 0, none⟩)) true ty).run P w = .ok (.tuple #[.bool true, .int .i64 pos, .int .i32 x.toNat]) w2 ∧ w2.heap[k]? = some (.stringIter s (pos + 1)) ∧ w2.heap.size = w.heap.size ∧ w.grownBy w2 (some k) := by
 have h : pos < s.size := by
  have := (List.getElem?_eq_some_iff.1 hx).1
  rw [Array.length_toList] at this
  exact this
 have hv : s[pos]'h = x := by
  have := (List.getElem?_eq_some_iff.1 hx).2
  rw [← this]; rfl
 refine ⟨w.iterAt k s (pos + 1), ?_, iterAt_heap w k s pos _ hk, iterAt_size w k s _, ⟨rfl, rfl, rfl, by rw [iterAt_size]; exact Nat.le_refl _, fun j _ hne => iterAt_other w k j s _ (fun e => hne (by rw [e]))⟩⟩
 have := run_next_ascii_at (P := P) w k s pos ty hk h (by rw [hv]; exact ha)
 rw [this, hv]
theorem iter_end {P : Program} {w : World} {k pos : Nat} {s : ByteArray} (ty : TypeId) (hk : w.heap[k]? = some (.stringIter s pos)) (h : s.size ≤ pos) :
  (Instr.next (.pointer (some ⟨k, 0, none⟩)) true ty).run P w = .ok (.tuple #[.bool false]) w := run_next_end_at w k s pos ty hk (by omega)
theorem own_grown {w w' : World} {base : Nat} {e : TypeId} {sz n : Nat} {v : Value} {xs : List Value} {g : Nat} (h : w.ownsRow base e sz v n xs) (hg : w.grownBy w' (some g)) (hlt : g < base) : w'.ownsRow base e sz v n xs :=
 h.kept hg (by rcases hv : v.ownBlock with _ | k; exact .inl rfl; right; intro e; have := (h.lt k hv).1; simp at e; omega)

theorem wpList_append_lit {P : Program} {ops : Array Oper} {rest : List Oper} {o : Oper} {a : Act} {Q : Exit → Act → World → Prop} (w : World) (hgd : o.guard = none) (s x : Operand) (t : TypeId)
  (ho : o.op = .call { callee := .builtin .append, args := #[s, x], argTypes := #[t, t] })
  (base : Nat) (e : TypeId) (i : TypeInfo) (z : Value) (sz bytes : Nat) (ht : P.underlying t = some (.slice e)) (hinfo : P.info? e = some i ∧ i.zero = some z ∧ i.size = sz ∧ i.bytes = bytes)
  (hzs : z.cells.size = sz) (hsz : 0 < sz) (v : Value) (n : Nat) (xs : List Value) (hs : a.eval s = v) (hown : w.ownsRow base e sz v n xs)
  (m c : Nat) (cs : Array Value) (e' : TypeId) (hx : a.eval x = .slice (some ⟨w.heap.size, 0, none⟩) m c) (hl : cs.size = m * sz) (h1 : ∀ u ∈ cs.toList, u.oneCell' = true)
  (h63 : n + m ≤ 281474976710656) (hbytes : (n + m) * bytes ≤ 140737488355328) (hbase : base ≤ w.heap.size)
  (h : ∀ v' w', w'.ownsRow base e sz v' (n + m) (xs ++ cs.toList) → Below base w w' → wpList P ops Q rest (a.put o.dst v') w') : wpList P ops Q (o :: rest) a (w.alloc (.cells cs e')) := by
 refine wpList_append_own (w.alloc (.cells cs e')) hgd s x t ho base e i z sz bytes ht hinfo.1 hinfo.2.1 hinfo.2.2.1 hinfo.2.2.2 hzs hsz v n xs hs (hown.alloc _) ⟨w.heap.size, 0, none⟩ m c cs.toList hx (by simpa using hl) ?_ h1 (by simp only [maxLen]; omega) hbytes (by simp; omega) ?_
 ·intro j u hu
  have := cell_of_row (w.alloc (.cells cs e')) w.heap.size j cs e' (0, 0) (heap_alloc_new w _)
  have e0 : (⟨w.heap.size, 0, none⟩ : Addr).add j = ⟨w.heap.size, j, none⟩ := by unfold Addr.add; split <;> simp_all
  rw [e0, this]; simpa using hu
 ·intro v' w' hown' hg _
  refine h v' w' hown' (((Below.refl _ _).alloc hbase _).grown hg (by simp; omega) (fun k hk => (hown.lt k hk).1))

theorem snoc_take {α : Type} [Inhabited α] (l : List α) (k : Nat) (h : k < l.length) : l.take (k + 1) = l.take k ++ [l.getD k default] := by
 rw [List.take_succ_eq_append_getElem h, List.getD_eq_getElem?_getD, List.getElem?_eq_getElem h]; rfl
theorem sA {α : Type _} (l : List α) (i : Nat) (a : α) : l.toArray.setIfInBounds i a = (l.set i a).toArray := List.setIfInBounds_toArray ..
theorem sZ {α : Type _} (a b : α) (l : List α) : (a :: l).set 0 b = b :: l := rfl
theorem sS {α : Type _} (a b : α) (l : List α) (i : Nat) : (a :: l).set (i + 1) b = a :: l.set i b := rfl
end Go.Proofs.YthhiookcknnmdaaGreat
