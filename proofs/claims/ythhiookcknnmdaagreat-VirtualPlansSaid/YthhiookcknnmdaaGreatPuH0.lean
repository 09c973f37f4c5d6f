/- Memory: many cells of a known block stored; a row of the call's own with one element taken out. Nothing of the program stands in it, so there is no condition. -/
import Derived.Test.YthhiookcknnmdaaGreatWords
import Derived.Test.YthhiookcknnmdaaGreatSlice
import Derived.Lib.SmallJoins
import Derived.Lib.SliceRun
import Derived.Deep.RegionLaw
import Derived.Laws.IdiomCopy
namespace Go.Proofs.YthhiookcknnmdaaGreat
open Go.RowKit Go.Lib

def layA (cs : Array Value) : Nat → List Value → Array Value
 | _, [] => cs
 | o, v :: r => layA (cs.setIfInBounds o v) (o + 1) r
theorem layA_size (vs : List Value) : ∀ (cs : Array Value) (o : Nat), (layA cs o vs).size = cs.size := by
 induction vs with
 | nil => intro cs o; rfl
 | cons v r ih => intro cs o; simp only [layA]; rw [ih]; simp
theorem layA_at (vs : List Value) : ∀ (cs : Array Value) (o j : Nat), o + vs.length ≤ cs.size → (layA cs o vs)[j]? = if o ≤ j ∧ j < o + vs.length then vs[j - o]? else cs[j]? := by
 induction vs with
 | nil => intro cs o j _; simp only [layA, List.length_nil]; rw [if_neg (by omega)]
 | cons v r ih =>
  intro cs o j h
  simp only [List.length_cons] at h
  simp only [layA, List.length_cons]
  rw [ih _ _ _ (by simp; omega)]
  by_cases h1 : o + 1 ≤ j ∧ j < o + 1 + r.length
  ·rw [if_pos h1, if_pos (by omega), show j - o = (j - (o + 1)) + 1 by omega, List.getElem?_cons_succ]
  ·rw [if_neg h1]
   by_cases h2 : j = o
   ·subst h2
    rw [if_pos (by omega), Array.getElem?_setIfInBounds]
    simp
    omega
   ·rw [if_neg (by omega), Array.getElem?_setIfInBounds, if_neg (by omega)]
theorem block_setCells {g : Nat} {t : TypeId} {fz : Nat × Nat} (vs : List Value) : ∀ (o : Nat) (w : World) (cs : Array Value), w.heap[g]? = some (.cells cs t fz) → (w.setCells g o vs).heap[g]? = some (.cells (layA cs o vs) t fz) := by
 induction vs with
 | nil => intro o w cs h; exact h
 | cons v r ih => intro o w cs h; exact ih (o + 1) _ _ (Joins.block_setCell (i := o) h v)
theorem grown_setCells {g : Nat} (vs : List Value) : ∀ (o : Nat) (w : World), w.grownBy (w.setCells g o vs) (some g) := by
 induction vs with
 | nil => intro o w; exact World.grownBy.refl _ _
 | cons v r ih =>
  intro o w
  have h1 : w.grownBy (w.setCell ⟨g, o, none⟩ v) (some g) := ⟨rfl, rfl, rfl, by simp, fun k _ hne => Below.heap_setCell w ⟨g, o, none⟩ v k (fun e => hne (by rw [e]))⟩
  have h2 := ih (o + 1) (w.setCell ⟨g, o, none⟩ v)
  exact ⟨h2.os.trans h1.os, h2.tape.trans h1.tape, h2.output.trans h1.output, Nat.le_trans h1.size h2.size, fun k hk hne => (h2.block k (Nat.lt_of_lt_of_le hk h1.size) hne).trans (h1.block k hk hne)⟩
theorem size_setCells {g : Nat} (vs : List Value) : ∀ (o : Nat) (w : World), (w.setCells g o vs).heap.size = w.heap.size := by
 induction vs with
 | nil => intro o w; rfl
 | cons v r ih => intro o w; exact (ih (o + 1) _).trans (by simp)

theorem run_clear_one {P : Program} (w : World) (t e ty : TypeId) (z : Value) (zs : List Value) (ht : P.underlying t = some (.slice e)) (hv : ∀ w, (zeroValue e).run P w = .ok z w) (hz : (Builtin.zeroCells z.cells 1).toList = zs) (h1 : ∀ u ∈ zs, u.oneCell' = true)
  (g o c : Nat) (cs : Array Value) (T : TypeId) (hb : w.heap[g]? = some (.cells cs T (0, 0))) (hs : o + zs.length ≤ cs.size) :
  (Builtin.clear_ #[t] ty #[.slice (some ⟨g, o, none⟩) 1 c]).run P w = .ok (.tuple #[]) (w.setCells g o zs) := by
 have hst := run_storeCells_cells (P := P) g o zs 0 w (fun j hj => by rw [block_cell hb, Array.getElem?_eq_getElem (by omega)]; rfl) (fun j _ => block_free hb _) h1
 simp only [Nat.add_zero] at hst
 simp [Builtin.clear_, run_underlying ht, hv, hz, hst]

theorem del_row {w : World} {base g cap n k sz : Nat} {e : TypeId} {cur : Array Value} {xs zs : List Value} (hg : w.heap[g]? = some (.cells cur e (0, 0))) (hb : base ≤ g) (hn : n ≤ cap) (hm : cap ≤ maxLen) (hcs : cur.size = cap * sz) (hx : cur.toList.take (n * sz) = xs) (hk : k < n) (hz : zs.length = sz) :
  (((w.setCells g (0 + k * sz) (xs.drop ((k + 1) * sz))).setCells g ((n - 1) * sz) zs)).ownsRow base e sz (.slice (some ⟨g, 0, none⟩) (n - 1) cap) (n - 1) (xs.take (k * sz) ++ xs.drop ((k + 1) * sz)) := by
 have hns : n * sz ≤ cap * sz := Nat.mul_le_mul_right _ hn
 have hxl : xs.length = n * sz := by rw [← hx, List.length_take, Array.length_toList]; omega
 have h1 : (n - 1) * sz + sz = n * sz := by
  obtain ⟨m, rfl⟩ : ∃ m, n = m + 1 := ⟨n - 1, by omega⟩
  rw [Nat.add_sub_cancel, Nat.add_mul, Nat.one_mul]
 have h2 : (k + 1) * sz ≤ n * sz := Nat.mul_le_mul_right _ hk
 have h3 : (k + 1) * sz = k * sz + sz := by rw [Nat.add_mul, Nat.one_mul]
 have hdl : (xs.drop ((k + 1) * sz)).length = n * sz - (k + 1) * sz := by rw [List.length_drop, hxl]
 have hB := block_setCells zs ((n - 1) * sz) _ _ (block_setCells (xs.drop ((k + 1) * sz)) (0 + k * sz) w cur hg)
 have hl : (xs.take (k * sz) ++ xs.drop ((k + 1) * sz)).length = (n - 1) * sz := by rw [List.length_append, List.length_take, hdl, hxl]; omega
 refine ⟨hl, .inr ⟨g, cap, _, rfl, hb, hB, by omega, hm, by rw [layA_size, layA_size, hcs], ?_⟩⟩
 apply List.ext_getElem?
 intro j
 by_cases hj : j < (n - 1) * sz
 ·rw [List.getElem?_take_of_lt hj, Array.getElem?_toList, layA_at _ _ _ _ (by rw [layA_size]; omega), if_neg (by omega), layA_at _ _ _ _ (by rw [hdl]; omega), hdl]
  by_cases hjk : j < k * sz
  ·rw [if_neg (by omega), List.getElem?_append_left (by rw [List.length_take]; omega), List.getElem?_take_of_lt hjk, ← hx, List.getElem?_take_of_lt (by omega), Array.getElem?_toList]
  ·rw [if_pos (by omega), List.getElem?_append_right (by rw [List.length_take]; omega), List.length_take, hxl, show min (k * sz) (n * sz) = k * sz by omega]
   simp
 ·rw [List.getElem?_eq_none (by rw [List.length_take]; omega), List.getElem?_eq_none (by omega)]
end Go.Proofs.YthhiookcknnmdaaGreat
