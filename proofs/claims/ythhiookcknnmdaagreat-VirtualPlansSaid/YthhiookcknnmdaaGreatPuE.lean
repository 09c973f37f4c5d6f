/- The walks of Own and Back (layer 47): a purse carried from the reference's type to the program's and back. Conditions: bounds. -/
import Derived.Test.YthhiookcknnmdaaGreatPuB
import Derived.Lib.SmallJoins
namespace Go.Proofs.YthhiookcknnmdaaGreat
open Go.RowKit Go.Lib

theorem pgrown_set {w : World} (b i : Nat) (v : Value) : w.grownBy (w.setCell ⟨b, i, none⟩ v) (some b) :=
 ⟨rfl, rfl, rfl, by simp, fun k _ hne => Below.heap_setCell w ⟨b, i, none⟩ v k (fun e => hne (by rw [e]))⟩
theorem pown_down {w : World} {base base' : Nat} {e : TypeId} {sz n : Nat} {v : Value} {xs : List Value} (h : w.ownsRow base e sz v n xs) (hb : base' ≤ base) : w.ownsRow base' e sz v n xs := by
 refine ⟨h.1, ?_⟩
 rcases h.2 with h2 | ⟨g, cap, cur, h3, h4, h5⟩
 ·exact .inl h2
 ·exact .inr ⟨g, cap, cur, h3, Nat.le_trans hb h4, h5⟩
theorem alloc_at {w : World} {x : Obj} {k : Nat} (hk : k = w.heap.size) : (w.alloc x).heap[k]? = some x := by subst hk; exact heap_alloc_new w x
theorem info_Held : (Tryz.prog.info? 120).map (fun i => (i.zero, i.size, i.bytes)) = some (some (.agg #[.int .u8 0, .int .u8 0, .int .u8 0, .int .u8 0, .int .u8 0, .int .u8 0, .int .u8 0, .int .u8 0, .int .i64 0, .int .i64 0, .int .i64 0]), 11, 32) := by kernel_rfl
def GivesPu (te : TypeId) (p : Pu) (w : World) (e : Ending) (w' : World) : Prop :=
 ∃ A n c, e = .returned (.agg #[.int .u8 p.nm.x0, .int .u8 p.nm.x1, .int .u8 p.nm.x2, .int .u8 p.nm.x3, .int .u8 p.nm.x4, .int .u8 p.nm.x5, .int .u8 p.nm.x6, .int .u8 p.nm.x7, .int .i64 p.no, .int .i64 p.h0, .int .i64 p.h1, .slice A n c]) ∧ w'.ownsRow w.heap.size te 11 (.slice A n c) n (flatH p.held) ∧ Below w.heap.size w w'
end Go.Proofs.YthhiookcknnmdaaGreat
