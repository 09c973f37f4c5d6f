/- A ring's bytes: the walk of Save. Condition: none. -/
import Derived.Test.YthjpaclcoipocaaGreatKeZ
namespace Go.Proofs.YthjpaclcoipocaaGreat
open Go.RowKit Go.Lib



def saveH (r : RingM) : List Nat := encB r.secret.bytes ++ encN r.h ++ encN r.led.length
def saveB (r : RingM) : List Nat := saveH r ++ r.led.flatMap fun d => encB d.bytes
theorem encB_len8 (d : D8) : (encB d.bytes).length ≤ 19 := by
  unfold encB
  rw [List.length_append, bytes_len]
  have := encN_len 8
  omega
theorem flatEB_len (l : List D8) : (l.flatMap fun d => encB d.bytes).length ≤ 19 * l.length := by
  induction l with
  | nil => simp
  | cons d l ih => rw [List.flatMap_cons, List.length_append]; have := encB_len8 d; simp only [List.length_cons]; omega
theorem flatEB_take (l : List D8) {k : Nat} (hk : k < l.length) : ((l.take (k + 1)).flatMap fun d => encB d.bytes) = ((l.take k).flatMap fun d => encB d.bytes) ++ encB (l.getD k D8.zero).bytes := by
  rw [List.take_add_one, List.getElem?_eq_getElem hk, List.flatMap_append]
  simp [List.getD_eq_getElem?_getD, List.getElem?_eq_getElem hk]
theorem saveH_len (r : RingM) : (saveH r).length ≤ 41 := by
  unfold saveH
  rw [List.length_append, List.length_append]
  have := encB_len8 r.secret; have := encN_len r.h; have := encN_len r.led.length
  omega
theorem ring_rd {w : World} {b : Nat} {s : D8} {h : Nat} {pt v : Value} {mb : Nat} (x : w.heap[b]? = some (.cells (ringC s h pt v mb) 68 (0, 0))) : Rd w w.heap.size 1 (some ⟨b, 0, none⟩) 8 (bv s.bytes) := by
  refine ⟨rfl, fun _ => ⟨b, 0, rfl, block_lt x, fun j u hu => ?_⟩⟩
  rw [Nat.zero_add, block_cell x j]
  have hj : j < 8 := (List.getElem?_eq_some_iff.1 hu).1
  have : j = 0 ∨ j = 1 ∨ j = 2 ∨ j = 3 ∨ j = 4 ∨ j = 5 ∨ j = 6 ∨ j = 7 := by omega
  rcases this with rfl | rfl | rfl | rfl | rfl | rfl | rfl | rfl <;> exact hu
end Go.Proofs.YthjpaclcoipocaaGreat
