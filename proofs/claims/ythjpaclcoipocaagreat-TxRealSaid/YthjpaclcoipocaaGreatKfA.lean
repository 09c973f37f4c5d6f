/- The chapter's example, and bytes compared: the walks of known and same. Condition: none. -/
import Derived.Test.YthjpaclcoipocaaGreatJoinF
import Derived.Test.YthjpaclcoipocaaGreatJoinP
import Derived.Test.YthjpaclcoipocaaGreatConv
namespace Go.Proofs.YthjpaclcoipocaaGreat
open Go.RowKit Go.Lib



def d1of (n : Nat) : D8 := ⟨n, 0, 0, 0, 0, 0, 0, 0⟩
theorem d1of_ok {n : Nat} (h : n < 256) : (d1of n).ok := by unfold d1of D8.ok; simp [h]
theorem ex1 (s : D8) : (RingM.new s 1).reserve (d1of 7) = (⟨s, 1, [d1of 7]⟩, 0, 0) := rfl
theorem ex2 (s : D8) : (RingM.mk s 1 [d1of 7]).reserve (d1of 8) = (⟨s, 1, [d1of 7, d1of 8]⟩, 1, 0) := rfl
theorem ex3 (s : D8) : (RingM.mk s 1 [d1of 7, d1of 8]).reserve (d1of 7) = (⟨s, 1, [d1of 7, d1of 8]⟩, 0, 0) := rfl
theorem ex4 (s : D8) : (RingM.mk s 1 [d1of 7, d1of 8]).reserve (d1of 9) = (⟨s, 1, [d1of 7, d1of 8]⟩, 0, 17) := rfl
end Go.Proofs.YthjpaclcoipocaaGreat
