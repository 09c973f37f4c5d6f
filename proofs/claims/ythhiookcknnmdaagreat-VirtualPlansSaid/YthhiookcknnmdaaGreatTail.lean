/- A drawn region whose first operations only read, and whose last ones stand in one order: these are taken in that order. Nothing of the program stands in it, so there is no condition. -/
import Derived.StillTailTactics
import Derived.Deep.Draws
import Derived.WalkKit
namespace Go.Proofs.YthhiookcknnmdaaGreat
open Go.RowKit
theorem wp_region_tail {P : Program} {id : Nat} {Q : Exit → Act → World → Prop} {a : Act} {w : World} {l : List Oper} (n : Nat) (hm : P.follows .mixedOrders = true) (hB : Region.lexTailB .any l.toArray n = true)
  (h : wpStill P l.toArray w.drew (fun a' => wpList P l.toArray Q (l.drop n) a' w.drew) (l.take n) a) : (Code.region id l.toArray true).wp P Q a w :=
 wp_region_still_tail n hm hB h
end Go.Proofs.YthhiookcknnmdaaGreat
