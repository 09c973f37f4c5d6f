/- The hash's rounds in the reference: the walk of Stir. Condition: none. -/
import Derived.Test.YtmpklplojfjfbaaHsA
namespace Go.Proofs.Ytmpklplojfjfbaa
open Go.RowKit Go.Lib
end Go.Proofs.Ytmpklplojfjfbaa
