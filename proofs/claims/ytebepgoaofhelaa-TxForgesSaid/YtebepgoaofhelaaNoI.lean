/- A signer's methods by its interface. Nothing of the program stands in it but its tables, so there is no condition. -/
import Derived.Test.YtebepgoaofhelaaNoF
import Derived.Test.YtebepgoaofhelaaNoS
namespace Go.Proofs.Ytebepgoaofhelaa
open Go.RowKit Go.Lib

theorem nil_sign (b : Nat) (k : D8) (w : World) : (nilAhead (Try.prog.types.size + Made.depth) 95 (.agg #[.pointer (some ⟨b, 0, none⟩), .int .u8 (k.x0 : Int), .int .u8 (k.x1 : Int), .int .u8 (k.x2 : Int), .int .u8 (k.x3 : Int), .int .u8 (k.x4 : Int), .int .u8 (k.x5 : Int), .int .u8 (k.x6 : Int), .int .u8 (k.x7 : Int)]) "Sign").run Try.prog w = .ok (some false) w := by kernel_rfl
theorem meth_sign (b : Nat) (k : D8) (w : World) : (method (Try.prog.types.size + Made.depth) 95 (.agg #[.pointer (some ⟨b, 0, none⟩), .int .u8 (k.x0 : Int), .int .u8 (k.x1 : Int), .int .u8 (k.x2 : Int), .int .u8 (k.x3 : Int), .int .u8 (k.x4 : Int), .int .u8 (k.x5 : Int), .int .u8 (k.x6 : Int), .int .u8 (k.x7 : Int)]) "Sign").run Try.prog w = .ok (95, .agg #[.pointer (some ⟨b, 0, none⟩), .int .u8 (k.x0 : Int), .int .u8 (k.x1 : Int), .int .u8 (k.x2 : Int), .int .u8 (k.x3 : Int), .int .u8 (k.x4 : Int), .int .u8 (k.x5 : Int), .int .u8 (k.x6 : Int), .int .u8 (k.x7 : Int)]) w := by kernel_rfl
theorem meth_key (b : Nat) (k : D8) (w : World) : (method (Try.prog.types.size + Made.depth) 95 (.agg #[.pointer (some ⟨b, 0, none⟩), .int .u8 (k.x0 : Int), .int .u8 (k.x1 : Int), .int .u8 (k.x2 : Int), .int .u8 (k.x3 : Int), .int .u8 (k.x4 : Int), .int .u8 (k.x5 : Int), .int .u8 (k.x6 : Int), .int .u8 (k.x7 : Int)]) "Key").run Try.prog w = .ok (94, .agg #[.pointer (some ⟨b, 0, none⟩), .int .u8 (k.x0 : Int), .int .u8 (k.x1 : Int), .int .u8 (k.x2 : Int), .int .u8 (k.x3 : Int), .int .u8 (k.x4 : Int), .int .u8 (k.x5 : Int), .int .u8 (k.x6 : Int), .int .u8 (k.x7 : Int)]) w := by kernel_rfl
end Go.Proofs.Ytebepgoaofhelaa
