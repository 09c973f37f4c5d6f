/- Digests: eight bytes, plain. No condition. The ranges of integers that can be read. No condition. -/
import Derived.WalkKit
namespace Go.Proofs.YthhiookcknnmdaaGreat
structure D8 where
 x0 : Nat
 x1 : Nat
 x2 : Nat
 x3 : Nat
 x4 : Nat
 x5 : Nat
 x6 : Nat
 x7 : Nat
def D8.ok (d : D8) : Prop := d.x0 < 256 ∧ d.x1 < 256 ∧ d.x2 < 256 ∧ d.x3 < 256 ∧ d.x4 < 256 ∧ d.x5 < 256 ∧ d.x6 < 256 ∧ d.x7 < 256
def D8.num (d : D8) : Nat := d.x0 + 256 * (d.x1 + 256 * (d.x2 + 256 * (d.x3 + 256 * (d.x4 + 256 * (d.x5 + 256 * (d.x6 + 256 * d.x7))))))
def D8.of (n : Nat) : D8 := ⟨n % 256, n / 256 % 256, n / 256 / 256 % 256, n / 256 / 256 / 256 % 256, n / 256 / 256 / 256 / 256 % 256, n / 256 / 256 / 256 / 256 / 256 % 256, n / 256 / 256 / 256 / 256 / 256 / 256 % 256, n / 256 / 256 / 256 / 256 / 256 / 256 / 256 % 256⟩
theorem D8.of_num {d : D8} (h : d.ok) : D8.of d.num = d := by
 obtain ⟨x0, x1, x2, x3, x4, x5, x6, x7⟩ := d
 unfold D8.ok at h
 simp only at h
 unfold D8.of D8.num
 simp only [D8.mk.injEq]
 omega
theorem D8.of_ok (n : Nat) : (D8.of n).ok := by
 unfold D8.of D8.ok
 simp only
 omega
theorem D8.num_of {n : Nat} (h : n < 18446744073709551616) : (D8.of n).num = n := by
 unfold D8.of D8.num
 simp only
 omega
theorem D8.num_lt {d : D8} (h : d.ok) : d.num < 18446744073709551616 := by
 obtain ⟨x0, x1, x2, x3, x4, x5, x6, x7⟩ := d
 unfold D8.ok at h
 simp only at h
 unfold D8.num
 simp only
 omega
def D8.L (a : D8) : List Int := [(a.x0 : Int), (a.x1 : Int), (a.x2 : Int), (a.x3 : Int), (a.x4 : Int), (a.x5 : Int), (a.x6 : Int), (a.x7 : Int)]
def eqI (a b : List Int) : Bool := a == b
theorem eqI_iff {a b : List Int} : eqI a b = true ↔ a = b := by simp [eqI]
theorem eqN_iff {a b : D8} : eqI a.L b.L = true ↔ a = b := by
 obtain ⟨a0, a1, a2, a3, a4, a5, a6, a7⟩ := a
 obtain ⟨b0, b1, b2, b3, b4, b5, b6, b7⟩ := b
 simp [eqI, D8.L]; omega
theorem eqI_cons (x y : Int) (a b : List Int) : eqI (x :: a) (y :: b) = ((x == y) && eqI a b) := by simp [eqI]
end Go.Proofs.YthhiookcknnmdaaGreat
namespace Go.Proofs.YthhiookcknnmdaaGreat
open Go.RowKit
theorem wf_i64 {n : Int} (h : (Lit.int .i64 n).wf = true) : -9223372036854775808 ≤ n ∧ n ≤ 9223372036854775807 := by
 simpa [Lit.wf, show IntKind.i64.min = -9223372036854775808 from rfl, show IntKind.i64.max = 9223372036854775807 from rfl] using h
theorem wf_u8 {n : Int} (h : (Lit.int .u8 n).wf = true) : 0 ≤ n ∧ n < 256 := by
 have h2 : 0 ≤ n ∧ n ≤ 255 := by simpa [Lit.wf, show IntKind.u8.min = 0 from rfl, show IntKind.u8.max = 255 from rfl] using h
 omega
theorem wf_u64 {n : Int} (h : (Lit.int .u64 n).wf = true) : 0 ≤ n ∧ n < 18446744073709551616 := by
 have h2 : 0 ≤ n ∧ n ≤ 18446744073709551615 := by simpa [Lit.wf, show IntKind.u64.min = 0 from rfl, show IntKind.u64.max = 18446744073709551615 from rfl] using h
 omega
end Go.Proofs.YthhiookcknnmdaaGreat
