/- The example plan, for VirtualEnds, plainly. No program in it, so there is no condition. -/
import Derived.Test.YthhiookcknnmdaaGreatJoinUba
import Derived.Test.YthhiookcknnmdaaGreatVpTa
import Derived.Test.YthhiookcknnmdaaGreatVpTb
import Derived.Test.YthhiookcknnmdaaGreatVpTc
import Derived.Test.YthhiookcknnmdaaGreatVpTd
namespace Go.Proofs.YthhiookcknnmdaaGreat
theorem end_plan {n a b : Nat} {hv : List Nat} (h1 : 1 ≤ n) (h4 : n ≤ 4) (ha : a < 256) (hb : b < 256) (hh : ∀ x ∈ hv, x < 256) : EndP (bgPl n a b) (bgPs a b hv n) n := by
 have hok : (bgPl n a b).Ok := .of (bgPl_check h1 h4 ha hb) (byD_ok (by decide)) (bgKs_ok (by omega))
 have hkl : (bgPl n a b).ks.length = n + 1 := bgKs_len n
 refine ⟨h1, h4, bgPs_len _ _ _ _, hkl, fun i hi => bgKs_getD hi, ?_, rfl, fun i hi => bgPl_nr hi, fun i hi => bgPl_fr hi, fun i k hi hk => (hok.good (hop := i) (by omega) hk).check, fun i hi => bgPs_no hi, ?_, ?_, ?_, ?_⟩
 ·rw [(@bgPl_nm n a b).1, (@bgPl_nm n a b).2]
  rcases (show n = 1 ∨ n = 2 ∨ n = 3 ∨ n = 4 by omega) with rfl | rfl | rfl | rfl
  ·exact nm_ne1 ha hb
  ·exact nm_ne2 ha hb
  ·exact nm_ne3 ha hb
  ·exact nm_ne4 ha hb
 ·show (1 : Int) ≤ 1 + (a : Int) ∧ 1 + (a : Int) ≤ 256; omega
 ·show (1 : Int) ≤ 1 + (b : Int) ∧ 1 + (b : Int) ≤ 256; omega
 ·intro i hi
  rw [bgPs_getD hi]
  have := hvA_le hh (2 * i)
  show 1 + (a : Int) ≤ hvA hv (2 * i) + 1 + a ∧ hvA hv (2 * i) + 1 + a ≤ 1000
  omega
 ·intro i hi
  rw [bgPs_getD hi]
  have := hvA_le hh (2 * i + 1)
  show 1 + (b : Int) ≤ hvA hv (2 * i + 1) + 1 + b ∧ hvA hv (2 * i + 1) + 1 + b ≤ 1000
  omega
end Go.Proofs.YthhiookcknnmdaaGreat
