/- The table of operations, listed as laid, gives what the walks ask. Condition: none. -/
import Derived.Test.YtecolkpnllikaaaDoorCards
import Derived.Test.YtecolkpnllikaaaDoorTie
import Derived.Test.YtecolkpnllikaaaDoorCodeA
import Derived.ProofKit
import Derived.OpenShut
import Derived.Deep.DeepHandedRow
import Derived.Lib.LaidTab
namespace Go.Proofs.YtecolkpnllikaaaDoor
open Go.ChangeShapes Go.WideShapes Go.ChangeAt Go.RowKit

theorem own : ownKnob Tryd.prog.godebug = none := by kernel_rfl
theorem gOps : Tryd.prog.globalNamed "baize/code.operations" = some 0 := by kernel_rfl
theorem gOpsType : (Tryd.prog.globals[0]?).map (·.type) = some 76 := by kernel_rfl
theorem cellsStr : Tryd.prog.cellsOf 9 = 1 := by kernel_rfl
theorem cellsOp : Tryd.prog.cellsOf 75 = 2 := by kernel_rfl
theorem cellsTab : Tryd.prog.cellsOf 76 = 44 := by kernel_rfl

/-- The datum's rows, as two texts each. -/
theorem laid_rows {H : Type} : (Rows.laid_baize_code_operations : DataW H) = .agg ((List.range 22).map fun k => .agg [.lit (.string (nameL.getD k [])), .lit (.string (hasL.getD k []))]) := rfl
theorem opTab_of_laid {W : World} {rest : List (String × DataW Unit)} (h : laidMet Tryd.prog (("baize/code.operations", Rows.laid_baize_code_operations) :: rest) W) : OpTab W := by
  obtain ⟨ps, ⟨g', t', cs, fuel, p, q, hg', ht', hvar, hd, _, _⟩, _⟩ := h
  obtain rfl := Option.some.inj (gOps.symm.trans hg')
  obtain rfl := Option.some.inj (gOpsType.symm.trans ht')
  obtain ⟨xs, m, _, hx, hl, hxl, hi⟩ := DataW.trod_array Tryd.underlying76 hd
  rw [cellsTab] at hl
  rw [laid_rows] at hx
  have hx1 := congrArg Prod.fst hx
  simp only [DataW.agg.injEq] at hx1
  have hcs : cs.size = 44 := by simpa using hl
  refine ⟨?_, fun op h0 h1 => ?_⟩
  · have := World.var?_cell gOps hvar 0
    have h3 : cs[0]? = some (cs[0]'(by omega)) := by simp [hcs]
    exact Nat.lt_of_le_of_lt (Nat.zero_le _) (World.block_lt_of_cell? W ⟨_, 0, none⟩ (this.trans h3))
  · obtain ⟨k, rfl⟩ := Int.eq_ofNat_of_zero_le h0
    have hk : k < 22 := by omega
    have hxk : xs[k]? = some (xs[k]'(by omega)) := List.getElem?_eq_getElem (by omega)
    have hik := (hi k hk).trans hxk
    rw [cellsOp] at hik
    obtain ⟨y0, y1, n, hy, _, hs0, hs1⟩ := trod_struct2 Tryd.underlying75 hik
    simp only [cellsStr] at hs0 hs1
    obtain ⟨s0, hc0, rfl, _⟩ := DataW.trod_string Tryd.underlying9 hs0
    obtain ⟨s1, hc1, rfl, _⟩ := DataW.trod_string Tryd.underlying9 hs1
    have hd1 : (xs.map (·.1))[k]? = some (DataW.agg [.lit (.string s0.data.toList), .lit (.string s1.data.toList)]) := by
      rw [List.getElem?_map, hxk, hy]; rfl
    rw [← hx1, List.getElem?_map, List.getElem?_range hk] at hd1
    simp only [Option.map_some, Option.some.injEq, DataW.agg.injEq, List.cons.injEq, DataW.lit.injEq, Lit.string.injEq, and_true] at hd1
    have e0 : s0 = nameOf (k : Int) := by
      rw [nameOf, nameB, isB_yes (by omega) h1, if_pos rfl, Int.toNat_natCast, hd1.1]
    have e1 : s1 = hasOf (k : Int) := by
      rw [hasOf, hasB, isB_yes (by omega) h1, if_pos rfl, Int.toNat_natCast, hd1.2]
    have c0 : cs[k * 2]? = some (.string s0) := by
      have := congrArg (·[0]?) hc0
      simpa [List.getElem?_take, List.getElem?_drop] using this
    have c1 : cs[k * 2 + 1]? = some (.string s1) := by
      have := congrArg (·[0]?) hc1
      simpa [List.getElem?_take, List.getElem?_drop] using this
    rw [← e0, ← e1]
    exact ⟨(World.var?_cell gOps hvar _).trans c0, (World.var?_cell gOps hvar _).trans c1⟩
end Go.Proofs.YtecolkpnllikaaaDoor
