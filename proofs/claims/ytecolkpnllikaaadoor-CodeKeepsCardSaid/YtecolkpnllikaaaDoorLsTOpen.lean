/- What CodeThere is handed, opened; the tables, out of what the row says of them. Condition: the row's own. -/
import Derived.Test.YtecolkpnllikaaaDoorOpenBy
import Derived.Test.YtecolkpnllikaaaDoorLsT
import Derived.Test.YtecolkpnllikaaaDoorRows
import Derived.Lib.LaidTab
import Derived.ChangeMaps5
namespace Go.Proofs.YtecolkpnllikaaaDoor
open Go.ChangeShapes Go.WideShapes Go.ChangeAt Go.RowKit Go.Joins Go.Deep
theorem tab_third {P : Program} {W : World} {name : String} {k : IntKind} {zs : List Int} {x y : String × DataW Unit} {rest : List (String × DataW Unit)} {g : Nat} {t e : TypeId} {n : Nat}
    (hg : P.globalNamed name = some g) (hty : (P.globals[g]?).map (·.type) = some t) (ht : P.underlying t = some (.array n e)) (he : P.underlying e = some (.int k)) (hce : P.cellsOf e = 1) (hct : P.cellsOf t = n)
    (h : laidMet P (x :: y :: (name, Lib.tabData k zs) :: rest) W) : Lib.TabIs P W name k zs := by
  obtain ⟨ps, hv, _⟩ := h
  obtain ⟨_, _, _, _, _, q1, _, _, _, _, hv1, _⟩ := hv
  obtain ⟨_, _, _, _, _, q2, _, _, _, _, hv2, _⟩ := hv1
  obtain ⟨g', t', cs, fuel, p, q, hg', ht', hvar, hd, _, _⟩ := hv2
  obtain rfl := Option.some.inj (hg.symm.trans hg')
  obtain rfl := Option.some.inj (hty.symm.trans ht')
  unfold Lib.TabIs
  rw [hvar, ← Lib.cells_of_tab ht he hce hct hd]
theorem opTab_fifth {W : World} {x1 x2 x3 x4 : String × DataW Unit} {rest : List (String × DataW Unit)} (h : laidMet Tryd.prog (x1 :: x2 :: x3 :: x4 :: ("baize/code.operations", Rows.laid_baize_code_operations) :: rest) W) : OpTab W := by
  obtain ⟨ps, hv, _⟩ := h
  obtain ⟨_, _, _, _, _, q1, _, _, _, _, hv1, _⟩ := hv
  obtain ⟨_, _, _, _, _, q2, _, _, _, _, hv2, _⟩ := hv1
  obtain ⟨_, _, _, _, _, q3, _, _, _, _, hv3, _⟩ := hv2
  obtain ⟨_, _, _, _, _, q4, _, _, _, _, hv4, _⟩ := hv3
  obtain ⟨g', t', cs, fuel, p, q, hg', ht', hvar, hd, _, _⟩ := hv4
  obtain rfl := Option.some.inj (gOps.symm.trans hg')
  obtain rfl := Option.some.inj (gOpsType.symm.trans ht')
  obtain ⟨xs, m, _, hx, hl, hxl, hi⟩ := DataW.trod_array Tryd.underlying76 hd
  rw [cellsTab] at hl
  rw [laid_rows] at hx
  have hx1 := congrArg Prod.fst hx
  simp only [DataW.agg.injEq] at hx1
  have hcs : cs.size = 44 := by simpa using hl
  refine ⟨?_, fun op h0 h1 => ?_⟩
  · have := World.var?_cell gOps hvar 0
    have h3 : cs[0]? = some (cs[0]'(by omega)) := by simp [hcs]
    exact Nat.lt_of_le_of_lt (Nat.zero_le _) (World.block_lt_of_cell? W ⟨_, 0, none⟩ (this.trans h3))
  · obtain ⟨k, rfl⟩ := Int.eq_ofNat_of_zero_le h0
    have hk : k < 22 := by omega
    have hxk : xs[k]? = some (xs[k]'(by omega)) := List.getElem?_eq_getElem (by omega)
    have hik := (hi k hk).trans hxk
    rw [cellsOp] at hik
    obtain ⟨y0, y1, n, hy, _, hs0, hs1⟩ := trod_struct2 Tryd.underlying75 hik
    simp only [cellsStr] at hs0 hs1
    obtain ⟨s0, hc0, rfl, _⟩ := DataW.trod_string Tryd.underlying9 hs0
    obtain ⟨s1, hc1, rfl, _⟩ := DataW.trod_string Tryd.underlying9 hs1
    have hd1 : (xs.map (·.1))[k]? = some (DataW.agg [.lit (.string s0.data.toList), .lit (.string s1.data.toList)]) := by
      rw [List.getElem?_map, hxk, hy]; rfl
    rw [← hx1, List.getElem?_map, List.getElem?_range hk] at hd1
    simp only [Option.map_some, Option.some.injEq, DataW.agg.injEq, List.cons.injEq, DataW.lit.injEq, Lit.string.injEq, and_true] at hd1
    have e0 : s0 = nameOf (k : Int) := by
      rw [nameOf, nameB, isB_yes (by omega) h1, if_pos rfl, Int.toNat_natCast, hd1.1]
    have e1 : s1 = hasOf (k : Int) := by
      rw [hasOf, hasB, isB_yes (by omega) h1, if_pos rfl, Int.toNat_natCast, hd1.2]
    have c0 : cs[k * 2]? = some (.string s0) := by
      have := congrArg (·[0]?) hc0
      simpa [List.getElem?_take, List.getElem?_drop] using this
    have c1 : cs[k * 2 + 1]? = some (.string s1) := by
      have := congrArg (·[0]?) hc1
      simpa [List.getElem?_take, List.getElem?_drop] using this
    rw [← e0, ← e1]
    exact ⟨(World.var?_cell gOps hvar _).trans c0, (World.var?_cell gOps hvar _).trans c1⟩
theorem max_of_shape {W : World} (h : W.ShapedOpen Tryd.prog) : MaxAt W ∧ 1 < W.heap.size := by
  obtain ⟨m, hm⟩ := Go.Proofs.cell_of_shapedOpen_int (zero := #[.int .i64 0]) (g := 1) (t := 3) h (of_decide_eq_true (by kernel_rfl)) (by kernel_rfl) rfl (by kernel_rfl) (by kernel_rfl) Tryd.underlying3
  exact ⟨⟨m, hm⟩, World.block_lt_of_cell? W ⟨1, 0, none⟩ hm⟩
theorem tab_of_laidT {W : World} {a b c d : String × DataW Unit} {rest : List (String × DataW Unit)} (h2 : laidMet Tryd.prog (a :: b :: ("internal/strconv.uint64pow10", Lib.tabData .u64 Lib.pow10Tab) :: c :: d :: rest) W) : TabW W := by
  have h3 : Lib.TabIs Tryd.prog W "internal/strconv.uint64pow10" .u64 Lib.pow10Tab :=
    tab_third (g := 2) (by kernel_rfl) (by kernel_rfl) Tryd.underlying147 Tryd.underlying80 (by kernel_rfl) (by kernel_rfl) h2
  refine ⟨?_, h3⟩
  unfold Lib.TabIs World.var? at h3
  rw [show Tryd.prog.globalNamed "internal/strconv.uint64pow10" = some 2 from by kernel_rfl] at h3
  simp only [Option.bind_some] at h3
  cases hb : W.heap[2]? with
  | none => rw [hb] at h3; simp at h3
  | some o => exact (Array.getElem?_eq_some_iff.1 hb).1
set_option maxRecDepth 100000 in
theorem codeThere_open {H : Type} {enc : TypeId × Value → H} {W : World} {base : Nat} {v0 v1 : Value} {d0 d1 : DataW H} {p0 p1 : List MemPlace} {q : Prop}
    (a0 : Value.okWide Tryd.prog W .any base 36 v0) (a1 : Value.okWide Tryd.prog W .any base 9 v1)
    (h0 : DataW.Trod enc Tryd.prog W 0 (fun _ => true) true 36 v0 d0 p0) (h1 : DataW.Trod enc Tryd.prog W 0 (fun _ => true) true 9 v1 d1 p1)
    (hL : laidMetH Tryd.prog Rows.codeThereRow.laid W) (hsh : W.ShapedOpen Tryd.prog) (_hq : q) :
    Calls Tryd.prog 8 #[v0, v1] W fun e w' => e = .returned (.bool true) ∧ Below W.heap.size W w' := by
  obtain ⟨A, n, cp, l, rfl, hr, hn⟩ := open_ins Tryd.underlying36 a0 h0
  obtain ⟨s, rfl, _, _, hs⟩ := Go.ChangeMaps.open_string Tryd.underlying9 a1 h1
  have h2 : laidMet Tryd.prog Rows.codeThereRow.laid W := hL
  have e : Rows.codeThereRow.laid = ("math/bits.deBruijn32tab", Rows.laid_math_bits_deBruijn32tab) :: ("math/bits.deBruijn64tab", Rows.laid_math_bits_deBruijn64tab) :: ("internal/strconv.uint64pow10", Lib.tabData .u64 Lib.pow10Tab) :: ("unicode/utf8.acceptRanges", Rows.laid_unicode_utf8_acceptRanges) :: ("baize/code.operations", Rows.laid_baize_code_operations) :: [("unicode/utf8.first", Rows.laid_unicode_utf8_first)] := rfl
  rw [e] at h2
  have hm := max_of_shape hsh
  have hsl : s.data.toList.length ≤ 9223372036854775807 := by
    have : s.data.toList.length = s.size := Array.length_toList
    rw [this]
    exact Nat.le_trans hs (by decide)
  rw [← byt_self s]
  exact codeThere_any _ _ _ _ _ _ (opTab_fifth h2) hm.1 hm.2 (tab_of_laidT h2) hr hn hsl
end Go.Proofs.YtecolkpnllikaaaDoor
