/- What CheatPrints is handed, opened; the table of powers of ten, out of what the row says of it. Condition: the row's own. -/
import Derived.Test.YtigolkdclacikaaDoorChOpen
import Derived.Test.YtigolkdclacikaaDoorChY
import Derived.Test.YtigolkdclacikaaDoorRows
import Derived.Lib.LaidTab
namespace Go.Proofs.YtigolkdclacikaaDoor
open Go.ChangeShapes Go.WideShapes Go.ChangeAt Go.RowKit Go.Joins Go.Deep
theorem tab_third {P : Program} {W : World} {name : String} {k : IntKind} {zs : List Int} {x y : String × DataW Unit} {rest : List (String × DataW Unit)} {g : Nat} {t e : TypeId} {n : Nat}
    (hg : P.globalNamed name = some g) (hty : (P.globals[g]?).map (·.type) = some t) (ht : P.underlying t = some (.array n e)) (he : P.underlying e = some (.int k)) (hce : P.cellsOf e = 1) (hct : P.cellsOf t = n)
    (h : laidMet P (x :: y :: (name, Lib.tabData k zs) :: rest) W) : Lib.TabIs P W name k zs := by
  obtain ⟨ps, hv, _⟩ := h
  obtain ⟨_, _, _, _, _, q1, _, _, _, _, hv1, _⟩ := hv
  obtain ⟨_, _, _, _, _, q2, _, _, _, _, hv2, _⟩ := hv1
  obtain ⟨g', t', cs, fuel, p, q, hg', ht', hvar, hd, _, _⟩ := hv2
  obtain rfl := Option.some.inj (hg.symm.trans hg')
  obtain rfl := Option.some.inj (hty.symm.trans ht')
  unfold Lib.TabIs
  rw [hvar, ← Lib.cells_of_tab ht he hce hct hd]
theorem tab_of_laid {W : World} (h : laidMetH Tryd.prog Rows.cheatPrintsRow.laid W) (_hsh : MaxAt W) : TabW W := by
  have h2 : laidMet Tryd.prog Rows.cheatPrintsRow.laid W := h
  have h3 : Lib.TabIs Tryd.prog W "internal/strconv.uint64pow10" .u64 Lib.pow10Tab := by
    have e : Rows.cheatPrintsRow.laid = ("math/bits.deBruijn32tab", Rows.laid_math_bits_deBruijn32tab) :: ("math/bits.deBruijn64tab", Rows.laid_math_bits_deBruijn64tab) :: ("internal/strconv.uint64pow10", Lib.tabData .u64 Lib.pow10Tab) :: ("unicode/utf8.acceptRanges", Rows.laid_unicode_utf8_acceptRanges) :: ("unicode/utf8.first", Rows.laid_unicode_utf8_first) :: [] := rfl
    rw [e] at h2
    exact tab_third (g := 1) (by kernel_rfl) (by kernel_rfl) Tryd.underlying123 Tryd.underlying38 (by kernel_rfl) (by kernel_rfl) h2
  refine ⟨?_, h3⟩
  unfold Lib.TabIs World.var? at h3
  rw [show Tryd.prog.globalNamed "internal/strconv.uint64pow10" = some 1 from by kernel_rfl] at h3
  simp only [Option.bind_some] at h3
  cases hb : W.heap[1]? with
  | none => rw [hb] at h3; simp at h3
  | some o => exact (Array.getElem?_eq_some_iff.1 hb).1
set_option maxRecDepth 100000 in
theorem cheatPrints_open {H : Type} {enc : TypeId × Value → H} {W : World} {base : Nat} {v0 : Value} {d0 : DataW H} {p0 : List MemPlace} {q : Prop}
    (a0 : Value.okWide Tryd.prog W .any base 22 v0)
    (h0 : DataW.Trod enc Tryd.prog W 0 (fun _ => true) true 22 v0 d0 p0)
    (hL : laidMetH Tryd.prog Rows.cheatPrintsRow.laid W) (hsh : W.ShapedOpen Tryd.prog) (_hq : q) :
    Calls Tryd.prog 8 #[v0] W fun e w' => e = .returned (.bool true) ∧ Below W.heap.size W w' := by
  obtain ⟨A, n, cp, l, rfl, hr, hn⟩ := open_de Tryd.underlying22 a0 h0
  exact prints_any _ _ _ _ _ (max_of_shape hsh) (tab_of_laid hL (max_of_shape hsh)) hr hn
end Go.Proofs.YtigolkdclacikaaDoor
