/- Digests that are alike, compared within a region. No condition. The law's own purses, element by element. Conditions: the rows lie in memory. -/
import Derived.Test.YthhiookcknnmdaaGreatJoinVaj
import Derived.Test.YthhiookcknnmdaaGreatJoinVbb
import Derived.Test.YthhiookcknnmdaaGreatJoinVba
namespace Go.Proofs.YthhiookcknnmdaaGreat
open Go.RowKit Go.Lib
theorem exec_binV {P : Program} {o : Oper} {ev : Operand → Value} {op : BinOp} {t t' : TypeId} {x y : Operand} {w : World} {V W R : Value} (ho : o.op = .binOp op t x y t') (hx : ev x = V) (hy : ev y = W) (hg : (eqGuard op t x y V W).run P w = .ok () w) (hb : (binOp op t V W).run P w = .ok R w) : (execOp ev o).run P w = .ok (.value R) w := by
 simp [execOp, ho, hx, hy, hg, hb, Result.andThen]
set_option maxRecDepth 100000 in
theorem dig_refl (d : D8) : ∀ u, (binOp .neq 27 (.agg #[.int .u8 d.x0, .int .u8 d.x1, .int .u8 d.x2, .int .u8 d.x3, .int .u8 d.x4, .int .u8 d.x5, .int .u8 d.x6, .int .u8 d.x7]) (.agg #[.int .u8 d.x0, .int .u8 d.x1, .int .u8 d.x2, .int .u8 d.x3, .int .u8 d.x4, .int .u8 d.x5, .int .u8 d.x6, .int .u8 d.x7])).run Tryz.prog u = .ok (.bool false) u := by
 intro u
 have h : (binOp .eql 27 (.agg #[.int .u8 d.x0, .int .u8 d.x1, .int .u8 d.x2, .int .u8 d.x3, .int .u8 d.x4, .int .u8 d.x5, .int .u8 d.x6, .int .u8 d.x7]) (.agg #[.int .u8 d.x0, .int .u8 d.x1, .int .u8 d.x2, .int .u8 d.x3, .int .u8 d.x4, .int .u8 d.x5, .int .u8 d.x6, .int .u8 d.x7])).run Tryz.prog u = .ok (.bool true) u := by
  have := eql_dig d.x0 d.x1 d.x2 d.x3 d.x4 d.x5 d.x6 d.x7 d.x0 d.x1 d.x2 d.x3 d.x4 d.x5 d.x6 d.x7 u
  rw [this]
  congr 2
  exact eqI_iff8.2 rfl
 rw [run_eql_struct] at h
 rw [run_neq_struct]
 revert h
 cases (Op.equalIn 10000 27 (.agg #[.int .u8 d.x0, .int .u8 d.x1, .int .u8 d.x2, .int .u8 d.x3, .int .u8 d.x4, .int .u8 d.x5, .int .u8 d.x6, .int .u8 d.x7]) (.agg #[.int .u8 d.x0, .int .u8 d.x1, .int .u8 d.x2, .int .u8 d.x3, .int .u8 d.x4, .int .u8 d.x5, .int .u8 d.x6, .int .u8 d.x7])).run Tryz.prog u <;> simp [Result.andThen]
theorem dig_guard (d : D8) (x y : Operand) (u : World) : (eqGuard .neq 27 x y (.agg #[.int .u8 d.x0, .int .u8 d.x1, .int .u8 d.x2, .int .u8 d.x3, .int .u8 d.x4, .int .u8 d.x5, .int .u8 d.x6, .int .u8 d.x7]) (.agg #[.int .u8 d.x0, .int .u8 d.x1, .int .u8 d.x2, .int .u8 d.x3, .int .u8 d.x4, .int .u8 d.x5, .int .u8 d.x6, .int .u8 d.x7])).run Tryz.prog u = .ok () u := run_eqGuard_agg _ _ _ _ _ _ _ (by kernel_rfl)
theorem Rd.prange {w : World} {B n : Nat} {A : Option Addr} {l : List PuA} (h : Rd w B 12 A n (flatP l)) {k : Nat} (hk : k < n) :
  ∃ b o, A = some ⟨b, o, none⟩ ∧ b < B ∧ w.rangeAt b (o + k * 12) (l.getD k default).cells := by
 have hl : l.length = n := by have := h.1; rw [flatP_len] at this; omega
 obtain ⟨b, o, e, hb, hc⟩ := h.2 (by omega)
 refine ⟨b, o, e, hb, fun j v hj => ?_⟩
 have hj12 : j < 12 := (List.getElem?_eq_some_iff.1 hj).1
 rw [Nat.add_assoc]
 exact hc (k * 12 + j) v ((flatP_at l k j (by omega) hj12).trans hj)
theorem puN_getD {l : List Pu} {k : Nat} (hk : k < l.length) : (l.map puN).getD k default = puN (l.getD k default) := by
 rw [List.getD_eq_getElem?_getD, List.getD_eq_getElem?_getD, List.getElem?_map, List.getElem?_eq_getElem hk]
 rfl
theorem BgAt.range {w : World} {B n cu : Nat} {Au : Option Addr} {l : List Pu} (h : BgAt w B Au n cu (l.map puN)) (hl : l.length = n) {k : Nat} (hk : k < n) :
  ∃ b o, Au = some ⟨b, o, none⟩ ∧ b < w.heap.size ∧ w.rangeAt b (o + k * 12) [.int .u8 (l.getD k default).nm.x0, .int .u8 (l.getD k default).nm.x1, .int .u8 (l.getD k default).nm.x2, .int .u8 (l.getD k default).nm.x3, .int .u8 (l.getD k default).nm.x4, .int .u8 (l.getD k default).nm.x5, .int .u8 (l.getD k default).nm.x6, .int .u8 (l.getD k default).nm.x7, .int .i64 (l.getD k default).no, .int .i64 (l.getD k default).h0, .int .i64 (l.getD k default).h1, .slice none 0 0] := by
 obtain ⟨b, o, e, hb, hc⟩ := (Rd.of_own h.own).prange hk
 rw [puN_getD (by omega)] at hc
 exact ⟨b, o, e, hb, hc⟩
theorem nm_range {w : World} {b : Nat} {d : D8} {x8 x9 x10 x11 : Value} {T : TypeId} {fz : Nat × Nat} (h : w.heap[b]? = some (.cells #[.int .u8 d.x0, .int .u8 d.x1, .int .u8 d.x2, .int .u8 d.x3, .int .u8 d.x4, .int .u8 d.x5, .int .u8 d.x6, .int .u8 d.x7, x8, x9, x10, x11] T fz)) : w.rangeAt b 0 [.int .u8 d.x0, .int .u8 d.x1, .int .u8 d.x2, .int .u8 d.x3, .int .u8 d.x4, .int .u8 d.x5, .int .u8 d.x6, .int .u8 d.x7] :=
 range_mid h _ fun j v hj => by
  rw [Nat.zero_add]
  rcases j with _ | _ | _ | _ | _ | _ | _ | _ | j <;> first | (simp at hj; done) | (simpa using hj)
theorem purse_at_nil {q : Pu} (h : q.held = []) (w : World) : PuV.At q none 0 0 w := ⟨⟨by rw [h]; rfl, fun h => by omega⟩, Nat.le_refl _, by omega⟩
theorem getD_memP {l : List Pu} {k : Nat} (h : k < l.length) : l.getD k default ∈ l := by
 rw [List.getD_eq_getElem?_getD, List.getElem?_eq_getElem h]
 exact List.getElem_mem h
theorem BgAt.below {w w' : World} {B n cu : Nat} {Au : Option Addr} {lp : List PuA} (h : BgAt w B Au n cu lp) (hb : Below w.heap.size w w') : BgAt w' B Au n cu lp := ⟨own_below h.own hb, h.lt, h.nil⟩
end Go.Proofs.YthhiookcknnmdaaGreat
