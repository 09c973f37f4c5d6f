/- Whose signatures lack: rows of signatures in memory, and the plain list of places. Nothing of the program stands in it but its tables, so there is no condition. -/
import Derived.Test.YtepdinfopcohiaaNoW
import Derived.Test.YtepdinfopcohiaaNoR
namespace Go.Proofs.Ytepdinfopcohiaa
open Go.RowKit Go.Lib
def bvI (l : List Nat) : List Value := l.map fun x => .int .i64 ((x : Nat) : Int)
theorem bvI_append (l m : List Nat) : bvI (l ++ m) = bvI l ++ bvI m := by simp [bvI]
theorem Rd.intI {w : World} {B n k : Nat} {A : Option Addr} {l : List Nat} (h : Rd w B 1 A n (bvI l)) (hk : k < n) : ∃ b o, A = some ⟨b, o, none⟩ ∧ b < B ∧ w.cell? ⟨b, o + k, none⟩ = some (.int .i64 ((l.getD k 0 : Nat) : Int)) := by
  have hl : l.length = n := by have := h.1; simp [bvI] at this; omega
  obtain ⟨b, o, e, hb, hc⟩ := h.2 (by omega)
  refine ⟨b, o, e, hb, hc k _ ?_⟩
  have hkl : k < l.length := by omega
  simp [bvI, hkl, List.getD_eq_getElem?_getD]
def bvB (l : List Bool) : List Value := l.map fun x => .bool x
theorem Rd.blenB {w : World} {B n : Nat} {A : Option Addr} {l : List Bool} (h : Rd w B 1 A n (bvB l)) : l.length = n := by have := h.1; simp [bvB] at this; omega
theorem Rd.boolB {w : World} {B n k : Nat} {A : Option Addr} {l : List Bool} (h : Rd w B 1 A n (bvB l)) (hk : k < n) : ∃ b o, A = some ⟨b, o, none⟩ ∧ b < B ∧ w.cell? ⟨b, o + k, none⟩ = some (.bool (l.getD k false)) := by
  have hl := h.blenB
  obtain ⟨b, o, e, hb, hc⟩ := h.2 (by omega)
  refine ⟨b, o, e, hb, hc k _ ?_⟩
  have hkl : k < l.length := by omega
  simp [bvB, hkl, List.getD_eq_getElem?_getD]
/-- The places that lack something, ahead of k. -/
def missTo (p : Nat → Bool) (k : Nat) : List Nat := (List.range k).filter p
theorem miss_yes {p : Nat → Bool} {k : Nat} (h : p k = true) : missTo p (k + 1) = missTo p k ++ [k] := by simp [missTo, List.range_succ, List.filter_append, h]
theorem miss_no {p : Nat → Bool} {k : Nat} (h : p k = false) : missTo p (k + 1) = missTo p k := by simp [missTo, List.range_succ, List.filter_append, h]
theorem miss_len (p : Nat → Bool) (k : Nat) : (missTo p k).length ≤ k := by
  have := List.length_filter_le p (List.range k)
  simpa [missTo] using this
def lacksE (L : List En) (m : D8) (ks : List D8) (ss : List (List Nat)) (fs : List Bool) (i : Nat) : Bool :=
  !(fs.getD i false) && (decide (ss.length ≤ i) || !(verS L ⟨ks.getD i ⟨0, 0, 0, 0, 0, 0, 0, 0⟩, m⟩ (ss.getD i [])))
/-- A row of rows of bytes. -/
def SigRd (w : World) (B : Nat) (A : Option Addr) (n : Nat) (ss : List (List Nat)) : Prop :=
  ss.length = n ∧ (0 < n → ∃ b o, A = some ⟨b, o, none⟩ ∧ b < B ∧ ∀ k, k < n → ∃ A' m c, w.cell? ⟨b, o + k, none⟩ = some (.slice A' m c) ∧ Rd w B 1 A' m (bvN (ss.getD k [])))
theorem SigRd.below {w w' : World} {B C n : Nat} {A : Option Addr} {ss : List (List Nat)} (h : SigRd w B A n ss) (hb : Below C w w') (hC : B ≤ C) : SigRd w' B A n ss := by
  refine ⟨h.1, fun hn => ?_⟩
  obtain ⟨b, o, e, hbB, hk⟩ := h.2 hn
  refine ⟨b, o, e, hbB, fun k hk1 => ?_⟩
  obtain ⟨A', m, c, h1, h2⟩ := hk k hk1
  exact ⟨A', m, c, (hb.cell (p := ⟨b, o + k, none⟩) (show b < C by omega)).trans h1, h2.below hb hC⟩
theorem SigRd.more {w : World} {B C n : Nat} {A : Option Addr} {ss : List (List Nat)} (h : SigRd w B A n ss) (hC : B ≤ C) : SigRd w C A n ss := by
  refine ⟨h.1, fun hn => ?_⟩
  obtain ⟨b, o, e, hbB, hk⟩ := h.2 hn
  refine ⟨b, o, e, by omega, fun k hk1 => ?_⟩
  obtain ⟨A', m, c, h1, h2⟩ := hk k hk1
  exact ⟨A', m, c, h1, h2.more hC⟩
theorem info_int : (Try.prog.info? 3).map (fun i => (i.zero, i.size, i.bytes)) = some (some (.int .i64 0), 1, 8) := by kernel_rfl
theorem nil_ver (b : Nat) (w : World) : (nilAhead (Try.prog.types.size + Made.depth) 24 (.pointer (some ⟨b, 0, none⟩)) "Verify").run Try.prog w = .ok (some false) w := by kernel_rfl
theorem meth_ver (b : Nat) (w : World) : (method (Try.prog.types.size + Made.depth) 24 (.pointer (some ⟨b, 0, none⟩)) "Verify").run Try.prog w = .ok (14, .pointer (some ⟨b, 0, none⟩)) w := by kernel_rfl
end Go.Proofs.Ytepdinfopcohiaa
