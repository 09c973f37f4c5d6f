/- The walk of layer 14's Encode: instructions as bytes. Condition: the table of operations reads as laid; a bound on how many. -/
import Derived.Test.YtecolkpnllikaaaDoorCodeK
import Derived.Test.YtecolkpnllikaaaDoorOctI
namespace Go.Proofs.YtecolkpnllikaaaDoor
open Go.RowKit Go.Lib

theorem own_iter {w w' : World} {base : Nat} {e : TypeId} {sz n : Nat} {v : Value} {xs : List Value} {k pos : Nat} {s : ByteArray} (h : w.ownsRow base e sz v n xs) (hk : w.heap[k]? = some (.stringIter s pos)) (hg : w.grownBy w' (some k)) : w'.ownsRow base e sz v n xs := by
  refine h.kept hg ?_
  rcases h.2 with ⟨rfl, _⟩ | ⟨g, cap, cur, rfl, _, hgg, _⟩
  · left; simp [Value.ownBlock]
  · right
    simp only [Value.ownBlock, ne_eq, Option.some.injEq]
    rintro rfl
    rw [hk] at hgg; cases hgg
theorem Rd.iter {w w' : World} {B sz n k pos : Nat} {A : Option Addr} {xs : List Value} {s : ByteArray} (h : Rd w B sz A n xs) (hsz : 0 < sz) (hk : w.heap[k]? = some (.stringIter s pos)) (hg : w.grownBy w' (some k)) : Rd w' B sz A n xs := by
  refine ⟨h.1, fun hn => ?_⟩
  obtain ⟨b, o, e, hb, hc⟩ := h.2 hn
  have hlen : 0 < xs.length := by rw [h.1]; exact Nat.mul_pos hn hsz
  have h0 := hc 0 _ (List.getElem?_eq_getElem hlen)
  have hne : b ≠ k := by
    rintro rfl
    simp [World.cell?, hk] at h0
  refine ⟨b, o, e, hb, fun j u hu => ?_⟩
  have := hc j u hu
  exact (World.cell?_of_block (a := ⟨b, o + j, none⟩) (hg.block b (World.block_lt_of_cell? w _ this) (by simpa using hne))).trans this
/-- The bytes of one instruction, up to its number j; of all of a list's first. -/
def oneB (op a b c : Int) : Nat → List Nat
  | 0 => encN op.toNat
  | j + 1 => oneB op a b c j ++ encN (foldN (three a b c j))
def Ins.bytes (i : Ins) : List Nat := oneB i.op i.a i.b i.c (hasOf i.op).size
def allB (l : List Ins) (k : Nat) : List Nat := encN l.length ++ (l.take k).flatMap Ins.bytes
theorem oneB_len (op a b c : Int) (j : Nat) : (oneB op a b c j).length ≤ 11 * (j + 1) := by
  induction j with
  | zero => exact encN_len _
  | succ j ih => rw [oneB, List.length_append]; have := encN_len (foldN (three a b c j)); omega
theorem bytes_len (i : Ins) : i.bytes.length ≤ 44 := by
  have := oneB_len i.op i.a i.b i.c (hasOf i.op).size
  have := hasOf_size i.op
  unfold Ins.bytes; omega
theorem allB_len (l : List Ins) (k : Nat) : (allB l k).length ≤ 11 + 44 * k := by
  have h : ∀ m : List Ins, (m.flatMap Ins.bytes).length ≤ 44 * m.length := by
    intro m
    induction m with
    | nil => simp
    | cons i m ih => simp only [List.flatMap_cons, List.length_append, List.length_cons]; have := bytes_len i; omega
  have h1 := h (l.take k)
  have h2 : (l.take k).length ≤ k := by simp; omega
  have h3 := encN_len l.length
  unfold allB; rw [List.length_append]; omega
theorem allB_succ {l : List Ins} {k : Nat} (h : k < l.length) : allB l (k + 1) = allB l k ++ (l.getD k default).bytes := by
  unfold allB; rw [take_ins h]; simp
theorem right_op {op a b c size words : Int} (h : rightB op a b c size words = true) : 0 ≤ op ∧ op < 22 := by
  simp only [rightB, Bool.and_eq_true] at h
  exact isB_iff.1 h.1.1
theorem ok_range {op size words n : Int} {k : Nat} (h1 : size ≤ 1000000) (h2 : words ≤ 1000000) (h : okN op size words k n = true) : -2147483648 ≤ n ∧ n ≤ 2147483647 := by
  unfold okN at h
  split at h
  · split at h
    · simp at h; omega
    · split at h
      · simp at h; omega
      · simpa [inR] using h
  · simp at h; omega
theorem right_range {op a b c size words : Int} (h1 : size ≤ 1000000) (h2 : words ≤ 1000000) (h : rightB op a b c size words = true) (j : Nat) (hj : j < 3) : -2147483648 ≤ three a b c j ∧ three a b c j ≤ 2147483647 := by
  simp only [rightB, Bool.and_eq_true] at h
  match j, hj with
  | 0, _ => exact ok_range h1 h2 h.1.2.1.1
  | 1, _ => exact ok_range h1 h2 h.1.2.1.2
  | 2, _ => exact ok_range h1 h2 h.1.2.2
theorem checked {l : List Ins} (h : (checkI l 256).2 = 0) : 1 ≤ l.length ∧ l.length ≤ 2048 ∧ ∀ j, j < l.length → (l.getD j default).right l.length 256 = true := by
  unfold checkI at h
  split at h
  · simp at h
  · rename_i hn
    refine ⟨by omega, by omega, fun j hj => ?_⟩
    cases hf : l.findIdx? (fun i => !i.right l.length 256) with
    | some k => rw [hf] at h; simp at h
    | none =>
      rw [List.findIdx?_eq_none_iff] at hf
      have := hf l[j] (List.getElem_mem hj)
      rw [List.getD_eq_getElem?_getD, List.getElem?_eq_getElem hj]
      simpa using this
/-- Encode's answer. -/
def encL (l : List Ins) : List Nat := if (checkI l 256).2 = 0 then allB l l.length else []
def GivesBE (w : World) (l : List Nat) (err : Int) (e : Ending) (w' : World) : Prop :=
  ∃ A n c, e = .returned (.tuple #[.slice A n c, .int .i64 err]) ∧ Rd w' w'.heap.size 1 A n (bv l) ∧ n = l.length ∧ n ≤ c ∧ Below w.heap.size w w'
theorem ownCap {w : World} {base : Nat} {e : TypeId} {sz n c : Nat} {A : Option Addr} {xs : List Value} (h : w.ownsRow base e sz (.slice A n c) n xs) : n ≤ c := by
  rcases h.2 with ⟨_, h2⟩ | ⟨g, cap, cur, hv, _, _, hle, _⟩
  · omega
  · injection hv with _ _ h3
    omega
end Go.Proofs.YtecolkpnllikaaaDoor
