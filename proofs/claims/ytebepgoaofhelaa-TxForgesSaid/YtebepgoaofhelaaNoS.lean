/- Signatures as text; the reference's Bytes. Condition: none. -/
import Derived.Test.YtebepgoaofhelaaNoB
import Derived.Lib.SliceRun
import Derived.Lib.Bytes
import Derived.Shelf.Bytes.SlEqualAll
namespace Go.Proofs.Ytebepgoaofhelaa
open Go.RowKit Go.Lib
def bvN (l : List Nat) : List Value := l.map fun x => .int .u8 ((x : Nat) : Int)
theorem bvN_len (l : List Nat) : (bvN l).length = l.length := by simp [bvN]
theorem getD_atN (l : List Nat) {k : Nat} (h : k < l.length) : l[k]? = some (l.getD k 0) := by
  rw [List.getD_eq_getElem?_getD, List.getElem?_eq_getElem h]; rfl
theorem Rd.byteN {w : World} {B n k : Nat} {A : Option Addr} {l : List Nat} (h : Rd w B 1 A n (bvN l)) (hk : k < n) : ∃ b o, A = some ⟨b, o, none⟩ ∧ b < B ∧ w.cell? ⟨b, o + k, none⟩ = some (.int .u8 ((l.getD k 0 : Nat) : Int)) := by
  have hl : l.length = n := by have := h.1; rw [bvN_len] at this; omega
  obtain ⟨b, o, e, hb, hc⟩ := h.2 (by omega)
  refine ⟨b, o, e, hb, hc k _ ?_⟩
  simp only [bvN, List.getElem?_map]
  rw [getD_atN l (by omega)]; rfl
theorem Rd.blenN {w : World} {B n : Nat} {A : Option Addr} {l : List Nat} (h : Rd w B 1 A n (bvN l)) : l.length = n := by have := h.1; rw [bvN_len] at this; omega
def intsNo (l : List Nat) : List Int := l.map fun (x : Nat) => (x : Int)
def strNo (l : List Nat) : ByteArray := strOfNums (intsNo l)
theorem strNo_eq {a b : List Nat} (ha : ∀ x ∈ a, x < 256) (hb : ∀ x ∈ b, x < 256) : ((strNo a).toList == (strNo b).toList) = decide (a = b) := by
  by_cases h : a = b
  · subst h; simp
  · rw [decide_eq_false h]
    simp only [beq_eq_false_iff_ne, ne_eq]
    intro e
    apply h
    rw [ByteArray.toList_eq, ByteArray.toList_eq] at e
    simp only [strNo, strOfNums_data, intsNo, List.map_map] at e
    have key : ∀ (a b : List Nat), (∀ x ∈ a, x < 256) → (∀ x ∈ b, x < 256) → a.map ((fun n : Int => UInt8.ofNat n.toNat) ∘ fun (x : Nat) => (x : Int)) = b.map ((fun n : Int => UInt8.ofNat n.toNat) ∘ fun (x : Nat) => (x : Int)) → a = b := by
      intro a
      induction a with
      | nil => intro b _ _ h; cases b with | nil => rfl | cons _ _ => simp at h
      | cons x a ih =>
        intro b ha hb h
        cases b with
        | nil => simp at h
        | cons y b =>
          simp only [List.map_cons, List.cons.injEq, Function.comp, Int.toNat_natCast] at h
          have h1 := congrArg UInt8.toNat h.1
          have hx := ha x (by simp)
          have hy := hb y (by simp)
          simp only [UInt8.toNat_ofNat'] at h1
          rw [ih b (fun z hz => ha z (by simp [hz])) (fun z hz => hb z (by simp [hz])) h.2]
          congr 1
          omega
    exact key a b ha hb e
theorem conv_no {w : World} {B n : Nat} {A : Option Addr} {l : List Nat} (h : Rd w B 1 A n (bvN l)) (c : Nat) : (convert 24 9 (.slice A n c)).run Try.prog w = .ok (.string (strNo l)) w := by
  have hb : Lib.BytesIn w A n (intsNo l) := fun hn => by
    obtain ⟨b, o, e, _, _⟩ := h.byteN hn
    refine ⟨b, o, e, fun i hi => ?_⟩
    obtain ⟨b', o', e', _, hc⟩ := h.byteN hi
    rw [e] at e'
    simp only [Option.some.injEq, Addr.mk.injEq] at e'
    obtain ⟨rfl, rfl, _⟩ := e'
    rw [hc]
    have hl := h.blenN
    simp [intsNo, List.getD_eq_getElem?_getD, List.getElem?_eq_getElem (show i < l.length by omega)]
  exact hb.convert (by unfold intsNo; rw [List.length_map, h.blenN]) c _ _ _ Try.underlying24 Try.underlying5 Try.underlying9
/-- A signature's bytes. -/
def sigL (i : Nat) : List Nat := [i % 256, i / 256 % 256]
theorem sigL_lt (i : Nat) : ∀ x ∈ sigL i, x < 256 := by
  intro x hx
  simp [sigL] at hx
  omega
theorem sigL_inj {i j : Nat} (hi : i < 65536) (hj : j < 65536) : sigL i = sigL j ↔ i = j := by
  constructor
  · intro h
    simp only [sigL, List.cons.injEq, and_true] at h
    omega
  · rintro rfl; rfl
theorem sig_rd {w : World} {g i : Nat} (h : w.heap[g]? = some (.cells #[.int .u8 ((i % 256 : Nat) : Int), .int .u8 ((i / 256 % 256 : Nat) : Int)] 5 (0, 0))) : Rd w w.heap.size 1 (some ⟨g, 0, none⟩) 2 (bvN (sigL i)) := by
  refine ⟨rfl, fun _ => ⟨g, 0, rfl, block_lt h, fun j u hu => ?_⟩⟩
  rw [block_cell h]
  simpa [bvN, sigL] using hu
theorem conv_sig {w : World} {g i : Nat} (h : w.heap[g]? = some (.cells #[.int .u8 ((i % 256 : Nat) : Int), .int .u8 ((i / 256 % 256 : Nat) : Int)] 5 (0, 0))) (c : Nat) : (convert 24 9 (.slice (some ⟨g, 0, none⟩) 2 c)).run Try.prog w = .ok (.string (strNo (sigL i))) w := conv_no (sig_rd h) c
end Go.Proofs.Ytebepgoaofhelaa
