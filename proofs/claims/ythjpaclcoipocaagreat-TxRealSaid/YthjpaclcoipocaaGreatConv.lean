/- Bytes as a string. Conditions: bounds on how many bytes. -/
import Derived.Test.YthjpaclcoipocaaGreatJoinA
import Derived.Lib.SliceRun
import Derived.Shelf.Bytes.SlEqualAll
namespace Go.Proofs.YthjpaclcoipocaaGreat
open Go.RowKit Go.Lib

def intsN (l : List Nat) : List Int := l.map fun (x : Nat) => (x : Int)
def strS (l : List Nat) : ByteArray := strOfNums (intsN l)
theorem strS_eq {a b : List Nat} (ha : ∀ x ∈ a, x < 256) (hb : ∀ x ∈ b, x < 256) : ((strS a).toList == (strS b).toList) = sameB a b := by
  by_cases h : a = b
  · subst h; simp [sameB]
  · rw [sameB_no h]
    simp only [beq_eq_false_iff_ne, ne_eq]
    intro e
    apply h
    rw [ByteArray.toList_eq, ByteArray.toList_eq] at e
    simp only [strS, strOfNums_data, intsN, List.map_map] at e
    have key : ∀ (a b : List Nat), (∀ x ∈ a, x < 256) → (∀ x ∈ b, x < 256) → a.map ((fun n : Int => UInt8.ofNat n.toNat) ∘ fun (x : Nat) => (x : Int)) = b.map ((fun n : Int => UInt8.ofNat n.toNat) ∘ fun (x : Nat) => (x : Int)) → a = b := by
      intro a
      induction a with
      | nil => intro b _ _ h; cases b with | nil => rfl | cons _ _ => simp at h
      | cons x a ih =>
        intro b ha hb h
        cases b with
        | nil => simp at h
        | cons y b =>
          simp only [List.map_cons, List.cons.injEq, Function.comp, Int.toNat_natCast] at h
          have h1 := congrArg UInt8.toNat h.1
          have hx := ha x (by simp)
          have hy := hb y (by simp)
          simp only [UInt8.toNat_ofNat'] at h1
          rw [ih b (fun z hz => ha z (by simp [hz])) (fun z hz => hb z (by simp [hz])) h.2]
          congr 1
          omega
    exact key a b ha hb e
theorem conv_bytes {w : World} {B n : Nat} {A : Option Addr} {l : List Nat} (h : Rd w B 1 A n (bv l)) (c : Nat) (dst : TypeId) (hd : Tryz.prog.underlying dst = some .string) : (convert 24 dst (.slice A n c)).run Tryz.prog w = .ok (.string (strS l)) w := by
  have hb : Lib.BytesIn w A n (intsN l) := fun hn => by
    obtain ⟨b, o, e, _, _⟩ := h.byte hn
    refine ⟨b, o, e, fun i hi => ?_⟩
    obtain ⟨b', o', e', _, hc⟩ := h.byte hi
    rw [e] at e'
    simp only [Option.some.injEq, Addr.mk.injEq] at e'
    obtain ⟨rfl, rfl, _⟩ := e'
    rw [hc]
    have hl := h.blen
    simp [intsN, List.getD_eq_getElem?_getD, List.getElem?_eq_getElem (show i < l.length by omega)]
  exact hb.convert (by unfold intsN; rw [List.length_map, h.blen]) c _ _ _ Tryz.underlying24 Tryz.underlying5 hd
end Go.Proofs.YthjpaclcoipocaaGreat
