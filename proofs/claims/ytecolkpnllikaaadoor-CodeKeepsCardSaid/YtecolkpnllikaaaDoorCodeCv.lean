/- Bytes as a string. Conditions: none but that the bytes can be read. -/
import Derived.Test.YtecolkpnllikaaaDoorSlice
import Derived.Test.YtecolkpnllikaaaDoorOct
import Derived.Lib.Bytes
import Derived.Lib.SliceRun
import Derived.Shelf.Bytes.SlEqualAll
namespace Go.Proofs.YtecolkpnllikaaaDoor
open Go.RowKit Go.Lib
def intsN (l : List Nat) : List Int := l.map fun (x : Nat) => (x : Int)
def strS (l : List Nat) : ByteArray := strOfNums (intsN l)
theorem conv_bytes {w : World} {B n : Nat} {A : Option Addr} {l : List Nat} (h : Rd w B 1 A n (bv l)) (c : Nat) (dst : TypeId) (hd : Tryd.prog.underlying dst = some .string) : (convert 48 dst (.slice A n c)).run Tryd.prog w = .ok (.string (strS l)) w := by
  have hl : l.length = n := by have := h.1; rw [bv_len] at this; omega
  have hb : Lib.BytesIn w A n (intsN l) := fun hn => by
    obtain ⟨b, o, e, hbB, hc⟩ := h.2 hn
    refine ⟨b, o, e, fun i hi => ?_⟩
    rw [hc i (.int .u8 ((l.getD i 0 : Nat) : Int)) (by simp [bv, List.getD_eq_getElem?_getD, List.getElem?_eq_getElem (show i < l.length by omega)])]
    simp [intsN, List.getD_eq_getElem?_getD, List.getElem?_eq_getElem (show i < l.length by omega)]
  exact hb.convert (by unfold intsN; rw [List.length_map, hl]) c _ _ _ Tryd.underlying48 Tryd.underlying5 hd
end Go.Proofs.YtecolkpnllikaaaDoor
