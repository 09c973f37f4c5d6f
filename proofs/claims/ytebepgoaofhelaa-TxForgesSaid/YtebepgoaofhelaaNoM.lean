/- A signature of any bytes: Verify, and the reference's. Conditions: room in the book. -/
import Derived.Test.YtebepgoaofhelaaNoD
import Derived.Test.YtebepgoaofhelaaInv
import Derived.Test.YtebepgoaofhelaaNoS
namespace Go.Proofs.Ytebepgoaofhelaa
open Go.RowKit Go.Lib


/-- Are bytes the signature of an entry? -/
def verS (L : List En) (e : En) (s : List Nat) : Bool := match posE L e with
  | some i => decide (s = sigL i)
  | none => false
theorem verS_two {L : List En} {e : En} {x0 x1 : Nat} (hl : L.length < 60000) (h0 : x0 < 256) (h1 : x1 < 256) : verS L e [x0, x1] = verE L e (x0 + x1 * 256) := by
  unfold verS verE
  cases hp : posE L e with
  | none => rfl
  | some i =>
    have hi := posE_lt hp
    simp only [sigL, List.cons.injEq, and_true, Option.some_beq_some]
    rw [Bool.eq_iff_iff]
    simp only [decide_eq_true_eq, beq_iff_eq]
    omega
theorem verS_bad {L : List En} {e : En} {s : List Nat} (h : s.length ≠ 2) : verS L e s = false := by
  unfold verS
  cases posE L e with
  | none => rfl
  | some i =>
    refine decide_eq_false ?_
    rintro rfl
    exact h rfl
set_option maxRecDepth 100000 in
theorem verify_any (B bk mb : Nat) (L : List En) (e : En) (A : Option Addr) (m c : Nat) (s : List Nat) (w : World) (h : BookAt w B bk mb L) (he : e.ok) (hlen : L.length < 60000) (hr : Rd w w.heap.size 1 A m (bvN s)) (hs : ∀ x ∈ s, x < 256) :
    Calls Try.prog 92 #[.pointer (some ⟨bk, 0, none⟩), .agg #[.int .u8 (e.key.x0 : Int), .int .u8 (e.key.x1 : Int), .int .u8 (e.key.x2 : Int), .int .u8 (e.key.x3 : Int), .int .u8 (e.key.x4 : Int), .int .u8 (e.key.x5 : Int), .int .u8 (e.key.x6 : Int), .int .u8 (e.key.x7 : Int)], .agg #[.int .u8 (e.msg.x0 : Int), .int .u8 (e.msg.x1 : Int), .int .u8 (e.msg.x2 : Int), .int .u8 (e.msg.x3 : Int), .int .u8 (e.msg.x4 : Int), .int .u8 (e.msg.x5 : Int), .int .u8 (e.msg.x6 : Int), .int .u8 (e.msg.x7 : Int)], .slice A m c] w fun r w' => r = .returned (.bool (verS L e s)) ∧ Below w.heap.size w w' := by
  have hl := hr.blenN
  by_cases hm : m = 2
  · subst hm
    obtain ⟨b, o, rfl, hb, x0⟩ := hr.byteN (k := 0) (by omega)
    obtain ⟨b', o', e', _, x1⟩ := hr.byteN (k := 1) (by omega)
    simp only [Option.some.injEq, Addr.mk.injEq, and_true] at e'
    obtain ⟨rfl, rfl⟩ := e'
    match s, hl with
    | [y0, y1], _ =>
      have h0 := hs y0 (by simp)
      have h1 := hs y1 (by simp)
      rw [verS_two hlen h0 h1]
      exact verify_two B bk mb L e b o c y0 y1 w h he hlen h0 h1 hb x0 x1
  · rw [verS_bad (by omega)]
    exact verify_bad B bk mb L e A m c w h hm
def verN (W : List Nu) (e : Nu) (s : List Nat) : Bool := match posN W e with
  | some i => decide (s = sigL i)
  | none => false
theorem verN_en {W : List Nu} {e : Nu} {s : List Nat} (hW : ∀ x ∈ W, x.ok) (he : e.ok) : verS (W.map Nu.en) e.en s = verN W e s := by
  unfold verS verN; rw [posN_en hW he]
end Go.Proofs.Ytebepgoaofhelaa
