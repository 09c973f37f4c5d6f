/- The walks of a signer's Sign, of Verify, and of the reference's functions. Conditions: room in the book. -/
import Derived.Test.YtebepgoaofhelaaNoB
import Derived.Lib.SliceRun
import Derived.Shelf.Bytes.SlEqualAll
import Derived.Deep.QuietTactic
import Derived.BigQuiet
namespace Go.Proofs.Ytebepgoaofhelaa
open Go.RowKit Go.Lib

/-- Does a signature's number stand for an entry? -/
def verE (L : List En) (e : En) (i : Nat) : Bool := posE L e == some i
theorem orTwo {x0 x1 : Nat} (h0 : x0 < 256) (h1 : x1 < 256) : bits .or .i64 (x0 : Int) ((x1 : Int) * 256) = (x0 : Int) + (x1 : Int) * 256 := by
  have e1 : ((x1 : Int) * 256) = ((x1 * 2 ^ 8 : Nat) : Int) := by omega
  have h : (x0 ||| x1 * 2 ^ 8) = x0 + x1 * 2 ^ 8 := by
    have := Nat.two_pow_add_eq_or_of_lt (i := 8) (b := x0) (by omega) x1
    rw [Nat.or_comm, Nat.mul_comm x1, ← this]; omega
  have h2 : (BitVec.ofInt 64 (x0 : Int)).toNat = x0 := by
    rw [BitVec.ofInt_natCast, BitVec.toNat_ofNat]; exact Nat.mod_eq_of_lt (by omega)
  have h3 : (BitVec.ofInt 64 ((x1 * 2 ^ 8 : Nat) : Int)).toNat = x1 * 2 ^ 8 := by
    rw [BitVec.ofInt_natCast, BitVec.toNat_ofNat]; exact Nat.mod_eq_of_lt (by omega)
  rw [e1]
  show IntKind.i64.wrap ((BitVec.ofInt 64 (x0 : Int) ||| BitVec.ofInt 64 ((x1 * 2 ^ 8 : Nat) : Int)).toNat : Int) = _
  rw [BitVec.toNat_or, h2, h3, h, IntKind.wrap_i64]
  omega
theorem posE_lt {L : List En} {e : En} {j : Nat} (h : posE L e = some j) : j < L.length := (List.getElem?_eq_some_iff.1 (posE_some h)).1
set_option maxRecDepth 100000 in
set_option maxHeartbeats 2000000 in
theorem verify_bad (B bk mb : Nat) (L : List En) (e : En) (A : Option Addr) (m c : Nat) (w : World) (_h : BookAt w B bk mb L) (hm : m ≠ 2) :
    Calls Try.prog 92 #[.pointer (some ⟨bk, 0, none⟩), .agg #[.int .u8 (e.key.x0 : Int), .int .u8 (e.key.x1 : Int), .int .u8 (e.key.x2 : Int), .int .u8 (e.key.x3 : Int), .int .u8 (e.key.x4 : Int), .int .u8 (e.key.x5 : Int), .int .u8 (e.key.x6 : Int), .int .u8 (e.key.x7 : Int)], .agg #[.int .u8 (e.msg.x0 : Int), .int .u8 (e.msg.x1 : Int), .int .u8 (e.msg.x2 : Int), .int .u8 (e.msg.x3 : Int), .int .u8 (e.msg.x4 : Int), .int .u8 (e.msg.x5 : Int), .int .u8 (e.msg.x6 : Int), .int .u8 (e.msg.x7 : Int)], .slice A m c] w fun r w' => r = .returned (.bool false) ∧ Below w.heap.size w w' := by
  have hm2 : (((m : Int) != 2)) = true := by simp; omega
  have hm3 : decide ((m : Int) = 2) = false := decide_eq_false (by omega)
  clear hm
  go_enter Try.func92, Try.ntmps92
  go_wp2
  go_ret
  exact ⟨rfl, (((Below.refl _ _).alloc (Nat.le_refl _) _).alloc (by simp) _)⟩
set_option maxRecDepth 100000 in
set_option maxHeartbeats 2000000 in
theorem verify_two (B bk mb : Nat) (L : List En) (e : En) (g o cp x0 x1 : Nat) (w : World) (h : BookAt w B bk mb L) (he : e.ok) (hlen : L.length < 60000) (h0 : x0 < 256) (h1 : x1 < 256)
    (hgl : g < w.heap.size) (s0 : w.cell? ⟨g, o, none⟩ = some (.int .u8 (x0 : Int))) (s1 : w.cell? ⟨g, o + 1, none⟩ = some (.int .u8 (x1 : Int))) :
    Calls Try.prog 92 #[.pointer (some ⟨bk, 0, none⟩), .agg #[.int .u8 (e.key.x0 : Int), .int .u8 (e.key.x1 : Int), .int .u8 (e.key.x2 : Int), .int .u8 (e.key.x3 : Int), .int .u8 (e.key.x4 : Int), .int .u8 (e.key.x5 : Int), .int .u8 (e.key.x6 : Int), .int .u8 (e.key.x7 : Int)], .agg #[.int .u8 (e.msg.x0 : Int), .int .u8 (e.msg.x1 : Int), .int .u8 (e.msg.x2 : Int), .int .u8 (e.msg.x3 : Int), .int .u8 (e.msg.x4 : Int), .int .u8 (e.msg.x5 : Int), .int .u8 (e.msg.x6 : Int), .int .u8 (e.msg.x7 : Int)], .slice (some ⟨g, o, none⟩) 2 cp] w fun r w' => r = .returned (.bool (verE L e (x0 + x1 * 256))) ∧ Below w.heap.size w w' := by
  obtain ⟨A, n, c, hbk, hown⟩ := h.book
  have hW : PlacesAt (((w.alloc (.cells #[.int .u8 (e.key.x0 : Int), .int .u8 (e.key.x1 : Int), .int .u8 (e.key.x2 : Int), .int .u8 (e.key.x3 : Int), .int .u8 (e.key.x4 : Int), .int .u8 (e.key.x5 : Int), .int .u8 (e.key.x6 : Int), .int .u8 (e.key.x7 : Int)] 23)).alloc (.cells #[.int .u8 (e.msg.x0 : Int), .int .u8 (e.msg.x1 : Int), .int .u8 (e.msg.x2 : Int), .int .u8 (e.msg.x3 : Int), .int .u8 (e.msg.x4 : Int), .int .u8 (e.msg.x5 : Int), .int .u8 (e.msg.x6 : Int), .int .u8 (e.msg.x7 : Int)] 23)).drew) mb L := (h.places.same (Below.heap_alloc w _ _ h.places.lt)).same (Below.heap_alloc _ _ _ (by have := h.places.lt; simp; omega))
  have hlook := look_places (w := ((w.alloc (.cells #[.int .u8 (e.key.x0 : Int), .int .u8 (e.key.x1 : Int), .int .u8 (e.key.x2 : Int), .int .u8 (e.key.x3 : Int), .int .u8 (e.key.x4 : Int), .int .u8 (e.key.x5 : Int), .int .u8 (e.key.x6 : Int), .int .u8 (e.key.x7 : Int)] 23)).alloc (.cells #[.int .u8 (e.msg.x0 : Int), .int .u8 (e.msg.x1 : Int), .int .u8 (e.msg.x2 : Int), .int .u8 (e.msg.x3 : Int), .int .u8 (e.msg.x4 : Int), .int .u8 (e.msg.x5 : Int), .int .u8 (e.msg.x6 : Int), .int .u8 (e.msg.x7 : Int)] 23)).drew) hW h.nodup h.ok e he
  simp only [En.V] at hlook
  have q1 := block_cell hbk 1
  have hlt := block_lt hbk
  simp at q1
  have Hlen := Lib.hid hlen
  have hor := orTwo h0 h1
  clear hW hown hbk
  cases hp : posE L e with
  | none =>
    have Hr : Hid (verE L e (x0 + x1 * 256) = false) := by show _ = _; unfold verE; rw [hp]; rfl
    rw [hp] at hlook
    have Hp := Lib.hid hp; have H := Lib.hid h
    clear hp h hlen
    go_enter Try.func92, Try.ntmps92
    go_wp2
    go_region
    all_goals
      go_wp2
      go_region
      all_goals
        go_wp2
        go_ret
        exact ⟨by rw [Hr.out]; rfl, ((((Below.refl _ _).alloc (Nat.le_refl _) _).alloc (by simp) _).drew).drew⟩
  | some j =>
    rw [hp] at hlook
    have hj := posE_lt hp
    have Hr : Hid (verE L e (x0 + x1 * 256) = decide ((j : Int) = (x0 : Int) + (x1 : Int) * 256)) := by
      show _ = _; unfold verE; rw [hp]
      by_cases hjx : j = x0 + x1 * 256
      · subst hjx; simp
      · rw [decide_eq_false (by omega)]; simp; exact hjx
    have Hp := Lib.hid hp; have H := Lib.hid h
    have hj : j < 60000 := by omega
    have Hj := Lib.hid hj
    clear hp h hlen hj
    go_enter Try.func92, Try.ntmps92
    go_wp2
    go_region
    all_goals
      go_wp2
      trace_state
      go_region
      all_goals
        go_wp2
        go_ret
        trace_state
        exact ⟨by rw [Hr.out]; rfl, ((((Below.refl _ _).alloc (Nat.le_refl _) _).alloc (by simp) _).drew).drew⟩
end Go.Proofs.Ytebepgoaofhelaa
