/- The walk of a signer's Sign. Condition: room in the book. -/
import Derived.Test.YtebepgoaofhelaaNoC
namespace Go.Proofs.Ytebepgoaofhelaa
open Go.RowKit Go.Lib

theorem Kept.trans {w w' w'' : World} {bk mb : Nat} (h : Kept w w' bk mb) (h2 : Kept w' w'' bk mb) : Kept w w'' bk mb :=
  ⟨h2.os.trans h.os, h2.tape.trans h.tape, h2.output.trans h.output, Nat.le_trans h.size h2.size, fun k a b => (h2.low k a b).trans (h.low k a b), fun k cs t fz a b c => h2.typed k cs t fz (h.typed k cs t fz a b c) b c, fun k es cl a b c => h2.maps k es cl (h.maps k es cl a b c) b c⟩
/-- A row of the call's own, of no entries, stays. -/
theorem Kept.own {w w' : World} {bk mb base sz n : Nat} {e : TypeId} {v : Value} {xs : List Value} (h : Kept w w' bk mb) (ho : w.ownsRow base e sz v n xs) (he : e ≠ 102) (hb : ∀ cs, w.heap[bk]? ≠ some (.cells cs e (0, 0))) : w'.ownsRow base e sz v n xs := by
  refine ⟨ho.1, ?_⟩
  rcases ho.2 with h1 | ⟨g, cap, cur, rfl, h1, h2, h3⟩
  · exact .inl h1
  · exact .inr ⟨g, cap, cur, rfl, h1, h.typed g cur e (0, 0) h2 he (by rintro rfl; exact hb _ h2), h3⟩
set_option maxRecDepth 100000 in
set_option maxHeartbeats 2000000 in
theorem wsign_any (B bk mb : Nat) (L : List En) (k m : D8) (w : World) (h : BookAt w B bk mb L) (hk : k.ok) (hm : m.ok) (hlen : L.length < 60000) :
    Calls Try.prog 95 #[.agg #[.pointer (some ⟨bk, 0, none⟩), .int .u8 (k.x0 : Int), .int .u8 (k.x1 : Int), .int .u8 (k.x2 : Int), .int .u8 (k.x3 : Int), .int .u8 (k.x4 : Int), .int .u8 (k.x5 : Int), .int .u8 (k.x6 : Int), .int .u8 (k.x7 : Int)], .agg #[.int .u8 (m.x0 : Int), .int .u8 (m.x1 : Int), .int .u8 (m.x2 : Int), .int .u8 (m.x3 : Int), .int .u8 (m.x4 : Int), .int .u8 (m.x5 : Int), .int .u8 (m.x6 : Int), .int .u8 (m.x7 : Int)]] w fun r w' => ∃ g, r = .returned (.tuple #[.slice (some ⟨g, 0, none⟩) 2 2, .int .i64 0]) ∧ w.heap.size ≤ g ∧ SigAt w' g (signE L ⟨k, m⟩).2 ∧ BookAt w' B bk mb (signE L ⟨k, m⟩).1 ∧ Kept w w' bk mb := by
  have hlt : bk < w.heap.size := Nat.lt_of_lt_of_le h.lb h.hB
  have hlm := h.places.lt
  have H := Lib.hid h
  clear h
  have hb2 : Below w.heap.size w ((w.alloc (.cells #[.pointer (some ⟨bk, 0, none⟩), .int .u8 (k.x0 : Int), .int .u8 (k.x1 : Int), .int .u8 (k.x2 : Int), .int .u8 (k.x3 : Int), .int .u8 (k.x4 : Int), .int .u8 (k.x5 : Int), .int .u8 (k.x6 : Int), .int .u8 (k.x7 : Int)] 95)).alloc (.cells #[.int .u8 (m.x0 : Int), .int .u8 (m.x1 : Int), .int .u8 (m.x2 : Int), .int .u8 (m.x3 : Int), .int .u8 (m.x4 : Int), .int .u8 (m.x5 : Int), .int .u8 (m.x6 : Int), .int .u8 (m.x7 : Int)] 23)) := ((Below.refl _ _).alloc (Nat.le_refl _) _).alloc (by simp) _
  have HS := sign_any B bk mb L ⟨k, m⟩ ((w.alloc (.cells #[.pointer (some ⟨bk, 0, none⟩), .int .u8 (k.x0 : Int), .int .u8 (k.x1 : Int), .int .u8 (k.x2 : Int), .int .u8 (k.x3 : Int), .int .u8 (k.x4 : Int), .int .u8 (k.x5 : Int), .int .u8 (k.x6 : Int), .int .u8 (k.x7 : Int)] 95)).alloc (.cells #[.int .u8 (m.x0 : Int), .int .u8 (m.x1 : Int), .int .u8 (m.x2 : Int), .int .u8 (m.x3 : Int), .int .u8 (m.x4 : Int), .int .u8 (m.x5 : Int), .int .u8 (m.x6 : Int), .int .u8 (m.x7 : Int)] 23)) (H.out.below hb2) ⟨hk, hm⟩ hlen
  have Hb2 := Lib.hid hb2
  clear hb2
  go_enter Try.func95, Try.ntmps95
  go_wp2_with fail
  refine HS.mono ?_
  rintro r w' ⟨g, rfl, h1, h2, h3, h4⟩
  have H1 := Lib.hid h1; have H2 := Lib.hid h2; have H3 := Lib.hid h3; have H4 := Lib.hid h4
  clear h1 h2 h3 h4
  go_wp2
  go_ret2
  exact ⟨g, rfl, Nat.le_trans Hb2.out.size H1.out, H2.out, H3.out, (Kept.of_below Hb2.out hlt hlm).trans H4.out⟩
end Go.Proofs.Ytebepgoaofhelaa
