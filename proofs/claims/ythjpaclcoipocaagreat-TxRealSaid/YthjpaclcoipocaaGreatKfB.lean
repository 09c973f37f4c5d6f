/- The walk of KeysReserves. Condition: none. -/
import Derived.Test.YthjpaclcoipocaaGreatKfA
import Derived.Test.YthjpaclcoipocaaGreatKeZ
namespace Go.Proofs.YthjpaclcoipocaaGreat
open Go.RowKit Go.Lib



theorem load_d8 {w : World} {b : Nat} {d : D8} (h : w.heap[b]? = some (.cells #[.int .u8 (d.x0 : Int), .int .u8 (d.x1 : Int), .int .u8 (d.x2 : Int), .int .u8 (d.x3 : Int), .int .u8 (d.x4 : Int), .int .u8 (d.x5 : Int), .int .u8 (d.x6 : Int), .int .u8 (d.x7 : Int)] 22 (0, 0))) : (Instr.loadAt 22 (.pointer (some ⟨b, 0, none⟩))).run Tryz.prog w = .ok (.agg #[.int .u8 (d.x0 : Int), .int .u8 (d.x1 : Int), .int .u8 (d.x2 : Int), .int .u8 (d.x3 : Int), .int .u8 (d.x4 : Int), .int .u8 (d.x5 : Int), .int .u8 (d.x6 : Int), .int .u8 (d.x7 : Int)]) w := by
  obtain ⟨zf, x0, x1, x2, x3, x4, x5, x6, x7⟩ := free8 h
  have hl := block_lt h
  go_simp
theorem enc_lt {i : Nat} (h : i < 256) : ∀ x ∈ encN i, x < 256 := by
  unfold encN
  by_cases h1 : i < 128
  · rw [enc7_small h1]; intro x hx; simp at hx; omega
  · rw [enc7_big h1, enc7_small (show i / 128 < 128 by omega)]; intro x hx; simp at hx; omega
theorem sign_lt {r : RingM} (hr : r.ok) (m : D8) : ∀ x ∈ (r.sign m).2.1, x < 256 := by
  have hb : ∀ (d : D8), d.ok → ∀ x ∈ d.bytes, x < 256 := fun d hd => D8.bytes_lt hd
  have hi := reserve_lt hr (m := m)
  have hh := (pow_le8 hr.2.1).2
  unfold RingM.sign
  simp only
  split
  · rename_i he
    have hi := hi he
    intro x hx
    simp only [RingM.sigB, List.mem_append] at hx
    rcases hx with (hx | hx) | hx
    · exact enc_lt (by omega) x hx
    · simp only [onceB, List.mem_flatMap] at hx
      obtain ⟨c, _, hc⟩ := hx
      exact hb _ (chainD_ok (startD_ok _ _) _) x hc
    · simp only [List.mem_flatMap] at hx
      obtain ⟨d, hd, hc⟩ := hx
      exact hb d (pathD_ok _ _ _ d hd) x hc
  · intro x hx; simp at hx
theorem sign_len {r : RingM} (hr : r.ok) (m : D8) : (r.sign m).2.1.length ≤ 219 := by
  have hh := hr.2.1
  have hs := (RingM.reserve_secret r m).2
  unfold RingM.sign
  simp only
  split
  · show (RingM.sigB _ _ _).length ≤ _
    simp only [RingM.sigB, List.length_append, onceB_len, flatB_take_len, pathD_len, hs]
    have := encN_len (r.reserve m).2.1
    omega
  · simp
theorem RingAt.hB {w : World} {B : Nat} {F : Nat → Prop} {T0 T1 br : Nat} {r : RingM} (a : RingAt w B F T0 T1 br r) : B ≤ w.heap.size := by
  have h0 := a.b0; have h1 := a.b1
  obtain ⟨mb, bt, h2, h3⟩ := a.led
  have := h3.lo; have := h3.hi
  omega
/-- Two rings beside one another. -/
structure Two (w : World) (B1 B2 : Nat) (F1 F2 : Nat → Prop) (T01 T11 T02 T12 br1 br2 : Nat) (r1 r2 : RingM) : Prop where
  a : RingAt w B1 F1 T01 T11 br1 r1
  b : RingAt w B2 F2 T02 T12 br2 r2
  d1 : ∀ k, F1 k → ¬ foot F2 T02 T12 k
  d2 : ∀ k, F2 k → ¬ foot F1 T01 T11 k
theorem Two.below {w w' : World} {B1 B2 : Nat} {F1 F2 : Nat → Prop} {T01 T11 T02 T12 br1 br2 : Nat} {r1 r2 : RingM} (t : Two w B1 B2 F1 F2 T01 T11 T02 T12 br1 br2 r1 r2) (hb : Below w.heap.size w w') : Two w' B1 B2 F1 F2 T01 T11 T02 T12 br1 br2 r1 r2 := ⟨t.a.below hb, t.b.below hb, t.d1, t.d2⟩
theorem Two.left {w w' : World} {M B1 B2 : Nat} {F1 F2 : Nat → Prop} {T01 T11 T02 T12 br1 br2 : Nat} {r1 r2 r1' : RingM} (t : Two w B1 B2 F1 F2 T01 T11 T02 T12 br1 br2 r1 r2) (hc : Chg F1 w w') (a' : RingAt w' B1 (upto F1 w.heap.size M) T01 T11 br1 r1') : Two w' B1 B2 (upto F1 w.heap.size M) F2 T01 T11 T02 T12 br1 br2 r1' r2 := by
  have hl := t.b.foot_lt
  refine ⟨a', t.b.other hc t.d1, ?_, ?_⟩
  · rintro k (h | h) hf
    · exact t.d1 k h hf
    · have := hl k hf; omega
  · rintro k h ((h2 | h2) | h2)
    · exact t.d2 k h (.inl h2)
    · have := (hl k (.inl h)).2; omega
    · exact t.d2 k h (.inr h2)
theorem Two.right {w w' : World} {M B1 B2 : Nat} {F1 F2 : Nat → Prop} {T01 T11 T02 T12 br1 br2 : Nat} {r1 r2 r2' : RingM} (t : Two w B1 B2 F1 F2 T01 T11 T02 T12 br1 br2 r1 r2) (hc : Chg F2 w w') (b' : RingAt w' B2 (upto F2 w.heap.size M) T02 T12 br2 r2') : Two w' B1 B2 F1 (upto F2 w.heap.size M) T01 T11 T02 T12 br1 br2 r1 r2' := by
  have := Two.left (M := M) ⟨t.b, t.a, t.d2, t.d1⟩ hc b'
  exact ⟨this.b, this.a, this.d2, this.d1⟩
end Go.Proofs.YthjpaclcoipocaaGreat
