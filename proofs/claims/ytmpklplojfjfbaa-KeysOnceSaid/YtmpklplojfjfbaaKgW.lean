/- The walk of KeysSame. Condition: none. -/
import Derived.Test.YtmpklplojfjfbaaJoinP
import Derived.Test.YtmpklplojfjfbaaKgQ
import Derived.Test.YtmpklplojfjfbaaKgC
namespace Go.Proofs.Ytmpklplojfjfbaa
open Go.RowKit Go.Lib



/-- A ring and all that it holds; what it makes later lies beside. -/
structure Held (w : World) (W : Nat) (F : Nat → Prop) (T0 T1 br : Nat) (r : RingM) : Prop where
  at_ : ∃ B, W ≤ B ∧ RingAt w B F T0 T1 br r
theorem Held.lt {w : World} {W : Nat} {F : Nat → Prop} {T0 T1 br : Nat} {r : RingM} (h : Held w W F T0 T1 br r) : ∀ k, foot F T0 T1 k → W ≤ k ∧ k < w.heap.size := by
  obtain ⟨B, hB, a⟩ := h.at_
  intro k hk
  have := a.foot_lt k hk
  omega
theorem Held.below {w w' : World} {W : Nat} {F : Nat → Prop} {T0 T1 br : Nat} {r : RingM} (h : Held w W F T0 T1 br r) (hb : Below w.heap.size w w') : Held w' W F T0 T1 br r := by
  obtain ⟨B, hB, a⟩ := h.at_
  exact ⟨B, hB, a.below hb⟩
theorem Held.other {w w' : World} {W : Nat} {F G : Nat → Prop} {T0 T1 br : Nat} {r : RingM} (h : Held w W F T0 T1 br r) (hc : Chg G w w') (hd : ∀ k, G k → ¬ foot F T0 T1 k) : Held w' W F T0 T1 br r := by
  obtain ⟨B, hB, a⟩ := h.at_
  exact ⟨B, hB, a.other hc hd⟩
/-- Two that hold nothing together. -/
def Apart2 (F G : Nat → Prop) (T0 T1 S0 S1 : Nat) : Prop := ∀ k, foot F T0 T1 k → ¬ foot G S0 S1 k
theorem Apart2.symm {F G : Nat → Prop} {T0 T1 S0 S1 : Nat} (h : Apart2 F G T0 T1 S0 S1) : Apart2 G F S0 S1 T0 T1 := fun k h1 h2 => h k h2 h1
theorem Apart2.more {w w' : World} {F G : Nat → Prop} {T0 T1 S0 S1 : Nat} (h : Apart2 F G T0 T1 S0 S1) (hG : ∀ k, foot G S0 S1 k → k < w.heap.size) : Apart2 (more F w w') G T0 T1 S0 S1 := by
  rintro k ((h1 | h1) | h1) h2
  · exact h k (.inl h1) h2
  · have := hG k h2; omega
  · exact h k (.inr h1) h2
/-- Three rings beside one another. -/
structure Tri (w : World) (W : Nat) (F G H : Nat → Prop) (T0 T1 S0 S1 U0 U1 bx by_ bz : Nat) (x y z : RingM) : Prop where
  x : Held w W F T0 T1 bx x
  y : Held w W G S0 S1 by_ y
  z : Held w W H U0 U1 bz z
  xy : Apart2 F G T0 T1 S0 S1
  xz : Apart2 F H T0 T1 U0 U1
  yz : Apart2 G H S0 S1 U0 U1
theorem Tri.below {w w' : World} {W : Nat} {F G H : Nat → Prop} {T0 T1 S0 S1 U0 U1 bx by_ bz : Nat} {x y z : RingM} (t : Tri w W F G H T0 T1 S0 S1 U0 U1 bx by_ bz x y z) (hb : Below w.heap.size w w') : Tri w' W F G H T0 T1 S0 S1 U0 U1 bx by_ bz x y z := ⟨t.x.below hb, t.y.below hb, t.z.below hb, t.xy, t.xz, t.yz⟩
theorem Tri.rot {w : World} {W : Nat} {F G H : Nat → Prop} {T0 T1 S0 S1 U0 U1 bx by_ bz : Nat} {x y z : RingM} (t : Tri w W F G H T0 T1 S0 S1 U0 U1 bx by_ bz x y z) : Tri w W G H F S0 S1 U0 U1 T0 T1 by_ bz bx y z x := ⟨t.y, t.z, t.x, t.yz, t.xy.symm, t.xz.symm⟩
theorem Tri.first {w w' : World} {W : Nat} {F G H : Nat → Prop} {T0 T1 S0 S1 U0 U1 bx by_ bz : Nat} {x y z x' : RingM} (t : Tri w W F G H T0 T1 S0 S1 U0 U1 bx by_ bz x y z) (hc : Chg F w w') (hx : Held w' W (more F w w') T0 T1 bx x') : Tri w' W (more F w w') G H T0 T1 S0 S1 U0 U1 bx by_ bz x' y z :=
  ⟨hx, t.y.other hc (fun k hk => t.xy k (.inl hk)), t.z.other hc (fun k hk => t.xz k (.inl hk)), t.xy.more (fun k hk => (t.y.lt k hk).2), t.xz.more (fun k hk => (t.z.lt k hk).2), t.yz⟩
/-- A ring reserves. -/
theorem held_reserve {w : World} {W : Nat} {F : Nat → Prop} {T0 T1 br : Nat} {r : RingM} (m : D8) (h : Held w W F T0 T1 br r) (hm : m.ok) :
    Calls Try.prog 9 #[.pointer (some ⟨br, 0, none⟩), .agg #[.int .u8 (m.x0 : Int), .int .u8 (m.x1 : Int), .int .u8 (m.x2 : Int), .int .u8 (m.x3 : Int), .int .u8 (m.x4 : Int), .int .u8 (m.x5 : Int), .int .u8 (m.x6 : Int), .int .u8 (m.x7 : Int)]] w fun e w' => e = .returned (.tuple #[.int .i64 ((r.reserve m).2.1 : Int), .int .i64 ((r.reserve m).2.2 : Int)]) ∧ Chg F w w' ∧ Held w' W (more F w w') T0 T1 br (r.reserve m).1 := by
  obtain ⟨B, hB, a⟩ := h.at_
  refine (reserve_any m a hm a.hB).mono ?_
  rintro e w' ⟨rfl, hc, ha⟩
  exact ⟨rfl, hc, ⟨B, hB, ha⟩⟩
theorem held_new {w u : World} {W : Nat} {F : Nat → Prop} {T0 T1 br : Nat} {r : RingM} (h : RingAt w u.heap.size F T0 T1 br r) (hW : W ≤ u.heap.size) : Held w W F T0 T1 br r := ⟨_, hW, h⟩
end Go.Proofs.Ytmpklplojfjfbaa
