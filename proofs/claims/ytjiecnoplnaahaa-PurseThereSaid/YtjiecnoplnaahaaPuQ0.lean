/- A purse handed back as one in memory; what is paid at a height has bounds. Conditions: bounds. -/
import Derived.Test.YtjiecnoplnaahaaPuP
import Derived.Test.YtjiecnoplnaahaaPuK
namespace Go.Proofs.Ytjiecnoplnaahaa
open Go.RowKit Go.Lib

def AtPu (p : Pu) (w : World) (e : Ending) (w' : World) : Prop := ∃ A n c, e = .returned (.agg #[.int .u8 (p.nm.x0 : Int), .int .u8 (p.nm.x1 : Int), .int .u8 (p.nm.x2 : Int), .int .u8 (p.nm.x3 : Int), .int .u8 (p.nm.x4 : Int), .int .u8 (p.nm.x5 : Int), .int .u8 (p.nm.x6 : Int), .int .u8 (p.nm.x7 : Int), .int .i64 p.no, .int .i64 p.h0, .int .i64 p.h1, .slice A n c]) ∧ PuV.At p A n c w' ∧ Below w.heap.size w w'
theorem ownsRow_cap {w : World} {base : Nat} {te : TypeId} {A : Option Addr} {n c : Nat} {l : List Hd} (ho : w.ownsRow base te 11 (.slice A n c) n (flatH l)) : n ≤ c ∧ l.length = n := by
  refine ⟨?_, by have := ho.1; rw [flatH_len] at this; omega⟩
  rcases ho.2 with ⟨hv, hn⟩ | ⟨_, cap, _, hv, _, _, hn, _⟩
  · omega
  · injection hv with _ _ h3; omega
theorem atPu {te : TypeId} {p : Pu} {w : World} {e : Ending} {w' : World} (h : GivesPu te p w e w') (hl : p.held.length ≤ 1000000) : AtPu p w e w' := by
  obtain ⟨A, n, c, he, ho, hb⟩ := h
  obtain ⟨h1, h2⟩ := ownsRow_cap ho
  exact ⟨A, n, c, he, ⟨Rd.of_own ho, h1, by omega⟩, hb⟩
theorem pays_some (p : Pu) (now : Int) : (0 ≤ (p.pays now).1 ∧ (p.pays now).1 ≤ 20000000000000000) ∧ (0 ≤ (p.pays now).2.1 ∧ (p.pays now).2.1 ≤ 20000000000000000) ∧ (0 ≤ (p.pays now).2.2 ∧ (p.pays now).2.2 ≤ 20000000000000000) := by
  unfold Pu.pays
  by_cases h : p.check = 0
  · rw [if_pos h]
    obtain ⟨_, k1, k2, k3, k4, _⟩ := check_ok h
    have := paysK_bound k4 now (p.h0, p.h1, 0) ⟨k1, k2, rfl⟩ p.held.length (Nat.le_refl _)
    rw [List.take_length] at this
    have h2 : ((p.held.length : Int) + 1) * 1125899906842624 ≤ 20000000000000000 := by omega
    omega
  · rw [if_neg h]; simp
end Go.Proofs.Ytjiecnoplnaahaa
