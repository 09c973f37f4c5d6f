/- The walk of All by a book. Conditions: bounds. -/
import Derived.Test.YtepdinfopcohiaaNoY
namespace Go.Proofs.Ytepdinfopcohiaa
open Go.RowKit Go.Lib


def allI (nk ns : Nat) (ms : List Nat) : Int := if nk = 0 ∨ ns ≠ nk then 1 else if ms.length = 0 then 0 else 16
theorem load_dig {w : World} {b : Nat} {d : D8} (h : w.heap[b]? = some (.cells #[.int .u8 (d.x0 : Int), .int .u8 (d.x1 : Int), .int .u8 (d.x2 : Int), .int .u8 (d.x3 : Int), .int .u8 (d.x4 : Int), .int .u8 (d.x5 : Int), .int .u8 (d.x6 : Int), .int .u8 (d.x7 : Int)] 32 (0, 0))) : (Instr.loadAt 32 (.pointer (some ⟨b, 0, none⟩))).run Try.prog w = .ok (.agg #[.int .u8 (d.x0 : Int), .int .u8 (d.x1 : Int), .int .u8 (d.x2 : Int), .int .u8 (d.x3 : Int), .int .u8 (d.x4 : Int), .int .u8 (d.x5 : Int), .int .u8 (d.x6 : Int), .int .u8 (d.x7 : Int)]) w := by
  have x := block_cell h
  have x0 := x 0; have x1 := x 1; have x2 := x 2; have x3 := x 3; have x4 := x 4; have x5 := x 5; have x6 := x 6; have x7 := x 7
  simp at x0 x1 x2 x3 x4 x5 x6 x7
  clear x h
  go_simp
set_option maxRecDepth 100000 in
set_option maxHeartbeats 2000000 in
theorem all_any (B bk mb : Nat) (L : List En) (ks : List D8) (Ak : Option Addr) (nk ck : Nat) (m : D8) (ss : List (List Nat)) (As : Option Addr) (ns cs : Nat) (fs : List Bool) (Af : Option Addr) (nf cf : Nat) (w : World)
    (h : BookAt w B bk mb L) (hlen : L.length < 60000) (hk : Rd w w.heap.size 8 Ak nk (flatD ks)) (hko : ∀ x ∈ ks, x.ok) (hm : m.ok) (hs : SigRd w w.heap.size As ns ss) (hso : ∀ s ∈ ss, s.length ≤ 1000 ∧ ∀ x ∈ s, x < 256)
    (hf : Rd w w.heap.size 1 Af nf (bvB fs)) (hnk : nk ≤ 1000) :
    Calls Try.prog 26 #[.iface 24 (.pointer (some ⟨bk, 0, none⟩)), .slice Ak nk ck, .agg #[.int .u8 (m.x0 : Int), .int .u8 (m.x1 : Int), .int .u8 (m.x2 : Int), .int .u8 (m.x3 : Int), .int .u8 (m.x4 : Int), .int .u8 (m.x5 : Int), .int .u8 (m.x6 : Int), .int .u8 (m.x7 : Int)], .slice As ns cs, .slice Af nf cf] w fun r w' => r = .returned (.int .i64 (allI nk ns (missTo (lacksE L m ks ss fs) nk))) ∧ Below w.heap.size w w' := by
  have hb0 := below_one w (.cells #[.int .u8 (m.x0 : Int), .int .u8 (m.x1 : Int), .int .u8 (m.x2 : Int), .int .u8 (m.x3 : Int), .int .u8 (m.x4 : Int), .int .u8 (m.x5 : Int), .int .u8 (m.x6 : Int), .int .u8 (m.x7 : Int)] 32)
  have HM0 : Hid ((w.alloc (.cells #[.int .u8 (m.x0 : Int), .int .u8 (m.x1 : Int), .int .u8 (m.x2 : Int), .int .u8 (m.x3 : Int), .int .u8 (m.x4 : Int), .int .u8 (m.x5 : Int), .int .u8 (m.x6 : Int), .int .u8 (m.x7 : Int)] 32)).heap[w.heap.size]? = some (.cells #[.int .u8 (m.x0 : Int), .int .u8 (m.x1 : Int), .int .u8 (m.x2 : Int), .int .u8 (m.x3 : Int), .int .u8 (m.x4 : Int), .int .u8 (m.x5 : Int), .int .u8 (m.x6 : Int), .int .u8 (m.x7 : Int)] 32 (0, 0))) := heap_alloc_new w _
  have x := block_cell HM0.out
  have x0 := x 0; have x1 := x 1; have x2 := x 2; have x3 := x 3; have x4 := x 4; have x5 := x 5; have x6 := x 6; have x7 := x 7
  simp at x0 x1 x2 x3 x4 x5 x6 x7
  have hz : w.heap.size < (w.alloc (.cells #[.int .u8 (m.x0 : Int), .int .u8 (m.x1 : Int), .int .u8 (m.x2 : Int), .int .u8 (m.x3 : Int), .int .u8 (m.x4 : Int), .int .u8 (m.x5 : Int), .int .u8 (m.x6 : Int), .int .u8 (m.x7 : Int)] 32)).heap.size := by simp
  have HA : Hid (∀ w0, w0 = w.alloc (.cells #[.int .u8 (m.x0 : Int), .int .u8 (m.x1 : Int), .int .u8 (m.x2 : Int), .int .u8 (m.x3 : Int), .int .u8 (m.x4 : Int), .int .u8 (m.x5 : Int), .int .u8 (m.x6 : Int), .int .u8 (m.x7 : Int)] 32) → Calls Try.prog 24 #[.iface 24 (.pointer (some ⟨bk, 0, none⟩)), .slice Ak nk ck, .agg #[.int .u8 (m.x0 : Int), .int .u8 (m.x1 : Int), .int .u8 (m.x2 : Int), .int .u8 (m.x3 : Int), .int .u8 (m.x4 : Int), .int .u8 (m.x5 : Int), .int .u8 (m.x6 : Int), .int .u8 (m.x7 : Int)], .slice As ns cs, .slice Af nf cf] w0 fun r w' => ∃ A' n' c', r = .returned (.slice A' n' c') ∧ n' = (missTo (lacksE L m ks ss fs) nk).length ∧ Below w.heap.size w w') := by
    rintro w0 rfl
    refine (missing_any B bk mb L ks Ak nk ck m ss As ns cs fs Af nf cf _ (h.below hb0) hlen ((hk.below hb0 (Nat.le_refl _)).more hb0.size) hko hm ((hs.below hb0 (Nat.le_refl _)).more hb0.size) hso ((hf.below hb0 (Nat.le_refl _)).more hb0.size) hnk).mono ?_
    rintro r w' ⟨A', n', c', rfl, ho, hb⟩
    exact ⟨A', n', c', rfl, by have := ho.1; simp [bvI] at this; omega, hb0.trans (hb.mono hb0.size)⟩
  have Hb0 := Lib.hid hb0
  clear x h hk hs hf hko hso hm hb0
  have HA2 := Lib.hid (HA.out _ rfl)
  clear HA
  by_cases hnk0 : nk = 0
  · subst hnk0
    clear HA2
    go_enter Try.func26, Try.ntmps26
    go_wp2
    go_ret
    exact ⟨by simp [allI], Hb0.out⟩
  have e1 : ((nk : Int) == 0) = false := by simp; omega
  have e2 : decide ((nk : Int) = 0) = false := decide_eq_false (by omega)
  have e3 : decide (nk = 0) = false := decide_eq_false hnk0
  by_cases hns : ns = nk
  · subst hns
    have e4 : ((ns : Int) != (ns : Int)) = false := by simp
    go_enter Try.func26, Try.ntmps26
    go_wp2_with fail
    refine HA2.out.mono ?_
    rintro r v1 ⟨A1, n1, c1, rfl, hn1, hb1⟩
    have Hb1 := Lib.hid hb1
    by_cases h0 : n1 = 0
    · have Hr : Hid (allI ns ns (missTo (lacksE L m ks ss fs) ns) = 0) := by
        show _ = _
        unfold allI
        rw [if_neg (by omega), if_pos (by omega)]
      subst h0
      clear hn1
      go_wp2
      go_ret
      exact ⟨by rw [Hr.out]; rfl, Hb1.out⟩
    · have Hr : Hid (allI ns ns (missTo (lacksE L m ks ss fs) ns) = 16) := by
        show _ = _
        unfold allI
        rw [if_neg (by omega), if_neg (by omega)]
      have e5 : decide ((0 : Int) < (n1 : Int)) = true := decide_eq_true (by omega)
      clear hn1
      go_wp2
      go_ret
      exact ⟨by rw [Hr.out]; rfl, Hb1.out⟩
  · have e4 : ((ns : Int) != (nk : Int)) = true := by simp; omega
    clear HA2
    go_enter Try.func26, Try.ntmps26
    go_wp2
    go_ret
    exact ⟨by simp [allI, hns], Hb0.out⟩
end Go.Proofs.Ytepdinfopcohiaa
