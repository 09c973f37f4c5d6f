/- The walk of KeysVerifies. Condition: none. -/
import Derived.Test.YtmpklplojfjfbaaGreatDoorJoinU
namespace Go.Proofs.YtmpklplojfjfbaaGreatDoor
open Go.RowKit Go.Lib





theorem rd_set {w : World} {g n y mm : Nat} {cur : Array Value} {e : TypeId} {l : List Nat} (h : w.heap[g]? = some (.cells cur e (0, 0))) (hl : (bv l).length = n * 1) (hc : cur.toList.take (n * 1) = bv l) (hm : mm < n) (hg : g < w.heap.size) :
    Rd (w.setCell ⟨g, mm, none⟩ (.int .u8 (y : Int))) w.heap.size 1 (some ⟨g, 0, none⟩) n (bv (l.set mm y)) := by
  have hset := Joins.block_setCell (i := mm) h (.int .u8 (y : Int))
  have hlen : l.length = n := by rw [bv_len] at hl; omega
  refine ⟨by rw [bv_len, List.length_set]; omega, fun _ => ⟨g, 0, rfl, hg, fun j u hj => ?_⟩⟩
  have hjn : j < n := by
    have := (List.getElem?_eq_some_iff.1 hj).1
    rw [bv_len, List.length_set] at this; omega
  have h1 := block_cell hset j
  rw [Nat.zero_add, h1]
  have h2 : cur[j]? = (bv l)[j]? := by
    rw [← hc, List.getElem?_take, if_pos (by omega)]; simp
  have hsz : mm < cur.size := by
    have := congrArg List.length hc
    rw [List.length_take, hl, Array.length_toList] at this; omega
  by_cases hjm : mm = j
  · subst hjm
    simp [bv, hlen, hm] at hj
    simp [hsz, ← hj]
  · simp only [bv, List.getElem?_map, List.getElem?_set, if_neg hjm] at hj
    rw [Array.getElem?_setIfInBounds_ne hjm, h2]
    simpa [bv] using hj
theorem own_parts {w : World} {B n c : Nat} {A : Option Addr} {x : List Nat} (h : w.ownsRow B 5 1 (.slice A n c) n (bv x)) (hn : 0 < n) : ∃ g cur, A = some ⟨g, 0, none⟩ ∧ B ≤ g ∧ w.heap[g]? = some (.cells cur 5 (0, 0)) ∧ n ≤ c ∧ n ≤ cur.size ∧ cur.toList.take (n * 1) = bv x := by
  rcases h.2 with ⟨_, h2⟩ | ⟨g, cap, cur, hv, hb, hg, hle, _, hcs, hx⟩
  · omega
  · injection hv with e1 e2 e3
    subst e3
    exact ⟨g, cur, e1, hb, hg, hle, by omega, hx⟩
theorem xor_u8 (x y : Nat) : ∃ z : Nat, bits .xor .u8 (x : Int) (y : Int) = (z : Int) ∧ z < 256 := by
  have h := wf_bits .xor .u8 (x : Int) (y : Int)
  simp [Lit.wf, show IntKind.u8.min = 0 from rfl, show IntKind.u8.max = 255 from rfl] at h
  obtain ⟨z, hz⟩ := Int.eq_ofNat_of_zero_le h.1
  exact ⟨z, hz, by omega⟩
theorem sign_new {s m : D8} {h : Nat} : ((RingM.mk s h []).sign m).2.2 = 0 ∧ 0 < ((RingM.mk s h []).sign m).2.1.length := by
  have hr : (RingM.mk s h []).reserve m = (⟨s, h, [m]⟩, 0, 0) := by
    unfold RingM.reserve
    have hp : posD [] m = none := rfl
    simp only [hp]
    rw [if_neg (show ¬ (([] : List D8).length = 2 ^ h) from fun e => by
      have h1 := Nat.one_le_two_pow (n := h)
      rw [← e] at h1
      exact absurd h1 (by decide))]
    rfl
  unfold RingM.sign
  simp only [hr, if_true]
  refine ⟨trivial, ?_⟩
  unfold RingM.sigB
  rw [List.length_append, List.length_append, onceB_len]
  omega
set_option maxRecDepth 100000 in
set_option maxHeartbeats 8000000 in
theorem kver_any (s : D8) (h : Nat) (m ot pu : D8) (A : Option Addr) (n c : Nat) (l : List Nat) (at_ by_ : Nat) (w : World) (hs : s.ok) (hh : h < 256) (hm : m.ok) (hot : ot.ok) (hpu : pu.ok) (hr : Rd w w.heap.size 1 A n (bv l)) (hnc : n ≤ c) (hlt : ∀ x ∈ l, x < 256) (_hat : at_ < 65536) (_hby : by_ < 256) :
    Calls Tryz.prog 3 #[.agg #[.int .u8 (s.x0 : Int), .int .u8 (s.x1 : Int), .int .u8 (s.x2 : Int), .int .u8 (s.x3 : Int), .int .u8 (s.x4 : Int), .int .u8 (s.x5 : Int), .int .u8 (s.x6 : Int), .int .u8 (s.x7 : Int)], .int .u8 (h : Int), .agg #[.int .u8 (m.x0 : Int), .int .u8 (m.x1 : Int), .int .u8 (m.x2 : Int), .int .u8 (m.x3 : Int), .int .u8 (m.x4 : Int), .int .u8 (m.x5 : Int), .int .u8 (m.x6 : Int), .int .u8 (m.x7 : Int)], .agg #[.int .u8 (ot.x0 : Int), .int .u8 (ot.x1 : Int), .int .u8 (ot.x2 : Int), .int .u8 (ot.x3 : Int), .int .u8 (ot.x4 : Int), .int .u8 (ot.x5 : Int), .int .u8 (ot.x6 : Int), .int .u8 (ot.x7 : Int)], .agg #[.int .u8 (pu.x0 : Int), .int .u8 (pu.x1 : Int), .int .u8 (pu.x2 : Int), .int .u8 (pu.x3 : Int), .int .u8 (pu.x4 : Int), .int .u8 (pu.x5 : Int), .int .u8 (pu.x6 : Int), .int .u8 (pu.x7 : Int)], .slice A n c, .int .u16 (at_ : Int), .int .u8 (by_ : Int)] w fun e w' => e = .returned (.bool true) ∧ Below w.heap.size w w' := by
  have Hs := Lib.hid hs; have Hm := Lib.hid hm; have Hot := Lib.hid hot; have Hpu := Lib.hid hpu; have Hr := Lib.hid hr; have Hlt := Lib.hid hlt
  have H0 : Hid ((((w.alloc (.cells #[.int .u8 (s.x0 : Int), .int .u8 (s.x1 : Int), .int .u8 (s.x2 : Int), .int .u8 (s.x3 : Int), .int .u8 (s.x4 : Int), .int .u8 (s.x5 : Int), .int .u8 (s.x6 : Int), .int .u8 (s.x7 : Int)] 22)).alloc (.cells #[.int .u8 (m.x0 : Int), .int .u8 (m.x1 : Int), .int .u8 (m.x2 : Int), .int .u8 (m.x3 : Int), .int .u8 (m.x4 : Int), .int .u8 (m.x5 : Int), .int .u8 (m.x6 : Int), .int .u8 (m.x7 : Int)] 22)).alloc (.cells #[.int .u8 (ot.x0 : Int), .int .u8 (ot.x1 : Int), .int .u8 (ot.x2 : Int), .int .u8 (ot.x3 : Int), .int .u8 (ot.x4 : Int), .int .u8 (ot.x5 : Int), .int .u8 (ot.x6 : Int), .int .u8 (ot.x7 : Int)] 22)).alloc (.cells #[.int .u8 (pu.x0 : Int), .int .u8 (pu.x1 : Int), .int .u8 (pu.x2 : Int), .int .u8 (pu.x3 : Int), .int .u8 (pu.x4 : Int), .int .u8 (pu.x5 : Int), .int .u8 (pu.x6 : Int), .int .u8 (pu.x7 : Int)] 22) |>.heap[w.heap.size]? = some (.cells #[.int .u8 (s.x0 : Int), .int .u8 (s.x1 : Int), .int .u8 (s.x2 : Int), .int .u8 (s.x3 : Int), .int .u8 (s.x4 : Int), .int .u8 (s.x5 : Int), .int .u8 (s.x6 : Int), .int .u8 (s.x7 : Int)] 22 (0, 0))) := by
    have h1 : (w.alloc (.cells #[.int .u8 (s.x0 : Int), .int .u8 (s.x1 : Int), .int .u8 (s.x2 : Int), .int .u8 (s.x3 : Int), .int .u8 (s.x4 : Int), .int .u8 (s.x5 : Int), .int .u8 (s.x6 : Int), .int .u8 (s.x7 : Int)] 22)).heap[w.heap.size]? = some (.cells #[.int .u8 (s.x0 : Int), .int .u8 (s.x1 : Int), .int .u8 (s.x2 : Int), .int .u8 (s.x3 : Int), .int .u8 (s.x4 : Int), .int .u8 (s.x5 : Int), .int .u8 (s.x6 : Int), .int .u8 (s.x7 : Int)] 22 (0, 0)) := heap_alloc_new w _
    exact Lib.hid (block_alloc (block_alloc (block_alloc h1 _) _) _)
  have H1 : Hid ((((w.alloc (.cells #[.int .u8 (s.x0 : Int), .int .u8 (s.x1 : Int), .int .u8 (s.x2 : Int), .int .u8 (s.x3 : Int), .int .u8 (s.x4 : Int), .int .u8 (s.x5 : Int), .int .u8 (s.x6 : Int), .int .u8 (s.x7 : Int)] 22)).alloc (.cells #[.int .u8 (m.x0 : Int), .int .u8 (m.x1 : Int), .int .u8 (m.x2 : Int), .int .u8 (m.x3 : Int), .int .u8 (m.x4 : Int), .int .u8 (m.x5 : Int), .int .u8 (m.x6 : Int), .int .u8 (m.x7 : Int)] 22)).alloc (.cells #[.int .u8 (ot.x0 : Int), .int .u8 (ot.x1 : Int), .int .u8 (ot.x2 : Int), .int .u8 (ot.x3 : Int), .int .u8 (ot.x4 : Int), .int .u8 (ot.x5 : Int), .int .u8 (ot.x6 : Int), .int .u8 (ot.x7 : Int)] 22)).alloc (.cells #[.int .u8 (pu.x0 : Int), .int .u8 (pu.x1 : Int), .int .u8 (pu.x2 : Int), .int .u8 (pu.x3 : Int), .int .u8 (pu.x4 : Int), .int .u8 (pu.x5 : Int), .int .u8 (pu.x6 : Int), .int .u8 (pu.x7 : Int)] 22) |>.heap[w.heap.size + 1]? = some (.cells #[.int .u8 (m.x0 : Int), .int .u8 (m.x1 : Int), .int .u8 (m.x2 : Int), .int .u8 (m.x3 : Int), .int .u8 (m.x4 : Int), .int .u8 (m.x5 : Int), .int .u8 (m.x6 : Int), .int .u8 (m.x7 : Int)] 22 (0, 0))) := by
    have h1 : ((w.alloc (.cells #[.int .u8 (s.x0 : Int), .int .u8 (s.x1 : Int), .int .u8 (s.x2 : Int), .int .u8 (s.x3 : Int), .int .u8 (s.x4 : Int), .int .u8 (s.x5 : Int), .int .u8 (s.x6 : Int), .int .u8 (s.x7 : Int)] 22)).alloc (.cells #[.int .u8 (m.x0 : Int), .int .u8 (m.x1 : Int), .int .u8 (m.x2 : Int), .int .u8 (m.x3 : Int), .int .u8 (m.x4 : Int), .int .u8 (m.x5 : Int), .int .u8 (m.x6 : Int), .int .u8 (m.x7 : Int)] 22)).heap[w.heap.size + 1]? = some (.cells #[.int .u8 (m.x0 : Int), .int .u8 (m.x1 : Int), .int .u8 (m.x2 : Int), .int .u8 (m.x3 : Int), .int .u8 (m.x4 : Int), .int .u8 (m.x5 : Int), .int .u8 (m.x6 : Int), .int .u8 (m.x7 : Int)] 22 (0, 0)) := h_at (by simp)
    exact Lib.hid (block_alloc (block_alloc h1 _) _)
  have H2 : Hid ((((w.alloc (.cells #[.int .u8 (s.x0 : Int), .int .u8 (s.x1 : Int), .int .u8 (s.x2 : Int), .int .u8 (s.x3 : Int), .int .u8 (s.x4 : Int), .int .u8 (s.x5 : Int), .int .u8 (s.x6 : Int), .int .u8 (s.x7 : Int)] 22)).alloc (.cells #[.int .u8 (m.x0 : Int), .int .u8 (m.x1 : Int), .int .u8 (m.x2 : Int), .int .u8 (m.x3 : Int), .int .u8 (m.x4 : Int), .int .u8 (m.x5 : Int), .int .u8 (m.x6 : Int), .int .u8 (m.x7 : Int)] 22)).alloc (.cells #[.int .u8 (ot.x0 : Int), .int .u8 (ot.x1 : Int), .int .u8 (ot.x2 : Int), .int .u8 (ot.x3 : Int), .int .u8 (ot.x4 : Int), .int .u8 (ot.x5 : Int), .int .u8 (ot.x6 : Int), .int .u8 (ot.x7 : Int)] 22)).alloc (.cells #[.int .u8 (pu.x0 : Int), .int .u8 (pu.x1 : Int), .int .u8 (pu.x2 : Int), .int .u8 (pu.x3 : Int), .int .u8 (pu.x4 : Int), .int .u8 (pu.x5 : Int), .int .u8 (pu.x6 : Int), .int .u8 (pu.x7 : Int)] 22) |>.heap[w.heap.size + 1 + 1]? = some (.cells #[.int .u8 (ot.x0 : Int), .int .u8 (ot.x1 : Int), .int .u8 (ot.x2 : Int), .int .u8 (ot.x3 : Int), .int .u8 (ot.x4 : Int), .int .u8 (ot.x5 : Int), .int .u8 (ot.x6 : Int), .int .u8 (ot.x7 : Int)] 22 (0, 0))) := by
    have h1 : (((w.alloc (.cells #[.int .u8 (s.x0 : Int), .int .u8 (s.x1 : Int), .int .u8 (s.x2 : Int), .int .u8 (s.x3 : Int), .int .u8 (s.x4 : Int), .int .u8 (s.x5 : Int), .int .u8 (s.x6 : Int), .int .u8 (s.x7 : Int)] 22)).alloc (.cells #[.int .u8 (m.x0 : Int), .int .u8 (m.x1 : Int), .int .u8 (m.x2 : Int), .int .u8 (m.x3 : Int), .int .u8 (m.x4 : Int), .int .u8 (m.x5 : Int), .int .u8 (m.x6 : Int), .int .u8 (m.x7 : Int)] 22)).alloc (.cells #[.int .u8 (ot.x0 : Int), .int .u8 (ot.x1 : Int), .int .u8 (ot.x2 : Int), .int .u8 (ot.x3 : Int), .int .u8 (ot.x4 : Int), .int .u8 (ot.x5 : Int), .int .u8 (ot.x6 : Int), .int .u8 (ot.x7 : Int)] 22)).heap[w.heap.size + 1 + 1]? = some (.cells #[.int .u8 (ot.x0 : Int), .int .u8 (ot.x1 : Int), .int .u8 (ot.x2 : Int), .int .u8 (ot.x3 : Int), .int .u8 (ot.x4 : Int), .int .u8 (ot.x5 : Int), .int .u8 (ot.x6 : Int), .int .u8 (ot.x7 : Int)] 22 (0, 0)) := h_at (by simp)
    exact Lib.hid (block_alloc h1 _)
  have H3 : Hid ((((w.alloc (.cells #[.int .u8 (s.x0 : Int), .int .u8 (s.x1 : Int), .int .u8 (s.x2 : Int), .int .u8 (s.x3 : Int), .int .u8 (s.x4 : Int), .int .u8 (s.x5 : Int), .int .u8 (s.x6 : Int), .int .u8 (s.x7 : Int)] 22)).alloc (.cells #[.int .u8 (m.x0 : Int), .int .u8 (m.x1 : Int), .int .u8 (m.x2 : Int), .int .u8 (m.x3 : Int), .int .u8 (m.x4 : Int), .int .u8 (m.x5 : Int), .int .u8 (m.x6 : Int), .int .u8 (m.x7 : Int)] 22)).alloc (.cells #[.int .u8 (ot.x0 : Int), .int .u8 (ot.x1 : Int), .int .u8 (ot.x2 : Int), .int .u8 (ot.x3 : Int), .int .u8 (ot.x4 : Int), .int .u8 (ot.x5 : Int), .int .u8 (ot.x6 : Int), .int .u8 (ot.x7 : Int)] 22)).alloc (.cells #[.int .u8 (pu.x0 : Int), .int .u8 (pu.x1 : Int), .int .u8 (pu.x2 : Int), .int .u8 (pu.x3 : Int), .int .u8 (pu.x4 : Int), .int .u8 (pu.x5 : Int), .int .u8 (pu.x6 : Int), .int .u8 (pu.x7 : Int)] 22) |>.heap[w.heap.size + 1 + 1 + 1]? = some (.cells #[.int .u8 (pu.x0 : Int), .int .u8 (pu.x1 : Int), .int .u8 (pu.x2 : Int), .int .u8 (pu.x3 : Int), .int .u8 (pu.x4 : Int), .int .u8 (pu.x5 : Int), .int .u8 (pu.x6 : Int), .int .u8 (pu.x7 : Int)] 22 (0, 0))) := Lib.hid (h_at (by simp))
  have Hw0 : Hid (Below w.heap.size w ((((w.alloc (.cells #[.int .u8 (s.x0 : Int), .int .u8 (s.x1 : Int), .int .u8 (s.x2 : Int), .int .u8 (s.x3 : Int), .int .u8 (s.x4 : Int), .int .u8 (s.x5 : Int), .int .u8 (s.x6 : Int), .int .u8 (s.x7 : Int)] 22)).alloc (.cells #[.int .u8 (m.x0 : Int), .int .u8 (m.x1 : Int), .int .u8 (m.x2 : Int), .int .u8 (m.x3 : Int), .int .u8 (m.x4 : Int), .int .u8 (m.x5 : Int), .int .u8 (m.x6 : Int), .int .u8 (m.x7 : Int)] 22)).alloc (.cells #[.int .u8 (ot.x0 : Int), .int .u8 (ot.x1 : Int), .int .u8 (ot.x2 : Int), .int .u8 (ot.x3 : Int), .int .u8 (ot.x4 : Int), .int .u8 (ot.x5 : Int), .int .u8 (ot.x6 : Int), .int .u8 (ot.x7 : Int)] 22)).alloc (.cells #[.int .u8 (pu.x0 : Int), .int .u8 (pu.x1 : Int), .int .u8 (pu.x2 : Int), .int .u8 (pu.x3 : Int), .int .u8 (pu.x4 : Int), .int .u8 (pu.x5 : Int), .int .u8 (pu.x6 : Int), .int .u8 (pu.x7 : Int)] 22))) := Lib.hid (((((Below.refl _ _).alloc (Nat.le_refl _) _).alloc (by simp) _).alloc (by simp; omega) _).alloc (by simp; omega) _)
  clear hs hm hot hpu hr hlt
  by_cases hbig : 400 < n
  · have hd0 : decide ((400 : Int) < (n : Int)) = true := decide_eq_true (by omega)
    clear hbig
    go_enter Tryz.func3, Tryz.ntmps3
    go_upto_region 1 with fail
    generalize (((w.alloc (.cells #[.int .u8 (s.x0 : Int), .int .u8 (s.x1 : Int), .int .u8 (s.x2 : Int), .int .u8 (s.x3 : Int), .int .u8 (s.x4 : Int), .int .u8 (s.x5 : Int), .int .u8 (s.x6 : Int), .int .u8 (s.x7 : Int)] 22)).alloc (.cells #[.int .u8 (m.x0 : Int), .int .u8 (m.x1 : Int), .int .u8 (m.x2 : Int), .int .u8 (m.x3 : Int), .int .u8 (m.x4 : Int), .int .u8 (m.x5 : Int), .int .u8 (m.x6 : Int), .int .u8 (m.x7 : Int)] 22)).alloc (.cells #[.int .u8 (ot.x0 : Int), .int .u8 (ot.x1 : Int), .int .u8 (ot.x2 : Int), .int .u8 (ot.x3 : Int), .int .u8 (ot.x4 : Int), .int .u8 (ot.x5 : Int), .int .u8 (ot.x6 : Int), .int .u8 (ot.x7 : Int)] 22)).alloc (.cells #[.int .u8 (pu.x0 : Int), .int .u8 (pu.x1 : Int), .int .u8 (pu.x2 : Int), .int .u8 (pu.x3 : Int), .int .u8 (pu.x4 : Int), .int .u8 (pu.x5 : Int), .int .u8 (pu.x6 : Int), .int .u8 (pu.x7 : Int)] 22) = w1 at *
    go_wp2_with fail
    refine (known_any w1).mono ?_
    rintro e w2 ⟨rfl, hb2⟩
    have Hw2 := Lib.hid (Hw0.out.trans (hb2.mono Hw0.out.size))
    clear hb2
    go_wp2_with fail
    refine (known_any w2).mono ?_
    rintro e w3 ⟨rfl, hb3⟩
    have Hw3 := Lib.hid (Hw2.out.trans (hb3.mono Hw2.out.size))
    clear hb3
    go_wp2
    go_ret
    exact ⟨rfl, Hw3.out⟩
  have hd0 : decide ((400 : Int) < (n : Int)) = false := decide_eq_false (by omega)
  have hn : n ≤ 400 := by omega
  clear hbig
  obtain ⟨q, hq⟩ : ∃ q, q = h % 4 := ⟨_, rfl⟩
  have e4 : (h : Int) % 4 = (q : Int) := by omega
  have hq4 : q ≤ 3 := by omega
  clear hq
  go_enter Tryz.func3, Tryz.ntmps3
  go_upto_region 1 with fail
  generalize (((w.alloc (.cells #[.int .u8 (s.x0 : Int), .int .u8 (s.x1 : Int), .int .u8 (s.x2 : Int), .int .u8 (s.x3 : Int), .int .u8 (s.x4 : Int), .int .u8 (s.x5 : Int), .int .u8 (s.x6 : Int), .int .u8 (s.x7 : Int)] 22)).alloc (.cells #[.int .u8 (m.x0 : Int), .int .u8 (m.x1 : Int), .int .u8 (m.x2 : Int), .int .u8 (m.x3 : Int), .int .u8 (m.x4 : Int), .int .u8 (m.x5 : Int), .int .u8 (m.x6 : Int), .int .u8 (m.x7 : Int)] 22)).alloc (.cells #[.int .u8 (ot.x0 : Int), .int .u8 (ot.x1 : Int), .int .u8 (ot.x2 : Int), .int .u8 (ot.x3 : Int), .int .u8 (ot.x4 : Int), .int .u8 (ot.x5 : Int), .int .u8 (ot.x6 : Int), .int .u8 (ot.x7 : Int)] 22)).alloc (.cells #[.int .u8 (pu.x0 : Int), .int .u8 (pu.x1 : Int), .int .u8 (pu.x2 : Int), .int .u8 (pu.x3 : Int), .int .u8 (pu.x4 : Int), .int .u8 (pu.x5 : Int), .int .u8 (pu.x6 : Int), .int .u8 (pu.x7 : Int)] 22) = w1 at *
  go_wp2_with fail
  refine (known_any w1).mono ?_
  rintro e w2 ⟨rfl, hb2⟩
  have Hw2 := Lib.hid (Hw0.out.trans (hb2.mono Hw0.out.size)); have HS2 := Lib.hid (block_below H0.out hb2 (block_lt H0.out)); have HM2 := Lib.hid (block_below H1.out hb2 (block_lt H1.out)); have HO2 := Lib.hid (block_below H2.out hb2 (block_lt H2.out)); have HP2 := Lib.hid (block_below H3.out hb2 (block_lt H3.out))
  clear hb2 H0 H1 H2 H3 Hw0
  have hls := block_lt HS2.out
  obtain ⟨zf, x0, x1, x2, x3, x4, x5, x6, x7⟩ := free8 HS2.out
  clear zf
  have HQ3 : Hid ((w2.alloc (.cells #[.int .u8 (s.x0 : Int), .int .u8 (s.x1 : Int), .int .u8 (s.x2 : Int), .int .u8 (s.x3 : Int), .int .u8 (s.x4 : Int), .int .u8 (s.x5 : Int), .int .u8 (s.x6 : Int), .int .u8 (s.x7 : Int), .int .i64 (q : Int), (.slice none 0 0)] 28)).heap[w2.heap.size]? = some (.cells #[.int .u8 (s.x0 : Int), .int .u8 (s.x1 : Int), .int .u8 (s.x2 : Int), .int .u8 (s.x3 : Int), .int .u8 (s.x4 : Int), .int .u8 (s.x5 : Int), .int .u8 (s.x6 : Int), .int .u8 (s.x7 : Int), .int .i64 (q : Int), (.slice none 0 0)] 28 (0, 0))) := heap_alloc_new w2 _
  have hba := h_one w2 (.cells #[.int .u8 (s.x0 : Int), .int .u8 (s.x1 : Int), .int .u8 (s.x2 : Int), .int .u8 (s.x3 : Int), .int .u8 (s.x4 : Int), .int .u8 (s.x5 : Int), .int .u8 (s.x6 : Int), .int .u8 (s.x7 : Int), .int .i64 (q : Int), (.slice none 0 0)] 28)
  have HM3 := Lib.hid (block_below HM2.out hba (block_lt HM2.out)); have HO3 := Lib.hid (block_below HO2.out hba (block_lt HO2.out)); have HP3 := Lib.hid (block_below HP2.out hba (block_lt HP2.out)); have Hw3 := Lib.hid (Hw2.out.trans (hba.mono Hw2.out.size))
  clear hba
  go_upto_region 4 with fail
  simp only [e4]
  generalize w2.alloc (.cells #[.int .u8 (s.x0 : Int), .int .u8 (s.x1 : Int), .int .u8 (s.x2 : Int), .int .u8 (s.x3 : Int), .int .u8 (s.x4 : Int), .int .u8 (s.x5 : Int), .int .u8 (s.x6 : Int), .int .u8 (s.x7 : Int), .int .i64 (q : Int), (.slice none 0 0)] 28) = w3 at *
  generalize w2.heap.size = bd at *
  clear x0 x1 x2 x3 x4 x5 x6 x7 hls HS2 HM2 HO2 HP2 Hw2
  obtain ⟨zf, r0, r1, r2, r3, r4, r5, r6, r7, r8, r9⟩ := free10 HQ3.out
  obtain ⟨zg, y0, y1, y2, y3, y4, y5, y6, y7⟩ := free8 HM3.out
  have hl1 := block_lt HQ3.out; have hl2 := block_lt HM3.out
  clear zf zg
  have hp1 := (pow_le8 (show q ≤ 8 by omega)).1
  have HSG := Lib.hid (signr_any s q none 0 0 [] m w3 Rd.empty ⟨Hs.out, (by omega : q ≤ 8), List.nodup_nil, fun d hd => by simp at hd, Nat.zero_le _⟩ Hm.out (fun ad e => by cases e))
  have Hok0 : Hid (RingM.mk s q []).ok := Lib.hid ⟨Hs.out, (by omega : q ≤ 8), List.nodup_nil, fun d hd => by simp at hd, Nat.zero_le _⟩
  have hsn := sign_new (s := s) (m := m) (h := q)
  have hsl := sign_lt Hok0.out m; have hsg := sign_len Hok0.out m
  clear hp1
  go_wp2_with fail
  refine HSG.out.mono ?_
  rintro e w4 ⟨A4, n4, c4, As, ns, cs, rfl, hr4, hos, hns, hb4, hf4⟩
  have HM4 := Lib.hid (block_below HM3.out hb4 hl2); have HQ4 := Lib.hid (block_below HQ3.out hb4 hl1); have HO4 := Lib.hid (block_below HO3.out hb4 (block_lt HO3.out)); have HP4 := Lib.hid (block_below HP3.out hb4 (block_lt HP3.out)); have Hw4 := Lib.hid (Hw3.out.trans (hb4.mono Hw3.out.size))
  have HB3 := Lib.hid Hw3.out.size
  generalize (RingM.mk s q []).sign m = sg at *
  obtain ⟨rn, sb, er⟩ := sg
  simp only at hos hns hsn hsl hsg hr4 ⊢
  obtain ⟨rfl, hsb0⟩ := hsn
  have hns0 : 0 < ns := by omega
  have hns2 : ns ≤ 219 := by omega
  have HOs := Lib.hid hos; have Hsl := Lib.hid hsl; have Hns := Lib.hid hns
  clear hr4 hos hns hb4 hf4 r0 r1 r2 r3 r4 r5 r6 r7 r8 r9 y0 y1 y2 y3 y4 y5 y6 y7 hl1 hl2 HM3 HQ3 HO3 HP3 Hw3 hsl hsg hsb0 HSG
  generalize w3.heap.size = B3 at *
  have hba := h_one w4 (.cells #[.int .u8 (s.x0 : Int), .int .u8 (s.x1 : Int), .int .u8 (s.x2 : Int), .int .u8 (s.x3 : Int), .int .u8 (s.x4 : Int), .int .u8 (s.x5 : Int), .int .u8 (s.x6 : Int), .int .u8 (s.x7 : Int), .int .i64 (q : Int), (.slice A4 n4 c4)] 28)
  have HM5 := Lib.hid (block_below HM4.out hba (block_lt HM4.out)); have HQ5 := Lib.hid (block_below HQ4.out hba (block_lt HQ4.out)); have HO5 := Lib.hid (block_below HO4.out hba (block_lt HO4.out)); have HP5 := Lib.hid (block_below HP4.out hba (block_lt HP4.out)); have Hw5 := Lib.hid (Hw4.out.trans (hba.mono Hw4.out.size)); have HOs5 := Lib.hid (own_below HOs.out hba)
  have hn0 : ((ns : Int) == 0) = false := by simp; omega
  have hn1 : decide ((ns : Int) = 0) = false := decide_eq_false (by omega)
  have hn2 : decide (ns = 0) = false := decide_eq_false (by omega)
  obtain ⟨mm, hmm⟩ : ∃ mm, mm = at_ % ns := ⟨_, rfl⟩
  have hmi : (at_ : Int) % (ns : Int) = (mm : Int) := by rw [hmm]; exact (Int.natCast_emod at_ ns).symm
  have hml : mm < ns := by rw [hmm]; exact Nat.mod_lt _ hns0
  have hmli : (mm : Int) < (ns : Int) := by omega
  clear hba hmm HM4 HQ4 HO4 HP4 Hw4 HOs
  go_upto_region 5 with fail
  generalize w4.alloc (.cells #[.int .u8 (s.x0 : Int), .int .u8 (s.x1 : Int), .int .u8 (s.x2 : Int), .int .u8 (s.x3 : Int), .int .u8 (s.x4 : Int), .int .u8 (s.x5 : Int), .int .u8 (s.x6 : Int), .int .u8 (s.x7 : Int), .int .i64 (q : Int), (.slice A4 n4 c4)] 28) = w5 at *
  obtain ⟨g, cur, rfl, hgB, hg, hcs, hcz, hcx⟩ := own_parts HOs5.out hns0
  obtain ⟨bx, hbx⟩ : ∃ bx, bx = sb.getD mm 0 := ⟨_, rfl⟩
  have hrs := Rd.of_own HOs5.out
  obtain ⟨b', o', hA', hb', hcc⟩ := hrs.byte (k := mm) hml
  injection hA' with hA'
  injection hA' with hg1 hg2
  subst hg1; subst hg2
  rw [← hbx, Nat.zero_add] at hcc
  obtain ⟨vx, hvx, hvl⟩ := xor_u8 bx by_
  have hfz := block_free hg
  have hlg := block_lt hg
  have h6 := rd_set (y := vx) (mm := mm) hg (by rw [bv_len, ← Hns.out]; omega) hcx hml hlg
  have g6 := grown_set1 w5 g mm (.int .u8 (vx : Int))
  have hgw : w.heap.size ≤ g := Nat.le_trans HB3.out hgB
  have hg1 : g ≠ w.heap.size + 1 := fun e => by subst e; rw [HM5.out] at hg; cases hg
  have hgd : g ≠ bd := fun e => by subst e; rw [HQ5.out] at hg; cases hg
  have hg2 : g ≠ w.heap.size + 1 + 1 := fun e => by subst e; rw [HO5.out] at hg; cases hg
  have hg3 : g ≠ w.heap.size + 1 + 1 + 1 := fun e => by subst e; rw [HP5.out] at hg; cases hg
  have HM6 := Lib.hid ((g6.block _ (block_lt HM5.out) (by intro e; injection e with e; exact hg1 e.symm)).trans HM5.out); have HQ6 := Lib.hid ((g6.block _ (block_lt HQ5.out) (by intro e; injection e with e; exact hgd e.symm)).trans HQ5.out); have HO6 := Lib.hid ((g6.block _ (block_lt HO5.out) (by intro e; injection e with e; exact hg2 e.symm)).trans HO5.out); have HP6 := Lib.hid ((g6.block _ (block_lt HP5.out) (by intro e; injection e with e; exact hg3 e.symm)).trans HP5.out); have Hw6 := Lib.hid (Hw5.out.grown g6 Hw5.out.size (fun z hz => by injection hz with hz; omega))
  have HRo6 := Lib.hid (h6.more g6.size)
  have Hsl6 : Hid (∀ x ∈ sb.set mm vx, x < 256) := Lib.hid fun x hx => by
    rcases List.mem_or_eq_of_mem_set hx with h1 | h1
    · exact Hsl.out x h1
    · omega
  clear hrs hb' hbx hcx hgB h6 g6 hg1 hgd hg2 hg3 hg HM5 HQ5 HO5 HP5 Hw5 HOs5 hcz
  go_upto_region 8 with fail
  generalize w5.setCell ⟨g, mm, none⟩ (.int .u8 (vx : Int)) = w6 at *
  clear hn0 hn1 hn2 hmi hml hmli hcc hfz hlg hvx
  generalize sb.set mm vx = so at *
  have HL7 : Hid ((w6.alloc (.cells #[.slice A n c, .slice (some ⟨g, 0, none⟩) ns cs] 23)).heap[w6.heap.size]? = some (.cells #[.slice A n c, .slice (some ⟨g, 0, none⟩) ns cs] 23 (0, 0))) := heap_alloc_new w6 _
  have hba := h_one w6 (.cells #[.slice A n c, .slice (some ⟨g, 0, none⟩) ns cs] 23)
  have HM7 := Lib.hid (block_below HM6.out hba (block_lt HM6.out)); have HQ7 := Lib.hid (block_below HQ6.out hba (block_lt HQ6.out)); have HO7 := Lib.hid (block_below HO6.out hba (block_lt HO6.out)); have HP7 := Lib.hid (block_below HP6.out hba (block_lt HP6.out)); have Hw7 := Lib.hid (Hw6.out.trans (hba.mono Hw6.out.size)); have HRo7 := Lib.hid ((HRo6.out.below hba (Nat.le_refl _)).more hba.size)
  have HRs7 := Lib.hid ((Hr.out.below Hw7.out (Nat.le_refl _)).more Hw7.out.size)
  have Hel : Hid (∀ k, k < 2 → ∃ (A' : Option Addr) (n' c' : Nat) (lx : List Nat), (w6.alloc (.cells #[.slice A n c, .slice (some ⟨g, 0, none⟩) ns cs] 23)).cell? ⟨w6.heap.size, k, none⟩ = some (.slice A' n' c') ∧ Rd (w6.alloc (.cells #[.slice A n c, .slice (some ⟨g, 0, none⟩) ns cs] 23)) (w6.alloc (.cells #[.slice A n c, .slice (some ⟨g, 0, none⟩) ns cs] 23)).heap.size 1 A' n' (bv lx) ∧ n' ≤ c' ∧ n' ≤ 1000 ∧ ∀ x ∈ lx, x < 256) := Lib.hid fun k hk => by
    have : k = 0 ∨ k = 1 := by omega
    rcases this with rfl | rfl
    · exact ⟨A, n, c, l, (block_cell HL7.out 0).trans rfl, HRs7.out, hnc, by omega, Hlt.out⟩
    · exact ⟨_, ns, cs, so, (block_cell HL7.out 1).trans rfl, HRo7.out, hcs, by omega, Hsl6.out⟩
  clear hba HM6 HQ6 HO6 HP6 Hw6 HRo6 HRs7 HRo7
  go_wp2
  generalize w6.alloc (.cells #[.slice A n c, .slice (some ⟨g, 0, none⟩) ns cs] 23) = w7 at *
  generalize w6.heap.size = b7 at *
  have hl7 := block_lt HL7.out
  have HPK := Lib.hid (fun u => pubR_any s q none 0 0 u Hs.out (by omega))
  have Hpko : Hid (rootD (keysD s q) q).ok := Lib.hid (topD_ok _ _)
  generalize rootD (keysD s q) q = pk at *
  go_loopw [75] (fun i wr => ∃ k : Nat, k ≤ 2 ∧ i = .int .i64 (k : Int) ∧ Below w7.heap.size w7 wr) (fun i _ => 2 - (RowKit.intOf i).toNat)
  case atStart => exact ⟨0, by omega, rfl, Below.refl _ _⟩
  case round =>
    obtain ⟨k, hk, rfl, hw⟩ := hrel
    have Hw := Lib.hid hw
    clear hw
    by_cases hlt : k < 2
    · have hd1 : decide ((k : Int) < 2) = true := decide_eq_true (by omega)
      have hki : (k : Int) < 2 := by omega
      have Hk := Lib.hid hlt
      obtain ⟨A', n', c', lx, hc0, hrx, hncx, hnx, hlx⟩ := Hel.out k hlt
      have HRx := Lib.hid (fun (u : World) (hu : Below w7.heap.size w7 u) => (hrx.below hu (Nat.le_refl _)).more hu.size)
      have c0 : wr.cell? ⟨b7, k, none⟩ = some (.slice A' n' c') := (Hw.out.cell (p := ⟨b7, k, none⟩) hl7).trans hc0
      have hlw : b7 < wr.heap.size := Nat.lt_of_lt_of_le hl7 Hw.out.size
      have HIX := Lib.hid (fun (u : World) (hu : Below w7.heap.size w7 u) => index_any A' n' c' lx u (HRx.out u hu) hncx (by omega) hlx)
      have HPT := Lib.hid (fun (u : World) (hu : Below w7.heap.size w7 u) => partsr_any A' n' c' lx u (HRx.out u hu) hncx (by omega) hlx)
      have HVF := Lib.hid (fun (p mo : D8) (hmo : mo.ok) (u : World) (hu : Below w7.heap.size w7 u) => verify_any p mo A' n' c' lx u hmo (HRx.out u hu) hncx (by omega) hlx)
      have HVR := Lib.hid (fun (p mo : D8) (hmo : mo.ok) (u : World) (hu : Below w7.heap.size w7 u) => verifyr_any p mo A' n' c' lx u hmo (HRx.out u hu) hncx (by omega) hlx)
      have Hixd : Hid (match splitN lx with | none => (indexN lx).1 = 0 ∧ (indexN lx).2 = false | some (i, _, _) => (indexN lx).1 = i ∧ (indexN lx).2 = true) := Lib.hid (by
        unfold indexN
        cases splitN lx with
        | none => exact ⟨rfl, rfl⟩
        | some x => exact ⟨rfl, rfl⟩)
      generalize (indexN lx).1 = ii at *
      generalize (indexN lx).2 = ok at *
      clear hrx hlx hc0
      go_wp2_with fail
      refine (HIX.out wr Hw.out).mono ?_
      rintro e v1 ⟨rfl, hb⟩
      have Hw1 := Lib.hid (Hw.out.trans (hb.mono Hw.out.size))
      clear hb c0 hlw Hw HIX
      go_upto_region 12 with fail
      go_cut [25, 28] (fun s25 s28 wx => s25 = .int .i64 (ii : Int) ∧ s28 = .bool ok ∧ Below w7.heap.size w7 wx)
      case first =>
        go_wp2_with fail
        refine (HPT.out v1 Hw1.out).mono ?_
        rintro e v2 ⟨hb2, hsp⟩
        have Hw2 := Lib.hid (Hw1.out.trans (hb2.mono Hw1.out.size))
        have hix := Hixd.out
        generalize splitN lx = sp at *
        cases sp with
        | none =>
          simp only at hsp hix
          obtain ⟨rfl, rfl⟩ := hix
          subst hsp
          go_wp2
          go_meet
          exact ⟨rfl, rfl, Hw2.out⟩
        | some x =>
          obtain ⟨i, o, pl⟩ := x
          simp only at hsp hix
          obtain ⟨rfl, rfl⟩ := hix
          obtain ⟨A1, c1, A2, c2, rfl, _, _, _⟩ := hsp
          go_wp2
          go_meet
          exact ⟨rfl, rfl, Hw2.out⟩
      case rest =>
        obtain ⟨rfl, rfl, hwc⟩ := hcut
        obtain ⟨v3, rfl⟩ : ∃ v3 : World, v3 = wc := ⟨_, rfl⟩
        have Hw3 := Lib.hid hwc
        have hoo : (ok != ok) = false := by simp
        have hii : ((ii : Int) != (ii : Int)) = false := by simp
        clear hwc Hw1 HPT Hixd
        have hRGq : ∀ w', Below w7.heap.size w7 w' → w'.heap[bd]? = some (.cells #[.int .u8 (s.x0 : Int), .int .u8 (s.x1 : Int), .int .u8 (s.x2 : Int), .int .u8 (s.x3 : Int), .int .u8 (s.x4 : Int), .int .u8 (s.x5 : Int), .int .u8 (s.x6 : Int), .int .u8 (s.x7 : Int), .int .i64 (q : Int), (.slice none 0 0)] 28 (0, 0)) := fun w' hx => block_below HQ7.out hx (block_lt HQ7.out)
        have hLp : ∀ w', Below w7.heap.size w7 w' → (Instr.loadAt 22 (.pointer (some ⟨w.heap.size + 1 + 1 + 1, 0, none⟩))).run Tryz.prog w' = .ok (.agg #[.int .u8 (pu.x0 : Int), .int .u8 (pu.x1 : Int), .int .u8 (pu.x2 : Int), .int .u8 (pu.x3 : Int), .int .u8 (pu.x4 : Int), .int .u8 (pu.x5 : Int), .int .u8 (pu.x6 : Int), .int .u8 (pu.x7 : Int)]) w' := fun w' hx => load_d8 (block_below HP7.out hx (block_lt HP7.out))
        have hbd := Hw3.out.drew
        have Hbd := Lib.hid hbd
        go_upto_region 15 with fail
        refine wp_region_held_drew (S := fun w' => Below w7.heap.size w7 w') (by kernel_rfl) hbd (fun hHeld => ?_)
        rw [show Array.replicate _ false = (#[false, false, false, false, false, false] : Array Bool) from rfl]
        refine takeH 0 (some 99) (v := .agg #[.int .u8 (pu.x0 : Int), .int .u8 (pu.x1 : Int), .int .u8 (pu.x2 : Int), .int .u8 (pu.x3 : Int), .int .u8 (pu.x4 : Int), .int .u8 (pu.x5 : Int), .int .u8 (pu.x6 : Int), .int .u8 (pu.x7 : Int)]) rfl (by kernel_rfl) (by kernel_rfl) (by kernel_rfl) (by kernel_rfl) (fun _ _ _ h => h) (Or.inl ⟨by kernel_rfl, ?hy⟩) (by assumption) ?_
        case hy =>
          intro w' hSw
          simp [execOp, Act.eval, hLp w' hSw, Result.andThen]
        simp only [Act.put, List.setIfInBounds_toArray, List.set_cons_zero, List.set_cons_succ]
        refine takeH 1 (some 100) (v := ?_) rfl (by kernel_rfl) (by kernel_rfl) (by kernel_rfl) (by kernel_rfl) (fun _ _ _ h => h) (Or.inl ⟨by kernel_rfl, ?hy⟩) (by assumption) ?_
        case hy =>
          intro w' hSw
          obtain ⟨xf, x0, x1, x2, x3, x4, x5, x6, x7, x8, x9⟩ := free10 (hRGq w' hSw)
          have hxl := block_lt (hRGq w' hSw)
          clear xf hSw
          first
            | (go_simp; done)
            | (go_simp; with_reducible rfl)
        simp only [Act.put, List.setIfInBounds_toArray, List.set_cons_zero, List.set_cons_succ]
        refine takeH 5 (some 104) (v := ?_) rfl (by kernel_rfl) (by kernel_rfl) (by kernel_rfl) (by kernel_rfl) (fun _ _ _ h => h) (Or.inl ⟨by kernel_rfl, ?hy⟩) (by assumption) ?_
        case hy =>
          intro w' hSw
          clear hSw
          first
            | (go_simp; done)
            | (go_simp; with_reducible rfl)
        simp only [Act.put, List.setIfInBounds_toArray, List.set_cons_zero, List.set_cons_succ]
        clear hRGq hLp hbd hoo hii
        refine wpAnyH_ready (rs := [2]) (by kernel_rfl) (by simp) ?_
        refine AllReadyH.cons rfl (fun K hK => ?_) AllReadyH.nil
        rw [if_pos (by kernel_rfl)]
        go_simp
        refine (HPK.out v3.drew).mono ?_
        rintro e v4 ⟨rfl, hb⟩
        have Hw4 := Lib.hid (Hbd.out.trans (hb.mono Hbd.out.size))
        clear hb Hbd Hw3
        refine hK.out _ _ Hw4.out (fun _ => ?_)
        clear hK K
        simp only [List.setIfInBounds_toArray, List.set_cons_zero, List.set_cons_succ]
        refine wpAnyH_ready (rs := [3]) (by kernel_rfl) (by simp) ?_
        refine AllReadyH.cons rfl (fun K hK => ?_) AllReadyH.nil
        rw [if_pos (by kernel_rfl)]
        go_simp
        have HRw : Hid (Rd (v4.alloc (.cells #[.int .u8 (pu.x0 : Int), .int .u8 (pu.x1 : Int), .int .u8 (pu.x2 : Int), .int .u8 (pu.x3 : Int), .int .u8 (pu.x4 : Int), .int .u8 (pu.x5 : Int), .int .u8 (pu.x6 : Int), .int .u8 (pu.x7 : Int), .int .u8 (pk.x0 : Int), .int .u8 (pk.x1 : Int), .int .u8 (pk.x2 : Int), .int .u8 (pk.x3 : Int), .int .u8 (pk.x4 : Int), .int .u8 (pk.x5 : Int), .int .u8 (pk.x6 : Int), .int .u8 (pk.x7 : Int)] 22)) (v4.alloc (.cells #[.int .u8 (pu.x0 : Int), .int .u8 (pu.x1 : Int), .int .u8 (pu.x2 : Int), .int .u8 (pu.x3 : Int), .int .u8 (pu.x4 : Int), .int .u8 (pu.x5 : Int), .int .u8 (pu.x6 : Int), .int .u8 (pu.x7 : Int), .int .u8 (pk.x0 : Int), .int .u8 (pk.x1 : Int), .int .u8 (pk.x2 : Int), .int .u8 (pk.x3 : Int), .int .u8 (pk.x4 : Int), .int .u8 (pk.x5 : Int), .int .u8 (pk.x6 : Int), .int .u8 (pk.x7 : Int)] 22)).heap.size 8 (some ⟨v4.heap.size, 0, none⟩) 2 (flatD [pu, pk])) := Rd.newA (n := 2) (sz := 8) (xs := flatD [pu, pk]) v4 22 #[.int .u8 (pu.x0 : Int), .int .u8 (pu.x1 : Int), .int .u8 (pu.x2 : Int), .int .u8 (pu.x3 : Int), .int .u8 (pu.x4 : Int), .int .u8 (pu.x5 : Int), .int .u8 (pu.x6 : Int), .int .u8 (pu.x7 : Int), .int .u8 (pk.x0 : Int), .int .u8 (pk.x1 : Int), .int .u8 (pk.x2 : Int), .int .u8 (pk.x3 : Int), .int .u8 (pk.x4 : Int), .int .u8 (pk.x5 : Int), .int .u8 (pk.x6 : Int), .int .u8 (pk.x7 : Int)] rfl rfl
        have hba := h_one v4 (.cells #[.int .u8 (pu.x0 : Int), .int .u8 (pu.x1 : Int), .int .u8 (pu.x2 : Int), .int .u8 (pu.x3 : Int), .int .u8 (pu.x4 : Int), .int .u8 (pu.x5 : Int), .int .u8 (pu.x6 : Int), .int .u8 (pu.x7 : Int), .int .u8 (pk.x0 : Int), .int .u8 (pk.x1 : Int), .int .u8 (pk.x2 : Int), .int .u8 (pk.x3 : Int), .int .u8 (pk.x4 : Int), .int .u8 (pk.x5 : Int), .int .u8 (pk.x6 : Int), .int .u8 (pk.x7 : Int)] 22)
        have Hw5 := Lib.hid (Hw4.out.trans (hba.mono Hw4.out.size))
        clear hba Hw4
        refine hK.out _ _ Hw5.out (fun _ => ?_)
        clear hK K
        simp only [List.setIfInBounds_toArray, List.set_cons_zero, List.set_cons_succ]
        generalize v4.alloc (.cells #[.int .u8 (pu.x0 : Int), .int .u8 (pu.x1 : Int), .int .u8 (pu.x2 : Int), .int .u8 (pu.x3 : Int), .int .u8 (pu.x4 : Int), .int .u8 (pu.x5 : Int), .int .u8 (pu.x6 : Int), .int .u8 (pu.x7 : Int), .int .u8 (pk.x0 : Int), .int .u8 (pk.x1 : Int), .int .u8 (pk.x2 : Int), .int .u8 (pk.x3 : Int), .int .u8 (pk.x4 : Int), .int .u8 (pk.x5 : Int), .int .u8 (pk.x6 : Int), .int .u8 (pk.x7 : Int)] 22) = v5 at *
        generalize v4.heap.size = b5 at *
        have hS5 := Hw5.out
        refine takeH 4 (some 103) (v := ?_) rfl (by kernel_rfl) (by kernel_rfl) (by kernel_rfl) (by kernel_rfl) (fun _ _ _ h => h) (Or.inl ⟨by kernel_rfl, ?hy⟩) (by assumption) ?_
        case hy =>
          intro w' hSw
          clear hSw
          first
            | (go_simp; done)
            | (go_simp; with_reducible rfl)
        simp only [Act.put, List.setIfInBounds_toArray, List.set_cons_zero, List.set_cons_succ]
        refine wpAnyH_done (by kernel_rfl) ?_ _
        clear hS5
        have Hpo : Hid (∀ d ∈ [pu, pk], d.ok) := Lib.hid fun d hd => by
          simp only [List.mem_cons, List.mem_nil_iff, or_false] at hd
          rcases hd with rfl | rfl
          · exact Hpu.out
          · exact Hpko.out
        obtain ⟨wo, rfl⟩ : ∃ wo : World, wo = wr := ⟨_, rfl⟩
        go_wp2
        go_loopw [104] (fun i wr => ∃ k : Nat, k ≤ 2 ∧ i = .int .i64 (k : Int) ∧ Below v5.heap.size v5 wr) (fun i _ => 2 - (RowKit.intOf i).toNat)
        case atStart => exact ⟨0, by omega, rfl, Below.refl _ _⟩
        case round =>
          obtain ⟨k2, hk2, rfl, hw⟩ := hrel
          have Hwr := Lib.hid hw
          clear hw
          by_cases hlt2 : k2 < 2
          · have hd2 : decide ((k2 : Int) < 2) = true := decide_eq_true (by omega)
            have hki2 : (k2 : Int) < 2 := by omega
            have Hk2 := Lib.hid hlt2
            obtain ⟨bb, o, hA5, hbB, y0, y1, y2, y3, y4, y5, y6, y7⟩ := (HRw.out.below Hwr.out (Nat.le_refl _)).di8 hlt2
            injection hA5 with hA5
            injection hA5 with q1 q2
            subst q1; subst q2
            simp only [Nat.zero_add] at y0 y1 y2 y3 y4 y5 y6 y7
            generalize [pu, pk].getD k2 D8.zero = P at *
            have hbl : b5 < wr.heap.size := Nat.lt_of_lt_of_le hbB Hwr.out.size
            have HB8 : Hid ((wr.alloc (.cells #[.int .u8 (P.x0 : Int), .int .u8 (P.x1 : Int), .int .u8 (P.x2 : Int), .int .u8 (P.x3 : Int), .int .u8 (P.x4 : Int), .int .u8 (P.x5 : Int), .int .u8 (P.x6 : Int), .int .u8 (P.x7 : Int)] 22)).heap[wr.heap.size]? = some (.cells #[.int .u8 (P.x0 : Int), .int .u8 (P.x1 : Int), .int .u8 (P.x2 : Int), .int .u8 (P.x3 : Int), .int .u8 (P.x4 : Int), .int .u8 (P.x5 : Int), .int .u8 (P.x6 : Int), .int .u8 (P.x7 : Int)] 22 (0, 0))) := heap_alloc_new wr _
            have hba := h_one wr (.cells #[.int .u8 (P.x0 : Int), .int .u8 (P.x1 : Int), .int .u8 (P.x2 : Int), .int .u8 (P.x3 : Int), .int .u8 (P.x4 : Int), .int .u8 (P.x5 : Int), .int .u8 (P.x6 : Int), .int .u8 (P.x7 : Int)] 22)
            have Hw8 := Lib.hid (Hwr.out.trans (hba.mono Hwr.out.size))
            have H78 := Lib.hid (Hw5.out.trans (Hw8.out.mono Hw5.out.size))
            have HM8 := Lib.hid (block_below HM7.out H78.out (block_lt HM7.out)); have HO8 := Lib.hid (block_below HO7.out H78.out (block_lt HO7.out))
            clear hba Hwr
            go_upto_region 18 with fail
            generalize wr.alloc (.cells #[.int .u8 (P.x0 : Int), .int .u8 (P.x1 : Int), .int .u8 (P.x2 : Int), .int .u8 (P.x3 : Int), .int .u8 (P.x4 : Int), .int .u8 (P.x5 : Int), .int .u8 (P.x6 : Int), .int .u8 (P.x7 : Int)] 22) = v8 at *
            generalize wr.heap.size = b8 at *
            clear y0 y1 y2 y3 y4 y5 y6 y7 hbl hbB
            obtain ⟨zf, y0, y1, y2, y3, y4, y5, y6, y7⟩ := free8 HM8.out
            obtain ⟨zg, x0, x1, x2, x3, x4, x5, x6, x7⟩ := free8 HO8.out
            have hl1 := block_lt HM8.out; have hl2 := block_lt HO8.out
            clear zf zg
            have HRm : Hid (Rd (v8.alloc (.cells #[.int .u8 (m.x0 : Int), .int .u8 (m.x1 : Int), .int .u8 (m.x2 : Int), .int .u8 (m.x3 : Int), .int .u8 (m.x4 : Int), .int .u8 (m.x5 : Int), .int .u8 (m.x6 : Int), .int .u8 (m.x7 : Int), .int .u8 (ot.x0 : Int), .int .u8 (ot.x1 : Int), .int .u8 (ot.x2 : Int), .int .u8 (ot.x3 : Int), .int .u8 (ot.x4 : Int), .int .u8 (ot.x5 : Int), .int .u8 (ot.x6 : Int), .int .u8 (ot.x7 : Int)] 22)) (v8.alloc (.cells #[.int .u8 (m.x0 : Int), .int .u8 (m.x1 : Int), .int .u8 (m.x2 : Int), .int .u8 (m.x3 : Int), .int .u8 (m.x4 : Int), .int .u8 (m.x5 : Int), .int .u8 (m.x6 : Int), .int .u8 (m.x7 : Int), .int .u8 (ot.x0 : Int), .int .u8 (ot.x1 : Int), .int .u8 (ot.x2 : Int), .int .u8 (ot.x3 : Int), .int .u8 (ot.x4 : Int), .int .u8 (ot.x5 : Int), .int .u8 (ot.x6 : Int), .int .u8 (ot.x7 : Int)] 22)).heap.size 8 (some ⟨v8.heap.size, 0, none⟩) 2 (flatD [m, ot])) := Rd.newA (n := 2) (sz := 8) (xs := flatD [m, ot]) v8 22 #[.int .u8 (m.x0 : Int), .int .u8 (m.x1 : Int), .int .u8 (m.x2 : Int), .int .u8 (m.x3 : Int), .int .u8 (m.x4 : Int), .int .u8 (m.x5 : Int), .int .u8 (m.x6 : Int), .int .u8 (m.x7 : Int), .int .u8 (ot.x0 : Int), .int .u8 (ot.x1 : Int), .int .u8 (ot.x2 : Int), .int .u8 (ot.x3 : Int), .int .u8 (ot.x4 : Int), .int .u8 (ot.x5 : Int), .int .u8 (ot.x6 : Int), .int .u8 (ot.x7 : Int)] rfl rfl
            have hba := h_one v8 (.cells #[.int .u8 (m.x0 : Int), .int .u8 (m.x1 : Int), .int .u8 (m.x2 : Int), .int .u8 (m.x3 : Int), .int .u8 (m.x4 : Int), .int .u8 (m.x5 : Int), .int .u8 (m.x6 : Int), .int .u8 (m.x7 : Int), .int .u8 (ot.x0 : Int), .int .u8 (ot.x1 : Int), .int .u8 (ot.x2 : Int), .int .u8 (ot.x3 : Int), .int .u8 (ot.x4 : Int), .int .u8 (ot.x5 : Int), .int .u8 (ot.x6 : Int), .int .u8 (ot.x7 : Int)] 22)
            have HB9 := Lib.hid (block_below HB8.out hba (block_lt HB8.out)); have Hw9 := Lib.hid (Hw8.out.trans (hba.mono Hw8.out.size)); have H79 := Lib.hid (H78.out.trans (hba.mono H78.out.size))
            clear hba
            go_wp2
            generalize v8.alloc (.cells #[.int .u8 (m.x0 : Int), .int .u8 (m.x1 : Int), .int .u8 (m.x2 : Int), .int .u8 (m.x3 : Int), .int .u8 (m.x4 : Int), .int .u8 (m.x5 : Int), .int .u8 (m.x6 : Int), .int .u8 (m.x7 : Int), .int .u8 (ot.x0 : Int), .int .u8 (ot.x1 : Int), .int .u8 (ot.x2 : Int), .int .u8 (ot.x3 : Int), .int .u8 (ot.x4 : Int), .int .u8 (ot.x5 : Int), .int .u8 (ot.x6 : Int), .int .u8 (ot.x7 : Int)] 22) = v9 at *
            generalize v8.heap.size = b9 at *
            clear y0 y1 y2 y3 y4 y5 y6 y7 x0 x1 x2 x3 x4 x5 x6 x7 hl1 hl2 HB8 Hw8 H78 HM8 HO8
            have Hmo : Hid (∀ d ∈ [m, ot], d.ok) := Lib.hid fun d hd => by
              simp only [List.mem_cons, List.mem_nil_iff, or_false] at hd
              rcases hd with rfl | rfl
              · exact Hm.out
              · exact Hot.out
            obtain ⟨wo2, rfl⟩ : ∃ wo2 : World, wo2 = wr := ⟨_, rfl⟩
            go_loopw [112] (fun i wr => ∃ k : Nat, k ≤ 2 ∧ i = .int .i64 (k : Int) ∧ Below v9.heap.size v9 wr) (fun i _ => 2 - (RowKit.intOf i).toNat)
            case atStart => exact ⟨0, by omega, rfl, Below.refl _ _⟩
            case round =>
              obtain ⟨k3, hk3, rfl, hw⟩ := hrel
              have Hwr := Lib.hid hw
              clear hw
              by_cases hlt3 : k3 < 2
              · have hd3 : decide ((k3 : Int) < 2) = true := decide_eq_true (by omega)
                have hki3 : (k3 : Int) < 2 := by omega
                have Hk3 := Lib.hid hlt3
                obtain ⟨bb, o, hA5, hbB, y0, y1, y2, y3, y4, y5, y6, y7⟩ := (HRm.out.below Hwr.out (Nat.le_refl _)).di8 hlt3
                injection hA5 with hA5
                injection hA5 with q1 q2
                subst q1; subst q2
                simp only [Nat.zero_add] at y0 y1 y2 y3 y4 y5 y6 y7
                have Hgo := Lib.hid (getD_ok Hmo.out k3)
                generalize [m, ot].getD k3 D8.zero = mo at *
                have hbl : b9 < wr.heap.size := Nat.lt_of_lt_of_le hbB Hwr.out.size
                have HN10 : Hid ((wr.alloc (.cells #[.int .u8 (mo.x0 : Int), .int .u8 (mo.x1 : Int), .int .u8 (mo.x2 : Int), .int .u8 (mo.x3 : Int), .int .u8 (mo.x4 : Int), .int .u8 (mo.x5 : Int), .int .u8 (mo.x6 : Int), .int .u8 (mo.x7 : Int)] 22)).heap[wr.heap.size]? = some (.cells #[.int .u8 (mo.x0 : Int), .int .u8 (mo.x1 : Int), .int .u8 (mo.x2 : Int), .int .u8 (mo.x3 : Int), .int .u8 (mo.x4 : Int), .int .u8 (mo.x5 : Int), .int .u8 (mo.x6 : Int), .int .u8 (mo.x7 : Int)] 22 (0, 0))) := heap_alloc_new wr _
                have hba := h_one wr (.cells #[.int .u8 (mo.x0 : Int), .int .u8 (mo.x1 : Int), .int .u8 (mo.x2 : Int), .int .u8 (mo.x3 : Int), .int .u8 (mo.x4 : Int), .int .u8 (mo.x5 : Int), .int .u8 (mo.x6 : Int), .int .u8 (mo.x7 : Int)] 22)
                have Hw10 := Lib.hid (Hwr.out.trans (hba.mono Hwr.out.size))
                have H7a := Lib.hid (H79.out.trans (Hw10.out.mono H79.out.size))
                have HB10 := Lib.hid (block_below HB9.out Hw10.out (block_lt HB9.out))
                clear hba Hwr
                go_upto_region 21 with fail
                generalize wr.alloc (.cells #[.int .u8 (mo.x0 : Int), .int .u8 (mo.x1 : Int), .int .u8 (mo.x2 : Int), .int .u8 (mo.x3 : Int), .int .u8 (mo.x4 : Int), .int .u8 (mo.x5 : Int), .int .u8 (mo.x6 : Int), .int .u8 (mo.x7 : Int)] 22) = v10 at *
                generalize wr.heap.size = b10 at *
                clear y0 y1 y2 y3 y4 y5 y6 y7 hbl hbB
                have hL1 : ∀ w', Below v10.heap.size v10 w' → (Instr.loadAt 22 (.pointer (some ⟨b8, 0, none⟩))).run Tryz.prog w' = .ok (.agg #[.int .u8 (P.x0 : Int), .int .u8 (P.x1 : Int), .int .u8 (P.x2 : Int), .int .u8 (P.x3 : Int), .int .u8 (P.x4 : Int), .int .u8 (P.x5 : Int), .int .u8 (P.x6 : Int), .int .u8 (P.x7 : Int)]) w' := fun w' hx => load_d8 (block_below HB10.out hx (block_lt HB10.out))
                have hL2 : ∀ w', Below v10.heap.size v10 w' → (Instr.loadAt 22 (.pointer (some ⟨b10, 0, none⟩))).run Tryz.prog w' = .ok (.agg #[.int .u8 (mo.x0 : Int), .int .u8 (mo.x1 : Int), .int .u8 (mo.x2 : Int), .int .u8 (mo.x3 : Int), .int .u8 (mo.x4 : Int), .int .u8 (mo.x5 : Int), .int .u8 (mo.x6 : Int), .int .u8 (mo.x7 : Int)]) w' := fun w' hx => load_d8 (block_below HN10.out hx (block_lt HN10.out))
                have hbd := (Below.refl v10.heap.size v10).drew
                have Hbd := Lib.hid hbd
                have HV1 := Lib.hid (fun (u : World) (hu : Below v10.heap.size v10 u) => HVF.out P mo Hgo.out u (H7a.out.trans (hu.mono H7a.out.size)))
                have HV2 := Lib.hid (fun (u : World) (hu : Below v10.heap.size v10 u) => HVR.out P mo Hgo.out u (H7a.out.trans (hu.mono H7a.out.size)))
                generalize verifyN P mo lx = vb at *
                refine wp_region_held_drew (S := fun w' => Below v10.heap.size v10 w') (by kernel_rfl) hbd (fun hHeld => ?_)
                rw [show Array.replicate _ false = (#[false, false, false, false, false, false, false, false, false] : Array Bool) from rfl]
                refine takeH 0 (some 116) (v := .agg #[.int .u8 (P.x0 : Int), .int .u8 (P.x1 : Int), .int .u8 (P.x2 : Int), .int .u8 (P.x3 : Int), .int .u8 (P.x4 : Int), .int .u8 (P.x5 : Int), .int .u8 (P.x6 : Int), .int .u8 (P.x7 : Int)]) rfl (by kernel_rfl) (by kernel_rfl) (by kernel_rfl) (by kernel_rfl) (fun _ _ _ h => h) (Or.inl ⟨by kernel_rfl, ?hy⟩) (by assumption) ?_
                case hy =>
                  intro w' hSw
                  simp [execOp, Act.eval, hL1 w' hSw, Result.andThen]
                simp only [Act.put, List.setIfInBounds_toArray, List.set_cons_zero, List.set_cons_succ]
                refine takeH 1 (some 117) (v := .agg #[.int .u8 (mo.x0 : Int), .int .u8 (mo.x1 : Int), .int .u8 (mo.x2 : Int), .int .u8 (mo.x3 : Int), .int .u8 (mo.x4 : Int), .int .u8 (mo.x5 : Int), .int .u8 (mo.x6 : Int), .int .u8 (mo.x7 : Int)]) rfl (by kernel_rfl) (by kernel_rfl) (by kernel_rfl) (by kernel_rfl) (fun _ _ _ h => h) (Or.inl ⟨by kernel_rfl, ?hy⟩) (by assumption) ?_
                case hy =>
                  intro w' hSw
                  simp [execOp, Act.eval, hL2 w' hSw, Result.andThen]
                simp only [Act.put, List.setIfInBounds_toArray, List.set_cons_zero, List.set_cons_succ]
                refine takeH 2 (some 118) (v := ?_) rfl (by kernel_rfl) (by kernel_rfl) (by kernel_rfl) (by kernel_rfl) (fun _ _ _ h => h) (Or.inl ⟨by kernel_rfl, ?hy⟩) (by assumption) ?_
                case hy =>
                  intro w' hSw
                  clear hSw
                  first
                    | (go_simp; done)
                    | (go_simp; with_reducible rfl)
                simp only [Act.put, List.setIfInBounds_toArray, List.set_cons_zero, List.set_cons_succ]
                refine takeH 4 (some 120) (v := .agg #[.int .u8 (P.x0 : Int), .int .u8 (P.x1 : Int), .int .u8 (P.x2 : Int), .int .u8 (P.x3 : Int), .int .u8 (P.x4 : Int), .int .u8 (P.x5 : Int), .int .u8 (P.x6 : Int), .int .u8 (P.x7 : Int)]) rfl (by kernel_rfl) (by kernel_rfl) (by kernel_rfl) (by kernel_rfl) (fun _ _ _ h => h) (Or.inl ⟨by kernel_rfl, ?hy⟩) (by assumption) ?_
                case hy =>
                  intro w' hSw
                  simp [execOp, Act.eval, hL1 w' hSw, Result.andThen]
                simp only [Act.put, List.setIfInBounds_toArray, List.set_cons_zero, List.set_cons_succ]
                refine takeH 5 (some 121) (v := .agg #[.int .u8 (mo.x0 : Int), .int .u8 (mo.x1 : Int), .int .u8 (mo.x2 : Int), .int .u8 (mo.x3 : Int), .int .u8 (mo.x4 : Int), .int .u8 (mo.x5 : Int), .int .u8 (mo.x6 : Int), .int .u8 (mo.x7 : Int)]) rfl (by kernel_rfl) (by kernel_rfl) (by kernel_rfl) (by kernel_rfl) (fun _ _ _ h => h) (Or.inl ⟨by kernel_rfl, ?hy⟩) (by assumption) ?_
                case hy =>
                  intro w' hSw
                  simp [execOp, Act.eval, hL2 w' hSw, Result.andThen]
                simp only [Act.put, List.setIfInBounds_toArray, List.set_cons_zero, List.set_cons_succ]
                refine takeH 6 (some 122) (v := ?_) rfl (by kernel_rfl) (by kernel_rfl) (by kernel_rfl) (by kernel_rfl) (fun _ _ _ h => h) (Or.inl ⟨by kernel_rfl, ?hy⟩) (by assumption) ?_
                case hy =>
                  intro w' hSw
                  clear hSw
                  first
                    | (go_simp; done)
                    | (go_simp; with_reducible rfl)
                simp only [Act.put, List.setIfInBounds_toArray, List.set_cons_zero, List.set_cons_succ]
                clear hL1 hL2 hbd
                refine wpAnyH_ready (rs := [3]) (by kernel_rfl) (by simp) ?_
                refine AllReadyH.cons rfl (fun K hK => ?_) AllReadyH.nil
                rw [if_pos (by kernel_rfl)]
                go_simp
                refine (HV1.out v10.drew Hbd.out).mono ?_
                rintro e u1 ⟨rfl, hb⟩
                have Hu1 := Lib.hid (Hbd.out.trans (hb.mono Hbd.out.size))
                clear hb
                refine hK.out _ _ Hu1.out (fun _ => ?_)
                clear hK K
                simp only [List.setIfInBounds_toArray, List.set_cons_zero, List.set_cons_succ]
                refine wpAnyH_ready (rs := [7]) (by kernel_rfl) (by simp) ?_
                refine AllReadyH.cons rfl (fun K hK => ?_) AllReadyH.nil
                rw [if_pos (by kernel_rfl)]
                go_simp
                refine (HV2.out u1 Hu1.out).mono ?_
                rintro e u2 ⟨rfl, hb⟩
                have Hu2 := Lib.hid (Hu1.out.trans (hb.mono Hu1.out.size))
                clear hb
                refine hK.out _ _ Hu2.out (fun _ => ?_)
                clear hK K
                simp only [List.setIfInBounds_toArray, List.set_cons_zero, List.set_cons_succ]
                have hS2 := Hu2.out
                refine takeH 8 (some 124) (v := ?_) rfl (by kernel_rfl) (by kernel_rfl) (by kernel_rfl) (by kernel_rfl) (fun _ _ _ h => h) (Or.inl ⟨by kernel_rfl, ?hy⟩) (by assumption) ?_
                case hy =>
                  intro w' hSw
                  clear hSw
                  first
                    | (go_simp; done)
                    | (go_simp; with_reducible rfl)
                simp only [Act.put, List.setIfInBounds_toArray, List.set_cons_zero, List.set_cons_succ]
                refine wpAnyH_done (by kernel_rfl) ?_ _
                clear hS2
                have hvv : (vb != vb) = false := by simp
                have Hfin := Lib.hid (Hw10.out.trans (Hu2.out.mono Hw10.out.size))
                go_wp2
                go_roundw
                case rel => exact ⟨k3 + 1, Hk3.out, by go_num, Hfin.out⟩
                case measure => have := Hk3.out; simp [RowKit.intOf]; omega
              · obtain rfl : k3 = 2 := by omega
                have hd3 : decide (((2 : Nat) : Int) < 2) = false := by decide
                have Hfin := Lib.hid (Hw9.out.trans (Hwr.out.mono Hw9.out.size))
                go_wp2
                go_roundw
                case rel => exact ⟨k2 + 1, Hk2.out, by go_num, Hfin.out⟩
                case measure => have := Hk2.out; simp [RowKit.intOf]; omega
          · obtain rfl : k2 = 2 := by omega
            have hd2 : decide (((2 : Nat) : Int) < 2) = false := by decide
            have Hfin := Lib.hid (Hw5.out.trans (Hwr.out.mono Hw5.out.size))
            go_wp2
            go_roundw
            case rel => exact ⟨k + 1, Hk.out, by go_num, Hfin.out⟩
            case measure => have := Hk.out; simp [RowKit.intOf]; omega
    · obtain rfl : k = 2 := by omega
      have hd1 : decide (((2 : Nat) : Int) < 2) = false := by decide
      have Hfin := Lib.hid (Hw7.out.trans (Hw.out.mono Hw7.out.size))
      go_wp2
      go_ret
      exact ⟨rfl, Hfin.out⟩
end Go.Proofs.YtmpklplojfjfbaaGreatDoor
