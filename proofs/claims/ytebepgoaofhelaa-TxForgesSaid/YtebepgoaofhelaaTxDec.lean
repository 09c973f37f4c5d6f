/- The walk of the statement TxDecodes: bytes that read as a transaction are the only ones for it. Condition: what is handed in can be read. -/
import Derived.Test.YtebepgoaofhelaaTxH
import Derived.Test.YtebepgoaofhelaaTxLaw
import Derived.Test.YtebepgoaofhelaaTxS
import Derived.Test.YtebepgoaofhelaaTxPays
import Derived.Deep.RegionHeld3
namespace Go.Proofs.Ytebepgoaofhelaa
open Go.RowKit Go.Lib

/-- A transaction of any of the types in a block. -/
def BoxT (t : TxV) (T : TypeId) (w : World) (b : Nat) : Prop := w.heap[b]? = some (.cells #[.int .u8 (t.d.x0 : Int), .int .u8 (t.d.x1 : Int), .int .u8 (t.d.x2 : Int), .int .u8 (t.d.x3 : Int), .int .u8 (t.d.x4 : Int), .int .u8 (t.d.x5 : Int), .int .u8 (t.d.x6 : Int), .int .u8 (t.d.x7 : Int), .int .i64 t.no, .int .i64 t.fe, .int .i64 t.ki, .slice t.A t.n t.c, .slice t.A' t.n' t.c'] T (0, 0))
theorem BoxT.all {t : TxV} {T : TypeId} {w : World} {b : Nat} (h : BoxT t T w b) : w.cell? ⟨b, 0, none⟩ = some (.int .u8 (t.d.x0 : Int)) ∧ w.cell? ⟨b, 1, none⟩ = some (.int .u8 (t.d.x1 : Int)) ∧ w.cell? ⟨b, 2, none⟩ = some (.int .u8 (t.d.x2 : Int)) ∧ w.cell? ⟨b, 3, none⟩ = some (.int .u8 (t.d.x3 : Int)) ∧ w.cell? ⟨b, 4, none⟩ = some (.int .u8 (t.d.x4 : Int)) ∧ w.cell? ⟨b, 5, none⟩ = some (.int .u8 (t.d.x5 : Int)) ∧ w.cell? ⟨b, 6, none⟩ = some (.int .u8 (t.d.x6 : Int)) ∧ w.cell? ⟨b, 7, none⟩ = some (.int .u8 (t.d.x7 : Int)) ∧ w.cell? ⟨b, 8, none⟩ = some (.int .i64 t.no) ∧ w.cell? ⟨b, 9, none⟩ = some (.int .i64 t.fe) ∧ w.cell? ⟨b, 10, none⟩ = some (.int .i64 t.ki) ∧ w.cell? ⟨b, 11, none⟩ = some (.slice t.A t.n t.c) ∧ w.cell? ⟨b, 12, none⟩ = some (.slice t.A' t.n' t.c') :=
  ⟨block_cell h 0, block_cell h 1, block_cell h 2, block_cell h 3, block_cell h 4, block_cell h 5, block_cell h 6, block_cell h 7, block_cell h 8, block_cell h 9, block_cell h 10, block_cell h 11, block_cell h 12⟩
theorem BoxT.below {t : TxV} {T : TypeId} {w w' : World} {b : Nat} (h : BoxT t T w b) (hb : Below w.heap.size w w') : BoxT t T w' b := block_below h hb (block_lt h)
theorem BoxT.drew {t : TxV} {T : TypeId} {w : World} {b : Nat} (h : BoxT t T w b) : BoxT t T w.drew b := h
theorem BoxT.all2 {t t' : TxV} {T T' : TypeId} {w : World} {b b' : Nat} (h : BoxT t T w b) (h' : BoxT t' T' w b') : (w.cell? ⟨b, 0, none⟩ = some (.int .u8 (t.d.x0 : Int)) ∧ w.cell? ⟨b, 1, none⟩ = some (.int .u8 (t.d.x1 : Int)) ∧ w.cell? ⟨b, 2, none⟩ = some (.int .u8 (t.d.x2 : Int)) ∧ w.cell? ⟨b, 3, none⟩ = some (.int .u8 (t.d.x3 : Int)) ∧ w.cell? ⟨b, 4, none⟩ = some (.int .u8 (t.d.x4 : Int)) ∧ w.cell? ⟨b, 5, none⟩ = some (.int .u8 (t.d.x5 : Int)) ∧ w.cell? ⟨b, 6, none⟩ = some (.int .u8 (t.d.x6 : Int)) ∧ w.cell? ⟨b, 7, none⟩ = some (.int .u8 (t.d.x7 : Int)) ∧ w.cell? ⟨b, 8, none⟩ = some (.int .i64 t.no) ∧ w.cell? ⟨b, 9, none⟩ = some (.int .i64 t.fe) ∧ w.cell? ⟨b, 10, none⟩ = some (.int .i64 t.ki) ∧ w.cell? ⟨b, 11, none⟩ = some (.slice t.A t.n t.c) ∧ w.cell? ⟨b, 12, none⟩ = some (.slice t.A' t.n' t.c')) ∧ (w.cell? ⟨b', 0, none⟩ = some (.int .u8 (t'.d.x0 : Int)) ∧ w.cell? ⟨b', 1, none⟩ = some (.int .u8 (t'.d.x1 : Int)) ∧ w.cell? ⟨b', 2, none⟩ = some (.int .u8 (t'.d.x2 : Int)) ∧ w.cell? ⟨b', 3, none⟩ = some (.int .u8 (t'.d.x3 : Int)) ∧ w.cell? ⟨b', 4, none⟩ = some (.int .u8 (t'.d.x4 : Int)) ∧ w.cell? ⟨b', 5, none⟩ = some (.int .u8 (t'.d.x5 : Int)) ∧ w.cell? ⟨b', 6, none⟩ = some (.int .u8 (t'.d.x6 : Int)) ∧ w.cell? ⟨b', 7, none⟩ = some (.int .u8 (t'.d.x7 : Int)) ∧ w.cell? ⟨b', 8, none⟩ = some (.int .i64 t'.no) ∧ w.cell? ⟨b', 9, none⟩ = some (.int .i64 t'.fe) ∧ w.cell? ⟨b', 10, none⟩ = some (.int .i64 t'.ki) ∧ w.cell? ⟨b', 11, none⟩ = some (.slice t'.A t'.n t'.c) ∧ w.cell? ⟨b', 12, none⟩ = some (.slice t'.A' t'.n' t'.c')) := ⟨h.all, h'.all⟩
theorem is_same {t t' : TxV} {x : TxD} (h : t.is x) (h' : t'.is x) : sameT t t' = true := by
  obtain ⟨a1, a2, a3, a4, a5, a6⟩ := h
  obtain ⟨b1, b2, b3, b4, b5, b6⟩ := h'
  exact sameT_iff.2 ⟨a1.trans b1.symm, a2.trans b2.symm, a3.trans b3.symm, a4.trans b4.symm, a5.trans b5.symm, a6.trans b6.symm⟩
theorem is_bytes {t : TxV} {l : List Nat} (h : t.is (decT l)) (hb : ∀ x ∈ l, x < 256) (he : derr l = 0) : encT t.no t.fe t.ki t.d t.bo t.si = l ∧ checkT t.no t.fe t.ki t.bo t.si = 0 := by
  obtain ⟨a1, a2, a3, a4, a5, a6⟩ := h
  obtain ⟨h1, h2⟩ := dec_bytes hb he
  rw [a1, a2, a3, a4, a5, a6]
  exact ⟨by unfold encT; rw [if_pos h2, h1], h2⟩
set_option maxRecDepth 100000 in
set_option maxHeartbeats 4000000 in
theorem decodes_any (A : Option Addr) (n c : Nat) (l : List Nat) (w : World) (hr : Rd w w.heap.size 1 A n (bv l)) (hnc : n ≤ c) (hn : n ≤ 9223372036854775807) (hb : ∀ x ∈ l, x < 256) :
    Calls Try.prog 6 #[.slice A n c] w fun e w' => e = .returned (.bool true) ∧ Below w.heap.size w w' := by
  obtain ⟨A1, hrun1, hrd1⟩ := slice_to elem_u8 sizeOf_u8 hr hnc (m := min n 600) (by omega)
  have hr1 : ∀ w', (Instr.sliceAt 24 (.slice A n c) none (some (.int .i64 (min (n : Int) 600))) none).run Try.prog w' = .ok (.slice A1 (min n 600) c) w' := by
    intro w'; have := hrun1 w'; rwa [show ((min n 600 : Nat) : Int) = min (n : Int) 600 by omega] at this
  rw [Nat.mul_one, bv_min hr.blen] at hrd1
  have Hrd := Lib.hid hrd1
  have Hb := Lib.hid (show ∀ x ∈ l.take 600, x < 256 from fun x hx => hb x (List.mem_of_mem_take hx))
  have hm1 : min n 600 ≤ 600 := Nat.min_le_right _ _
  have hm2 : min n 600 ≤ c := by omega
  have Hby := Lib.hid (fun (t : TxV) (h : t.is (decT (l.take 600))) (he : derr (l.take 600) = 0) => is_bytes h Hb.out he)
  clear hrun1 hrd1 hr hb
  generalize l.take 600 = l' at *
  generalize min n 600 = m at *
  go_enter Try.func6, Try.ntmps6
  go_wp2_with fail
  refine (tdecode_any A1 m c l' _ Hrd.out (by omega) Hb.out).mono ?_
  rintro e w1 ⟨t, rfl, his, hat, hb1⟩
  have Hi := Lib.hid his; have Hw1 := Lib.hid hb1; have Hat := Lib.hid (hat.up (below_one w1 (.cells #[.int .u8 (t.d.x0 : Int), .int .u8 (t.d.x1 : Int), .int .u8 (t.d.x2 : Int), .int .u8 (t.d.x3 : Int), .int .u8 (t.d.x4 : Int), .int .u8 (t.d.x5 : Int), .int .u8 (t.d.x6 : Int), .int .u8 (t.d.x7 : Int), .int .i64 t.no, .int .i64 t.fe, .int .i64 t.ki, .slice t.A t.n t.c, .slice t.A' t.n' t.c'] 26)))
  have HA := Lib.hid (show BoxT t 26 (w1.alloc (.cells #[.int .u8 (t.d.x0 : Int), .int .u8 (t.d.x1 : Int), .int .u8 (t.d.x2 : Int), .int .u8 (t.d.x3 : Int), .int .u8 (t.d.x4 : Int), .int .u8 (t.d.x5 : Int), .int .u8 (t.d.x6 : Int), .int .u8 (t.d.x7 : Int), .int .i64 t.no, .int .i64 t.fe, .int .i64 t.ki, .slice t.A t.n t.c, .slice t.A' t.n' t.c'] 26)) w1.heap.size from heap_alloc_new w1 _)
  have Hw1a := Lib.hid (hb1.trans ((below_one w1 (.cells #[.int .u8 (t.d.x0 : Int), .int .u8 (t.d.x1 : Int), .int .u8 (t.d.x2 : Int), .int .u8 (t.d.x3 : Int), .int .u8 (t.d.x4 : Int), .int .u8 (t.d.x5 : Int), .int .u8 (t.d.x6 : Int), .int .u8 (t.d.x7 : Int), .int .i64 t.no, .int .i64 t.fe, .int .i64 t.ki, .slice t.A t.n t.c, .slice t.A' t.n' t.c'] 26)).mono hb1.size))
  clear his hat hb1
  go_wp2_with fail
  generalize w1.alloc (.cells #[.int .u8 (t.d.x0 : Int), .int .u8 (t.d.x1 : Int), .int .u8 (t.d.x2 : Int), .int .u8 (t.d.x3 : Int), .int .u8 (t.d.x4 : Int), .int .u8 (t.d.x5 : Int), .int .u8 (t.d.x6 : Int), .int .u8 (t.d.x7 : Int), .int .i64 t.no, .int .i64 t.fe, .int .i64 t.ki, .slice t.A t.n t.c, .slice t.A' t.n' t.c'] 26) = w2 at *
  refine (rdecode_any A1 m c l' _ (Hrd.out.up Hw1a.out (Nat.le_refl _)) hm2 (by omega) Hb.out).mono ?_
  rintro e w3 ⟨t', rfl, his', hat', hb3⟩
  have Hs := Lib.hid (is_same Hi.out his')
  have HA3 := Lib.hid (show BoxT t 26 (w3.alloc (.cells #[.int .u8 (t'.d.x0 : Int), .int .u8 (t'.d.x1 : Int), .int .u8 (t'.d.x2 : Int), .int .u8 (t'.d.x3 : Int), .int .u8 (t'.d.x4 : Int), .int .u8 (t'.d.x5 : Int), .int .u8 (t'.d.x6 : Int), .int .u8 (t'.d.x7 : Int), .int .i64 t'.no, .int .i64 t'.fe, .int .i64 t'.ki, .slice t'.A t'.n t'.c, .slice t'.A' t'.n' t'.c'] 34)) w1.heap.size from block_alloc (HA.out.below hb3) _)
  have HB3 := Lib.hid (show BoxT t' 34 (w3.alloc (.cells #[.int .u8 (t'.d.x0 : Int), .int .u8 (t'.d.x1 : Int), .int .u8 (t'.d.x2 : Int), .int .u8 (t'.d.x3 : Int), .int .u8 (t'.d.x4 : Int), .int .u8 (t'.d.x5 : Int), .int .u8 (t'.d.x6 : Int), .int .u8 (t'.d.x7 : Int), .int .i64 t'.no, .int .i64 t'.fe, .int .i64 t'.ki, .slice t'.A t'.n t'.c, .slice t'.A' t'.n' t'.c'] 34)) w3.heap.size from heap_alloc_new w3 _)
  have Hat3 := Lib.hid (Hat.out.up (hb3.trans ((below_one w3 (.cells #[.int .u8 (t'.d.x0 : Int), .int .u8 (t'.d.x1 : Int), .int .u8 (t'.d.x2 : Int), .int .u8 (t'.d.x3 : Int), .int .u8 (t'.d.x4 : Int), .int .u8 (t'.d.x5 : Int), .int .u8 (t'.d.x6 : Int), .int .u8 (t'.d.x7 : Int), .int .i64 t'.no, .int .i64 t'.fe, .int .i64 t'.ki, .slice t'.A t'.n t'.c, .slice t'.A' t'.n' t'.c'] 34)).mono hb3.size)))
  have Hat3' := Lib.hid (hat'.up (below_one w3 (.cells #[.int .u8 (t'.d.x0 : Int), .int .u8 (t'.d.x1 : Int), .int .u8 (t'.d.x2 : Int), .int .u8 (t'.d.x3 : Int), .int .u8 (t'.d.x4 : Int), .int .u8 (t'.d.x5 : Int), .int .u8 (t'.d.x6 : Int), .int .u8 (t'.d.x7 : Int), .int .i64 t'.no, .int .i64 t'.fe, .int .i64 t'.ki, .slice t'.A t'.n t'.c, .slice t'.A' t'.n' t'.c'] 34)))
  have Hw3 := Lib.hid ((Hw1a.out.trans (hb3.mono Hw1a.out.size)).trans ((below_one w3 (.cells #[.int .u8 (t'.d.x0 : Int), .int .u8 (t'.d.x1 : Int), .int .u8 (t'.d.x2 : Int), .int .u8 (t'.d.x3 : Int), .int .u8 (t'.d.x4 : Int), .int .u8 (t'.d.x5 : Int), .int .u8 (t'.d.x6 : Int), .int .u8 (t'.d.x7 : Int), .int .i64 t'.no, .int .i64 t'.fe, .int .i64 t'.ki, .slice t'.A t'.n t'.c, .slice t'.A' t'.n' t'.c'] 34)).mono (Hw1a.out.trans (hb3.mono Hw1a.out.size)).size))
  clear his' hat' hb3
  have b0 : (derr l' != derr l') = false := by simp
  go_wp2_with fail
  generalize w3.alloc (.cells #[.int .u8 (t'.d.x0 : Int), .int .u8 (t'.d.x1 : Int), .int .u8 (t'.d.x2 : Int), .int .u8 (t'.d.x3 : Int), .int .u8 (t'.d.x4 : Int), .int .u8 (t'.d.x5 : Int), .int .u8 (t'.d.x6 : Int), .int .u8 (t'.d.x7 : Int), .int .i64 t'.no, .int .i64 t'.fe, .int .i64 t'.ki, .slice t'.A t'.n t'.c, .slice t'.A' t'.n' t'.c'] 34) = w4 at *
  generalize hq : derr l' = q at *
  go_region_held3 (fun w' => (w'.cell? ⟨w1.heap.size, 0, none⟩ = some (.int .u8 (t.d.x0 : Int)) ∧ w'.cell? ⟨w1.heap.size, 1, none⟩ = some (.int .u8 (t.d.x1 : Int)) ∧ w'.cell? ⟨w1.heap.size, 2, none⟩ = some (.int .u8 (t.d.x2 : Int)) ∧ w'.cell? ⟨w1.heap.size, 3, none⟩ = some (.int .u8 (t.d.x3 : Int)) ∧ w'.cell? ⟨w1.heap.size, 4, none⟩ = some (.int .u8 (t.d.x4 : Int)) ∧ w'.cell? ⟨w1.heap.size, 5, none⟩ = some (.int .u8 (t.d.x5 : Int)) ∧ w'.cell? ⟨w1.heap.size, 6, none⟩ = some (.int .u8 (t.d.x6 : Int)) ∧ w'.cell? ⟨w1.heap.size, 7, none⟩ = some (.int .u8 (t.d.x7 : Int)) ∧ w'.cell? ⟨w1.heap.size, 8, none⟩ = some (.int .i64 t.no) ∧ w'.cell? ⟨w1.heap.size, 9, none⟩ = some (.int .i64 t.fe) ∧ w'.cell? ⟨w1.heap.size, 10, none⟩ = some (.int .i64 t.ki) ∧ w'.cell? ⟨w1.heap.size, 11, none⟩ = some (.slice t.A t.n t.c) ∧ w'.cell? ⟨w1.heap.size, 12, none⟩ = some (.slice t.A' t.n' t.c')) ∧ (w'.cell? ⟨w3.heap.size, 0, none⟩ = some (.int .u8 (t'.d.x0 : Int)) ∧ w'.cell? ⟨w3.heap.size, 1, none⟩ = some (.int .u8 (t'.d.x1 : Int)) ∧ w'.cell? ⟨w3.heap.size, 2, none⟩ = some (.int .u8 (t'.d.x2 : Int)) ∧ w'.cell? ⟨w3.heap.size, 3, none⟩ = some (.int .u8 (t'.d.x3 : Int)) ∧ w'.cell? ⟨w3.heap.size, 4, none⟩ = some (.int .u8 (t'.d.x4 : Int)) ∧ w'.cell? ⟨w3.heap.size, 5, none⟩ = some (.int .u8 (t'.d.x5 : Int)) ∧ w'.cell? ⟨w3.heap.size, 6, none⟩ = some (.int .u8 (t'.d.x6 : Int)) ∧ w'.cell? ⟨w3.heap.size, 7, none⟩ = some (.int .u8 (t'.d.x7 : Int)) ∧ w'.cell? ⟨w3.heap.size, 8, none⟩ = some (.int .i64 t'.no) ∧ w'.cell? ⟨w3.heap.size, 9, none⟩ = some (.int .i64 t'.fe) ∧ w'.cell? ⟨w3.heap.size, 10, none⟩ = some (.int .i64 t'.ki) ∧ w'.cell? ⟨w3.heap.size, 11, none⟩ = some (.slice t'.A t'.n t'.c) ∧ w'.cell? ⟨w3.heap.size, 12, none⟩ = some (.slice t'.A' t'.n' t'.c')))
    (first | exact BoxT.all2 HA3.out.drew HB3.out.drew | exact BoxT.all2 HA5.out HB5.out | exact BoxT.all2 HA6.out HB6.out | go_keep)
    (first
      | (go_at_call 13; refine (of_any t _).mono ?_; rintro e w5 ⟨rfl, hb5⟩; have HA5 := Lib.hid (HA3.out.drew.below hb5); have HB5 := Lib.hid (HB3.out.drew.below hb5); have Hw5 := Lib.hid (Hw3.out.drew.trans (hb5.mono Hw3.out.size)); have Hat5 := Lib.hid (Hat3.out.up ((Below.refl _ _).drew.trans hb5)); have Hat5' := Lib.hid (Hat3'.out.up ((Below.refl _ _).drew.trans hb5)); clear hb5)
      | (go_at_call 19; refine (rsame_any t t' _ Hat5.out Hat5'.out).mono ?_; rintro e w6 ⟨rfl, hb6⟩; rw [Hs.out]; have HA6 := Lib.hid (HA5.out.below hb6); have HB6 := Lib.hid (HB5.out.below hb6); have Hw6 := Lib.hid (Hw5.out.trans (hb6.mono Hw5.out.size)); have Hat6 := Lib.hid (Hat5.out.up hb6); clear hb6))
  all_goals
    by_cases hz : q = 0
    · obtain ⟨he, hc⟩ := Hby.out t Hi.out hz
      subst hz
      have He := Lib.hid he; have Hc := Lib.hid hc
      clear he hc
      obtain ⟨y0, y1, y2, y3, y4, y5, y6, y7, y8, y9, y10, y11, y12⟩ := HA6.out.all
      go_wp2_with fail
      refine (encode_any t w6 Hat6.out).mono ?_
      rintro e w7 ⟨A7, n7, c7, rfl, hr7, hn7, hc7, hb7⟩
      rw [Hc.out]
      have Hr7 := Lib.hid hr7
      rw [He.out] at hn7
      have hl7 : n7 ≤ 600 := by have := Hrd.out.blen; omega
      have Hw7 := Lib.hid (Hw6.out.trans (hb7.mono Hw6.out.size))
      clear hr7 hn7 hb7 y0 y1 y2 y3 y4 y5 y6 y7 y8 y9 y10 y11 y12
      go_wp2_with fail
      refine (known_any _).mono ?_
      rintro e w8 ⟨rfl, hb8⟩
      have Hr8 := Lib.hid (Hr7.out.up hb8 (Nat.le_refl _))
      have Hw8 := Lib.hid (Hw7.out.trans (hb8.mono Hw7.out.size))
      clear hb8
      go_wp2_with fail
      refine (samer_any A7 A1 n7 c7 m c _ l' _ Hr8.out (Hrd.out.up Hw8.out (Nat.le_refl _)) (by omega) (by omega)).mono ?_
      rintro e w9 ⟨rfl, hb9⟩
      rw [sameB_yes He.out]
      have Hw9 := Lib.hid (Hw8.out.trans (hb9.mono Hw8.out.size))
      clear hb9
      go_wp2
      go_ret
      exact ⟨rfl, Hw9.out⟩
    · have b1 : (q != 0) = true := by simpa using hz
      clear hz
      go_wp2_with fail
      refine (known_any _).mono ?_
      rintro e w7 ⟨rfl, hb7⟩
      have Hw7 := Lib.hid (Hw6.out.trans (hb7.mono Hw6.out.size))
      clear hb7
      go_wp2
      go_ret
      exact ⟨rfl, Hw7.out⟩
end Go.Proofs.Ytebepgoaofhelaa
