/- The walk of NotaryGathers: what is gathered of signers is all. Condition: bounds on the list. -/
import Derived.Test.YtepdinfopcohiaaNpE
import Derived.Test.YtepdinfopcohiaaNpC
namespace Go.Proofs.Ytepdinfopcohiaa
open Go.RowKit Go.Lib


theorem info_sgn : (Try.prog.info? 29).map (fun i => (i.zero, i.size, i.bytes)) = some (some .nilIface, 1, 16) := by kernel_rfl
theorem info_bool : (Try.prog.info? 4).map (fun i => (i.zero, i.size, i.bytes)) = some (some (.bool false), 1, 1) := by kernel_rfl
theorem getD_snoc {α : Type} (l : List α) (a d : α) {k : Nat} (h : l.length = k) : (l ++ [a]).getD k d = a := by
  subst h
  simp [List.getD_eq_getElem?_getD]
theorem Kept.ownT {w w' : World} {bk mb base sz n : Nat} {e : TypeId} {v : Value} {xs : List Value} (h : Kept w w' bk mb) (hb : ∃ cs, w.heap[bk]? = some (.cells cs 84 (0, 0))) (h1 : e ≠ 86) (h2 : 84 ≠ e) (ho : w.ownsRow base e sz v n xs) : w'.ownsRow base e sz v n xs := by
  obtain ⟨cb, hb⟩ := hb
  refine h.own ho h1 (fun cs e' => ?_)
  rw [hb] at e'
  injection e' with e'
  injection e' with _ e'
  exact absurd e' h2
theorem madeBools (n : Nat) : (madeCells (Value.bool false).cells (n * 1)).toList = bvB (List.replicate n false) := by
  rw [Nat.mul_one]
  have : (Value.bool false).cells = #[.bool false] := rfl
  rw [this]
  apply List.ext_getElem
  · simp [madeCells, bvB]
  · intro i h1 h2
    have h3 : i % 1 = 0 := Nat.mod_one i
    simp [madeCells, bvB, h3]
theorem SigRd.keep {w w' : World} {n : Nat} {A : Option Addr} {ss : List (List Nat)} (h : SigRd w w.heap.size A n ss) (hb : Below w.heap.size w w') : SigRd w' w'.heap.size A n ss := (h.below hb (Nat.le_refl _)).more hb.size
set_option maxRecDepth 100000 in
set_option maxHeartbeats 8000000 in
theorem gathers_any (ws : List Nat) (Aw : Option Addr) (nw cw m x : Nat) (w : World) (hr : Rd w w.heap.size 1 Aw nw (bvN ws)) (hws : ∀ y ∈ ws, y < 256) (hm : m < 256) (hx : x < 256) :
    Calls Try.prog 8 #[.slice Aw nw cw, .int .u8 (m : Int), .int .u8 (x : Int)] w fun r w' => r = .returned (.bool true) ∧ Below w.heap.size w w' := by
  by_cases hbig : 8 < nw
  · have hd0 : decide ((8 : Int) < (nw : Int)) = true := decide_eq_true (by omega)
    have Hbr := Lib.hid (Below.refl w.heap.size w)
    clear hbig hr hws
    go_enter Try.func8, Try.ntmps8
    go_wp2_with (go_at_call 10; refine (told_any w).mono ?_; rintro r9 v9 ⟨rfl, hb9⟩; have Hv9 := Lib.hid (Hbr.out.trans (hb9.mono Hbr.out.size)); clear hb9)
    go_ret
    exact ⟨rfl, Hv9.out⟩
  have hd0 : decide ((8 : Int) < (nw : Int)) = false := decide_eq_false (by omega)
  have hn : nw ≤ 8 := by omega
  have Hlw := Lib.hid hr.blenN
  have Hr := Lib.hid hr; have Hws := Lib.hid hws
  obtain ⟨iD, hi, hz0, hz1, hz2⟩ := info_parts info_Di
  have HID := Lib.hid (And.intro hi (And.intro hz0 (And.intro hz1 hz2))); clear hi hz0 hz1 hz2
  obtain ⟨iG, hi, hz0, hz1, hz2⟩ := info_parts info_sgn
  have HIG := Lib.hid (And.intro hi (And.intro hz0 (And.intro hz1 hz2))); clear hi hz0 hz1 hz2
  obtain ⟨iB, hi, hz0, hz1, hz2⟩ := info_parts info_bool
  have HIB := Lib.hid (And.intro hi (And.intro hz0 (And.intro hz1 hz2))); clear hi hz0 hz1 hz2
  have HuD := Lib.hid Try.underlying48; have HuG := Lib.hid Try.underlying45; have HuB := Lib.hid Try.underlying62
  have hwm : IntKind.u64.wrap (m : Int) = (m : Int) := by rw [IntKind.wrap_u64]; omega
  have hwx : IntKind.i64.wrap (x : Int) = (x : Int) := by rw [IntKind.wrap_i64]; omega
  clear hr hws hbig
  go_enter Try.func8, Try.ntmps8
  go_wp2_with fail
  refine (newBook_any w).mono ?_
  rintro r w1 ⟨rfl, hB1, hb1⟩
  have HB1 := Lib.hid hB1; have Hb1 := Lib.hid hb1
  clear hB1 hb1
  go_wp2
  go_loopw [8, 9, 10] (fun v8 v9 i wr => ∃ (k : Nat), k ≤ nw ∧ i = .int .i64 (k : Int) ∧ Hid (wr.ownsRow w1.heap.size 29 1 v8 k (wvs (w.heap.size + 1) ((ws.take k).map D8.of))) ∧ Hid (wr.ownsRow w1.heap.size 32 8 v9 k (flatD ((ws.take k).map D8.of))) ∧ Hid (Below w1.heap.size w1 wr)) (fun _ _ i _ => nw - (Lib.intOf i).toNat)
  case atStart => exact ⟨0, Nat.zero_le _, rfl, Lib.hid (World.ownsRow_nil _ _ _ _), Lib.hid (World.ownsRow_nil _ _ _ _), Lib.hid (Below.refl _ _)⟩
  case round =>
    obtain ⟨k, hk, rfl, HO8, HO9, Hb⟩ := hrel
    obtain ⟨A8, c8, rfl⟩ := own_form HO8.out
    obtain ⟨A9, c9, rfl⟩ := own_form HO9.out
    by_cases hlt : k < nw
    · obtain ⟨b, o, rfl, hbB, x1⟩ := Hr.out.byteN hlt
      have hkl : k < ws.length := by have := Hlw.out; omega
      have Htk := Lib.hid (take_nat hkl)
      have hq256 := Hws.out _ (getD_memH hkl)
      have hlk : ((ws.take k).map D8.of).length = k := by simp; omega
      have Hlk := Lib.hid hlk
      generalize ws.getD k 0 = q at *
      have x0 := cell_kept (cell_kept x1 Hb1.out (by omega)) Hb.out (by have := Hb1.out.size; omega)
      have hd3 : decide ((k : Int) < (nw : Int)) = true := decide_eq_true (by omega)
      have hi0 : (0 : Int) ≤ (k : Int) := by omega
      have hki : (k : Int) < (nw : Int) := by omega
      have hwk : IntKind.u64.wrap (q : Int) = (q : Int) := by rw [IntKind.wrap_u64]; omega
      clear hlk
      go_wp2_with fail
      refine (digest_any q wr (by omega)).mono ?_
      rintro r v1 ⟨rfl, hb⟩
      have HO8b := Lib.hid ((own_below HO8.out hb).alloc (.cells #[.int .u8 ((D8.of q).x0 : Int), .int .u8 ((D8.of q).x1 : Int), .int .u8 ((D8.of q).x2 : Int), .int .u8 ((D8.of q).x3 : Int), .int .u8 ((D8.of q).x4 : Int), .int .u8 ((D8.of q).x5 : Int), .int .u8 ((D8.of q).x6 : Int), .int .u8 ((D8.of q).x7 : Int)] 32))
      have HO9b := Lib.hid ((own_below HO9.out hb).alloc (.cells #[.int .u8 ((D8.of q).x0 : Int), .int .u8 ((D8.of q).x1 : Int), .int .u8 ((D8.of q).x2 : Int), .int .u8 ((D8.of q).x3 : Int), .int .u8 ((D8.of q).x4 : Int), .int .u8 ((D8.of q).x5 : Int), .int .u8 ((D8.of q).x6 : Int), .int .u8 ((D8.of q).x7 : Int)] 32))
      have Hb2 := Lib.hid ((Hb.out.trans (hb.mono Hb.out.size)).alloc (Nat.le_trans Hb.out.size hb.size) (.cells #[.int .u8 ((D8.of q).x0 : Int), .int .u8 ((D8.of q).x1 : Int), .int .u8 ((D8.of q).x2 : Int), .int .u8 ((D8.of q).x3 : Int), .int .u8 ((D8.of q).x4 : Int), .int .u8 ((D8.of q).x5 : Int), .int .u8 ((D8.of q).x6 : Int), .int .u8 ((D8.of q).x7 : Int)] 32))
      have HR8 : Hid (Rd (v1.alloc (.cells #[.int .u8 ((D8.of q).x0 : Int), .int .u8 ((D8.of q).x1 : Int), .int .u8 ((D8.of q).x2 : Int), .int .u8 ((D8.of q).x3 : Int), .int .u8 ((D8.of q).x4 : Int), .int .u8 ((D8.of q).x5 : Int), .int .u8 ((D8.of q).x6 : Int), .int .u8 ((D8.of q).x7 : Int)] 32)) (v1.alloc (.cells #[.int .u8 ((D8.of q).x0 : Int), .int .u8 ((D8.of q).x1 : Int), .int .u8 ((D8.of q).x2 : Int), .int .u8 ((D8.of q).x3 : Int), .int .u8 ((D8.of q).x4 : Int), .int .u8 ((D8.of q).x5 : Int), .int .u8 ((D8.of q).x6 : Int), .int .u8 ((D8.of q).x7 : Int)] 32)).heap.size 8 (some ⟨v1.heap.size, 0, none⟩) 1 (flatD [D8.of q])) := Rd.newA (n := 1) (sz := 8) (xs := flatD [D8.of q]) v1 32 #[.int .u8 ((D8.of q).x0 : Int), .int .u8 ((D8.of q).x1 : Int), .int .u8 ((D8.of q).x2 : Int), .int .u8 ((D8.of q).x3 : Int), .int .u8 ((D8.of q).x4 : Int), .int .u8 ((D8.of q).x5 : Int), .int .u8 ((D8.of q).x6 : Int), .int .u8 ((D8.of q).x7 : Int)] rfl rfl
      have hl8 : ∀ u ∈ flatD [D8.of q], u.oneCell' = true := by simp [flatD, D8.cells, Value.oneCell']
      have hl9 : ∀ u ∈ wvs (w.heap.size + 1) [D8.of q], u.oneCell' = true := by simp [wvs, Value.oneCell']
      have hz8 : w1.heap.size ≤ (v1.alloc (.cells #[.int .u8 ((D8.of q).x0 : Int), .int .u8 ((D8.of q).x1 : Int), .int .u8 ((D8.of q).x2 : Int), .int .u8 ((D8.of q).x3 : Int), .int .u8 ((D8.of q).x4 : Int), .int .u8 ((D8.of q).x5 : Int), .int .u8 ((D8.of q).x6 : Int), .int .u8 ((D8.of q).x7 : Int)] 32)).heap.size := Hb2.out.size
      have hi1 : (k : Int) < ((k + 1 : Nat) : Int) := by omega
      have hi2 : (k : Int) < (k : Int) + 1 := by omega
      clear hb x0 HO8 HO9 x1
      go_wp2_with (first
        | (at_builtin; refine wpList_append_rdg (v1.alloc (.cells #[.int .u8 ((D8.of q).x0 : Int), .int .u8 ((D8.of q).x1 : Int), .int .u8 ((D8.of q).x2 : Int), .int .u8 ((D8.of q).x3 : Int), .int .u8 ((D8.of q).x4 : Int), .int .u8 ((D8.of q).x5 : Int), .int .u8 ((D8.of q).x6 : Int), .int .u8 ((D8.of q).x7 : Int)] 32)) (by rfl) _ _ 48 (by rfl) w1.heap.size 32 iD (.agg #[.int .u8 0, .int .u8 0, .int .u8 0, .int .u8 0, .int .u8 0, .int .u8 0, .int .u8 0, .int .u8 0]) 8 8 HuD.out HID.out rfl (by decide) _ _ _ (by rfl) HO9b.out (v1.alloc (.cells #[.int .u8 ((D8.of q).x0 : Int), .int .u8 ((D8.of q).x1 : Int), .int .u8 ((D8.of q).x2 : Int), .int .u8 ((D8.of q).x3 : Int), .int .u8 ((D8.of q).x4 : Int), .int .u8 ((D8.of q).x5 : Int), .int .u8 ((D8.of q).x6 : Int), .int .u8 ((D8.of q).x7 : Int)] 32)).heap.size (some ⟨v1.heap.size, 0, none⟩) 1 1 (flatD [D8.of q]) (by rfl) HR8.out hl8 (by omega) (by omega) hz8 ?_; go_must (intro v4 w4 ho4 hb4 hg4; obtain ⟨A4, c4, rfl⟩ := own_form ho4; rw [← flatD_append] at ho4; have hgt := GT.of_own HO9b.out hg4; have HO8c := Lib.hid (hgt.own HO8b.out (by decide)); have HO9c := Lib.hid ho4; have Hb4 := Lib.hid (Hb2.out.trans hb4); obtain ⟨b9, o9, rfl, _, xx⟩ := (Rd.of_own ho4).di (k := k) (Nat.lt_succ_self k); rw [getD_snoc _ _ _ Hlk.out] at xx; have x0 := xx 0 (by decide); have x1 := xx 1 (by decide); have x2 := xx 2 (by decide); have x3 := xx 3 (by decide); have x4 := xx 4 (by decide); have x5 := xx 5 (by decide); have x6 := xx 6 (by decide); have x7 := xx 7 (by decide); simp [D8.cells] at x0 x1 x2 x3 x4 x5 x6 x7; clear ho4 hb4 hg4 hgt xx))
        | (go_at_call 12; refine (signer_any (D8.of q) (w.heap.size + 1) w4).mono ?_; rintro r w5 ⟨rfl, hb5⟩; have HO8d := Lib.hid ((own_below HO8c.out hb5).alloc (.cells #[.iface 79 (.agg #[.pointer (some ⟨w.heap.size + 1, 0, none⟩), .int .u8 ((D8.of q).x0 : Int), .int .u8 ((D8.of q).x1 : Int), .int .u8 ((D8.of q).x2 : Int), .int .u8 ((D8.of q).x3 : Int), .int .u8 ((D8.of q).x4 : Int), .int .u8 ((D8.of q).x5 : Int), .int .u8 ((D8.of q).x6 : Int), .int .u8 ((D8.of q).x7 : Int)])] 29)); have HO9d := Lib.hid ((own_below HO9c.out hb5).alloc (.cells #[.iface 79 (.agg #[.pointer (some ⟨w.heap.size + 1, 0, none⟩), .int .u8 ((D8.of q).x0 : Int), .int .u8 ((D8.of q).x1 : Int), .int .u8 ((D8.of q).x2 : Int), .int .u8 ((D8.of q).x3 : Int), .int .u8 ((D8.of q).x4 : Int), .int .u8 ((D8.of q).x5 : Int), .int .u8 ((D8.of q).x6 : Int), .int .u8 ((D8.of q).x7 : Int)])] 29)); have Hb6 := Lib.hid ((Hb4.out.trans (hb5.mono Hb4.out.size)).alloc (Nat.le_trans Hb4.out.size hb5.size) (.cells #[.iface 79 (.agg #[.pointer (some ⟨w.heap.size + 1, 0, none⟩), .int .u8 ((D8.of q).x0 : Int), .int .u8 ((D8.of q).x1 : Int), .int .u8 ((D8.of q).x2 : Int), .int .u8 ((D8.of q).x3 : Int), .int .u8 ((D8.of q).x4 : Int), .int .u8 ((D8.of q).x5 : Int), .int .u8 ((D8.of q).x6 : Int), .int .u8 ((D8.of q).x7 : Int)])] 29)); have hz9 := Hb6.out.size; have HR9 : Hid (Rd (w5.alloc (.cells #[.iface 79 (.agg #[.pointer (some ⟨w.heap.size + 1, 0, none⟩), .int .u8 ((D8.of q).x0 : Int), .int .u8 ((D8.of q).x1 : Int), .int .u8 ((D8.of q).x2 : Int), .int .u8 ((D8.of q).x3 : Int), .int .u8 ((D8.of q).x4 : Int), .int .u8 ((D8.of q).x5 : Int), .int .u8 ((D8.of q).x6 : Int), .int .u8 ((D8.of q).x7 : Int)])] 29)) (w5.alloc (.cells #[.iface 79 (.agg #[.pointer (some ⟨w.heap.size + 1, 0, none⟩), .int .u8 ((D8.of q).x0 : Int), .int .u8 ((D8.of q).x1 : Int), .int .u8 ((D8.of q).x2 : Int), .int .u8 ((D8.of q).x3 : Int), .int .u8 ((D8.of q).x4 : Int), .int .u8 ((D8.of q).x5 : Int), .int .u8 ((D8.of q).x6 : Int), .int .u8 ((D8.of q).x7 : Int)])] 29)).heap.size 1 (some ⟨w5.heap.size, 0, none⟩) 1 (wvs (w.heap.size + 1) [D8.of q])) := Rd.newA (n := 1) (sz := 1) (xs := wvs (w.heap.size + 1) [D8.of q]) w5 29 #[.iface 79 (.agg #[.pointer (some ⟨w.heap.size + 1, 0, none⟩), .int .u8 ((D8.of q).x0 : Int), .int .u8 ((D8.of q).x1 : Int), .int .u8 ((D8.of q).x2 : Int), .int .u8 ((D8.of q).x3 : Int), .int .u8 ((D8.of q).x4 : Int), .int .u8 ((D8.of q).x5 : Int), .int .u8 ((D8.of q).x6 : Int), .int .u8 ((D8.of q).x7 : Int)])] rfl rfl; clear hb5 x0 x1 x2 x3 x4 x5 x6 x7)
        | (at_builtin; refine wpList_append_rdg (w5.alloc (.cells #[.iface 79 (.agg #[.pointer (some ⟨w.heap.size + 1, 0, none⟩), .int .u8 ((D8.of q).x0 : Int), .int .u8 ((D8.of q).x1 : Int), .int .u8 ((D8.of q).x2 : Int), .int .u8 ((D8.of q).x3 : Int), .int .u8 ((D8.of q).x4 : Int), .int .u8 ((D8.of q).x5 : Int), .int .u8 ((D8.of q).x6 : Int), .int .u8 ((D8.of q).x7 : Int)])] 29)) (by rfl) _ _ 45 (by rfl) w1.heap.size 29 iG .nilIface 1 16 HuG.out HIG.out rfl (by decide) _ _ _ (by rfl) HO8d.out (w5.alloc (.cells #[.iface 79 (.agg #[.pointer (some ⟨w.heap.size + 1, 0, none⟩), .int .u8 ((D8.of q).x0 : Int), .int .u8 ((D8.of q).x1 : Int), .int .u8 ((D8.of q).x2 : Int), .int .u8 ((D8.of q).x3 : Int), .int .u8 ((D8.of q).x4 : Int), .int .u8 ((D8.of q).x5 : Int), .int .u8 ((D8.of q).x6 : Int), .int .u8 ((D8.of q).x7 : Int)])] 29)).heap.size (some ⟨w5.heap.size, 0, none⟩) 1 1 (wvs (w.heap.size + 1) [D8.of q]) (by rfl) HR9.out hl9 (by omega) (by omega) hz9 ?_; go_must (intro v6 w6 ho6 hb6 hg6; obtain ⟨A6, c6, rfl⟩ := own_form ho6; have HO8e := Lib.hid ho6; have hgt := GT.of_own HO8d.out hg6; have HO9e := Lib.hid (hgt.own HO9d.out (by decide)); have Hb7 := Lib.hid (Hb6.out.trans hb6); clear ho6 hb6 hg6 hgt)))
      go_roundw
      case rel =>
        refine ⟨k + 1, hlt, by go_num, ?_, ?_, Hb7⟩
        · rw [Htk.out, List.map_append]; unfold wvs; rw [List.map_append]; exact HO8e
        · rw [Htk.out, List.map_append]; exact HO9e
      case measure => simp [Lib.intOf]; omega
    · obtain rfl : nw = k := by omega
      have hd3 : decide ((nw : Int) < (nw : Int)) = false := by simp
      have ht : ws.take nw = ws := List.take_of_length_le (by have := Hlw.out; omega)
      rw [ht] at HO8 HO9
      clear hlt ht
      obtain ⟨w2, rfl⟩ : ∃ w2 : World, w2 = wr := ⟨_, rfl⟩
      have Hko : Hid (∀ y ∈ ws.map D8.of, y.ok) := fun y hy => by
        obtain ⟨z, _, rfl⟩ := List.mem_map.1 hy
        exact d8_ok z
      have Hlk : Hid ((ws.map D8.of).length = nw) := by show _ = _; rw [List.length_map]; exact Hlw.out
      have Hga := Lib.hid (fun fs => gat_all (D8.of m) (ws.map D8.of) fs nw Hlk.out)
      have Hgo := Lib.hid (fun fs q h1 h2 => gat_out (D8.of m) (ws.map D8.of) fs nw q Hlk.out h1 h2)
      have Hgf := Lib.hid (fun q h1 => gat_free (D8.of m) (ws.map D8.of) nw q Hlk.out h1)
      have Hgok := Lib.hid (gatS_ok [] (D8.of m) (ws.map D8.of) nw)
      have Hgsl := Lib.hid (gatSs_len [] (D8.of m) (ws.map D8.of) nw)
      have Hgbl : Hid ((gatB [] (D8.of m) (ws.map D8.of)).length ≤ nw) := by
        have := gatB_len [] (D8.of m) (ws.map D8.of) (ws.map D8.of).length (Nat.le_refl _)
        rw [List.take_length] at this
        have h2 := Hlk.out
        show _ ≤ _
        simp only [List.length_nil] at this
        omega
      generalize ws.map D8.of = ks at *
      go_wp2_with fail
      refine (digest_any m w2 (by omega)).mono ?_
      rintro r v1 ⟨rfl, hb⟩
      have HO8b := Lib.hid (own_below HO8.out hb); have HO9b := Lib.hid (own_below HO9.out hb); have Hb2 := Lib.hid (Hb.out.trans (hb.mono Hb.out.size))
      clear hb HO8 HO9 Hb
      have HBv := Lib.hid (HB1.out.below Hb2.out)
      go_wp2_with fail
      refine (gather_any _ _ _ [] ks (D8.of m) A8 nw c8 _ v1 HBv.out (by simp; omega) HO8b.out Hko.out (d8_ok _)).mono ?_
      rintro r u1 ⟨A11, c11, rfl, hS, hB, hK⟩
      have HS1 := Lib.hid hS; have HBu := Lib.hid hB
      have HO9c := Lib.hid (hK.ownT HBv.out.bk (by decide) (by decide) HO9b.out)
      have Hbu := Lib.hid ((Hb1.out.trans (Hb2.out.mono Hb1.out.size)).trans (hK.below (B := w.heap.size) (by omega) (Nat.le_refl _)))
      have hCv : w.heap.size ≤ v1.heap.size := Nat.le_trans Hb1.out.size Hb2.out.size
      clear hS hB hK HO8b HO9b Hb2 HBv
      generalize v1.heap.size = C at *
      generalize gatB [] (D8.of m) ks = L at *
      generalize gatSs [] (D8.of m) ks nw = ss at *
      have hnn : ((nw : Int) != (nw : Int)) = false := by simp
      by_cases h0 : nw = 0
      · have e0 : ((nw : Int) == 0) = true := by simp; omega
        have e1 : decide ((nw : Int) = 0) = true := decide_eq_true (by omega)
        have e2 : decide (nw = 0) = true := decide_eq_true h0
        have Ha : Hid (∀ l, allI nw nw l = 1) := fun l => by unfold allI; rw [if_pos (.inl h0)]
        clear h0
        go_wp2_with fail
        refine (digest_any m u1 (by omega)).mono ?_
        rintro r u2 ⟨rfl, hb⟩
        go_wp2_with fail
        refine (all_any _ _ _ L ks A9 nw c9 (D8.of m) ss A11 nw c11 [] none 0 0 u2 (HBu.out.below hb) (by have := Hgbl.out; omega) (Rd.of_own (own_below HO9c.out hb)) Hko.out (d8_ok _) (HS1.out.below hb).rd Hgok.out Rd.empty (by omega)).mono ?_
        rintro r u3 ⟨rfl, hb3⟩
        rw [Ha.out]
        have Hb3 := Lib.hid (Hbu.out.trans ((hb.trans (hb3.mono hb.size)).mono Hbu.out.size))
        clear hb hb3
        go_wp2_with (go_at_call 10; refine (told_any u3).mono ?_; rintro r9 v9 ⟨rfl, hb9⟩; have Hv9 := Lib.hid (Hb3.out.trans (hb9.mono Hb3.out.size)); clear hb9)
        go_ret
        exact ⟨rfl, Hv9.out⟩
      · have e0 : ((nw : Int) == 0) = false := by simp; omega
        have e1 : decide ((nw : Int) = 0) = false := decide_eq_false (by omega)
        have e2 : decide (nw = 0) = false := decide_eq_false h0
        have e3 : (nw : Int) ≠ 0 := by omega
        have hq : x % nw < nw := Nat.mod_lt _ (by omega)
        have hrem : (x : Int).tmod (nw : Int) = ((x % nw : Nat) : Int) := by rw [Int.tmod_eq_emod_of_nonneg (by omega)]; rfl
        generalize x % nw = q at *
        have Ha : Hid (∀ l : List Nat, l = [] → allI nw nw l = 0) := fun l hl => by unfold allI; rw [if_neg (by omega), if_pos (by rw [hl]; rfl)]
        have Hc : Hid (∀ l : List Nat, l.length ≠ 0 → allI nw nw l = 16) := fun l hl => by unfold allI; rw [if_neg (by omega), if_neg hl]
        have hq0 : (0 : Int) ≤ (q : Int) := by omega
        have hq1 : (q : Int) < (nw : Int) := by omega
        go_wp2_with fail
        refine (digest_any m u1 (by omega)).mono ?_
        rintro r u2 ⟨rfl, hb⟩
        have HS2 := Lib.hid (HS1.out.below hb); have HB2 := Lib.hid (HBu.out.below hb); have HO2 := Lib.hid (own_below HO9c.out hb); have Hb2 := Lib.hid (Hbu.out.trans (hb.mono Hbu.out.size))
        clear hb HS1 HBu HO9c Hbu
        go_wp2_with fail
        refine (all_any _ _ _ L ks A9 nw c9 (D8.of m) ss A11 nw c11 [] none 0 0 u2 HB2.out (by have := Hgbl.out; omega) (Rd.of_own HO2.out) Hko.out (d8_ok _) HS2.out.rd Hgok.out Rd.empty (by omega)).mono ?_
        rintro r u3 ⟨rfl, hb⟩
        rw [Ha.out _ (Hga.out [])]
        have HS3 := Lib.hid (HS2.out.below hb); have HB3 := Lib.hid (HB2.out.below hb); have HO3 := Lib.hid (own_below HO2.out hb); have Hb3 := Lib.hid (Hb2.out.trans (hb.mono Hb2.out.size))
        clear hb HS2 HB2 HO2 Hb2
        obtain ⟨g, u, rfl, hCg, hgl, hcu, hfr, hSr, hgt⟩ := HS3.out.set hq
        have HS4 := Lib.hid hSr; have HB4 := Lib.hid (HB3.out.gt hgt (by decide) (by decide)); have HO4 := Lib.hid (hgt.own HO3.out (by decide))
        have Hb4 : Hid (Below w.heap.size w (u3.setCell ⟨g, q, none⟩ (.slice none 0 0))) := by
          obtain ⟨row, a, b⟩ := hgt
          exact Hb3.out.grown a Hb3.out.size (fun p hp => by have := (b p hp).1; omega)
        clear hSr hgt
        go_upto_region 22 with fail
        generalize u3.setCell ⟨g, q, none⟩ (.slice none 0 0) = w5 at *
        have hz5 := Hb4.out.size
        clear hcu hfr HS3 HB3 HO3 Hb3
        go_wp2_with (first
          | (at_make; refine wpList_make_full w5 (by rfl) _ _ 62 (by rfl) w5.heap.size 4 iB (.bool false) 1 HuB.out HIB.out.1 HIB.out.2.1 HIB.out.2.2.1 .i64 .i64 _ _ nw (by rfl) (by rfl) rfl rfl (by rw [HIB.out.2.2.2]; omega) (by simp only [maxLen]; omega) (Nat.le_refl _) ?_; go_must (intro w6 ho6 hg6; rw [madeBools] at ho6; have HQ6 : Hid (Below w5.heap.size w5 w6) := (below_of_grown hg6 (Nat.le_refl _) (fun k hk => by cases hk)); have HF6 := Lib.hid ho6; clear ho6 hg6)))
        refine (digest_any m w6 (by omega)).mono ?_
        rintro r w7 ⟨rfl, hb⟩
        have HF7 := Lib.hid (own_below HF6.out hb); have HQ7 := Lib.hid (HQ6.out.trans (hb.mono HQ6.out.size))
        clear hb HF6 HQ6
        have Hgok2 : Hid (∀ s ∈ ss.set q [], s.length ≤ 1000 ∧ ∀ x ∈ s, x < 256) := fun s hs => by
          rcases List.mem_or_eq_of_mem_set hs with h1 | h1
          · exact Hgok.out s h1
          · subst h1; simp
        go_wp2_with fail
        refine (all_any _ _ _ L ks A9 nw c9 (D8.of m) (ss.set q []) _ nw c11 (List.replicate nw false) _ nw nw w7 (HB4.out.below HQ7.out) (by have := Hgbl.out; omega) (Rd.of_own (own_below HO4.out HQ7.out)) Hko.out (d8_ok _) (HS4.out.keep HQ7.out) Hgok2.out (Rd.of_own HF7.out) (by omega)).mono ?_
        rintro r w8 ⟨rfl, hb⟩
        rw [Hc.out _ (Hgo.out _ q hq (by simp [List.getD_eq_getElem?_getD, hq]))]
        have HF8 := Lib.hid (own_below HF7.out hb); have HQ8 := Lib.hid (HQ7.out.trans (hb.mono HQ7.out.size))
        clear hb HF7 HQ7
        obtain ⟨g2, u2, hA2, hCg2, hgl2, hcu2, hfr2, hR9, hgt⟩ := boolOwn_set HF8.out hq
        injection hA2 with hA2
        injection hA2 with hA2 _
        subst hA2
        have HR9 := Lib.hid hR9; have HQ9 := Lib.hid (HQ8.out.trans (hgt.below HQ8.out.size))
        clear hR9 hgt HF8
        go_upto_region 26 with fail
        generalize w8.setCell ⟨w5.heap.size, q, none⟩ (.bool true) = w9 at *
        clear hcu2 hfr2 hCg2 hgl2 HQ8
        go_wp2_with fail
        refine (digest_any m w9 (by omega)).mono ?_
        rintro r w10 ⟨rfl, hb⟩
        have HR10 := Lib.hid ((HR9.out.below hb (Nat.le_refl _)).more hb.size); have HQ10 := Lib.hid (HQ9.out.trans (hb.mono HQ9.out.size))
        clear hb HR9 HQ9
        go_wp2_with fail
        refine (all_any _ _ _ L ks A9 nw c9 (D8.of m) (ss.set q []) _ nw c11 ((List.replicate nw false).set q true) _ nw nw w10 (HB4.out.below HQ10.out) (by have := Hgbl.out; omega) (Rd.of_own (own_below HO4.out HQ10.out)) Hko.out (d8_ok _) (HS4.out.keep HQ10.out) Hgok2.out HR10.out (by omega)).mono ?_
        rintro r w11 ⟨rfl, hb⟩
        rw [Ha.out _ (Hgf.out q hq)]
        have Hb11 := Lib.hid (Hb4.out.trans ((HQ10.out.trans (hb.mono HQ10.out.size)).mono Hb4.out.size))
        clear hb HR10 HQ10
        go_wp2_with (go_at_call 10; refine (told_any w11).mono ?_; rintro r9 v9 ⟨rfl, hb9⟩; have Hv9 := Lib.hid (Hb11.out.trans (hb9.mono Hb11.out.size)); clear hb9)
        go_ret
        exact ⟨rfl, Hv9.out⟩
end Go.Proofs.Ytepdinfopcohiaa
