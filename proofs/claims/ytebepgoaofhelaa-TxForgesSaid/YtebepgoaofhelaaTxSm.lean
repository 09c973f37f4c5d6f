/- The walk of the statement TxSame: Same, of any two, is the document's; a clone is the same and no part of it is shared. Condition: what is handed in can be read. -/
import Derived.Test.YtebepgoaofhelaaTxDec
import Derived.Test.YtebepgoaofhelaaTxCl
import Derived.Test.YtebepgoaofhelaaTxBack
import Derived.Test.YtebepgoaofhelaaTxBounds
import Derived.Deep.AppendLies
import Derived.Deep.RegionLaw
import Derived.Deep.DeepCutAuto
namespace Go.Proofs.Ytebepgoaofhelaa
open Go.RowKit Go.Lib

theorem sameT_comm (a b : TxV) : sameT b a = sameT a b := by
  rw [Bool.eq_iff_iff, sameT_iff, sameT_iff]
  constructor <;> (rintro ⟨h1, h2, h3, h4, h5, h6⟩; exact ⟨h1.symm, h2.symm, h3.symm, h4.symm, h5.symm, h6.symm⟩)
theorem sameT_self (a : TxV) : sameT a a = true := sameT_iff.2 ⟨rfl, rfl, rfl, rfl, rfl, rfl⟩
/-- Two transactions in order are the same if their bytes are. -/
theorem enc_same {a b : TxV} (ha : a.d.ok) (hb : b.d.ok) (h1 : checkT a.no a.fe a.ki a.bo a.si = 0) (h2 : checkT b.no b.fe b.ki b.bo b.si = 0) :
    sameB (encT a.no a.fe a.ki a.d a.bo a.si) (encT b.no b.fe b.ki b.d b.bo b.si) = sameT a b := by
  rw [Bool.eq_iff_iff, sameT_iff, sameB_iff]
  unfold encT
  rw [if_pos h1, if_pos h2]
  constructor
  · intro h
    have e1 := (bytes_back ha h1).2
    have e2 := (bytes_back hb h2).2
    rw [h, e2] at e1
    injection e1 with a1 a2 a3 a4 a5 a6
    exact ⟨a1.symm, a2.symm, a3.symm, a4.symm, a5.symm, a6.symm⟩
  · rintro ⟨h1, h2, h3, h4, h5, h6⟩
    rw [h1, h2, h3, h4, h5, h6]
/-- One byte of a row of one's own is written. -/
theorem rd_set {w : World} {g n y mm : Nat} {cur : Array Value} {e : TypeId} {l : List Nat} (h : w.heap[g]? = some (.cells cur e (0, 0))) (hl : (bv l).length = n * 1) (hc : cur.toList.take (n * 1) = bv l) (hm : mm < n) (hg : g < w.heap.size) :
    Rd (w.setCell ⟨g, mm, none⟩ (.int .u8 (y : Int))) w.heap.size 1 (some ⟨g, 0, none⟩) n (bv (l.set mm y)) := by
  have hset := Joins.block_setCell (i := mm) h (.int .u8 (y : Int))
  have hlen : l.length = n := by rw [bv_len] at hl; omega
  refine ⟨by rw [bv_len, List.length_set]; omega, fun _ => ⟨g, 0, rfl, hg, fun j u hj => ?_⟩⟩
  have hjn : j < n := by
    have := (List.getElem?_eq_some_iff.1 hj).1
    rw [bv_len, List.length_set] at this; omega
  have h1 := block_cell hset j
  rw [Nat.zero_add, h1]
  have h2 : cur[j]? = (bv l)[j]? := by
    rw [← hc, List.getElem?_take, if_pos (by omega)]; simp
  have hsz : mm < cur.size := by
    have := congrArg List.length hc
    rw [List.length_take, hl, Array.length_toList] at this; omega
  by_cases hjm : mm = j
  · subst hjm
    simp [bv, List.getElem?_set, hlen, hm] at hj
    simp [hsz, ← hj]
  · simp only [bv, List.getElem?_map, List.getElem?_set, if_neg hjm] at hj
    rw [Array.getElem?_setIfInBounds_ne hjm, h2]
    simpa [bv] using hj
set_option maxRecDepth 100000 in
set_option maxHeartbeats 4000000 in
theorem txsame2_any (t o : TxV) (k : Int) (w : World) (h : t.In w w.heap.size) (ho : o.In w w.heap.size) (h1 : -9223372036854775808 ≤ k) (h2 : k ≤ 9223372036854775807) :
    Calls Try.prog 5 #[.agg #[.int .u8 (t.d.x0 : Int), .int .u8 (t.d.x1 : Int), .int .u8 (t.d.x2 : Int), .int .u8 (t.d.x3 : Int), .int .u8 (t.d.x4 : Int), .int .u8 (t.d.x5 : Int), .int .u8 (t.d.x6 : Int), .int .u8 (t.d.x7 : Int), .int .i64 t.no, .int .i64 t.fe, .int .i64 t.ki, .slice t.A t.n t.c, .slice t.A' t.n' t.c'], .agg #[.int .u8 (o.d.x0 : Int), .int .u8 (o.d.x1 : Int), .int .u8 (o.d.x2 : Int), .int .u8 (o.d.x3 : Int), .int .u8 (o.d.x4 : Int), .int .u8 (o.d.x5 : Int), .int .u8 (o.d.x6 : Int), .int .u8 (o.d.x7 : Int), .int .i64 o.no, .int .i64 o.fe, .int .i64 o.ki, .slice o.A o.n o.c, .slice o.A' o.n' o.c'], .int .i64 k] w fun e w' => e = .returned (.bool true) ∧ Below w.heap.size w w' := by
  have Hw0 := Lib.hid (below_two w (.cells #[.int .u8 (t.d.x0 : Int), .int .u8 (t.d.x1 : Int), .int .u8 (t.d.x2 : Int), .int .u8 (t.d.x3 : Int), .int .u8 (t.d.x4 : Int), .int .u8 (t.d.x5 : Int), .int .u8 (t.d.x6 : Int), .int .u8 (t.d.x7 : Int), .int .i64 t.no, .int .i64 t.fe, .int .i64 t.ki, .slice t.A t.n t.c, .slice t.A' t.n' t.c'] 26) (.cells #[.int .u8 (o.d.x0 : Int), .int .u8 (o.d.x1 : Int), .int .u8 (o.d.x2 : Int), .int .u8 (o.d.x3 : Int), .int .u8 (o.d.x4 : Int), .int .u8 (o.d.x5 : Int), .int .u8 (o.d.x6 : Int), .int .u8 (o.d.x7 : Int), .int .i64 o.no, .int .i64 o.fe, .int .i64 o.ki, .slice o.A o.n o.c, .slice o.A' o.n' o.c'] 26))
  have H := Lib.hid (h.keep Hw0.out (Nat.le_refl _))
  have Ho := Lib.hid (ho.keep Hw0.out (Nat.le_refl _))
  have HA0 := Lib.hid (show BoxT t 26 ((w.alloc (.cells #[.int .u8 (t.d.x0 : Int), .int .u8 (t.d.x1 : Int), .int .u8 (t.d.x2 : Int), .int .u8 (t.d.x3 : Int), .int .u8 (t.d.x4 : Int), .int .u8 (t.d.x5 : Int), .int .u8 (t.d.x6 : Int), .int .u8 (t.d.x7 : Int), .int .i64 t.no, .int .i64 t.fe, .int .i64 t.ki, .slice t.A t.n t.c, .slice t.A' t.n' t.c'] 26)).alloc (.cells #[.int .u8 (o.d.x0 : Int), .int .u8 (o.d.x1 : Int), .int .u8 (o.d.x2 : Int), .int .u8 (o.d.x3 : Int), .int .u8 (o.d.x4 : Int), .int .u8 (o.d.x5 : Int), .int .u8 (o.d.x6 : Int), .int .u8 (o.d.x7 : Int), .int .i64 o.no, .int .i64 o.fe, .int .i64 o.ki, .slice o.A o.n o.c, .slice o.A' o.n' o.c'] 26)) w.heap.size from block_alloc (heap_alloc_new w _) _)
  have HB0 : Hid (BoxT o 26 ((w.alloc (.cells #[.int .u8 (t.d.x0 : Int), .int .u8 (t.d.x1 : Int), .int .u8 (t.d.x2 : Int), .int .u8 (t.d.x3 : Int), .int .u8 (t.d.x4 : Int), .int .u8 (t.d.x5 : Int), .int .u8 (t.d.x6 : Int), .int .u8 (t.d.x7 : Int), .int .i64 t.no, .int .i64 t.fe, .int .i64 t.ki, .slice t.A t.n t.c, .slice t.A' t.n' t.c'] 26)).alloc (.cells #[.int .u8 (o.d.x0 : Int), .int .u8 (o.d.x1 : Int), .int .u8 (o.d.x2 : Int), .int .u8 (o.d.x3 : Int), .int .u8 (o.d.x4 : Int), .int .u8 (o.d.x5 : Int), .int .u8 (o.d.x6 : Int), .int .u8 (o.d.x7 : Int), .int .i64 o.no, .int .i64 o.fe, .int .i64 o.ki, .slice o.A o.n o.c, .slice o.A' o.n' o.c'] 26)) (w.heap.size + 1)) := by
    have := heap_alloc_new (w.alloc (.cells #[.int .u8 (t.d.x0 : Int), .int .u8 (t.d.x1 : Int), .int .u8 (t.d.x2 : Int), .int .u8 (t.d.x3 : Int), .int .u8 (t.d.x4 : Int), .int .u8 (t.d.x5 : Int), .int .u8 (t.d.x6 : Int), .int .u8 (t.d.x7 : Int), .int .i64 t.no, .int .i64 t.fe, .int .i64 t.ki, .slice t.A t.n t.c, .slice t.A' t.n' t.c'] 26)) (.cells #[.int .u8 (o.d.x0 : Int), .int .u8 (o.d.x1 : Int), .int .u8 (o.d.x2 : Int), .int .u8 (o.d.x3 : Int), .int .u8 (o.d.x4 : Int), .int .u8 (o.d.x5 : Int), .int .u8 (o.d.x6 : Int), .int .u8 (o.d.x7 : Int), .int .i64 o.no, .int .i64 o.fe, .int .i64 o.ki, .slice o.A o.n o.c, .slice o.A' o.n' o.c'] 26)
    rw [World.size_alloc] at this; exact this
  have hz0 : Hid (((w.alloc (.cells #[.int .u8 (t.d.x0 : Int), .int .u8 (t.d.x1 : Int), .int .u8 (t.d.x2 : Int), .int .u8 (t.d.x3 : Int), .int .u8 (t.d.x4 : Int), .int .u8 (t.d.x5 : Int), .int .u8 (t.d.x6 : Int), .int .u8 (t.d.x7 : Int), .int .i64 t.no, .int .i64 t.fe, .int .i64 t.ki, .slice t.A t.n t.c, .slice t.A' t.n' t.c'] 26)).alloc (.cells #[.int .u8 (o.d.x0 : Int), .int .u8 (o.d.x1 : Int), .int .u8 (o.d.x2 : Int), .int .u8 (o.d.x3 : Int), .int .u8 (o.d.x4 : Int), .int .u8 (o.d.x5 : Int), .int .u8 (o.d.x6 : Int), .int .u8 (o.d.x7 : Int), .int .i64 o.no, .int .i64 o.fe, .int .i64 o.ki, .slice o.A o.n o.c, .slice o.A' o.n' o.c'] 26)).heap.size = w.heap.size + 2) := by show _ = _; simp
  clear h ho
  go_enter Try.func5, Try.ntmps5
  go_upto_region 1 with fail
  go_cut [] (fun wx => ∃ t' o' : TxV, t'.AtB wx w.heap.size ∧ o'.AtB wx w.heap.size ∧ BoxT t' 26 wx w.heap.size ∧ BoxT o' 26 wx (w.heap.size + 1) ∧ Below w.heap.size w wx ∧ w.heap.size + 2 ≤ wx.heap.size)
  case first =>
    generalize (w.alloc (.cells #[.int .u8 (t.d.x0 : Int), .int .u8 (t.d.x1 : Int), .int .u8 (t.d.x2 : Int), .int .u8 (t.d.x3 : Int), .int .u8 (t.d.x4 : Int), .int .u8 (t.d.x5 : Int), .int .u8 (t.d.x6 : Int), .int .u8 (t.d.x7 : Int), .int .i64 t.no, .int .i64 t.fe, .int .i64 t.ki, .slice t.A t.n t.c, .slice t.A' t.n' t.c'] 26)).alloc (.cells #[.int .u8 (o.d.x0 : Int), .int .u8 (o.d.x1 : Int), .int .u8 (o.d.x2 : Int), .int .u8 (o.d.x3 : Int), .int .u8 (o.d.x4 : Int), .int .u8 (o.d.x5 : Int), .int .u8 (o.d.x6 : Int), .int .u8 (o.d.x7 : Int), .int .i64 o.no, .int .i64 o.fe, .int .i64 o.ki, .slice o.A o.n o.c, .slice o.A' o.n' o.c'] 26) = w0 at *
    have HA1 := Lib.hid HA0.out.drew; have HB1 := Lib.hid HB0.out.drew
    have Hd := Lib.hid (H.out.keep (show Below w0.heap.size w0 w0.drew from (Below.refl _ _).drew) (by rw [hz0.out]; omega))
    have Hod := Lib.hid (Ho.out.keep (show Below w0.heap.size w0 w0.drew from (Below.refl _ _).drew) (by rw [hz0.out]; omega))
    obtain ⟨y0, y1, y2, y3, y4, y5, y6, y7, y8, y9, y10, y11, y12⟩ := HA1.out.all
    obtain ⟨z0, z1, z2, z3, z4, z5, z6, z7, z8, z9, z10, z11, z12⟩ := HB1.out.all
    go_region_law (first
      | (have _g := HA2; clear _g; go_simp; go_at_call 10; refine (cut_any o _ w.heap.size (by have := hz2.out; omega) Ho2.out).mono ?_; rintro e w3 ⟨o', rfl, hcut, hat, hb3⟩; clear y0 y1 y2 y3 y4 y5 y6 y7 y8 y9 y10 y11 y12 z0 z1 z2 z3 z4 z5 z6 z7 z8 z9 z10 z11 z12; have HA3 := Lib.hid (HA2.out.below hb3); have HB3 := Lib.hid (HB2.out.below hb3); have hz3 := Lib.hid (Nat.le_trans hz2.out hb3.size); have Hat3 := Lib.hid (Hat2.out.keep hb3 (by have := hz2.out; omega)); have Hot3 := Lib.hid hat; have Hw3 := Lib.hid (Hw2.out.trans (hb3.mono Hw2.out.size)); clear hat hcut hb3; obtain ⟨y0, y1, y2, y3, y4, y5, y6, y7, y8, y9, y10, y11, y12⟩ := HA3.out.all; obtain ⟨z0, z1, z2, z3, z4, z5, z6, z7, z8, z9, z10, z11, z12⟩ := HB3.out.all; have yf := block_free HA3.out; have zf := block_free HB3.out)
      | (go_simp; go_at_call 10; refine (cut_any t _ w.heap.size (by rw [World.size_drew, hz0.out]; omega) Hd.out).mono ?_; rintro e w2 ⟨t', rfl, hcut, hat, hb2⟩; clear y0 y1 y2 y3 y4 y5 y6 y7 y8 y9 y10 y11 y12 z0 z1 z2 z3 z4 z5 z6 z7 z8 z9 z10 z11 z12; have HA2 := Lib.hid (HA1.out.below hb2); have HB2 := Lib.hid (HB1.out.below hb2); have hz2 := Lib.hid (show w.heap.size + 2 ≤ w2.heap.size by have := hb2.size; rw [World.size_drew, hz0.out] at this; exact this); have Hat2 := Lib.hid hat; have Hw2 := Lib.hid (Hw0.out.drew.trans (hb2.mono Hw0.out.size)); have Ho2 := Lib.hid (Hod.out.keep hb2 (by rw [World.size_drew, hz0.out]; omega)); clear hat hcut hb2; obtain ⟨y0, y1, y2, y3, y4, y5, y6, y7, y8, y9, y10, y11, y12⟩ := HA2.out.all; obtain ⟨z0, z1, z2, z3, z4, z5, z6, z7, z8, z9, z10, z11, z12⟩ := HB2.out.all))
    all_goals
      obtain ⟨s1, s2⟩ := set13 (t' := t') HA3.out
      obtain ⟨s3, s4⟩ := set13 (t' := o') (show Box o _ (w.heap.size + 1) from (s2.block (w.heap.size + 1) (by have := hz3.out; omega) (by simp)).trans HB3.out)
      have S1 := Lib.hid s1; have S2 := Lib.hid s2; have S3 := Lib.hid s3; have S4 := Lib.hid s4
      clear s1 s2 s3 s4
      go_wp2_with fail
      generalize hw4 : (((((((((((((w3.setCell ⟨w.heap.size, 0, none⟩ (.int .u8 (t'.d.x0 : Int))).setCell ⟨w.heap.size, 1, none⟩ (.int .u8 (t'.d.x1 : Int))).setCell ⟨w.heap.size, 2, none⟩ (.int .u8 (t'.d.x2 : Int))).setCell ⟨w.heap.size, 3, none⟩ (.int .u8 (t'.d.x3 : Int))).setCell ⟨w.heap.size, 4, none⟩ (.int .u8 (t'.d.x4 : Int))).setCell ⟨w.heap.size, 5, none⟩ (.int .u8 (t'.d.x5 : Int))).setCell ⟨w.heap.size, 6, none⟩ (.int .u8 (t'.d.x6 : Int))).setCell ⟨w.heap.size, 7, none⟩ (.int .u8 (t'.d.x7 : Int))).setCell ⟨w.heap.size, 8, none⟩ (.int .i64 t'.no)).setCell ⟨w.heap.size, 9, none⟩ (.int .i64 t'.fe)).setCell ⟨w.heap.size, 10, none⟩ (.int .i64 t'.ki)).setCell ⟨w.heap.size, 11, none⟩ (.slice t'.A t'.n t'.c)).setCell ⟨w.heap.size, 12, none⟩ (.slice t'.A' t'.n' t'.c')) = w4 at *
      clear hw4
      generalize hw5 : (((((((((((((w4.setCell ⟨(w.heap.size + 1), 0, none⟩ (.int .u8 (o'.d.x0 : Int))).setCell ⟨(w.heap.size + 1), 1, none⟩ (.int .u8 (o'.d.x1 : Int))).setCell ⟨(w.heap.size + 1), 2, none⟩ (.int .u8 (o'.d.x2 : Int))).setCell ⟨(w.heap.size + 1), 3, none⟩ (.int .u8 (o'.d.x3 : Int))).setCell ⟨(w.heap.size + 1), 4, none⟩ (.int .u8 (o'.d.x4 : Int))).setCell ⟨(w.heap.size + 1), 5, none⟩ (.int .u8 (o'.d.x5 : Int))).setCell ⟨(w.heap.size + 1), 6, none⟩ (.int .u8 (o'.d.x6 : Int))).setCell ⟨(w.heap.size + 1), 7, none⟩ (.int .u8 (o'.d.x7 : Int))).setCell ⟨(w.heap.size + 1), 8, none⟩ (.int .i64 o'.no)).setCell ⟨(w.heap.size + 1), 9, none⟩ (.int .i64 o'.fe)).setCell ⟨(w.heap.size + 1), 10, none⟩ (.int .i64 o'.ki)).setCell ⟨(w.heap.size + 1), 11, none⟩ (.slice o'.A o'.n o'.c)).setCell ⟨(w.heap.size + 1), 12, none⟩ (.slice o'.A' o'.n' o'.c')) = w5 at *
      clear hw5
      go_meet
      have hw4 := below_gr Hw3.out S2.out (Nat.le_refl _)
      have hw5 := below_gr hw4 S4.out (by omega)
      refine ⟨t', o', (Hat3.out.grown S2.out Hw3.out.size (Nat.le_refl _)).grown S4.out hw4.size (by omega), (Hot3.out.grown S2.out Hw3.out.size (Nat.le_refl _)).grown S4.out hw4.size (by omega), (S4.out.block w.heap.size (by have := S2.out.size; have := hz3.out; omega) (by simp)).trans S1.out, S3.out, hw5, ?_⟩
      have := S2.out.size; have := S4.out.size; have := hz3.out
      omega
  case rest =>
    obtain ⟨t', o', hat, hot, ha, hb, hw, hz⟩ := hcut
    have HA1 := Lib.hid ha.drew; have HB1 := Lib.hid hb.drew; have Hw1 := Lib.hid hw.drew
    have Hat1 := Lib.hid ((hat.at hw.size).up (Below.refl _ _).drew); have Hot1 := Lib.hid ((hot.at hw.size).up (Below.refl _ _).drew)
    have Hz1 := Lib.hid hz
    clear hat hot ha hb hw hz
    go_wp2
    go_region_held3 (fun w' => (w'.cell? ⟨w.heap.size, 0, none⟩ = some (.int .u8 (t'.d.x0 : Int)) ∧ w'.cell? ⟨w.heap.size, 1, none⟩ = some (.int .u8 (t'.d.x1 : Int)) ∧ w'.cell? ⟨w.heap.size, 2, none⟩ = some (.int .u8 (t'.d.x2 : Int)) ∧ w'.cell? ⟨w.heap.size, 3, none⟩ = some (.int .u8 (t'.d.x3 : Int)) ∧ w'.cell? ⟨w.heap.size, 4, none⟩ = some (.int .u8 (t'.d.x4 : Int)) ∧ w'.cell? ⟨w.heap.size, 5, none⟩ = some (.int .u8 (t'.d.x5 : Int)) ∧ w'.cell? ⟨w.heap.size, 6, none⟩ = some (.int .u8 (t'.d.x6 : Int)) ∧ w'.cell? ⟨w.heap.size, 7, none⟩ = some (.int .u8 (t'.d.x7 : Int)) ∧ w'.cell? ⟨w.heap.size, 8, none⟩ = some (.int .i64 t'.no) ∧ w'.cell? ⟨w.heap.size, 9, none⟩ = some (.int .i64 t'.fe) ∧ w'.cell? ⟨w.heap.size, 10, none⟩ = some (.int .i64 t'.ki) ∧ w'.cell? ⟨w.heap.size, 11, none⟩ = some (.slice t'.A t'.n t'.c) ∧ w'.cell? ⟨w.heap.size, 12, none⟩ = some (.slice t'.A' t'.n' t'.c')) ∧ (w'.cell? ⟨(w.heap.size + 1), 0, none⟩ = some (.int .u8 (o'.d.x0 : Int)) ∧ w'.cell? ⟨(w.heap.size + 1), 1, none⟩ = some (.int .u8 (o'.d.x1 : Int)) ∧ w'.cell? ⟨(w.heap.size + 1), 2, none⟩ = some (.int .u8 (o'.d.x2 : Int)) ∧ w'.cell? ⟨(w.heap.size + 1), 3, none⟩ = some (.int .u8 (o'.d.x3 : Int)) ∧ w'.cell? ⟨(w.heap.size + 1), 4, none⟩ = some (.int .u8 (o'.d.x4 : Int)) ∧ w'.cell? ⟨(w.heap.size + 1), 5, none⟩ = some (.int .u8 (o'.d.x5 : Int)) ∧ w'.cell? ⟨(w.heap.size + 1), 6, none⟩ = some (.int .u8 (o'.d.x6 : Int)) ∧ w'.cell? ⟨(w.heap.size + 1), 7, none⟩ = some (.int .u8 (o'.d.x7 : Int)) ∧ w'.cell? ⟨(w.heap.size + 1), 8, none⟩ = some (.int .i64 o'.no) ∧ w'.cell? ⟨(w.heap.size + 1), 9, none⟩ = some (.int .i64 o'.fe) ∧ w'.cell? ⟨(w.heap.size + 1), 10, none⟩ = some (.int .i64 o'.ki) ∧ w'.cell? ⟨(w.heap.size + 1), 11, none⟩ = some (.slice o'.A o'.n o'.c) ∧ w'.cell? ⟨(w.heap.size + 1), 12, none⟩ = some (.slice o'.A' o'.n' o'.c')))
      (first | exact BoxT.all2 HA1.out HB1.out | exact BoxT.all2 HA2.out HB2.out | exact BoxT.all2 HA3.out HB3.out | exact BoxT.all2 HA4.out HB4.out | go_keep)
      (first
        | (have _g := HA2; clear _g; go_at_call 13; refine (of_any o' _).mono ?_; rintro e w3 ⟨rfl, hb3⟩; have HA3 := Lib.hid (HA2.out.below hb3); have HB3 := Lib.hid (HB2.out.below hb3); have Hw3 := Lib.hid (Hw2.out.trans (hb3.mono Hw2.out.size)); have Hat3 := Lib.hid (Hat2.out.up hb3); have Hot3 := Lib.hid (Hot2.out.up hb3); clear hb3)
        | (go_at_call 13; refine (of_any t' _).mono ?_; rintro e w2 ⟨rfl, hb2⟩; have HA2 := Lib.hid (HA1.out.below hb2); have HB2 := Lib.hid (HB1.out.below hb2); have Hw2 := Lib.hid (Hw1.out.trans (hb2.mono Hw1.out.size)); have Hat2 := Lib.hid (Hat1.out.up hb2); have Hot2 := Lib.hid (Hot1.out.up hb2); clear hb2)
        | (go_at_call 19; refine (rsame_any t' o' _ Hat3.out Hot3.out).mono ?_; rintro e w4 ⟨rfl, hb4⟩; have HA4 := Lib.hid (HA3.out.below hb4); have HB4 := Lib.hid (HB3.out.below hb4); have Hw4 := Lib.hid (Hw3.out.trans (hb4.mono Hw3.out.size)); have Hat4 := Lib.hid (Hat3.out.up hb4); have Hot4 := Lib.hid (Hot3.out.up hb4); clear hb4))
    all_goals
      obtain ⟨y0, y1, y2, y3, y4, y5, y6, y7, y8, y9, y10, y11, y12⟩ := HA4.out.all
      obtain ⟨z0, z1, z2, z3, z4, z5, z6, z7, z8, z9, z10, z11, z12⟩ := HB4.out.all
      go_wp2_with fail
      refine (encode_any t' w4 Hat4.out).mono ?_
      rintro e w5 ⟨A5, n5, c5, rfl, hr5, hn5, hc5, hb5⟩
      have HA5 := Lib.hid (HA4.out.below hb5); have HB5 := Lib.hid (HB4.out.below hb5); have Hw5 := Lib.hid (Hw4.out.trans (hb5.mono Hw4.out.size)); have Hat5 := Lib.hid (Hat4.out.up hb5); have Hot5 := Lib.hid (Hot4.out.up hb5)
      have Hr5 := Lib.hid hr5; have Hn5 := Lib.hid hn5
      clear hr5 hn5 hc5 hb5
      clear y0 y1 y2 y3 y4 y5 y6 y7 y8 y9 y10 y11 y12 z0 z1 z2 z3 z4 z5 z6 z7 z8 z9 z10 z11 z12
      obtain ⟨y0, y1, y2, y3, y4, y5, y6, y7, y8, y9, y10, y11, y12⟩ := HA5.out.all
      obtain ⟨z0, z1, z2, z3, z4, z5, z6, z7, z8, z9, z10, z11, z12⟩ := HB5.out.all
      go_wp2_with fail
      refine (encode_any o' w5 Hot5.out).mono ?_
      rintro e w6 ⟨A6, n6, c6, rfl, hr6, hn6, hc6, hb6⟩
      have HA6 := Lib.hid (HA5.out.below hb6); have HB6 := Lib.hid (HB5.out.below hb6); have Hw6 := Lib.hid (Hw5.out.trans (hb6.mono Hw5.out.size)); have Hat6 := Lib.hid (Hat5.out.up hb6); have Hot6 := Lib.hid (Hot5.out.up hb6)
      have Hr6 := Lib.hid hr6; have Hn6 := Lib.hid hn6; have Hr56 := Lib.hid (Hr5.out.up hb6 (Nat.le_refl _))
      clear hr6 hn6 hc6 hb6
      clear y0 y1 y2 y3 y4 y5 y6 y7 y8 y9 y10 y11 y12 z0 z1 z2 z3 z4 z5 z6 z7 z8 z9 z10 z11 z12
      obtain ⟨y0, y1, y2, y3, y4, y5, y6, y7, y8, y9, y10, y11, y12⟩ := HA6.out.all
      obtain ⟨z0, z1, z2, z3, z4, z5, z6, z7, z8, z9, z10, z11, z12⟩ := HB6.out.all
      have Hes := Lib.hid (fun h1 h2 => enc_same (a := t') (b := o') Hat6.out.ok Hot6.out.ok h1 h2)
      have Hcm := Lib.hid (sameT_comm t' o')
      have hl5 : (encT t'.no t'.fe t'.ki t'.d t'.bo t'.si).length ≤ 300000000 := by
        unfold encT; split
        · unfold bytesT; rw [List.length_append]; have := headT_len t'.d t'.no t'.fe t'.ki t'.bo; have := encB_len t'.si; have := Hat6.out.len1; have := Hat6.out.len2; have := Hat6.out.m1; have := Hat6.out.m2; omega
        · simp
      have hl6 : (encT o'.no o'.fe o'.ki o'.d o'.bo o'.si).length ≤ 300000000 := by
        unfold encT; split
        · unfold bytesT; rw [List.length_append]; have := headT_len o'.d o'.no o'.fe o'.ki o'.bo; have := encB_len o'.si; have := Hot6.out.len1; have := Hot6.out.len2; have := Hot6.out.m1; have := Hot6.out.m2; omega
        · simp
      have hn5 : n5 ≤ 300000000 := by have := Hn5.out; omega
      have hn6 : n6 ≤ 300000000 := by have := Hn6.out; omega
      clear hl5 hl6
      generalize hsm : sameT t' o' = sm at *
      have Hsm := Lib.hid hsm
      clear hsm
      generalize checkT t'.no t'.fe t'.ki t'.bo t'.si = q1 at *
      generalize checkT o'.no o'.fe o'.ki o'.bo o'.si = q2 at *
      generalize encT t'.no t'.fe t'.ki t'.d t'.bo t'.si = e1 at *
      generalize encT o'.no o'.fe o'.ki o'.d o'.bo o'.si = e2 at *
      have b0 : (sm != sm) = false := by simp
      have Hr6b := Hr6; clear Hr6b
      go_upto_region 5 with fail
      go_cut [66] (fun s66 wx => s66 = .bool false ∧ BoxT t' 26 wx w.heap.size ∧ t'.At wx ∧ Below w.heap.size w wx)
      case first =>
        go_wp2_with fail
        refine (tsame_any t' o' w6 Hat6.out Hot6.out).mono ?_
        rintro e w7 ⟨rfl, hb7⟩
        rw [Hsm.out]
        have HA7 := Lib.hid (HA6.out.below hb7); have HB7 := Lib.hid (HB6.out.below hb7); have Hw7 := Lib.hid (Hw6.out.trans (hb7.mono Hw6.out.size)); have Hat7 := Lib.hid (Hat6.out.up hb7); have Hot7 := Lib.hid (Hot6.out.up hb7)
        have Hq7 := Lib.hid (Hr56.out.up hb7 (Nat.le_refl _)); have Hp7 := Lib.hid (Hr6.out.up hb7 (Nat.le_refl _))
        clear hb7
        clear y0 y1 y2 y3 y4 y5 y6 y7 y8 y9 y10 y11 y12 z0 z1 z2 z3 z4 z5 z6 z7 z8 z9 z10 z11 z12
        obtain ⟨y0, y1, y2, y3, y4, y5, y6, y7, y8, y9, y10, y11, y12⟩ := HA7.out.all
        obtain ⟨z0, z1, z2, z3, z4, z5, z6, z7, z8, z9, z10, z11, z12⟩ := HB7.out.all
        go_wp2_with fail
        refine (tsame_any o' t' w7 Hot7.out Hat7.out).mono ?_
        rintro e w8 ⟨rfl, hb8⟩
        rw [Hcm.out]
        have HA8 := Lib.hid (HA7.out.below hb8); have HB8 := Lib.hid (HB7.out.below hb8); have Hw8 := Lib.hid (Hw7.out.trans (hb8.mono Hw7.out.size)); have Hat8 := Lib.hid (Hat7.out.up hb8); have Hot8 := Lib.hid (Hot7.out.up hb8)
        have Hq8 := Lib.hid (Hq7.out.up hb8 (Nat.le_refl _)); have Hp8 := Lib.hid (Hp7.out.up hb8 (Nat.le_refl _))
        clear hb8
        clear y0 y1 y2 y3 y4 y5 y6 y7 y8 y9 y10 y11 y12 z0 z1 z2 z3 z4 z5 z6 z7 z8 z9 z10 z11 z12
        obtain ⟨y0, y1, y2, y3, y4, y5, y6, y7, y8, y9, y10, y11, y12⟩ := HA8.out.all
        obtain ⟨z0, z1, z2, z3, z4, z5, z6, z7, z8, z9, z10, z11, z12⟩ := HB8.out.all
        go_wp2_with fail
        refine (tsame_any t' t' w8 Hat8.out Hat8.out).mono ?_
        rintro e w9 ⟨rfl, hb9⟩
        rw [sameT_self]
        have HA9 := Lib.hid (HA8.out.below hb9); have HB9 := Lib.hid (HB8.out.below hb9); have Hw9 := Lib.hid (Hw8.out.trans (hb9.mono Hw8.out.size)); have Hat9 := Lib.hid (Hat8.out.up hb9); have Hot9 := Lib.hid (Hot8.out.up hb9)
        have Hq9 := Lib.hid (Hq8.out.up hb9 (Nat.le_refl _)); have Hp9 := Lib.hid (Hp8.out.up hb9 (Nat.le_refl _))
        clear hb9
        clear y0 y1 y2 y3 y4 y5 y6 y7 y8 y9 y10 y11 y12 z0 z1 z2 z3 z4 z5 z6 z7 z8 z9 z10 z11 z12
        by_cases g1 : q1 = 0
        · by_cases g2 : q2 = 0
          · have Hee := Lib.hid (Hes.out g1 g2)
            subst g1
            subst g2
            go_wp2_with fail
            refine (samer_any A5 A6 n5 c5 n6 c6 e1 e2 w9 Hq9.out Hp9.out (by omega) (by omega)).mono ?_
            rintro e w10 ⟨rfl, hb10⟩
            rw [Hee.out]
            have HA10 := Lib.hid (HA9.out.below hb10); have Hat10 := Lib.hid (Hat9.out.up hb10); have Hw10 := Lib.hid (Hw9.out.trans (hb10.mono Hw9.out.size))
            clear hb10
            go_wp2_with fail
            go_meet
            exact ⟨rfl, HA10.out, Hat10.out, Hw10.out⟩
          · have b2 : (q2 == 0) = false := by simpa using g2
            subst g1
            clear g2
            go_wp2_with fail
            go_meet
            exact ⟨rfl, HA9.out, Hat9.out, Hw9.out⟩
        · have b2 : (q1 == 0) = false := by simpa using g1
          clear g1
          go_wp2_with fail
          go_meet
          exact ⟨rfl, HA9.out, Hat9.out, Hw9.out⟩
      case rest =>
        obtain ⟨rfl, ha, hat, hw⟩ := hcut
        have HA1 := Lib.hid ha; have Hat1 := Lib.hid hat; have Hw1 := Lib.hid hw
        have hlt1 := block_lt ha
        clear ha hat hw
        obtain ⟨y0, y1, y2, y3, y4, y5, y6, y7, y8, y9, y10, y11, y12⟩ := HA1.out.all
        go_wp2_with fail
        refine (txclone_any t' wc Hat1.out).mono ?_
        rintro e w11 ⟨A, n, c, A', n', c', m, rfl, ho, hlt, hm, ho', hn, hn', hb⟩
        have hln := Hat1.out.len1; have hln' := Hat1.out.len2; have hm1 := Hat1.out.m1; have hm2 := Hat1.out.m2
        have hcl : TxV.At (⟨t'.d, t'.no, t'.fe, t'.ki, A, n, c, A', n', c', t'.bo, t'.si⟩ : TxV) w11 := ⟨Hat1.out.ok, Rd.of_own ho, Rd.of_own ho', own_cap ho, own_cap ho', Hat1.out.b1, Hat1.out.b2, by show n ≤ _; omega, by show n' ≤ _; omega⟩
        have HA11 := Lib.hid (HA1.out.below hb)
        have HA2 := Lib.hid (show BoxT t' 26 (w11.alloc (.cells #[.int .u8 ((⟨t'.d, t'.no, t'.fe, t'.ki, A, n, c, A', n', c', t'.bo, t'.si⟩ : TxV).d.x0 : Int), .int .u8 ((⟨t'.d, t'.no, t'.fe, t'.ki, A, n, c, A', n', c', t'.bo, t'.si⟩ : TxV).d.x1 : Int), .int .u8 ((⟨t'.d, t'.no, t'.fe, t'.ki, A, n, c, A', n', c', t'.bo, t'.si⟩ : TxV).d.x2 : Int), .int .u8 ((⟨t'.d, t'.no, t'.fe, t'.ki, A, n, c, A', n', c', t'.bo, t'.si⟩ : TxV).d.x3 : Int), .int .u8 ((⟨t'.d, t'.no, t'.fe, t'.ki, A, n, c, A', n', c', t'.bo, t'.si⟩ : TxV).d.x4 : Int), .int .u8 ((⟨t'.d, t'.no, t'.fe, t'.ki, A, n, c, A', n', c', t'.bo, t'.si⟩ : TxV).d.x5 : Int), .int .u8 ((⟨t'.d, t'.no, t'.fe, t'.ki, A, n, c, A', n', c', t'.bo, t'.si⟩ : TxV).d.x6 : Int), .int .u8 ((⟨t'.d, t'.no, t'.fe, t'.ki, A, n, c, A', n', c', t'.bo, t'.si⟩ : TxV).d.x7 : Int), .int .i64 (⟨t'.d, t'.no, t'.fe, t'.ki, A, n, c, A', n', c', t'.bo, t'.si⟩ : TxV).no, .int .i64 (⟨t'.d, t'.no, t'.fe, t'.ki, A, n, c, A', n', c', t'.bo, t'.si⟩ : TxV).fe, .int .i64 (⟨t'.d, t'.no, t'.fe, t'.ki, A, n, c, A', n', c', t'.bo, t'.si⟩ : TxV).ki, .slice (⟨t'.d, t'.no, t'.fe, t'.ki, A, n, c, A', n', c', t'.bo, t'.si⟩ : TxV).A (⟨t'.d, t'.no, t'.fe, t'.ki, A, n, c, A', n', c', t'.bo, t'.si⟩ : TxV).n (⟨t'.d, t'.no, t'.fe, t'.ki, A, n, c, A', n', c', t'.bo, t'.si⟩ : TxV).c, .slice (⟨t'.d, t'.no, t'.fe, t'.ki, A, n, c, A', n', c', t'.bo, t'.si⟩ : TxV).A' (⟨t'.d, t'.no, t'.fe, t'.ki, A, n, c, A', n', c', t'.bo, t'.si⟩ : TxV).n' (⟨t'.d, t'.no, t'.fe, t'.ki, A, n, c, A', n', c', t'.bo, t'.si⟩ : TxV).c'] 26)) w.heap.size from block_alloc HA11.out _)
        have HC2 := Lib.hid (show BoxT (⟨t'.d, t'.no, t'.fe, t'.ki, A, n, c, A', n', c', t'.bo, t'.si⟩ : TxV) 26 (w11.alloc (.cells #[.int .u8 ((⟨t'.d, t'.no, t'.fe, t'.ki, A, n, c, A', n', c', t'.bo, t'.si⟩ : TxV).d.x0 : Int), .int .u8 ((⟨t'.d, t'.no, t'.fe, t'.ki, A, n, c, A', n', c', t'.bo, t'.si⟩ : TxV).d.x1 : Int), .int .u8 ((⟨t'.d, t'.no, t'.fe, t'.ki, A, n, c, A', n', c', t'.bo, t'.si⟩ : TxV).d.x2 : Int), .int .u8 ((⟨t'.d, t'.no, t'.fe, t'.ki, A, n, c, A', n', c', t'.bo, t'.si⟩ : TxV).d.x3 : Int), .int .u8 ((⟨t'.d, t'.no, t'.fe, t'.ki, A, n, c, A', n', c', t'.bo, t'.si⟩ : TxV).d.x4 : Int), .int .u8 ((⟨t'.d, t'.no, t'.fe, t'.ki, A, n, c, A', n', c', t'.bo, t'.si⟩ : TxV).d.x5 : Int), .int .u8 ((⟨t'.d, t'.no, t'.fe, t'.ki, A, n, c, A', n', c', t'.bo, t'.si⟩ : TxV).d.x6 : Int), .int .u8 ((⟨t'.d, t'.no, t'.fe, t'.ki, A, n, c, A', n', c', t'.bo, t'.si⟩ : TxV).d.x7 : Int), .int .i64 (⟨t'.d, t'.no, t'.fe, t'.ki, A, n, c, A', n', c', t'.bo, t'.si⟩ : TxV).no, .int .i64 (⟨t'.d, t'.no, t'.fe, t'.ki, A, n, c, A', n', c', t'.bo, t'.si⟩ : TxV).fe, .int .i64 (⟨t'.d, t'.no, t'.fe, t'.ki, A, n, c, A', n', c', t'.bo, t'.si⟩ : TxV).ki, .slice (⟨t'.d, t'.no, t'.fe, t'.ki, A, n, c, A', n', c', t'.bo, t'.si⟩ : TxV).A (⟨t'.d, t'.no, t'.fe, t'.ki, A, n, c, A', n', c', t'.bo, t'.si⟩ : TxV).n (⟨t'.d, t'.no, t'.fe, t'.ki, A, n, c, A', n', c', t'.bo, t'.si⟩ : TxV).c, .slice (⟨t'.d, t'.no, t'.fe, t'.ki, A, n, c, A', n', c', t'.bo, t'.si⟩ : TxV).A' (⟨t'.d, t'.no, t'.fe, t'.ki, A, n, c, A', n', c', t'.bo, t'.si⟩ : TxV).n' (⟨t'.d, t'.no, t'.fe, t'.ki, A, n, c, A', n', c', t'.bo, t'.si⟩ : TxV).c'] 26)) w11.heap.size from heap_alloc_new w11 _)
        have Hb2 := Lib.hid (hb.trans ((below_one w11 (.cells #[.int .u8 ((⟨t'.d, t'.no, t'.fe, t'.ki, A, n, c, A', n', c', t'.bo, t'.si⟩ : TxV).d.x0 : Int), .int .u8 ((⟨t'.d, t'.no, t'.fe, t'.ki, A, n, c, A', n', c', t'.bo, t'.si⟩ : TxV).d.x1 : Int), .int .u8 ((⟨t'.d, t'.no, t'.fe, t'.ki, A, n, c, A', n', c', t'.bo, t'.si⟩ : TxV).d.x2 : Int), .int .u8 ((⟨t'.d, t'.no, t'.fe, t'.ki, A, n, c, A', n', c', t'.bo, t'.si⟩ : TxV).d.x3 : Int), .int .u8 ((⟨t'.d, t'.no, t'.fe, t'.ki, A, n, c, A', n', c', t'.bo, t'.si⟩ : TxV).d.x4 : Int), .int .u8 ((⟨t'.d, t'.no, t'.fe, t'.ki, A, n, c, A', n', c', t'.bo, t'.si⟩ : TxV).d.x5 : Int), .int .u8 ((⟨t'.d, t'.no, t'.fe, t'.ki, A, n, c, A', n', c', t'.bo, t'.si⟩ : TxV).d.x6 : Int), .int .u8 ((⟨t'.d, t'.no, t'.fe, t'.ki, A, n, c, A', n', c', t'.bo, t'.si⟩ : TxV).d.x7 : Int), .int .i64 (⟨t'.d, t'.no, t'.fe, t'.ki, A, n, c, A', n', c', t'.bo, t'.si⟩ : TxV).no, .int .i64 (⟨t'.d, t'.no, t'.fe, t'.ki, A, n, c, A', n', c', t'.bo, t'.si⟩ : TxV).fe, .int .i64 (⟨t'.d, t'.no, t'.fe, t'.ki, A, n, c, A', n', c', t'.bo, t'.si⟩ : TxV).ki, .slice (⟨t'.d, t'.no, t'.fe, t'.ki, A, n, c, A', n', c', t'.bo, t'.si⟩ : TxV).A (⟨t'.d, t'.no, t'.fe, t'.ki, A, n, c, A', n', c', t'.bo, t'.si⟩ : TxV).n (⟨t'.d, t'.no, t'.fe, t'.ki, A, n, c, A', n', c', t'.bo, t'.si⟩ : TxV).c, .slice (⟨t'.d, t'.no, t'.fe, t'.ki, A, n, c, A', n', c', t'.bo, t'.si⟩ : TxV).A' (⟨t'.d, t'.no, t'.fe, t'.ki, A, n, c, A', n', c', t'.bo, t'.si⟩ : TxV).n' (⟨t'.d, t'.no, t'.fe, t'.ki, A, n, c, A', n', c', t'.bo, t'.si⟩ : TxV).c'] 26)).mono hb.size))
        have Hct2 := Lib.hid (hcl.up (below_one w11 (.cells #[.int .u8 ((⟨t'.d, t'.no, t'.fe, t'.ki, A, n, c, A', n', c', t'.bo, t'.si⟩ : TxV).d.x0 : Int), .int .u8 ((⟨t'.d, t'.no, t'.fe, t'.ki, A, n, c, A', n', c', t'.bo, t'.si⟩ : TxV).d.x1 : Int), .int .u8 ((⟨t'.d, t'.no, t'.fe, t'.ki, A, n, c, A', n', c', t'.bo, t'.si⟩ : TxV).d.x2 : Int), .int .u8 ((⟨t'.d, t'.no, t'.fe, t'.ki, A, n, c, A', n', c', t'.bo, t'.si⟩ : TxV).d.x3 : Int), .int .u8 ((⟨t'.d, t'.no, t'.fe, t'.ki, A, n, c, A', n', c', t'.bo, t'.si⟩ : TxV).d.x4 : Int), .int .u8 ((⟨t'.d, t'.no, t'.fe, t'.ki, A, n, c, A', n', c', t'.bo, t'.si⟩ : TxV).d.x5 : Int), .int .u8 ((⟨t'.d, t'.no, t'.fe, t'.ki, A, n, c, A', n', c', t'.bo, t'.si⟩ : TxV).d.x6 : Int), .int .u8 ((⟨t'.d, t'.no, t'.fe, t'.ki, A, n, c, A', n', c', t'.bo, t'.si⟩ : TxV).d.x7 : Int), .int .i64 (⟨t'.d, t'.no, t'.fe, t'.ki, A, n, c, A', n', c', t'.bo, t'.si⟩ : TxV).no, .int .i64 (⟨t'.d, t'.no, t'.fe, t'.ki, A, n, c, A', n', c', t'.bo, t'.si⟩ : TxV).fe, .int .i64 (⟨t'.d, t'.no, t'.fe, t'.ki, A, n, c, A', n', c', t'.bo, t'.si⟩ : TxV).ki, .slice (⟨t'.d, t'.no, t'.fe, t'.ki, A, n, c, A', n', c', t'.bo, t'.si⟩ : TxV).A (⟨t'.d, t'.no, t'.fe, t'.ki, A, n, c, A', n', c', t'.bo, t'.si⟩ : TxV).n (⟨t'.d, t'.no, t'.fe, t'.ki, A, n, c, A', n', c', t'.bo, t'.si⟩ : TxV).c, .slice (⟨t'.d, t'.no, t'.fe, t'.ki, A, n, c, A', n', c', t'.bo, t'.si⟩ : TxV).A' (⟨t'.d, t'.no, t'.fe, t'.ki, A, n, c, A', n', c', t'.bo, t'.si⟩ : TxV).n' (⟨t'.d, t'.no, t'.fe, t'.ki, A, n, c, A', n', c', t'.bo, t'.si⟩ : TxV).c'] 26)))
        have Ho1 := Lib.hid ho
        have Ho2 := Lib.hid (own_below ho (below_one w11 (.cells #[.int .u8 ((⟨t'.d, t'.no, t'.fe, t'.ki, A, n, c, A', n', c', t'.bo, t'.si⟩ : TxV).d.x0 : Int), .int .u8 ((⟨t'.d, t'.no, t'.fe, t'.ki, A, n, c, A', n', c', t'.bo, t'.si⟩ : TxV).d.x1 : Int), .int .u8 ((⟨t'.d, t'.no, t'.fe, t'.ki, A, n, c, A', n', c', t'.bo, t'.si⟩ : TxV).d.x2 : Int), .int .u8 ((⟨t'.d, t'.no, t'.fe, t'.ki, A, n, c, A', n', c', t'.bo, t'.si⟩ : TxV).d.x3 : Int), .int .u8 ((⟨t'.d, t'.no, t'.fe, t'.ki, A, n, c, A', n', c', t'.bo, t'.si⟩ : TxV).d.x4 : Int), .int .u8 ((⟨t'.d, t'.no, t'.fe, t'.ki, A, n, c, A', n', c', t'.bo, t'.si⟩ : TxV).d.x5 : Int), .int .u8 ((⟨t'.d, t'.no, t'.fe, t'.ki, A, n, c, A', n', c', t'.bo, t'.si⟩ : TxV).d.x6 : Int), .int .u8 ((⟨t'.d, t'.no, t'.fe, t'.ki, A, n, c, A', n', c', t'.bo, t'.si⟩ : TxV).d.x7 : Int), .int .i64 (⟨t'.d, t'.no, t'.fe, t'.ki, A, n, c, A', n', c', t'.bo, t'.si⟩ : TxV).no, .int .i64 (⟨t'.d, t'.no, t'.fe, t'.ki, A, n, c, A', n', c', t'.bo, t'.si⟩ : TxV).fe, .int .i64 (⟨t'.d, t'.no, t'.fe, t'.ki, A, n, c, A', n', c', t'.bo, t'.si⟩ : TxV).ki, .slice (⟨t'.d, t'.no, t'.fe, t'.ki, A, n, c, A', n', c', t'.bo, t'.si⟩ : TxV).A (⟨t'.d, t'.no, t'.fe, t'.ki, A, n, c, A', n', c', t'.bo, t'.si⟩ : TxV).n (⟨t'.d, t'.no, t'.fe, t'.ki, A, n, c, A', n', c', t'.bo, t'.si⟩ : TxV).c, .slice (⟨t'.d, t'.no, t'.fe, t'.ki, A, n, c, A', n', c', t'.bo, t'.si⟩ : TxV).A' (⟨t'.d, t'.no, t'.fe, t'.ki, A, n, c, A', n', c', t'.bo, t'.si⟩ : TxV).n' (⟨t'.d, t'.no, t'.fe, t'.ki, A, n, c, A', n', c', t'.bo, t'.si⟩ : TxV).c'] 26)))
        have Ho2' := Lib.hid (own_below ho' (below_one w11 (.cells #[.int .u8 ((⟨t'.d, t'.no, t'.fe, t'.ki, A, n, c, A', n', c', t'.bo, t'.si⟩ : TxV).d.x0 : Int), .int .u8 ((⟨t'.d, t'.no, t'.fe, t'.ki, A, n, c, A', n', c', t'.bo, t'.si⟩ : TxV).d.x1 : Int), .int .u8 ((⟨t'.d, t'.no, t'.fe, t'.ki, A, n, c, A', n', c', t'.bo, t'.si⟩ : TxV).d.x2 : Int), .int .u8 ((⟨t'.d, t'.no, t'.fe, t'.ki, A, n, c, A', n', c', t'.bo, t'.si⟩ : TxV).d.x3 : Int), .int .u8 ((⟨t'.d, t'.no, t'.fe, t'.ki, A, n, c, A', n', c', t'.bo, t'.si⟩ : TxV).d.x4 : Int), .int .u8 ((⟨t'.d, t'.no, t'.fe, t'.ki, A, n, c, A', n', c', t'.bo, t'.si⟩ : TxV).d.x5 : Int), .int .u8 ((⟨t'.d, t'.no, t'.fe, t'.ki, A, n, c, A', n', c', t'.bo, t'.si⟩ : TxV).d.x6 : Int), .int .u8 ((⟨t'.d, t'.no, t'.fe, t'.ki, A, n, c, A', n', c', t'.bo, t'.si⟩ : TxV).d.x7 : Int), .int .i64 (⟨t'.d, t'.no, t'.fe, t'.ki, A, n, c, A', n', c', t'.bo, t'.si⟩ : TxV).no, .int .i64 (⟨t'.d, t'.no, t'.fe, t'.ki, A, n, c, A', n', c', t'.bo, t'.si⟩ : TxV).fe, .int .i64 (⟨t'.d, t'.no, t'.fe, t'.ki, A, n, c, A', n', c', t'.bo, t'.si⟩ : TxV).ki, .slice (⟨t'.d, t'.no, t'.fe, t'.ki, A, n, c, A', n', c', t'.bo, t'.si⟩ : TxV).A (⟨t'.d, t'.no, t'.fe, t'.ki, A, n, c, A', n', c', t'.bo, t'.si⟩ : TxV).n (⟨t'.d, t'.no, t'.fe, t'.ki, A, n, c, A', n', c', t'.bo, t'.si⟩ : TxV).c, .slice (⟨t'.d, t'.no, t'.fe, t'.ki, A, n, c, A', n', c', t'.bo, t'.si⟩ : TxV).A' (⟨t'.d, t'.no, t'.fe, t'.ki, A, n, c, A', n', c', t'.bo, t'.si⟩ : TxV).n' (⟨t'.d, t'.no, t'.fe, t'.ki, A, n, c, A', n', c', t'.bo, t'.si⟩ : TxV).c'] 26)))
        have Hn := Lib.hid (show t'.n = n by omega)
        have Hlt := Lib.hid hlt
        clear hcl ho ho' hb hn hn' hln hln' hlt hm1 hm2 hm y0 y1 y2 y3 y4 y5 y6 y7 y8 y9 y10 y11 y12
        obtain ⟨y0, y1, y2, y3, y4, y5, y6, y7, y8, y9, y10, y11, y12⟩ := HA11.out.all
        have hlt11 := block_lt HA11.out
        go_wp2_with fail
        generalize w11.alloc (.cells #[.int .u8 ((⟨t'.d, t'.no, t'.fe, t'.ki, A, n, c, A', n', c', t'.bo, t'.si⟩ : TxV).d.x0 : Int), .int .u8 ((⟨t'.d, t'.no, t'.fe, t'.ki, A, n, c, A', n', c', t'.bo, t'.si⟩ : TxV).d.x1 : Int), .int .u8 ((⟨t'.d, t'.no, t'.fe, t'.ki, A, n, c, A', n', c', t'.bo, t'.si⟩ : TxV).d.x2 : Int), .int .u8 ((⟨t'.d, t'.no, t'.fe, t'.ki, A, n, c, A', n', c', t'.bo, t'.si⟩ : TxV).d.x3 : Int), .int .u8 ((⟨t'.d, t'.no, t'.fe, t'.ki, A, n, c, A', n', c', t'.bo, t'.si⟩ : TxV).d.x4 : Int), .int .u8 ((⟨t'.d, t'.no, t'.fe, t'.ki, A, n, c, A', n', c', t'.bo, t'.si⟩ : TxV).d.x5 : Int), .int .u8 ((⟨t'.d, t'.no, t'.fe, t'.ki, A, n, c, A', n', c', t'.bo, t'.si⟩ : TxV).d.x6 : Int), .int .u8 ((⟨t'.d, t'.no, t'.fe, t'.ki, A, n, c, A', n', c', t'.bo, t'.si⟩ : TxV).d.x7 : Int), .int .i64 (⟨t'.d, t'.no, t'.fe, t'.ki, A, n, c, A', n', c', t'.bo, t'.si⟩ : TxV).no, .int .i64 (⟨t'.d, t'.no, t'.fe, t'.ki, A, n, c, A', n', c', t'.bo, t'.si⟩ : TxV).fe, .int .i64 (⟨t'.d, t'.no, t'.fe, t'.ki, A, n, c, A', n', c', t'.bo, t'.si⟩ : TxV).ki, .slice (⟨t'.d, t'.no, t'.fe, t'.ki, A, n, c, A', n', c', t'.bo, t'.si⟩ : TxV).A (⟨t'.d, t'.no, t'.fe, t'.ki, A, n, c, A', n', c', t'.bo, t'.si⟩ : TxV).n (⟨t'.d, t'.no, t'.fe, t'.ki, A, n, c, A', n', c', t'.bo, t'.si⟩ : TxV).c, .slice (⟨t'.d, t'.no, t'.fe, t'.ki, A, n, c, A', n', c', t'.bo, t'.si⟩ : TxV).A' (⟨t'.d, t'.no, t'.fe, t'.ki, A, n, c, A', n', c', t'.bo, t'.si⟩ : TxV).n' (⟨t'.d, t'.no, t'.fe, t'.ki, A, n, c, A', n', c', t'.bo, t'.si⟩ : TxV).c'] 26) = w12 at *
        refine (tsame_any (⟨t'.d, t'.no, t'.fe, t'.ki, A, n, c, A', n', c', t'.bo, t'.si⟩ : TxV) t' w12 Hct2.out (Hat1.out.up Hb2.out)).mono ?_
        rintro e w13 ⟨rfl, hb13⟩
        rw [show sameT (⟨t'.d, t'.no, t'.fe, t'.ki, A, n, c, A', n', c', t'.bo, t'.si⟩ : TxV) t' = true from sameT_iff.2 ⟨rfl, rfl, rfl, rfl, rfl, rfl⟩]
        have HA3 := Lib.hid (HA2.out.below hb13); have HC3 := Lib.hid (HC2.out.below hb13)
        have Hb3 := Lib.hid (Hb2.out.trans (hb13.mono Hb2.out.size))
        have Ho3 := Lib.hid (own_below Ho2.out hb13); have Ho3' := Lib.hid (own_below Ho2'.out hb13)
        have Hw3 := Lib.hid (Hw1.out.trans (Hb3.out.mono Hw1.out.size))
        clear hb13 y0 y1 y2 y3 y4 y5 y6 y7 y8 y9 y10 y11 y12
        rcases Nat.eq_zero_or_pos n with hn0 | hn0
        · subst hn0
          obtain ⟨z0, z1, z2, z3, z4, z5, z6, z7, z8, z9, z10, z11, z12⟩ := HC3.out.all
          go_wp2_with fail
          refine (known_any _).mono ?_
          rintro e w14 ⟨rfl, hb14⟩
          have Hw4 := Lib.hid (Hw3.out.trans (hb14.mono Hw3.out.size))
          clear hb14
          go_wp2
          go_ret
          exact ⟨rfl, Hw4.out⟩
        · obtain ⟨g, cap, cur, hv, hbg, hgg, hnc, _, hcs, hcur⟩ := (Ho3.out.2).resolve_left (by rintro ⟨_, h⟩; omega)
          have hxl := Ho3.out.1
          simp only [Value.slice.injEq, true_and] at hv
          obtain ⟨rfl, rfl⟩ := hv
          have hg11 : g < w11.heap.size := (Ho1.out.lt g rfl).2
          have hgm : g < m := Hlt.out g rfl
          obtain ⟨mm, hmm, hmlt⟩ := wrapMod k (n : Int) (by omega)
          have hml : mm < n := by omega
          have hmlt' : (mm : Int) < (t'.n : Int) := by rw [Hn.out]; exact hmlt
          have hmn : mm < t'.n := by rw [Hn.out]; exact hml
          have hk1 : IntKind.u64.wrap (n : Int) = (n : Int) := by have := Hat1.out.m1; have := Hn.out; rw [IntKind.wrap_u64]; omega
          have hk3 : IntKind.i64.wrap (mm : Int) = (mm : Int) := by have := Hat1.out.m1; have := Hn.out; rw [IntKind.wrap_i64]; omega
          have hne0 : ¬ ((n : Int) = 0) := by omega
          have hpos : decide ((0 : Int) < (n : Int)) = true := decide_eq_true (by omega)
          have hrb3 := Hat1.out.r1.below Hb3.out (Nat.le_refl _)
          obtain ⟨b, o2, hA, hbl, hcell⟩ := hrb3.byte hmn
          obtain ⟨b', o', e', _, hcm⟩ := (Rd.of_own Ho3.out).byte hml
          simp only [Option.some.injEq, Addr.mk.injEq, and_true] at e'
          obtain ⟨rfl, rfl⟩ := e'
          rw [Nat.zero_add] at hcm
          have hbo := Hat1.out.len1
          have hx256 : t'.bo.getD mm 0 < 256 := Hat1.out.b1 _ (by
            rw [List.getD_eq_getElem?_getD, List.getElem?_eq_getElem (by omega)]; simp)
          have Hset := Lib.hid (fun y => rd_set (y := y) hgg hxl hcur hml (by have := block_lt HC3.out; omega))
          have hfr := block_free hgg mm
          have Hgx := Lib.hid (show t'.bo[mm]? = some (t'.bo.getD mm 0) from getD_at _ (by omega))
          generalize hx : t'.bo.getD mm 0 = x at *
          clear hx
          have hy : IntKind.u8.wrap ((x : Int) + 1) = (((x + 1) % 256 : Nat) : Int) := by rw [IntKind.wrap_u8]; omega
          have hy256 : (x + 1) % 256 < 256 := Nat.mod_lt _ (by omega)
          have hyx : (x + 1) % 256 ≠ x := by omega
          generalize (x + 1) % 256 = y at *
          have HatB3 := Lib.hid (TxV.AtB.keep (t := t') (w := wc) (B := wc.heap.size) ⟨Hat1.out.ok, Hat1.out.r1, Hat1.out.r2, Hat1.out.c1, Hat1.out.c2, Hat1.out.b1, Hat1.out.b2, Hat1.out.m1, Hat1.out.m2⟩ Hb3.out (Nat.le_refl _))
          have hc3 := block_lt HC3.out
          have hwc3 := Hb3.out.size
          have Sg := Lib.hid (grown_set (w := w13) g mm (.int .u8 (y : Int)))
          have Hset2 := Lib.hid (Hset.out y)
          have hcap := hnc
          clear hgg hcur hcs hxl hnc hrb3 Hset
          obtain ⟨y0, y1, y2, y3, y4, y5, y6, y7, y8, y9, y10, y11, y12⟩ := HA3.out.all
          obtain ⟨z0, z1, z2, z3, z4, z5, z6, z7, z8, z9, z10, z11, z12⟩ := HC3.out.all
          rw [hA] at y11
          go_wp2_with fail
          generalize w13.setCell ⟨g, mm, none⟩ (.int .u8 (y : Int)) = w14 at *
          have HA4 := Lib.hid (show BoxT t' 26 w14 w.heap.size from (Sg.out.block w.heap.size (by omega) (by simp; omega)).trans HA3.out)
          have HC4 := Lib.hid (show BoxT ⟨t'.d, t'.no, t'.fe, t'.ki, some ⟨g, 0, none⟩, n, c, A', n', c', t'.bo, t'.si⟩ 26 w14 w11.heap.size from (Sg.out.block w11.heap.size (by omega) (by simp; omega)).trans HC3.out)
          have hz4 := Sg.out.size
          have Hat4 := Lib.hid ((HatB3.out.grown Sg.out hwc3 hbg).at (by omega))
          have Hcell4 := Lib.hid (Sg.out.cell hcell (by simp; omega))
          have Hw4 := Lib.hid (below_gr Hw3.out Sg.out (by omega))
          have Hrs4 := Lib.hid (Rd.of_own (own_grown Ho3'.out Sg.out hgm))
          have Hrb4 := Lib.hid (Hset2.out.more hz4)
          have Hcap := Lib.hid (own_cap Ho3'.out)
          clear y0 y1 y2 y3 y4 y5 y6 y7 y8 y9 y10 y11 y12 z0 z1 z2 z3 z4 z5 z6 z7 z8 z9 z10 z11 z12 hcell hcm hfr
          refine (known_any _).mono ?_
          rintro e w15 ⟨rfl, hb15⟩
          have HA5 := Lib.hid (HA4.out.below hb15); have HC5 := Lib.hid (HC4.out.below hb15)
          have Hat5 := Lib.hid (Hat4.out.up hb15)
          have hcell5 : w15.cell? ⟨b, o2 + mm, none⟩ = some (.int .u8 (x : Int)) := (World.cell?_of_block (hb15.block b (by omega))).trans Hcell4.out
          have Hw5 := Lib.hid (Hw4.out.trans (hb15.mono Hw4.out.size))
          have hl' : n' ≤ 100000000 := by have := Hrs4.out.blen; have := Hat1.out.len2; have := Hat1.out.m2; omega
          have Hc5 := Lib.hid (TxV.At.up (t := ⟨t'.d, t'.no, t'.fe, t'.ki, some ⟨g, 0, none⟩, n, c, A', n', c', t'.bo.set mm y, t'.si⟩) (w := w14)
            ⟨Hat1.out.ok, Hrb4.out, Hrs4.out, hcap, Hcap.out, by
              intro v hv
              rcases List.mem_or_eq_of_mem_set hv with h | h
              · exact Hat1.out.b1 v h
              · subst h; exact hy256, Hat1.out.b2, by show n ≤ _; have := Hat1.out.m1; have := Hn.out; omega, hl'⟩ hb15)
          have Ht5 := Lib.hid (show TxV.At ⟨t'.d, t'.no, t'.fe, t'.ki, some ⟨b, o2, none⟩, t'.n, t'.c, t'.A', t'.n', t'.c', t'.bo, t'.si⟩ w15 from
            ⟨Hat5.out.ok, hA ▸ Hat5.out.r1, Hat5.out.r2, Hat5.out.c1, Hat5.out.c2, Hat5.out.b1, Hat5.out.b2, Hat5.out.m1, Hat5.out.m2⟩)
          have Hres : Hid (sameT ⟨t'.d, t'.no, t'.fe, t'.ki, some ⟨g, 0, none⟩, n, c, A', n', c', t'.bo.set mm y, t'.si⟩ ⟨t'.d, t'.no, t'.fe, t'.ki, some ⟨b, o2, none⟩, t'.n, t'.c, t'.A', t'.n', t'.c', t'.bo, t'.si⟩ = false) := by
            show _ = _
            rw [Bool.eq_false_iff]
            intro h
            have h5 := (sameT_iff.1 h).2.2.2.2.1
            simp only at h5
            have h6 := Hgx.out
            rw [← h5, List.getElem?_set] at h6
            rw [if_pos rfl, if_pos (by omega)] at h6
            injection h6 with h6
            exact hyx h6
          have heq : ((x : Int) == (x : Int)) = true := by simp
          obtain ⟨y0, y1, y2, y3, y4, y5, y6, y7, y8, y9, y10, y11, y12⟩ := HA5.out.all
          obtain ⟨z0, z1, z2, z3, z4, z5, z6, z7, z8, z9, z10, z11, z12⟩ := HC5.out.all
          rw [hA] at y11
          clear hb15
          go_wp2_with fail
          refine (tsame_any ⟨t'.d, t'.no, t'.fe, t'.ki, some ⟨g, 0, none⟩, n, c, A', n', c', t'.bo.set mm y, t'.si⟩ ⟨t'.d, t'.no, t'.fe, t'.ki, some ⟨b, o2, none⟩, t'.n, t'.c, t'.A', t'.n', t'.c', t'.bo, t'.si⟩ w15 Hc5.out Ht5.out).mono ?_
          rintro e w16 ⟨rfl, hb16⟩
          rw [Hres.out]
          have Hw6 := Lib.hid (Hw5.out.trans (hb16.mono Hw5.out.size))
          clear hb16
          go_wp2
          go_ret
          exact ⟨rfl, Hw6.out⟩
end Go.Proofs.Ytebepgoaofhelaa
