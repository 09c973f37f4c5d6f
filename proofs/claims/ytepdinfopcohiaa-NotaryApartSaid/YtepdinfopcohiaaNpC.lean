/- The walk of NotaryParties: whether all signed a message, and whose signature lacks. Condition: bounds on the lists. -/
import Derived.Test.YtepdinfopcohiaaNpB
namespace Go.Proofs.Ytepdinfopcohiaa
open Go.RowKit Go.Lib


theorem ext_one (q : Nat) : (strNo (sigL q)).extract 0 1 = strNo [q % 256] := by
  have h : ∀ s, strNo s = ⟨(s.map fun (x : Nat) => UInt8.ofNat ((x : Int)).toNat).toArray⟩ := by
    intro s
    have h1 : (strNo s).data.toList = s.map fun (x : Nat) => UInt8.ofNat ((x : Int)).toNat := by
      unfold strNo
      rw [strOfNums_data]
      simp [intsNo]
    rw [← h1]
  rw [h, h]
  rfl
/-- A signature of a party, whole or cut. -/
def sgAt (sl : List Nat) (cl : List Bool) (i : Nat) : List Nat := if cl.getD i false then [sl.getD i 0 % 256] else sigL (sl.getD i 0)
def sgTo (sl : List Nat) (cl : List Bool) (k : Nat) : List (List Nat) := (List.range k).map (sgAt sl cl)
theorem sgTo_snoc (sl : List Nat) (cl : List Bool) (k : Nat) : sgTo sl cl (k + 1) = sgTo sl cl k ++ [sgAt sl cl k] := by simp [sgTo, List.range_succ]
theorem sgAt_lt (sl : List Nat) (cl : List Bool) (i : Nat) : ∀ x ∈ sgAt sl cl i, x < 256 := by
  intro x hx
  unfold sgAt at hx
  split at hx
  · simp at hx; omega
  · exact sigL_lt _ x hx
theorem sgAt_len (sl : List Nat) (cl : List Bool) (i : Nat) : (sgAt sl cl i).length ≤ 2 := by
  unfold sgAt
  split <;> simp [sigL]
theorem sgTo_ok (sl : List Nat) (cl : List Bool) (k : Nat) : ∀ s ∈ sgTo sl cl k, s.length ≤ 1000 ∧ ∀ x ∈ s, x < 256 := by
  intro s hs
  obtain ⟨i, _, rfl⟩ := List.mem_map.1 hs
  exact ⟨by have := sgAt_len sl cl i; omega, sgAt_lt sl cl i⟩
theorem strs_append (l m : List (List Nat)) : strs (l ++ m) = strs l ++ strs m := by simp [strs]
theorem getD_memH {l : List Nat} {k : Nat} (h : k < l.length) : l.getD k 0 ∈ l := by
  rw [List.getD_eq_getElem?_getD, List.getElem?_eq_getElem h]; exact List.getElem_mem h
theorem take_nat {l : List Nat} {k : Nat} (h : k < l.length) : l.take (k + 1) = l.take k ++ [l.getD k 0] := by
  rw [List.take_succ_eq_append_getElem h, List.getD_eq_getElem?_getD, List.getElem?_eq_getElem h]; rfl
theorem info_str : (Try.prog.info? 9).map (fun i => (i.zero, i.size, i.bytes)) = some (some (.string ⟨#[]⟩), 1, 16) := by kernel_rfl
theorem info_bytes : (Try.prog.info? 37).map (fun i => (i.zero, i.size, i.bytes)) = some (some (.slice none 0 0), 1, 24) := by kernel_rfl
theorem lacks_en {W : List Nu} {m : Nat} {ks : List Nat} {ss : List (List Nat)} {fs : List Bool} (hW : ∀ x ∈ W, x.ok) (hm : m < 18446744073709551616) (hk : ∀ x ∈ ks, x < 18446744073709551616) :
    missTo (lacksE (W.map Nu.en) (D8.of m) (ks.map D8.of) ss fs) ks.length = missTo (lacksN W m ks ss fs) ks.length := by
  unfold missTo
  apply List.filter_congr
  intro i hi
  have hil : i < ks.length := List.mem_range.1 hi
  unfold lacksE lacksN
  have e1 : (ks.map D8.of).getD i ⟨0, 0, 0, 0, 0, 0, 0, 0⟩ = D8.of (ks.getD i 0) := by simp [List.getD_eq_getElem?_getD, hil]
  rw [e1, show (⟨D8.of (ks.getD i 0), D8.of m⟩ : En) = (Nu.mk (ks.getD i 0) m).en from rfl, verN_en hW ⟨hk _ (getD_memH hil), hm⟩]
set_option maxRecDepth 100000 in
set_option maxHeartbeats 8000000 in
theorem parties_any (l : List Nu) (A : Option Addr) (n c : Nat) (kl : List Nat) (Ak : Option Addr) (nk ck m : Nat) (sl : List Nat) (As : Option Addr) (ns cs : Nat) (cl : List Bool) (Ac : Option Addr) (nc cc : Nat) (fl : List Bool) (Af : Option Addr) (nf cf : Nat) (w : World)
    (hr : Rd w w.heap.size 2 A n (flatL l)) (hs : ∀ x ∈ l, x.small) (hk : Rd w w.heap.size 1 Ak nk (bvN kl)) (hkl : ∀ x ∈ kl, x < 256) (hm : m < 256) (hsg : Rd w w.heap.size 1 As ns (bvN sl)) (hsl : ∀ x ∈ sl, x < 256)
    (hc : Rd w w.heap.size 1 Ac nc (bvB cl)) (hf : Rd w w.heap.size 1 Af nf (bvB fl)) :
    Calls Try.prog 7 #[.slice A n c, .agg #[.slice Ak nk ck, .int .u8 (m : Int), .slice As ns cs, .slice Ac nc cc, .slice Af nf cf]] w fun r w' => r = .returned (.bool true) ∧ Below w.heap.size w w' := by
  have hb0 := below_one w (.cells #[.slice Ak nk ck, .int .u8 (m : Int), .slice As ns cs, .slice Ac nc cc, .slice Af nf cf] 64)
  have Hb0 := Lib.hid hb0
  have HX0 : Hid ((w.alloc (.cells #[.slice Ak nk ck, .int .u8 (m : Int), .slice As ns cs, .slice Ac nc cc, .slice Af nf cf] 64)).heap[w.heap.size]? = some (.cells #[.slice Ak nk ck, .int .u8 (m : Int), .slice As ns cs, .slice Ac nc cc, .slice Af nf cf] 64 (0, 0))) := heap_alloc_new w _
  have Hz0 : Hid ((w.alloc (.cells #[.slice Ak nk ck, .int .u8 (m : Int), .slice As ns cs, .slice Ac nc cc, .slice Af nf cf] 64)).heap.size = w.heap.size + 1) := Lib.hid (by simp)
  by_cases hbig : 30 < n ∨ 12 < nk ∨ 12 < ns
  · clear hr hs hk hkl hm hsg hsl hc hf hb0
    by_cases h1 : 30 < n
    · have hd0 : decide ((30 : Int) < (n : Int)) = true := decide_eq_true (by omega)
      clear hbig
      go_enter Try.func7, Try.ntmps7
      go_wp2_with (go_at_call 10; refine (told_any (w.alloc (.cells #[.slice Ak nk ck, .int .u8 (m : Int), .slice As ns cs, .slice Ac nc cc, .slice Af nf cf] 64))).mono ?_; rintro r9 v9 ⟨rfl, hb9⟩; have Hv9 := Lib.hid (Hb0.out.trans (hb9.mono Hb0.out.size)); clear hb9)
      go_ret
      exact ⟨rfl, Hv9.out⟩
    have hd0 : decide ((30 : Int) < (n : Int)) = false := decide_eq_false (by omega)
    by_cases h2 : 12 < nk
    · have hd1 : decide ((12 : Int) < (nk : Int)) = true := decide_eq_true (by omega)
      clear hbig
      go_enter Try.func7, Try.ntmps7
      go_wp2_with (go_at_call 10; refine (told_any (w.alloc (.cells #[.slice Ak nk ck, .int .u8 (m : Int), .slice As ns cs, .slice Ac nc cc, .slice Af nf cf] 64))).mono ?_; rintro r9 v9 ⟨rfl, hb9⟩; have Hv9 := Lib.hid (Hb0.out.trans (hb9.mono Hb0.out.size)); clear hb9)
      go_ret
      exact ⟨rfl, Hv9.out⟩
    have hd1 : decide ((12 : Int) < (nk : Int)) = false := decide_eq_false (by omega)
    have hd2 : decide ((12 : Int) < (ns : Int)) = true := decide_eq_true (by omega)
    clear hbig
    go_enter Try.func7, Try.ntmps7
    go_wp2_with (go_at_call 10; refine (told_any (w.alloc (.cells #[.slice Ak nk ck, .int .u8 (m : Int), .slice As ns cs, .slice Ac nc cc, .slice Af nf cf] 64))).mono ?_; rintro r9 v9 ⟨rfl, hb9⟩; have Hv9 := Lib.hid (Hb0.out.trans (hb9.mono Hb0.out.size)); clear hb9)
    go_ret
    exact ⟨rfl, Hv9.out⟩
  have hn : n ≤ 30 := by omega
  have hnk : nk ≤ 12 := by omega
  have hns : ns ≤ 12 := by omega
  have hd0 : decide ((30 : Int) < (n : Int)) = false := decide_eq_false (by omega)
  have hd1 : decide ((12 : Int) < (nk : Int)) = false := decide_eq_false (by omega)
  have hd2 : decide ((12 : Int) < (ns : Int)) = false := decide_eq_false (by omega)
  have Hl := Lib.hid hr.llen
  have Hlk := Lib.hid hk.blenN; have Hls := Lib.hid hsg.blenN; have Hlc := Lib.hid hc.blenB
  have Hr0 := Lib.hid ((hr.below hb0 (Nat.le_refl _)).more (B' := (w.alloc (.cells #[.slice Ak nk ck, .int .u8 (m : Int), .slice As ns cs, .slice Ac nc cc, .slice Af nf cf] 64)).heap.size) (by simp))
  have Hk0 := Lib.hid (hk.below hb0 (Nat.le_refl _)); have Hsg0 := Lib.hid (hsg.below hb0 (Nat.le_refl _)); have Hc0 := Lib.hid (hc.below hb0 (Nat.le_refl _)); have Hf0 := Lib.hid (hf.below hb0 (Nat.le_refl _))
  have Hs := Lib.hid hs; have Hkl := Lib.hid hkl; have Hsl := Lib.hid hsl
  clear hr hs hk hkl hsg hsl hc hf hb0 hbig
  go_enter Try.func7, Try.ntmps7
  go_wp2_with fail
  generalize w.alloc (.cells #[.slice Ak nk ck, .int .u8 (m : Int), .slice As ns cs, .slice Ac nc cc, .slice Af nf cf] 64) = w0 at *
  refine (book_any l A n c w0 Hr0.out Hs.out (by omega)).mono ?_
  rintro r w1 ⟨A', n', c', rfl, hO1, hB1, hb1⟩
  have HB1 := Lib.hid hB1; have HO1 := Lib.hid hO1
  have hz : w.heap.size < w0.heap.size := by rw [Hz0.out]; omega
  have HX1 := Lib.hid (block_below HX0.out hb1 hz)
  have Hk1 := Lib.hid (Hk0.out.below hb1 (by omega)); have Hsg1 := Lib.hid (Hsg0.out.below hb1 (by omega)); have Hc1 := Lib.hid (Hc0.out.below hb1 (by omega)); have Hf1 := Lib.hid (Hf0.out.below hb1 (by omega))
  have Hb1 := Lib.hid (Hb0.out.trans (hb1.mono Hb0.out.size))
  have Hb1' := Hb1
  have hg1 : w.heap.size < w1.heap.size := by have := hb1.size; omega
  have Hok : Hid (∀ x ∈ bookN l, x.ok) := by
    have := bookN_ok Hs.out l.length (Nat.le_refl _)
    rwa [List.take_length] at this
  have Hln : Hid ((bookN l).length ≤ 30) := by
    have := bookN_len (l := l) l.length (Nat.le_refl _)
    rw [List.take_length] at this
    have := Hl.out
    show _ ≤ _
    omega
  clear hO1 hB1 hb1 Hk0 Hsg0 Hc0 Hf0 HX0 Hr0
  generalize bookN l = W at *
  generalize w0.heap.size = z0 at *
  obtain ⟨iD, hi, hz0, hz1, hz2⟩ := info_parts info_Di
  have HID := Lib.hid (And.intro hi (And.intro hz0 (And.intro hz1 hz2))); clear hi hz0 hz1 hz2
  obtain ⟨iU, hi, hz0, hz1, hz2⟩ := info_parts info_u64
  have HIU := Lib.hid (And.intro hi (And.intro hz0 (And.intro hz1 hz2))); clear hi hz0 hz1 hz2
  obtain ⟨iS, hi, hz0, hz1, hz2⟩ := info_parts info_str
  have HIS := Lib.hid (And.intro hi (And.intro hz0 (And.intro hz1 hz2))); clear hi hz0 hz1 hz2
  obtain ⟨iB, hi, hz0, hz1, hz2⟩ := info_parts info_bytes
  have HIB := Lib.hid (And.intro hi (And.intro hz0 (And.intro hz1 hz2))); clear hi hz0 hz1 hz2
  have HuD := Lib.hid Try.underlying48; have HuU := Lib.hid Try.underlying43; have HuS := Lib.hid Try.underlying66; have HuB := Lib.hid Try.underlying65
  go_wp2
  go_loopw [8, 9, 12] (fun v8 v9 i wr => ∃ (k : Nat), k ≤ nk ∧ i = .int .i64 (k : Int) ∧ Hid (wr.ownsRow w1.heap.size 32 8 v8 k (flatD ((kl.take k).map D8.of))) ∧ Hid (wr.ownsRow w1.heap.size 34 1 v9 k (bv64 (kl.take k))) ∧ Hid (Below w1.heap.size w1 wr)) (fun _ _ i _ => nk - (Lib.intOf i).toNat)
  case atStart => exact ⟨0, Nat.zero_le _, rfl, Lib.hid (World.ownsRow_nil _ _ _ _), Lib.hid (World.ownsRow_nil _ _ _ _), Lib.hid (Below.refl _ _)⟩
  case round =>
    obtain ⟨k, hk, rfl, HO8, HO9, Hb⟩ := hrel
    obtain ⟨A8, c8, rfl⟩ := own_form HO8.out
    obtain ⟨A9, c9, rfl⟩ := own_form HO9.out
    have HX := Lib.hid (block_below HX1.out Hb.out hg1)
    have z0 := block_cell HX.out 0
    simp at z0
    by_cases hlt : k < nk
    · obtain ⟨b, o, rfl, hbB, x1⟩ := Hk1.out.byteN hlt
      have hkl : k < kl.length := by have := Hlk.out; omega
      have Htk := Lib.hid (take_nat hkl)
      have hq256 := Hkl.out _ (getD_memH hkl)
      generalize kl.getD k 0 = q at *
      have x0 := cell_kept x1 Hb.out (by omega)
      have Hx1 := Lib.hid x1
      have hd3 : decide ((k : Int) < (nk : Int)) = true := decide_eq_true (by omega)
      have hi0 : (0 : Int) ≤ (k : Int) := by omega
      have hki : (k : Int) < (nk : Int) := by omega
      have hwk : IntKind.u64.wrap (q : Int) = (q : Int) := by rw [IntKind.wrap_u64]; omega
      go_wp2_with fail
      refine (digest_any q wr (by omega)).mono ?_
      rintro r v1 ⟨rfl, hb⟩
      have HO8b := Lib.hid ((own_below HO8.out hb).alloc (.cells #[.int .u8 ((D8.of q).x0 : Int), .int .u8 ((D8.of q).x1 : Int), .int .u8 ((D8.of q).x2 : Int), .int .u8 ((D8.of q).x3 : Int), .int .u8 ((D8.of q).x4 : Int), .int .u8 ((D8.of q).x5 : Int), .int .u8 ((D8.of q).x6 : Int), .int .u8 ((D8.of q).x7 : Int)] 32))
      have HO9b := Lib.hid ((own_below HO9.out hb).alloc (.cells #[.int .u8 ((D8.of q).x0 : Int), .int .u8 ((D8.of q).x1 : Int), .int .u8 ((D8.of q).x2 : Int), .int .u8 ((D8.of q).x3 : Int), .int .u8 ((D8.of q).x4 : Int), .int .u8 ((D8.of q).x5 : Int), .int .u8 ((D8.of q).x6 : Int), .int .u8 ((D8.of q).x7 : Int)] 32))
      have Hb2 := Lib.hid ((Hb.out.trans (hb.mono Hb.out.size)).alloc (Nat.le_trans Hb.out.size hb.size) (.cells #[.int .u8 ((D8.of q).x0 : Int), .int .u8 ((D8.of q).x1 : Int), .int .u8 ((D8.of q).x2 : Int), .int .u8 ((D8.of q).x3 : Int), .int .u8 ((D8.of q).x4 : Int), .int .u8 ((D8.of q).x5 : Int), .int .u8 ((D8.of q).x6 : Int), .int .u8 ((D8.of q).x7 : Int)] 32))
      have HR8 : Hid (Rd (v1.alloc (.cells #[.int .u8 ((D8.of q).x0 : Int), .int .u8 ((D8.of q).x1 : Int), .int .u8 ((D8.of q).x2 : Int), .int .u8 ((D8.of q).x3 : Int), .int .u8 ((D8.of q).x4 : Int), .int .u8 ((D8.of q).x5 : Int), .int .u8 ((D8.of q).x6 : Int), .int .u8 ((D8.of q).x7 : Int)] 32)) (v1.alloc (.cells #[.int .u8 ((D8.of q).x0 : Int), .int .u8 ((D8.of q).x1 : Int), .int .u8 ((D8.of q).x2 : Int), .int .u8 ((D8.of q).x3 : Int), .int .u8 ((D8.of q).x4 : Int), .int .u8 ((D8.of q).x5 : Int), .int .u8 ((D8.of q).x6 : Int), .int .u8 ((D8.of q).x7 : Int)] 32)).heap.size 8 (some ⟨v1.heap.size, 0, none⟩) 1 (flatD [D8.of q])) := Rd.newA (n := 1) (sz := 8) (xs := flatD [D8.of q]) v1 32 #[.int .u8 ((D8.of q).x0 : Int), .int .u8 ((D8.of q).x1 : Int), .int .u8 ((D8.of q).x2 : Int), .int .u8 ((D8.of q).x3 : Int), .int .u8 ((D8.of q).x4 : Int), .int .u8 ((D8.of q).x5 : Int), .int .u8 ((D8.of q).x6 : Int), .int .u8 ((D8.of q).x7 : Int)] rfl rfl
      have hl8 : ∀ u ∈ flatD [D8.of q], u.oneCell' = true := by simp [flatD, D8.cells, Value.oneCell']
      have hz8 : w1.heap.size ≤ (v1.alloc (.cells #[.int .u8 ((D8.of q).x0 : Int), .int .u8 ((D8.of q).x1 : Int), .int .u8 ((D8.of q).x2 : Int), .int .u8 ((D8.of q).x3 : Int), .int .u8 ((D8.of q).x4 : Int), .int .u8 ((D8.of q).x5 : Int), .int .u8 ((D8.of q).x6 : Int), .int .u8 ((D8.of q).x7 : Int)] 32)).heap.size := Hb2.out.size
      clear hb z0 x0 HO8 HO9 x1
      go_wp2_with (first
        | (at_builtin; refine wpList_append_rdg (v1.alloc (.cells #[.int .u8 ((D8.of q).x0 : Int), .int .u8 ((D8.of q).x1 : Int), .int .u8 ((D8.of q).x2 : Int), .int .u8 ((D8.of q).x3 : Int), .int .u8 ((D8.of q).x4 : Int), .int .u8 ((D8.of q).x5 : Int), .int .u8 ((D8.of q).x6 : Int), .int .u8 ((D8.of q).x7 : Int)] 32)) (by rfl) _ _ 48 (by rfl) w1.heap.size 32 iD (.agg #[.int .u8 0, .int .u8 0, .int .u8 0, .int .u8 0, .int .u8 0, .int .u8 0, .int .u8 0, .int .u8 0]) 8 8 HuD.out HID.out rfl (by decide) _ _ _ (by rfl) HO8b.out (v1.alloc (.cells #[.int .u8 ((D8.of q).x0 : Int), .int .u8 ((D8.of q).x1 : Int), .int .u8 ((D8.of q).x2 : Int), .int .u8 ((D8.of q).x3 : Int), .int .u8 ((D8.of q).x4 : Int), .int .u8 ((D8.of q).x5 : Int), .int .u8 ((D8.of q).x6 : Int), .int .u8 ((D8.of q).x7 : Int)] 32)).heap.size (some ⟨v1.heap.size, 0, none⟩) 1 1 (flatD [D8.of q]) (by rfl) HR8.out hl8 (by omega) (by omega) hz8 ?_; go_must (intro v4 w4 ho4 hb4 hg4; obtain ⟨A4, c4, rfl⟩ := own_form ho4; have HO8c := Lib.hid ho4; have hgt := GT.of_own HO8b.out hg4; have HO9c := Lib.hid (hgt.own HO9b.out (by decide)); have Hb4 := Lib.hid (Hb2.out.trans hb4); have HX4 := Lib.hid (block_below HX1.out Hb4.out hg1); have z0 := block_cell HX4.out 0; simp at z0; have x0 := cell_kept Hx1.out Hb4.out (by omega); have HO9d := Lib.hid (HO9c.out.alloc (.cells #[.int .u64 (q : Int)] 34)); have HO8d := Lib.hid (HO8c.out.alloc (.cells #[.int .u64 (q : Int)] 34)); have HR9 : Hid (Rd (w4.alloc (.cells #[.int .u64 (q : Int)] 34)) (w4.alloc (.cells #[.int .u64 (q : Int)] 34)).heap.size 1 (some ⟨w4.heap.size, 0, none⟩) 1 (bv64 [q])) := Rd.newA (n := 1) (sz := 1) (xs := bv64 [q]) w4 34 #[.int .u64 (q : Int)] rfl rfl; have hl9 : ∀ u ∈ bv64 [q], u.oneCell' = true := (by simp [bv64, Value.oneCell']); have hb5 := Hb4.out.alloc Hb4.out.size (.cells #[.int .u64 (q : Int)] 34); have hz9 := hb5.size; have Hb5 := Lib.hid hb5; clear ho4 hb4 hg4 hgt hb5))
        | (at_builtin; refine wpList_append_rdg (w4.alloc (.cells #[.int .u64 (q : Int)] 34)) (by rfl) _ _ 43 (by rfl) w1.heap.size 34 iU (.int .u64 0) 1 8 HuU.out HIU.out rfl (by decide) _ _ _ (by rfl) HO9d.out (w4.alloc (.cells #[.int .u64 (q : Int)] 34)).heap.size (some ⟨w4.heap.size, 0, none⟩) 1 1 (bv64 [q]) (by rfl) HR9.out hl9 (by omega) (by omega) hz9 ?_; go_must (intro v6 w6 ho6 hb6 hg6; obtain ⟨A6, c6, rfl⟩ := own_form ho6; have HO9e := Lib.hid ho6; have hgt := GT.of_own HO9d.out hg6; have HO8e := Lib.hid (hgt.own HO8d.out (by decide)); have Hb6 := Lib.hid (Hb5.out.trans hb6); clear ho6 hb6 hg6 hgt)))
      go_roundw
      case rel =>
        refine ⟨k + 1, hlt, by go_num, ?_, ?_, Hb6⟩
        · rw [Htk.out, List.map_append, flatD_append]; exact HO8e
        · rw [Htk.out, bv64_append]; exact HO9e
      case measure => simp [Lib.intOf]; omega
    · obtain rfl : nk = k := by omega
      have hd3 : decide ((nk : Int) < (nk : Int)) = false := by simp
      have ht : kl.take nk = kl := List.take_of_length_le (by have := Hlk.out; omega)
      rw [ht] at HO8 HO9
      clear hlt ht
      obtain ⟨w2, rfl⟩ : ∃ w2 : World, w2 = wr := ⟨_, rfl⟩
      go_wp2
      go_loopw [10, 11, 13] (fun v10 v11 i wr => ∃ (k : Nat), k ≤ ns ∧ i = .int .i64 (k : Int) ∧ Hid (SigOwn wr w1.heap.size v10 k (sgTo sl cl k)) ∧ Hid (wr.ownsRow w1.heap.size 9 1 v11 k (strs (sgTo sl cl k))) ∧ Hid (wr.ownsRow w1.heap.size 32 8 (.slice A8 nk c8) nk (flatD (kl.map D8.of))) ∧ Hid (wr.ownsRow w1.heap.size 34 1 (.slice A9 nk c9) nk (bv64 kl)) ∧ Hid (Below w1.heap.size w1 wr)) (fun _ _ i _ => ns - (Lib.intOf i).toNat)
      case atStart => exact ⟨0, Nat.zero_le _, rfl, Lib.hid (SigOwn.nil _ _), Lib.hid (World.ownsRow_nil _ _ _ _), HO8, HO9, Hb⟩
      case round =>
        clear HO8 HO9 Hb HX z0
        obtain ⟨k, hk, rfl, HS, HO11, HO8, HO9, Hb⟩ := hrel
        obtain ⟨A10, c10, rfl⟩ := HS.out.form
        obtain ⟨A11, c11, rfl⟩ := own_form HO11.out
        have HX := Lib.hid (block_below HX1.out Hb.out hg1)
        have z0 := block_cell HX.out 2
        have z3 := block_cell HX.out 3
        simp at z0 z3
        by_cases hlt : k < ns
        · obtain ⟨b, o, rfl, hbB, x1⟩ := Hsg1.out.byteN hlt
          have hkl : k < sl.length := by have := Hls.out; omega
          have hq256 := Hsl.out _ (getD_memH hkl)
          have Hsn := Lib.hid (sgTo_snoc sl cl k)
          have Hsa : Hid (sgAt sl cl k = if cl.getD k false then [sl.getD k 0 % 256] else sigL (sl.getD k 0)) := rfl
          have x0 := cell_kept x1 Hb.out (by omega)
          generalize sgTo sl cl k = sgk at *
          generalize sgAt sl cl k = sg at *
          generalize sl.getD k 0 = q at *
          generalize hcv : cl.getD k false = cv at *
          have Hcv := Lib.hid hcv
          have hd3 : decide ((k : Int) < (ns : Int)) = true := decide_eq_true (by omega)
          have hi0 : (0 : Int) ≤ (k : Int) := by omega
          have hki : (k : Int) < (ns : Int) := by omega
          have hwk : IntKind.i64.wrap (q : Int) = (q : Int) := by rw [IntKind.wrap_i64]; omega
          clear hcv x1
          go_wp2_with fail
          refine (bytesr_any q wr (by omega)).mono ?_
          rintro r v1 ⟨rfl, hb⟩
          have hb1 := Hb.out.trans (hb.mono Hb.out.size)
          have HS1 := Lib.hid (HS.out.below hb); have HO11b := Lib.hid (own_below HO11.out hb); have HO8b := Lib.hid (own_below HO8.out hb); have HO9b := Lib.hid (own_below HO9.out hb); have Hb1 := Lib.hid hb1
          have y3 := cell_kept z3 hb (by have := Hb.out.size; omega)
          clear hb hb1 z0 z3 x0 HS HO11 HO8 HO9 HX
          go_upto_region 19 with fail
          go_cut [95] (fun s95 wx => s95 = .bool cv ∧ wx = v1)
          case first =>
            by_cases hkf : k < nc
            · obtain ⟨b5, o5, rfl, hb5, y⟩ := (Hc1.out.below Hb1.out (by omega)).boolB hkf
              rw [Hcv.out] at y
              have hd4 : decide ((k : Int) < (nc : Int)) = true := decide_eq_true (by omega)
              have hkf2 : (k : Int) < (nc : Int) := by omega
              go_wp2_with fail
              go_meet
              exact ⟨rfl, rfl⟩
            · have hd4 : decide ((k : Int) < (nc : Int)) = false := decide_eq_false (by omega)
              have : cl.getD k false = false := by
                have hkl : cl.length ≤ k := by have := Hlc.out; omega
                simp [List.getD_eq_getElem?_getD, hkl]
              rw [Hcv.out] at this
              subst this
              go_wp2_with fail
              go_meet
              exact ⟨rfl, rfl⟩
          case rest =>
            obtain ⟨rfl, rfl⟩ := hcut
            obtain ⟨w3, rfl⟩ : ∃ w3 : World, w3 = wc := ⟨_, rfl⟩
            cases cv with
            | true =>
              have Hg : Hid (sg = [q % 256]) := by show _ = _; rw [Hsa.out]; rfl
              have hsz : (strNo (sigL q)).size = 2 := strNo_size _
              have hex := ext_one q
              have hlt0 : ∀ x ∈ [q % 256], x < 256 := by intro x hx; simp at hx; omega
              have hln0 : ([q % 256] : List Nat).length ≤ 2 := by simp
              go_wp2_with fail
              try rw [hex]
              generalize [q % 256] = s0 at *
              clear hex hsz
              have hcv2 := Go.Lib.run_convert_string_bytes (P := Try.prog) w3 9 37 5 (strNo s0) Try.underlying9 Try.underlying37 Try.underlying5
              rw [strNo_size] at hcv2
              generalize hcap : grownCap w3 s0.length 0 5 = cap at hcv2
              clear hcap
              obtain ⟨vs, hov, hlv, hkv⟩ := HS1.out
              have hvl : vs.length = k := by have := hov.1; omega
              have hz3 := Hb1.out.size
              have hba : Below w3.heap.size w3 ((bytesWorld w3 5 (strNo s0)).alloc (.cells #[.slice (some ⟨w3.heap.size, 0, none⟩) s0.length cap] 37)) := (bytesWorld_below w3 5 (strNo s0)).alloc (by rw [bytesWorld_size]; omega) _
              have HOVa := Lib.hid (own_below hov hba)
              have HKa : Hid (∀ j, j < k → BytesBlk ((bytesWorld w3 5 (strNo s0)).alloc (.cells #[.slice (some ⟨w3.heap.size, 0, none⟩) s0.length cap] 37)) w1.heap.size (vs.getD j undef) (sgk.getD j [])) := fun j hj => (hkv j hj).below hba
              have HUa : Hid (BytesBlk ((bytesWorld w3 5 (strNo s0)).alloc (.cells #[.slice (some ⟨w3.heap.size, 0, none⟩) s0.length cap] 37)) w1.heap.size (.slice (some ⟨w3.heap.size, 0, none⟩) s0.length cap) s0) := (bytes_new w3 w1.heap.size hz3 s0 hlt0 cap).below (below_one _ _)
              have HRa : Hid (Rd ((bytesWorld w3 5 (strNo s0)).alloc (.cells #[.slice (some ⟨w3.heap.size, 0, none⟩) s0.length cap] 37)) ((bytesWorld w3 5 (strNo s0)).alloc (.cells #[.slice (some ⟨w3.heap.size, 0, none⟩) s0.length cap] 37)).heap.size 1 (some ⟨(bytesWorld w3 5 (strNo s0)).heap.size, 0, none⟩) 1 [.slice (some ⟨w3.heap.size, 0, none⟩) s0.length cap]) := Rd.newA (n := 1) (sz := 1) (xs := [.slice (some ⟨w3.heap.size, 0, none⟩) s0.length cap]) (bytesWorld w3 5 (strNo s0)) 37 #[.slice (some ⟨w3.heap.size, 0, none⟩) s0.length cap] rfl rfl
              have hla : ∀ u ∈ [Value.slice (some ⟨w3.heap.size, 0, none⟩) s0.length cap], u.oneCell' = true := by simp [Value.oneCell']
              have HO11a := Lib.hid (own_below HO11b.out hba); have HO8a := Lib.hid (own_below HO8b.out hba); have HO9a := Lib.hid (own_below HO9b.out hba); have Hba := Lib.hid (Hb1.out.trans (hba.mono hz3))
              have hza := Hba.out.size
              have Hlv := Lib.hid hlv
              have Hvl := Lib.hid hvl
              clear hba hov hkv hlv hvl HS1 HO11b HO8b HO9b y3
              generalize bytesWorld w3 5 (strNo s0) = w4 at *
              have hl5 : ∀ u ∈ strs [s0], u.oneCell' = true := by simp [strs, Value.oneCell']
              go_wp2_with (first
                | (rw [hcv2]; simp only [Result.andThen_ok])
                | (at_builtin; refine wpList_append_rdg (w4.alloc (.cells #[.slice (some ⟨w3.heap.size, 0, none⟩) s0.length cap] 37)) (by rfl) _ _ 65 (by rfl) w1.heap.size 37 iB (.slice none 0 0) 1 24 HuB.out HIB.out rfl (by decide) _ _ _ (by rfl) HOVa.out (w4.alloc (.cells #[.slice (some ⟨w3.heap.size, 0, none⟩) s0.length cap] 37)).heap.size (some ⟨w4.heap.size, 0, none⟩) 1 1 _ (by rfl) HRa.out hla (by omega) (by omega) hza ?_; go_must (intro v5 w5 ho5 hb5 hg5; obtain ⟨A5, c5, rfl⟩ := own_form ho5; have hgt := GT.of_own HOVa.out hg5; have HS5 := Lib.hid (SigOwn.snoc ho5 Hlv.out Hvl.out (fun j hj => (HKa.out j hj).kept hgt (by decide)) (HUa.out.kept hgt (by decide))); have hb6 := (Hba.out.trans hb5); have hb7 := hb6.alloc hb6.size (.cells #[.string (strNo s0)] 9); have hz7 := hb7.size; have Hb7 := Lib.hid hb7; have HO11c := Lib.hid ((hgt.own HO11a.out (by decide)).alloc (.cells #[.string (strNo s0)] 9)); have HO8c := Lib.hid ((hgt.own HO8a.out (by decide)).alloc (.cells #[.string (strNo s0)] 9)); have HO9c := Lib.hid ((hgt.own HO9a.out (by decide)).alloc (.cells #[.string (strNo s0)] 9)); have HS7 := Lib.hid (HS5.out.below (below_one w5 (.cells #[.string (strNo s0)] 9))); have HR7 : Hid (Rd (w5.alloc (.cells #[.string (strNo s0)] 9)) (w5.alloc (.cells #[.string (strNo s0)] 9)).heap.size 1 (some ⟨w5.heap.size, 0, none⟩) 1 (strs [s0])) := Rd.newA (n := 1) (sz := 1) (xs := strs [s0]) w5 9 #[.string (strNo s0)] rfl rfl; clear ho5 hb5 hg5 hgt hb6 hb7))
                | (at_builtin; refine wpList_append_rdg (w5.alloc (.cells #[.string (strNo s0)] 9)) (by rfl) _ _ 66 (by rfl) w1.heap.size 9 iS (.string ⟨#[]⟩) 1 16 HuS.out HIS.out rfl (by decide) _ _ _ (by rfl) HO11c.out (w5.alloc (.cells #[.string (strNo s0)] 9)).heap.size (some ⟨w5.heap.size, 0, none⟩) 1 1 (strs [s0]) (by rfl) HR7.out hl5 (by omega) (by omega) hz7 ?_; go_must (intro v8 w8 ho8 hb8 hg8; obtain ⟨A8', c8', rfl⟩ := own_form ho8; have hgt := GT.of_own HO11c.out hg8; have HO11e := Lib.hid ho8; have HO8e := Lib.hid (hgt.own HO8c.out (by decide)); have HO9e := Lib.hid (hgt.own HO9c.out (by decide)); have HS8 := Lib.hid (HS7.out.kept hgt (by decide) (by decide)); have Hb8 := Lib.hid (Hb7.out.trans hb8); clear ho8 hb8 hg8 hgt)))
              go_roundw
              case rel =>
                refine ⟨k + 1, hlt, by go_num, ?_, ?_, HO8e, HO9e, Hb8⟩
                · rw [Hsn.out, Hg.out]; exact HS8
                · rw [Hsn.out, Hg.out, strs_append]; exact HO11e
              case measure => simp [Lib.intOf]; omega
            | false =>
              have Hg : Hid (sg = sigL q) := by show _ = _; rw [Hsa.out]; rfl
              have hlt0 := sigL_lt q
              have hln0 : (sigL q).length ≤ 2 := by simp [sigL]
              go_wp2_with fail
              generalize sigL q = s0 at *
              have hcv2 := Go.Lib.run_convert_string_bytes (P := Try.prog) w3 9 37 5 (strNo s0) Try.underlying9 Try.underlying37 Try.underlying5
              rw [strNo_size] at hcv2
              generalize hcap : grownCap w3 s0.length 0 5 = cap at hcv2
              clear hcap
              obtain ⟨vs, hov, hlv, hkv⟩ := HS1.out
              have hvl : vs.length = k := by have := hov.1; omega
              have hz3 := Hb1.out.size
              have hba : Below w3.heap.size w3 ((bytesWorld w3 5 (strNo s0)).alloc (.cells #[.slice (some ⟨w3.heap.size, 0, none⟩) s0.length cap] 37)) := (bytesWorld_below w3 5 (strNo s0)).alloc (by rw [bytesWorld_size]; omega) _
              have HOVa := Lib.hid (own_below hov hba)
              have HKa : Hid (∀ j, j < k → BytesBlk ((bytesWorld w3 5 (strNo s0)).alloc (.cells #[.slice (some ⟨w3.heap.size, 0, none⟩) s0.length cap] 37)) w1.heap.size (vs.getD j undef) (sgk.getD j [])) := fun j hj => (hkv j hj).below hba
              have HUa : Hid (BytesBlk ((bytesWorld w3 5 (strNo s0)).alloc (.cells #[.slice (some ⟨w3.heap.size, 0, none⟩) s0.length cap] 37)) w1.heap.size (.slice (some ⟨w3.heap.size, 0, none⟩) s0.length cap) s0) := (bytes_new w3 w1.heap.size hz3 s0 hlt0 cap).below (below_one _ _)
              have HRa : Hid (Rd ((bytesWorld w3 5 (strNo s0)).alloc (.cells #[.slice (some ⟨w3.heap.size, 0, none⟩) s0.length cap] 37)) ((bytesWorld w3 5 (strNo s0)).alloc (.cells #[.slice (some ⟨w3.heap.size, 0, none⟩) s0.length cap] 37)).heap.size 1 (some ⟨(bytesWorld w3 5 (strNo s0)).heap.size, 0, none⟩) 1 [.slice (some ⟨w3.heap.size, 0, none⟩) s0.length cap]) := Rd.newA (n := 1) (sz := 1) (xs := [.slice (some ⟨w3.heap.size, 0, none⟩) s0.length cap]) (bytesWorld w3 5 (strNo s0)) 37 #[.slice (some ⟨w3.heap.size, 0, none⟩) s0.length cap] rfl rfl
              have hla : ∀ u ∈ [Value.slice (some ⟨w3.heap.size, 0, none⟩) s0.length cap], u.oneCell' = true := by simp [Value.oneCell']
              have HO11a := Lib.hid (own_below HO11b.out hba); have HO8a := Lib.hid (own_below HO8b.out hba); have HO9a := Lib.hid (own_below HO9b.out hba); have Hba := Lib.hid (Hb1.out.trans (hba.mono hz3))
              have hza := Hba.out.size
              have Hlv := Lib.hid hlv
              have Hvl := Lib.hid hvl
              clear hba hov hkv hlv hvl HS1 HO11b HO8b HO9b y3
              generalize bytesWorld w3 5 (strNo s0) = w4 at *
              have hl5 : ∀ u ∈ strs [s0], u.oneCell' = true := by simp [strs, Value.oneCell']
              go_wp2_with (first
                | (rw [hcv2]; simp only [Result.andThen_ok])
                | (at_builtin; refine wpList_append_rdg (w4.alloc (.cells #[.slice (some ⟨w3.heap.size, 0, none⟩) s0.length cap] 37)) (by rfl) _ _ 65 (by rfl) w1.heap.size 37 iB (.slice none 0 0) 1 24 HuB.out HIB.out rfl (by decide) _ _ _ (by rfl) HOVa.out (w4.alloc (.cells #[.slice (some ⟨w3.heap.size, 0, none⟩) s0.length cap] 37)).heap.size (some ⟨w4.heap.size, 0, none⟩) 1 1 _ (by rfl) HRa.out hla (by omega) (by omega) hza ?_; go_must (intro v5 w5 ho5 hb5 hg5; obtain ⟨A5, c5, rfl⟩ := own_form ho5; have hgt := GT.of_own HOVa.out hg5; have HS5 := Lib.hid (SigOwn.snoc ho5 Hlv.out Hvl.out (fun j hj => (HKa.out j hj).kept hgt (by decide)) (HUa.out.kept hgt (by decide))); have hb6 := (Hba.out.trans hb5); have hb7 := hb6.alloc hb6.size (.cells #[.string (strNo s0)] 9); have hz7 := hb7.size; have Hb7 := Lib.hid hb7; have HO11c := Lib.hid ((hgt.own HO11a.out (by decide)).alloc (.cells #[.string (strNo s0)] 9)); have HO8c := Lib.hid ((hgt.own HO8a.out (by decide)).alloc (.cells #[.string (strNo s0)] 9)); have HO9c := Lib.hid ((hgt.own HO9a.out (by decide)).alloc (.cells #[.string (strNo s0)] 9)); have HS7 := Lib.hid (HS5.out.below (below_one w5 (.cells #[.string (strNo s0)] 9))); have HR7 : Hid (Rd (w5.alloc (.cells #[.string (strNo s0)] 9)) (w5.alloc (.cells #[.string (strNo s0)] 9)).heap.size 1 (some ⟨w5.heap.size, 0, none⟩) 1 (strs [s0])) := Rd.newA (n := 1) (sz := 1) (xs := strs [s0]) w5 9 #[.string (strNo s0)] rfl rfl; clear ho5 hb5 hg5 hgt hb6 hb7))
                | (at_builtin; refine wpList_append_rdg (w5.alloc (.cells #[.string (strNo s0)] 9)) (by rfl) _ _ 66 (by rfl) w1.heap.size 9 iS (.string ⟨#[]⟩) 1 16 HuS.out HIS.out rfl (by decide) _ _ _ (by rfl) HO11c.out (w5.alloc (.cells #[.string (strNo s0)] 9)).heap.size (some ⟨w5.heap.size, 0, none⟩) 1 1 (strs [s0]) (by rfl) HR7.out hl5 (by omega) (by omega) hz7 ?_; go_must (intro v8 w8 ho8 hb8 hg8; obtain ⟨A8', c8', rfl⟩ := own_form ho8; have hgt := GT.of_own HO11c.out hg8; have HO11e := Lib.hid ho8; have HO8e := Lib.hid (hgt.own HO8c.out (by decide)); have HO9e := Lib.hid (hgt.own HO9c.out (by decide)); have HS8 := Lib.hid (HS7.out.kept hgt (by decide) (by decide)); have Hb8 := Lib.hid (Hb7.out.trans hb8); clear ho8 hb8 hg8 hgt)))
              go_roundw
              case rel =>
                refine ⟨k + 1, hlt, by go_num, ?_, ?_, HO8e, HO9e, Hb8⟩
                · rw [Hsn.out, Hg.out]; exact HS8
                · rw [Hsn.out, Hg.out, strs_append]; exact HO11e
              case measure => simp [Lib.intOf]; omega
        · obtain rfl : ns = k := by omega
          have hd3 : decide ((ns : Int) < (ns : Int)) = false := by simp
          clear hlt z3 HX
          have HX := Lib.hid (block_below HX1.out Hb.out hg1)
          have z1 := block_cell HX.out 1
          have z4 := block_cell HX.out 4
          simp at z1 z4
          obtain ⟨w4, rfl⟩ : ∃ w4 : World, w4 = wr := ⟨_, rfl⟩
          have hwm : IntKind.u64.wrap (m : Int) = (m : Int) := by rw [IntKind.wrap_u64]; omega
          have Hsok := Lib.hid (sgTo_ok sl cl ns)
          have Hle := Lib.hid (lacks_en (W := W) (m := m) (ks := kl) (ss := sgTo sl cl ns) (fs := fl) Hok.out (by omega) (fun x hx => by have := Hkl.out x hx; omega))
          have Hko : Hid (∀ x ∈ kl.map D8.of, x.ok) := fun x hx => by
            obtain ⟨y, _, rfl⟩ := List.mem_map.1 hx
            exact d8_ok y
          generalize sgTo sl cl ns = ss at *
          go_wp2_with fail
          refine (digest_any m w4 (by omega)).mono ?_
          rintro r v1 ⟨rfl, hb⟩
          have hba := hb.alloc hb.size (.cells #[.int .u8 ((D8.of m).x0 : Int), .int .u8 ((D8.of m).x1 : Int), .int .u8 ((D8.of m).x2 : Int), .int .u8 ((D8.of m).x3 : Int), .int .u8 ((D8.of m).x4 : Int), .int .u8 ((D8.of m).x5 : Int), .int .u8 ((D8.of m).x6 : Int), .int .u8 ((D8.of m).x7 : Int)] 32)
          have hbb := Hb.out.trans (hba.mono Hb.out.size)
          have HS1 := Lib.hid (HS.out.below hba); have HO11b := Lib.hid (own_below HO11.out hba); have HO8b := Lib.hid (own_below HO8.out hba); have HO9b := Lib.hid (own_below HO9.out hba); have Hb1 := Lib.hid hbb
          have y4 := cell_kept z4 hba (by have := Hb.out.size; omega)
          have y1 := cell_kept z1 hba (by have := Hb.out.size; omega)
          have HD1 : Hid ((v1.alloc (.cells #[.int .u8 ((D8.of m).x0 : Int), .int .u8 ((D8.of m).x1 : Int), .int .u8 ((D8.of m).x2 : Int), .int .u8 ((D8.of m).x3 : Int), .int .u8 ((D8.of m).x4 : Int), .int .u8 ((D8.of m).x5 : Int), .int .u8 ((D8.of m).x6 : Int), .int .u8 ((D8.of m).x7 : Int)] 32)).heap[v1.heap.size]? = some (.cells #[.int .u8 ((D8.of m).x0 : Int), .int .u8 ((D8.of m).x1 : Int), .int .u8 ((D8.of m).x2 : Int), .int .u8 ((D8.of m).x3 : Int), .int .u8 ((D8.of m).x4 : Int), .int .u8 ((D8.of m).x5 : Int), .int .u8 ((D8.of m).x6 : Int), .int .u8 ((D8.of m).x7 : Int)] 32 (0, 0))) := heap_alloc_new v1 _
          have hzd : v1.heap.size < (v1.alloc (.cells #[.int .u8 ((D8.of m).x0 : Int), .int .u8 ((D8.of m).x1 : Int), .int .u8 ((D8.of m).x2 : Int), .int .u8 ((D8.of m).x3 : Int), .int .u8 ((D8.of m).x4 : Int), .int .u8 ((D8.of m).x5 : Int), .int .u8 ((D8.of m).x6 : Int), .int .u8 ((D8.of m).x7 : Int)] 32)).heap.size := by simp
          clear hb hba hbb z0 z1 z4 HS HO11 HO8 HO9 HX Hb
          go_wp2_with fail
          generalize v1.heap.size = bd at *
          generalize v1.alloc (.cells #[.int .u8 ((D8.of m).x0 : Int), .int .u8 ((D8.of m).x1 : Int), .int .u8 ((D8.of m).x2 : Int), .int .u8 ((D8.of m).x3 : Int), .int .u8 ((D8.of m).x4 : Int), .int .u8 ((D8.of m).x5 : Int), .int .u8 ((D8.of m).x6 : Int), .int .u8 ((D8.of m).x7 : Int)] 32) = u1 at *
          refine (missing_any _ _ _ _ (kl.map D8.of) A8 nk c8 (D8.of m) ss A10 ns c10 fl Af nf cf u1 (HB1.out.below Hb1.out) (by rw [List.length_map]; have := Hln.out; omega) (Rd.of_own HO8b.out) Hko.out (d8_ok _) HS1.out.rd Hsok.out ((Hf1.out.below Hb1.out (by omega)).more (by have := Hb1.out.size; omega)) (by omega)).mono ?_
          rintro r u2 ⟨A16, n16, c16, rfl, ho, hb⟩
          rw [show nk = kl.length from Hlk.out.symm, Hle.out, Hlk.out] at ho
          have HL2 := Lib.hid ho
          have HS2 := Lib.hid (HS1.out.below hb); have HO11c := Lib.hid (own_below HO11b.out hb); have HO8c := Lib.hid (own_below HO8b.out hb); have HO9c := Lib.hid (own_below HO9b.out hb); have Hb2 := Lib.hid (Hb1.out.trans (hb.mono Hb1.out.size)); have HD2 := Lib.hid (block_below HD1.out hb hzd)
          have HX2 := Lib.hid (block_below HX1.out Hb2.out hg1)
          have z1 := block_cell HX2.out 1
          have z4 := block_cell HX2.out 4
          simp at z1 z4
          clear ho hb y1 y4 HS1 HO11b HO8b HO9b
          go_wp2_with fail
          refine (missingr_any W A' n' c' kl A9 nk c9 m ss A11 ns c11 fl Af nf cf u2 (Rd.of_own (own_below HO1.out (Hb2.out.mono (Nat.le_refl _)))) (by have := (Rd.of_own HO1.out).nlen; have := Hln.out; omega) (Rd.of_own HO9c.out) (Rd.of_own HO11c.out) (fun s hs => (Hsok.out s hs).2) ((Hf1.out.below Hb2.out (by omega)).more (by have := Hb2.out.size; omega)) (by omega)).mono ?_
          rintro r u3 ⟨A17, n17, c17, rfl, ho, hb⟩
          have hl1 : (missTo (lacksN W m kl ss fl) nk).length = n16 := by have := HL2.out.1; simpa [bvI] using this
          have hl2 : (missTo (lacksN W m kl ss fl) nk).length = n17 := by have := ho.1; simpa [bvI] using this
          have HR16 := Lib.hid (Rd.of_own (own_below HL2.out hb))
          have HR17 := Lib.hid (Rd.of_own ho)
          have hn16 : n16 ≤ 12 := by have := miss_len (lacksN W m kl ss fl) nk; omega
          have HS3 := Lib.hid (HS2.out.below hb); have HO11d := Lib.hid (own_below HO11c.out hb); have HO8d := Lib.hid (own_below HO8c.out hb); have HO9d := Lib.hid (own_below HO9c.out hb); have Hb3 := Lib.hid (Hb2.out.trans (hb.mono Hb2.out.size)); have HD3 := Lib.hid (block_below HD2.out hb (block_lt HD2.out))
          obtain rfl : n16 = n17 := by omega
          have Hms := Lib.hid hl1
          clear ho hb z1 z4 HS2 HO11c HO8c HO9c HL2 hl1 hl2 HX2
          have HMs : Hid (∀ j, missTo (lacksN W m kl ss fl) j = missTo (lacksN W m kl ss fl) j) := fun _ => rfl
          generalize hMs : missTo (lacksN W m kl ss fl) nk = Ms at *
          have HMs2 := Lib.hid hMs
          clear hMs HMs
          have hne : ((n16 : Int) != (n16 : Int)) = false := by simp
          go_wp2
          go_loopw [18] (fun i wr => ∃ (k : Nat), k ≤ n16 ∧ i = .int .i64 (k : Int) ∧ Hid (Below u3.heap.size u3 wr)) (fun i _ => n16 - (Lib.intOf i).toNat)
          case atStart => exact ⟨0, Nat.zero_le _, rfl, Lib.hid (Below.refl _ _)⟩
          case round =>
            obtain ⟨k, hk, rfl, Hb⟩ := hrel
            by_cases hlt : k < n16
            · obtain ⟨b, o, rfl, hbB, x0⟩ := (HR16.out.below Hb.out (Nat.le_refl _)).intI hlt
              obtain ⟨b2, o2, rfl, hbB2, y0⟩ := (HR17.out.below Hb.out (Nat.le_refl _)).intI hlt
              generalize Ms.getD k 0 = mv at *
              have hd4 : decide ((k : Int) < (n16 : Int)) = true := decide_eq_true (by omega)
              have hi0 : (0 : Int) ≤ (k : Int) := by omega
              have hki : (k : Int) < (n16 : Int) := by omega
              have hnm : ((mv : Int) != (mv : Int)) = false := by simp
              go_wp2
              go_region
              all_goals
                go_wp2
                go_roundw
                case rel => exact ⟨k + 1, hlt, by go_num, Lib.hid Hb.out.drew⟩
                case measure => simp [Lib.intOf]; omega
            · obtain rfl : n16 = k := by omega
              have hd4 : decide ((n16 : Int) < (n16 : Int)) = false := by simp
              clear hlt
              have HS4 := Lib.hid (HS3.out.below Hb.out); have HO11e := Lib.hid (own_below HO11d.out Hb.out); have HO8e := Lib.hid (own_below HO8d.out Hb.out); have HO9e := Lib.hid (own_below HO9d.out Hb.out); have Hb4 := Lib.hid (Hb3.out.trans (Hb.out.mono Hb3.out.size)); have HD4 := Lib.hid (block_below HD3.out Hb.out (block_lt HD3.out))
              have HX4 := Lib.hid (block_below HX1.out Hb4.out hg1)
              have z1 := block_cell HX4.out 1
              have z4 := block_cell HX4.out 4
              simp at z1 z4
              have x := block_cell HD4.out
              have x0 := x 0; have x1 := x 1; have x2 := x 2; have x3 := x 3; have x4 := x 4; have x5 := x 5; have x6 := x 6; have x7 := x 7
              simp at x0 x1 x2 x3 x4 x5 x6 x7
              clear x
              obtain ⟨u4, rfl⟩ : ∃ u4 : World, u4 = wr := ⟨_, rfl⟩
              go_wp2_with fail
              refine (all_any _ _ _ _ (kl.map D8.of) A8 nk c8 (D8.of m) ss A10 ns c10 fl Af nf cf u4 (HB1.out.below Hb4.out) (by rw [List.length_map]; have := Hln.out; omega) (Rd.of_own HO8e.out) Hko.out (d8_ok _) HS4.out.rd Hsok.out ((Hf1.out.below Hb4.out (by omega)).more (by have := Hb4.out.size; omega)) (by omega)).mono ?_
              rintro r u5 ⟨rfl, hb⟩
              rw [show missTo (lacksE (W.map Nu.en) (D8.of m) (kl.map D8.of) ss fl) nk = missTo (lacksE (W.map Nu.en) (D8.of m) (kl.map D8.of) ss fl) kl.length by rw [Hlk.out], Hle.out, Hlk.out, HMs2.out]
              have HO11f := Lib.hid (own_below HO11e.out hb); have HO9f := Lib.hid (own_below HO9e.out hb); have Hb5 := Lib.hid (Hb4.out.trans (hb.mono Hb4.out.size))
              have HX5 := Lib.hid (block_below HX1.out Hb5.out hg1)
              clear z1 z4 x0 x1 x2 x3 x4 x5 x6 x7
              have z1 := block_cell HX5.out 1
              have z4 := block_cell HX5.out 4
              simp at z1 z4
              clear hb
              go_wp2_with fail
              refine (allr_any W A' n' c' kl A9 nk c9 m ss A11 ns c11 fl Af nf cf u5 (Rd.of_own (own_below HO1.out (Hb5.out.mono (Nat.le_refl _)))) (by have := (Rd.of_own HO1.out).nlen; have := Hln.out; omega) (Rd.of_own HO9f.out) (Rd.of_own HO11f.out) (fun s hs => (Hsok.out s hs).2) ((Hf1.out.below Hb5.out (by omega)).more (by have := Hb5.out.size; omega)) (by omega)).mono ?_
              rintro r u6 ⟨rfl, hb⟩
              rw [HMs2.out]
              have Hb6 := Lib.hid (Hb1'.out.trans ((Hb5.out.trans (hb.mono Hb5.out.size)).mono Hb1'.out.size))
              generalize allI nk ns Ms = av at *
              have hav : (av == av) = true := by simp
              clear hb z1 z4
              go_wp2_with (go_at_call 10; refine (told_any u6).mono ?_; rintro r9 v9 ⟨rfl, hb9⟩; have Hv9 := Lib.hid (Hb6.out.trans (hb9.mono Hb6.out.size)); clear hb9)
              go_ret
              exact ⟨rfl, Hv9.out⟩
end Go.Proofs.Ytepdinfopcohiaa
