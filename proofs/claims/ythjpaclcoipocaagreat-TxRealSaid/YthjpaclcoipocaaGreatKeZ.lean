/- The walk of a ring's Sign. Condition: none. -/
import Derived.Test.YthjpaclcoipocaaGreatJoinF
import Derived.Test.YthjpaclcoipocaaGreatJoinU
import Derived.Test.YthjpaclcoipocaaGreatStepApp
import Derived.Test.YthjpaclcoipocaaGreatJoinA
namespace Go.Proofs.YthjpaclcoipocaaGreat
open Go.RowKit Go.Lib



/-- With the blocks from a to b. -/
def upto (F : Nat → Prop) (a b : Nat) : Nat → Prop := fun k => F k ∨ (a ≤ k ∧ k < b)
theorem reserve_lt {r : RingM} (h : r.ok) {m : D8} (he : (r.reserve m).2.2 = 0) : (r.reserve m).2.1 < 2 ^ r.h := by
  obtain ⟨h1, h2, h3, h4, h5⟩ := h
  unfold RingM.reserve at he ⊢
  cases hp : posD r.led m with
  | some i => simp only; have := posD_lt hp; omega
  | none =>
    rw [hp] at he
    simp only at he ⊢
    split at he
    · simp at he
    · rename_i hne
      rw [if_neg hne]
      simp only
      omega
theorem flatB_take (l : List D8) {k : Nat} (hk : k < l.length) : ((l.take (k + 1)).flatMap D8.bytes) = ((l.take k).flatMap D8.bytes) ++ (l.getD k D8.zero).bytes := by
  rw [List.take_add_one, List.getElem?_eq_getElem hk, List.flatMap_append]
  simp [List.getD_eq_getElem?_getD, List.getElem?_eq_getElem hk]
theorem flatB_take_len (l : List D8) : (l.flatMap D8.bytes).length = 8 * l.length := by
  induction l with
  | nil => rfl
  | cons d l ih => rw [List.flatMap_cons, List.length_append, ih]; simp [bytes_len]; omega
theorem RingAt.wide {w : World} {B : Nat} {F G : Nat → Prop} {T0 T1 br : Nat} {r : RingM} (a : RingAt w B F T0 T1 br r) (hG : ∀ k, F k → G k) (hl : ∀ k, G k → F k ∨ (B ≤ k ∧ T1 ≤ k ∧ k < w.heap.size)) : RingAt w B G T0 T1 br r := by
  obtain ⟨⟨mb, bt, h1, h2⟩, ha, h0, h3, ho⟩ := a
  refine ⟨⟨mb, bt, h1.wide hG (fun k hk => ?_), h2⟩, fun k hk ht => ?_, h0, h3, ho⟩
  · rcases hl k hk with h | h
    · exact h1.fl k h
    · omega
  · rcases hl k hk with h | h
    · exact ha k h ht
    · omega
theorem rd_nil (w : World) (B : Nat) : Rd w B 1 none 0 (bv []) := Rd.empty
set_option maxRecDepth 100000 in
set_option maxHeartbeats 4000000 in
theorem rsign_any {w : World} {B : Nat} {F : Nat → Prop} {T0 T1 br : Nat} {r : RingM} (m : D8) (a : RingAt w B F T0 T1 br r) (hm : m.ok) (hB : B ≤ w.heap.size) :
    Calls Tryz.prog 107 #[.pointer (some ⟨br, 0, none⟩), .agg #[.int .u8 (m.x0 : Int), .int .u8 (m.x1 : Int), .int .u8 (m.x2 : Int), .int .u8 (m.x3 : Int), .int .u8 (m.x4 : Int), .int .u8 (m.x5 : Int), .int .u8 (m.x6 : Int), .int .u8 (m.x7 : Int)]] w fun e w' => ∃ (M : Nat) (A : Option Addr) (n c : Nat), w.heap.size ≤ M ∧ M ≤ w'.heap.size ∧ e = .returned (.tuple #[.slice A n c, .int .i64 ((r.sign m).2.2 : Int)]) ∧ w'.ownsRow M 5 1 (.slice A n c) n (bv (r.sign m).2.1) ∧ n = (r.sign m).2.1.length ∧ Chg F w w' ∧ RingAt w' B (upto F w.heap.size M) T0 T1 br (r.sign m).1 := by
  obtain ⟨i0, hi, hz0, hz1, hz2⟩ := info_parts info_u8
  have HI := Lib.hid (And.intro hi (And.intro hz0 (And.intro hz1 hz2))); clear hi hz0 hz1 hz2
  have Hm := Lib.hid hm; have HB := Lib.hid hB
  have hX2 : (w.alloc (.cells #[.int .u8 (m.x0 : Int), .int .u8 (m.x1 : Int), .int .u8 (m.x2 : Int), .int .u8 (m.x3 : Int), .int .u8 (m.x4 : Int), .int .u8 (m.x5 : Int), .int .u8 (m.x6 : Int), .int .u8 (m.x7 : Int)] 30)).heap[w.heap.size]? = some (.cells #[.int .u8 (m.x0 : Int), .int .u8 (m.x1 : Int), .int .u8 (m.x2 : Int), .int .u8 (m.x3 : Int), .int .u8 (m.x4 : Int), .int .u8 (m.x5 : Int), .int .u8 (m.x6 : Int), .int .u8 (m.x7 : Int)] 30 (0, 0)) := heap_alloc_new w _
  have HX2 := Lib.hid hX2
  have HK2 := Lib.hid (h_one w (.cells #[.int .u8 (m.x0 : Int), .int .u8 (m.x1 : Int), .int .u8 (m.x2 : Int), .int .u8 (m.x3 : Int), .int .u8 (m.x4 : Int), .int .u8 (m.x5 : Int), .int .u8 (m.x6 : Int), .int .u8 (m.x7 : Int)] 30))
  have HA2 := Lib.hid (a.below HK2.out)
  have Hok := Lib.hid a.ok
  have hs2 : (w.alloc (.cells #[.int .u8 (m.x0 : Int), .int .u8 (m.x1 : Int), .int .u8 (m.x2 : Int), .int .u8 (m.x3 : Int), .int .u8 (m.x4 : Int), .int .u8 (m.x5 : Int), .int .u8 (m.x6 : Int), .int .u8 (m.x7 : Int)] 30)).heap.size = w.heap.size + 1 := by simp
  have Hsg : Hid (r.sign m = if (r.reserve m).2.2 = 0 then ((r.reserve m).1, (r.reserve m).1.sigB (r.reserve m).2.1 m, 0) else ((r.reserve m).1, [], (r.reserve m).2.2)) := Lib.hid rfl
  have HlB := Lib.hid (fun k hk => (a.foot_lt k (.inl hk)))
  have HT1 := Lib.hid a.b1
  clear a hm hB
  obtain ⟨zf, r0, r1, r2, r3, r4, r5, r6, r7⟩ := free8 hX2
  have Hs2 := Lib.hid hs2
  have hlm : w.heap.size < (w.alloc (.cells #[.int .u8 (m.x0 : Int), .int .u8 (m.x1 : Int), .int .u8 (m.x2 : Int), .int .u8 (m.x3 : Int), .int .u8 (m.x4 : Int), .int .u8 (m.x5 : Int), .int .u8 (m.x6 : Int), .int .u8 (m.x7 : Int)] 30)).heap.size := by omega
  clear hX2 zf hs2
  go_enter Tryz.func107, Tryz.ntmps107
  go_upto_region 1 with fail
  generalize w.alloc (.cells #[.int .u8 (m.x0 : Int), .int .u8 (m.x1 : Int), .int .u8 (m.x2 : Int), .int .u8 (m.x3 : Int), .int .u8 (m.x4 : Int), .int .u8 (m.x5 : Int), .int .u8 (m.x6 : Int), .int .u8 (m.x7 : Int)] 30) = w2 at *
  go_wp2_with fail
  refine (reserve_any m HA2.out Hm.out (by have := HB.out; omega)).mono ?_
  rintro e w3 ⟨rfl, hc3, ha3⟩
  have hX3 : w3.heap[w.heap.size]? = some (.cells #[.int .u8 (m.x0 : Int), .int .u8 (m.x1 : Int), .int .u8 (m.x2 : Int), .int .u8 (m.x3 : Int), .int .u8 (m.x4 : Int), .int .u8 (m.x5 : Int), .int .u8 (m.x6 : Int), .int .u8 (m.x7 : Int)] 30 (0, 0)) := (hc3.block _ hlm (fun hf => by have := (HlB.out _ hf).2; omega)).trans HX2.out
  have hc2 : Chg F w w3 := (Chg.of_below HK2.out).trans0 hc3
  have ha4 : RingAt w3 B (upto F w.heap.size w3.heap.size) T0 T1 br (r.reserve m).1 := ha3.wide (fun k hk => by
    rcases hk with h | h
    · exact .inl h
    · have := Hs2.out; exact .inr ⟨by omega, h.2⟩) (fun k hk => by
    rcases hk with h | h
    · exact .inl (.inl h)
    · have := HB.out; have := HT1.out; exact .inr ⟨by omega, by omega, h.2⟩)
  have HX3 := Lib.hid hX3; have HC3 := Lib.hid hc2; have HA3 := Lib.hid ha4
  have hres := reserve_lt Hok.out (m := m)
  have hrh := (RingM.reserve_secret r m).2
  have hrs := (RingM.reserve_secret r m).1
  clear hc3 ha3 hX3 hc2 ha4 HX2 HA2 HK2 r0 r1 r2 r3 r4 r5 r6 r7
  by_cases he : (r.reserve m).2.2 = 0
  · have hi := hres he
    have hsg := Hsg.out
    rw [if_pos he] at hsg
    have Hsg2 := Lib.hid hsg
    rw [he]
    rw [← hrh] at hi
    have HR := Lib.hid hrs
    clear hres hrh hsg Hsg he hrs
    generalize (r.reserve m).2.1 = i at *
    generalize (r.reserve m).1 = r' at *
    obtain ⟨mb, bt, hl, ht⟩ := HA3.out.led
    obtain ⟨A, c, hb, _, _⟩ := hl.cells
    have HL := Lib.hid hl; have HTr := Lib.hid ht; have HBk := Lib.hid hb; have Hi := Lib.hid hi
    have hh := ht.hh
    have hbl := block_lt hb
    obtain ⟨yf, y0, y1, y2, y3, y4, y5, y6, y7, y8, y9, y10, y11⟩ := freeR hb
    clear y0 y1 y2 y3 y4 y5 y6 y7 y8 y10 y11 hl ht hb
    go_wp2_with fail
    refine (path_any T0 T1 bt r'.h i (keysD r'.secret r'.h) w3 HTr.out Hi.out).mono ?_
    rintro e w4 ⟨Ap, cp, rfl, hp4, hb4⟩
    have hi256 : i < 256 := by have := (pow_le8 hh).2; have := Hi.out; omega
    have hw64 : IntKind.u64.wrap (i : Int) = (i : Int) := by rw [IntKind.wrap_u64]; omega
    have hrp : Rd w4 w4.heap.size 8 Ap r'.h (flatD (pathD (keysD r'.secret r'.h) i r'.h)) := Rd.of_own hp4
    have hok4 := pathD_ok (keysD r'.secret r'.h) i r'.h
    have hpl := pathD_len (keysD r'.secret r'.h) i r'.h
    have hsb : r'.sigB i m = encN i ++ onceB (ownD r'.secret i) m ++ (pathD (keysD r'.secret r'.h) i r'.h).flatMap D8.bytes := rfl
    have Hb4 := Lib.hid hb4; have HX4 := Lib.hid (block_below HX3.out hb4 (block_lt HX3.out)); have HBk4 := Lib.hid (block_below HBk.out hb4 hbl)
    have hhp := (pow_le8 hh)
    generalize pathD (keysD r'.secret r'.h) i r'.h = pl at *
    have HP4 := Lib.hid hrp; have Hpl := Lib.hid hpl; have Hsb := Lib.hid hsb
    clear hp4 hb4 yf y9 HX3 hbl hrp hok4 hpl hsb
    go_wp2_with fail
    refine (putNum_any none 0 0 i [] w4 (rd_nil _ _) (by decide) (by omega)).mono ?_
    rintro e w5 ⟨A5, n5, c5, rfl, ho5, hn5, hb5⟩
    have hn5' : n5 = (encN i).length := by rw [hn5]; rfl
    have hn11 := encN_len i
    rw [List.nil_append] at ho5
    have HO5 := Lib.hid ho5; have HQ5 := Lib.hid hb5; have Hn5 := Lib.hid hn5'
    have HX5 := Lib.hid (block_below HX4.out hb5 (block_lt HX4.out)); have HBk5 := Lib.hid (block_below HBk4.out hb5 (block_lt HBk4.out))
    clear ho5 hn5 hb5 hn5' hw64
    go_upto_region 8 with fail
    refine wp_region_held_drew (S := fun w' => w'.heap[w.heap.size]? = some (.cells #[.int .u8 (m.x0 : Int), .int .u8 (m.x1 : Int), .int .u8 (m.x2 : Int), .int .u8 (m.x3 : Int), .int .u8 (m.x4 : Int), .int .u8 (m.x5 : Int), .int .u8 (m.x6 : Int), .int .u8 (m.x7 : Int)] 30 (0, 0))) (by kernel_rfl) HX5.out (fun hHeld => ?_)
    rw [show Array.replicate _ false = (#[false, false, false, false, false, false, false, false] : Array Bool) from rfl]
    refine takeH 0 (some 36) (v := ?_) rfl (by kernel_rfl) (by kernel_rfl) (by kernel_rfl) (by kernel_rfl) (fun _ _ _ h => h) (Or.inl ⟨by kernel_rfl, ?hy⟩) (by assumption) ?_
    case hy =>
      intro w' hSw
      clear hSw
      first
        | (go_simp; done)
        | (go_simp; with_reducible rfl)
    simp only [Act.put, List.setIfInBounds_toArray, List.set_cons_zero, List.set_cons_succ]
    refine takeH 1 (some 37) (v := ?_) rfl (by kernel_rfl) (by kernel_rfl) (by kernel_rfl) (by kernel_rfl) (fun _ _ _ h => h) (Or.inl ⟨by kernel_rfl, ?hy⟩) (by assumption) ?_
    case hy =>
      intro w' hSw
      clear hSw
      first
        | (go_simp; done)
        | (go_simp; with_reducible rfl)
    simp only [Act.put, List.setIfInBounds_toArray, List.set_cons_zero, List.set_cons_succ]
    refine takeH 2 (some 38) (v := ?_) rfl (by kernel_rfl) (by kernel_rfl) (by kernel_rfl) (by kernel_rfl) (fun _ _ _ h => h) (Or.inl ⟨by kernel_rfl, ?hy⟩) (by assumption) ?_
    case hy =>
      intro w' hSw
      clear hSw
      first
        | (go_simp; done)
        | (go_simp; with_reducible rfl)
    simp only [Act.put, List.setIfInBounds_toArray, List.set_cons_zero, List.set_cons_succ]
    refine takeH 4 (some 40) (v := ?_) rfl (by kernel_rfl) (by kernel_rfl) (by kernel_rfl) (by kernel_rfl) (fun _ _ _ h => h) (Or.inl ⟨by kernel_rfl, ?hy⟩) (by assumption) ?_
    case hy =>
      intro w' hSw
      try dsimp only at hSw
      obtain ⟨xf, x0, x1, x2, x3, x4, x5, x6, x7⟩ := free8 hSw
      clear xf hSw
      first
        | (go_simp; done)
        | (go_simp; with_reducible rfl)
    simp only [Act.put, List.setIfInBounds_toArray, List.set_cons_zero, List.set_cons_succ]
    refine wpAnyH_ready (rs := [3]) (by kernel_rfl) (by simp) ?_
    refine AllReadyH.cons rfl (fun K hK => ?_) AllReadyH.nil
    rw [if_pos (by kernel_rfl)]
    go_simp
    refine (own_any r'.secret r'.h _ _ mb br i w5.drew HA3.out.ok.1 (by omega) HBk5.out).mono ?_
    rintro e w6 ⟨rfl, hb6⟩
    have hq6 := (Below.refl w5.heap.size w5).drew.trans hb6
    have HO6 := Lib.hid (own_below HO5.out hq6); have HX6 := Lib.hid (block_below HX5.out hq6 (block_lt HX5.out)); have HQ6 := Lib.hid (HQ5.out.trans (hq6.mono HQ5.out.size))
    clear hb6 hq6 HO5 HX5 HQ5 HBk5 HBk4
    refine hK.out _ _ HX6.out (fun _ => ?_)
    clear hK K
    simp only [List.setIfInBounds_toArray, List.set_cons_zero, List.set_cons_succ]
    have Hod := Lib.hid (ownD_ok r'.secret i)
    generalize ownD r'.secret i = od at *
    refine wpAnyH_ready (rs := [5]) (by kernel_rfl) (by simp) ?_
    refine AllReadyH.cons rfl (fun K hK => ?_) AllReadyH.nil
    rw [if_pos (by kernel_rfl)]
    go_simp
    refine (osign_any od m w6 Hod.out Hm.out).mono ?_
    rintro e w7 ⟨A7, n7, c7, rfl, ho7, hn7, hb7⟩
    have HR7 := Lib.hid (Rd.of_own ho7); have HO7 := Lib.hid (own_below HO6.out hb7); have HX7 := Lib.hid (block_below HX6.out hb7 (block_lt HX6.out)); have HQ7 := Lib.hid (HQ6.out.trans (hb7.mono HQ6.out.size))
    rw [onceB_len] at hn7
    subst hn7
    have Hol := Lib.hid (onceB_len od m)
    clear ho7 hb7 HO6 HX6 HQ6
    refine hK.out _ _ HX7.out (fun _ => ?_)
    clear hK K
    simp only [List.setIfInBounds_toArray, List.set_cons_zero, List.set_cons_succ]
    have hbs7 : w4.heap.size ≤ w7.heap.size := HQ7.out.size
    have hxl := block_lt HX4.out
    refine wpAnyH_ready (rs := [6]) (by kernel_rfl) (by simp) ?_
    refine AllReadyH.cons rfl (fun K hK => ?_) AllReadyH.nil
    refine step_append_rdg w7 (by rfl) _ _ 24 (by rfl) w4.heap.size 5 i0 (.int .u8 0) 1 1 Tryz.underlying24 HI.out rfl (by decide) _ _ _ (by rfl) HO7.out w7.heap.size A7 144 c7 _ (by rfl) HR7.out (bv_one _) (by have := Hn5.out; omega) (by have := Hn5.out; omega) hbs7 ?_
    intro v8 w8 ho8 hb8 hg8
    obtain ⟨A8, c8, rfl⟩ := own_form ho8
    rw [← bv_append] at ho8
    have HO8 := Lib.hid ho8; have HX8 := Lib.hid (block_below HX7.out hb8 hxl); have HQ8 := Lib.hid (HQ7.out.trans hb8)
    refine hK.out _ _ HX8.out (fun _ => ?_)
    clear hK K ho8 hb8 hg8 HO7 HX7 HQ7 HR7
    try simp only [List.setIfInBounds_toArray, List.set_cons_zero, List.set_cons_succ]
    refine takeH 7 (some 9) (v := ?_) rfl (by kernel_rfl) (by kernel_rfl) (by kernel_rfl) (by kernel_rfl) (fun _ _ _ h => h) (Or.inl ⟨by kernel_rfl, ?hy⟩) (by assumption) ?_
    case hy =>
      intro w' hSw
      clear hSw
      first
        | (go_simp; done)
        | (go_simp; with_reducible rfl)
    simp only [Act.put, List.setIfInBounds_toArray, List.set_cons_zero, List.set_cons_succ]
    refine wpAnyH_done (by kernel_rfl) ?_ _
    have hn11b : n5 + 144 ≤ 155 := by have := Hn5.out; omega
    have HO8b : Hid (w8.ownsRow w4.heap.size 5 1 (.slice A8 (n5 + 144) c8) (n5 + 144) (bv (encN i ++ onceB od m ++ (pl.take 0).flatMap D8.bytes))) := by
      refine Lib.hid ?_
      rw [List.take_zero, List.flatMap_nil, List.append_nil]
      exact HO8.out
    clear HO8 HX8
    generalize n5 + 144 = n8 at *
    go_wp2
    go_loopw [45, 9] (fun s45 s9 wr => ∃ (k : Nat) (A : Option Addr) (n c : Nat), k ≤ r'.h ∧ s45 = .int .i64 (k : Int) ∧ s9 = .slice A n c ∧ wr.ownsRow w4.heap.size 5 1 (.slice A n c) n (bv (encN i ++ onceB od m ++ (pl.take k).flatMap D8.bytes)) ∧ n ≤ 155 + 8 * k ∧ Below w4.heap.size w4 wr) (fun s45 _ _ => r'.h - (RowKit.intOf s45).toNat)
    case atStart => exact ⟨0, A8, n8, c8, Nat.zero_le _, rfl, rfl, HO8b.out, by omega, HQ8.out⟩
    case round =>
      obtain ⟨k, A9, n9, c9, hk, rfl, rfl, ho, hn9, hq⟩ := hrel
      have HO := Lib.hid ho; have HQ := Lib.hid hq
      clear ho hq HO8b HQ8
      by_cases hlt : k < r'.h
      · have hd1 : decide ((k : Int) < (r'.h : Int)) = true := decide_eq_true (by omega)
        have hki : (k : Int) < (r'.h : Int) := by omega
        obtain ⟨b, o, rfl, hbB, x0, x1, x2, x3, x4, x5, x6, x7⟩ := (HP4.out.below HQ.out (Nat.le_refl _)).di8 hlt
        have Htk := Lib.hid (flatB_take pl (k := k) (by have := Hpl.out; omega))
        generalize pl.getD k D8.zero = q at *
        have Hk := Lib.hid hlt
        have hbl : b < wr.heap.size := by have := HQ.out.size; omega
        have HO2 := Lib.hid (HO.out.alloc (.cells #[.int .u8 (q.x0 : Int), .int .u8 (q.x1 : Int), .int .u8 (q.x2 : Int), .int .u8 (q.x3 : Int), .int .u8 (q.x4 : Int), .int .u8 (q.x5 : Int), .int .u8 (q.x6 : Int), .int .u8 (q.x7 : Int)] 30)); have HQ2 := Lib.hid (HQ.out.alloc HQ.out.size (.cells #[.int .u8 (q.x0 : Int), .int .u8 (q.x1 : Int), .int .u8 (q.x2 : Int), .int .u8 (q.x3 : Int), .int .u8 (q.x4 : Int), .int .u8 (q.x5 : Int), .int .u8 (q.x6 : Int), .int .u8 (q.x7 : Int)] 30))
        have HRl := Lib.hid (box_rd wr q 30)
        go_upto_region 12 with fail
        generalize hw9 : wr.alloc (.cells #[.int .u8 (q.x0 : Int), .int .u8 (q.x1 : Int), .int .u8 (q.x2 : Int), .int .u8 (q.x3 : Int), .int .u8 (q.x4 : Int), .int .u8 (q.x5 : Int), .int .u8 (q.x6 : Int), .int .u8 (q.x7 : Int)] 30) = w9 at *
        have hbs : w4.heap.size ≤ w9.heap.size := HQ2.out.size
        clear hw9 x0 x1 x2 x3 x4 x5 x6 x7 HO HQ
        go_wp2_with (at_builtin; go_must (refine wpList_append_rdg w9 (by rfl) _ _ 24 (by rfl) w4.heap.size 5 i0 (.int .u8 0) 1 1 Tryz.underlying24 HI.out rfl (by decide) _ _ _ (by rfl) HO2.out w9.heap.size (some ⟨wr.heap.size, 0, none⟩) 8 8 _ (by rfl) HRl.out (bv_one _) (by omega) (by omega) hbs ?_); intro v6 w10 ho6 hb6 hg6; obtain ⟨A6, c6, rfl⟩ := own_form ho6; rw [← bv_append, List.append_assoc, ← Htk.out] at ho6; have HO6 := Lib.hid ho6; have HQ6 := Lib.hid (HQ2.out.trans hb6); clear ho6 hb6 hg6)
        go_roundw
        case rel => exact ⟨k + 1, A6, _, c6, Hk.out, by go_num, rfl, HO6.out, by omega, HQ6.out⟩
        case measure => have := Hk.out; simp [RowKit.intOf]; omega
      · obtain rfl : k = r'.h := by omega
        have hd1 : decide ((r'.h : Int) < (r'.h : Int)) = false := by simp
        have htk : pl.take r'.h = pl := List.take_of_length_le (by rw [Hpl.out]; exact Nat.le_refl _)
        have ho := HO.out
        rw [htk, ← Hsb.out] at ho
        have HO3 := Lib.hid ho
        clear hlt hk ho htk
        go_wp2
        have hb34 := Hb4.out.trans (HQ.out.mono Hb4.out.size)
        refine bodyPost_ret (results_tmp2 rfl _ _ _) rfl ⟨w3.heap.size, A9, n9, c9, HC3.out.size, hb34.size, by rw [Hsg2.out]; rfl, ?_, ?_, HC3.out.trans0 (Chg.of_below hb34), ?_⟩
        · rw [Hsg2.out]; exact own_down HO3.out Hb4.out.size
        · rw [Hsg2.out]; have := (Rd.of_own HO3.out).blen; exact this.symm
        · rw [Hsg2.out]; exact HA3.out.below hb34
  · have b1 : (((r.reserve m).2.2 : Int) != 0) = true := by rw [bne_iff_ne]; omega
    have hsg := Hsg.out
    rw [if_neg he] at hsg
    have Hsg2 := Lib.hid hsg
    clear hres hrh hsg Hsg he hrs
    go_wp2
    refine bodyPost_ret (results_tmp2 rfl _ _ _) rfl ⟨w3.heap.size, none, 0, 0, HC3.out.size, Nat.le_refl _, by rw [Hsg2.out]; rfl, ?_, ?_, HC3.out, ?_⟩
    · rw [Hsg2.out]; exact World.ownsRow_nil _ _ _ _
    · rw [Hsg2.out]; rfl
    · rw [Hsg2.out]; exact HA3.out
end Go.Proofs.YthjpaclcoipocaaGreat
