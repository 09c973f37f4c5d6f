/- Walks of a ring's own: take, Reserve. Condition: room in the ledger. A new ring: the walk of keys' New. Condition: none. -/
import Derived.Test.YthjpaclcoipocaaGreatJoinG
import Derived.Test.YthjpaclcoipocaaGreatTail
import Derived.StillTailTactics
import Derived.Deep.RegionLaw
import Derived.Lib.SmallJoins
import Derived.Maps.AppendAt
import Derived.Carry
namespace Go.Proofs.YthjpaclcoipocaaGreat
open Go.RowKit Go.Lib



theorem PlacesD.lt {w : World} {b : Nat} {L : List D8} (h : PlacesD w b L) : b < w.heap.size := by
  obtain ⟨es, clock, h1, _⟩ := h
  exact block_lt h1
theorem grown_setD {w : World} (b i : Nat) (v : Value) : w.grownBy (w.setCell ⟨b, i, none⟩ v) (some b) :=
  ⟨rfl, rfl, rfl, by simp, fun k _ hne => Below.heap_setCell w ⟨b, i, none⟩ v k (fun e => hne (by rw [e]))⟩
theorem wpList_putD {P : Program} {ops : Array Oper} {rest : List Oper} {o : Oper} {a : Act} {Q : Exit → Act → World → Prop} (w w' : World) (hg : o.guard = none) (m x v : Operand) (t : TypeId) (hop : o.op = Op.mapUpdate t m x v)
    (M X V : Value) (hm : a.eval m = M) (hx : a.eval x = X) (hv : a.eval v = V) (hrun : (Instr.mapUpdate t M X V).run P w = .ok () w') (hK : wpList P ops Q rest (a.put o.dst undef) w') : wpList P ops Q (o :: rest) a w := by
  refine wpList_plain hg fun K' hK' => ?_
  unfold Oper.wp
  simp [execOp, hop, hm, hx, hv, hrun, Result.andThen]
  exact hK' _ _ hK
theorem own_ne_mapD {w : World} {base : Nat} {e : TypeId} {sz n g cl : Nat} {v : Value} {xs : List Value} {es : Array MapEntry} (h : w.ownsRow base e sz v n xs) (hg : w.heap[g]? = some (.map es cl)) : some g ≠ v.ownBlock := by
  rcases h.2 with ⟨rfl, _⟩ | ⟨g', cap, cur, rfl, _, hgg, _⟩
  · simp [Value.ownBlock]
  · simp only [Value.ownBlock, ne_eq, Option.some.injEq]
    rintro rfl
    rw [hg] at hgg
    injection hgg with h1
    cases h1
/-- An append of what lies in one block, and where the row lies then. -/
theorem step_append_at {P : Program} {ops : Array Oper} {o : Oper} {a : Act} {K : Act → World → Prop} {Q : Exit → Act → World → Prop} {E : Prop} (w : World) (hgd : o.guard = none) (s x : Operand) (t : TypeId)
    (ho : o.op = .call { callee := .builtin .append, args := #[s, x], argTypes := #[t, t] })
    (base : Nat) (e : TypeId) (i : TypeInfo) (z : Value) (sz bytes : Nat) (ht : P.underlying t = some (.slice e)) (hinfo : P.info? e = some i ∧ i.zero = some z ∧ i.size = sz ∧ i.bytes = bytes)
    (hzs : z.cells.size = sz) (hsz : 0 < sz) (v : Value) (n : Nat) (xs : List Value) (hs : a.eval s = v) (hown : w.ownsRow base e sz v n xs)
    (B b o' : Nat) (m c : Nat) (news : List Value) (hx : a.eval x = .slice (some ⟨b, o', none⟩) m c) (hm : 0 < m) (hr : Rd w B sz (some ⟨b, o', none⟩) m news) (h1 : ∀ u ∈ news, u.oneCell' = true)
    (h63 : n + m ≤ 281474976710656) (hbytes : (n + m) * bytes ≤ 140737488355328) (hbase : base ≤ w.heap.size)
    (h : ∀ v' w', w'.ownsRow base e sz v' (n + m) (xs ++ news) → w.grownBy w' v.ownBlock → (v'.ownBlock = v.ownBlock ∨ v'.ownBlock = some w.heap.size) → K (a.put o.dst v') w') : if Region.wanted o (yielded ops a.tmps) = true then Oper.wp P o a w K Q else E := by
  have hw : Region.wanted o (yielded ops a.tmps) = true := by simp [Region.wanted, hgd]
  rw [if_pos hw]
  obtain ⟨v', w', hr1, h2, h3, h4, h5⟩ := run_append_own_at (P := P) w base t o.type e i z sz bytes ht hinfo.1 hinfo.2.1 hinfo.2.2.1 hinfo.2.2.2 hzs hsz v n xs hown ⟨b, o', none⟩ m c news hr.1 (by
    intro j u hu
    obtain ⟨b2, o2, e1, _, hc⟩ := hr.2 hm
    injection e1 with e1
    injection e1 with e2 e3
    subst e2; subst e3
    have := hc j u hu
    unfold Addr.add
    split
    · subst_vars; simpa using this
    · exact this) h1 (by simp only [maxLen]; omega) hbytes hbase
  unfold Oper.wp execOp
  simp only [ho, resolve, invoke, builtin, Sem.run_bind, Sem.run_pure, Result.andThen_ok, List.map_toArray, List.map_cons, List.map_nil, hs, hx, hr1]
  exact h v' w' h2 h3 h5
theorem still_loadD {P : Program} {ops : Array Oper} {rest : List Oper} {o : Oper} {a : Act} {w : World} {Q : Act → Prop} (hg : o.guard = none) (x : Operand) (t : TypeId) (hop : o.op = Op.load t x)
    (X v : Value) (hx : a.eval x = X) (hrun : (Instr.loadAt t X).run P w = .ok v w) (h : wpStill P ops w Q rest (a.put o.dst v)) : wpStill P ops w Q (o :: rest) a := by
  have hw : Region.wanted o (yielded ops a.tmps) = true := by simp [Region.wanted, hg]
  refine wpStill_step (fun K hK => ?_)
  rw [if_pos hw]
  unfold Oper.still
  simp [execOp, hop, hx, hrun, Result.andThen, Oper.stillUpon]
  exact hK _ h
theorem load_dig (w : World) (b : Nat) (d : D8) (h : w.heap[b]? = some (.cells #[.int .u8 (d.x0 : Int), .int .u8 (d.x1 : Int), .int .u8 (d.x2 : Int), .int .u8 (d.x3 : Int), .int .u8 (d.x4 : Int), .int .u8 (d.x5 : Int), .int .u8 (d.x6 : Int), .int .u8 (d.x7 : Int)] 30 (0, 0))) : (Instr.loadAt 30 (.pointer (some ⟨b, 0, none⟩))).run Tryz.prog w = .ok (.agg #[.int .u8 (d.x0 : Int), .int .u8 (d.x1 : Int), .int .u8 (d.x2 : Int), .int .u8 (d.x3 : Int), .int .u8 (d.x4 : Int), .int .u8 (d.x5 : Int), .int .u8 (d.x6 : Int), .int .u8 (d.x7 : Int)]) w := by
  obtain ⟨zf, x0, x1, x2, x3, x4, x5, x6, x7⟩ := free8 h
  have hl := block_lt h
  go_simp
theorem info_DR : (Tryz.prog.info? 30).map (fun i => (i.zero, i.size, i.bytes)) = some (some (.agg #[.int .u8 0, .int .u8 0, .int .u8 0, .int .u8 0, .int .u8 0, .int .u8 0, .int .u8 0, .int .u8 0]), 8, 8) := by kernel_rfl
theorem ringC_led (s : D8) (h : Nat) (pt v v' : Value) (mb : Nat) : (ringC s h pt v mb).setIfInBounds 10 v' = ringC s h pt v' mb := rfl
section
variable {w : World} {B : Nat} {F : Nat → Prop} {br mb h : Nat} {s : D8} {pt : Value} {L : List D8}
set_option maxRecDepth 100000 in
set_option maxHeartbeats 4000000 in
theorem take_led (m : D8) (l : LedAt w B F br mb s h pt L) (hm : m.ok) (hB : B ≤ w.heap.size) (hlen : L.length < 60000) :
    Calls Tryz.prog 111 #[.pointer (some ⟨br, 0, none⟩), .agg #[.int .u8 (m.x0 : Int), .int .u8 (m.x1 : Int), .int .u8 (m.x2 : Int), .int .u8 (m.x3 : Int), .int .u8 (m.x4 : Int), .int .u8 (m.x5 : Int), .int .u8 (m.x6 : Int), .int .u8 (m.x7 : Int)]] w fun e w' => e = .returned (.int .i64 (L.length : Int)) ∧ Chg F w w' ∧ (∃ A c, w'.heap[br]? = some (.cells (ringC s h pt (.slice A (L.length + 1) c) mb) 68 (0, 0))) ∧ (posD L m = none → LedAt w' B (more F w w') br mb s h pt (L ++ [m])) := by
  obtain ⟨A, c, hb, ho, hg⟩ := l.cells
  obtain ⟨i0, hi, hz0, hz1, hz2⟩ := info_parts info_DR
  have HI := Lib.hid (And.intro hi (And.intro hz0 (And.intro hz1 hz2))); clear hi hz0 hz1 hz2
  have Hlen := Lib.hid hlen; have Hm := Lib.hid hm; have HL := Lib.hid l; have HG := Lib.hid hg; have HB := Lib.hid hB
  have hlb := block_lt hb
  have HX2 : Hid ((w.alloc (.cells #[.int .u8 (m.x0 : Int), .int .u8 (m.x1 : Int), .int .u8 (m.x2 : Int), .int .u8 (m.x3 : Int), .int .u8 (m.x4 : Int), .int .u8 (m.x5 : Int), .int .u8 (m.x6 : Int), .int .u8 (m.x7 : Int)] 30)).heap[w.heap.size]? = some (.cells #[.int .u8 (m.x0 : Int), .int .u8 (m.x1 : Int), .int .u8 (m.x2 : Int), .int .u8 (m.x3 : Int), .int .u8 (m.x4 : Int), .int .u8 (m.x5 : Int), .int .u8 (m.x6 : Int), .int .u8 (m.x7 : Int)] 30 (0, 0))) := Lib.hid (heap_alloc_new w _)
  have HB2 := Lib.hid (block_alloc hb (.cells #[.int .u8 (m.x0 : Int), .int .u8 (m.x1 : Int), .int .u8 (m.x2 : Int), .int .u8 (m.x3 : Int), .int .u8 (m.x4 : Int), .int .u8 (m.x5 : Int), .int .u8 (m.x6 : Int), .int .u8 (m.x7 : Int)] 30))
  have HP2 : Hid (PlacesD (w.alloc (.cells #[.int .u8 (m.x0 : Int), .int .u8 (m.x1 : Int), .int .u8 (m.x2 : Int), .int .u8 (m.x3 : Int), .int .u8 (m.x4 : Int), .int .u8 (m.x5 : Int), .int .u8 (m.x6 : Int), .int .u8 (m.x7 : Int)] 30)) mb L) := Lib.hid (l.map.same (Below.heap_alloc w _ _ l.map.lt))
  have HO2 := Lib.hid (ho.alloc (.cells #[.int .u8 (m.x0 : Int), .int .u8 (m.x1 : Int), .int .u8 (m.x2 : Int), .int .u8 (m.x3 : Int), .int .u8 (m.x4 : Int), .int .u8 (m.x5 : Int), .int .u8 (m.x6 : Int), .int .u8 (m.x7 : Int)] 30))
  have HK2 := Lib.hid (h_one w (.cells #[.int .u8 (m.x0 : Int), .int .u8 (m.x1 : Int), .int .u8 (m.x2 : Int), .int .u8 (m.x3 : Int), .int .u8 (m.x4 : Int), .int .u8 (m.x5 : Int), .int .u8 (m.x6 : Int), .int .u8 (m.x7 : Int)] 30))
  have hs2 : w.heap.size < (w.alloc (.cells #[.int .u8 (m.x0 : Int), .int .u8 (m.x1 : Int), .int .u8 (m.x2 : Int), .int .u8 (m.x3 : Int), .int .u8 (m.x4 : Int), .int .u8 (m.x5 : Int), .int .u8 (m.x6 : Int), .int .u8 (m.x7 : Int)] 30)).heap.size := by simp
  have Hs2 : Hid ((w.alloc (.cells #[.int .u8 (m.x0 : Int), .int .u8 (m.x1 : Int), .int .u8 (m.x2 : Int), .int .u8 (m.x3 : Int), .int .u8 (m.x4 : Int), .int .u8 (m.x5 : Int), .int .u8 (m.x6 : Int), .int .u8 (m.x7 : Int)] 30)).heap.size = w.heap.size + 1) := Lib.hid (by simp)
  have HNe : Hid (∀ g, (Value.slice A L.length c).ownBlock = some g → g < w.heap.size) := Lib.hid fun g hg => (ho.lt g hg).2
  clear hb ho hg l hm hlen hB
  go_enter Tryz.func111, Tryz.ntmps111
  go_upto_region 1 with fail
  generalize w.alloc (.cells #[.int .u8 (m.x0 : Int), .int .u8 (m.x1 : Int), .int .u8 (m.x2 : Int), .int .u8 (m.x3 : Int), .int .u8 (m.x4 : Int), .int .u8 (m.x5 : Int), .int .u8 (m.x6 : Int), .int .u8 (m.x7 : Int)] 30) = w2 at *
  obtain ⟨yf, y0, y1, y2, y3, y4, y5, y6, y7, y8, y9, y10, y11⟩ := freeR HB2.out
  clear y0 y1 y2 y3 y4 y5 y6 y7 y8 y9
  obtain ⟨zf, x0, x1, x2, x3, x4, x5, x6, x7⟩ := free8 HX2.out
  have hbk2 := block_lt HB2.out
  go_upto_region 2 with fail
  have HO3 : Hid ((w2.drew.alloc (.cells #[.int .u8 (m.x0 : Int), .int .u8 (m.x1 : Int), .int .u8 (m.x2 : Int), .int .u8 (m.x3 : Int), .int .u8 (m.x4 : Int), .int .u8 (m.x5 : Int), .int .u8 (m.x6 : Int), .int .u8 (m.x7 : Int)] 30)).ownsRow B 30 8 (.slice A L.length c) L.length (flatD L)) := Lib.hid ((own_below HO2.out (Below.refl _ _).drew).alloc _)
  have HRl : Hid (Rd (w2.drew.alloc (.cells #[.int .u8 (m.x0 : Int), .int .u8 (m.x1 : Int), .int .u8 (m.x2 : Int), .int .u8 (m.x3 : Int), .int .u8 (m.x4 : Int), .int .u8 (m.x5 : Int), .int .u8 (m.x6 : Int), .int .u8 (m.x7 : Int)] 30)) (w2.heap.size + 1) 8 (some ⟨w2.heap.size, 0, none⟩) 1 (flatD [m])) := by
    show Rd _ _ _ _ _ _
    have := Rd.newA (n := 1) (sz := 8) (xs := flatD [m]) w2.drew 30 #[.int .u8 (m.x0 : Int), .int .u8 (m.x1 : Int), .int .u8 (m.x2 : Int), .int .u8 (m.x3 : Int), .int .u8 (m.x4 : Int), .int .u8 (m.x5 : Int), .int .u8 (m.x6 : Int), .int .u8 (m.x7 : Int)] rfl rfl
    simp at this
    exact this
  have HB3 := Lib.hid (block_alloc (w := w2.drew) HB2.out (.cells #[.int .u8 (m.x0 : Int), .int .u8 (m.x1 : Int), .int .u8 (m.x2 : Int), .int .u8 (m.x3 : Int), .int .u8 (m.x4 : Int), .int .u8 (m.x5 : Int), .int .u8 (m.x6 : Int), .int .u8 (m.x7 : Int)] 30))
  have HX3 := Lib.hid (block_alloc (w := w2.drew) HX2.out (.cells #[.int .u8 (m.x0 : Int), .int .u8 (m.x1 : Int), .int .u8 (m.x2 : Int), .int .u8 (m.x3 : Int), .int .u8 (m.x4 : Int), .int .u8 (m.x5 : Int), .int .u8 (m.x6 : Int), .int .u8 (m.x7 : Int)] 30))
  have HP3 : Hid (PlacesD (w2.drew.alloc (.cells #[.int .u8 (m.x0 : Int), .int .u8 (m.x1 : Int), .int .u8 (m.x2 : Int), .int .u8 (m.x3 : Int), .int .u8 (m.x4 : Int), .int .u8 (m.x5 : Int), .int .u8 (m.x6 : Int), .int .u8 (m.x7 : Int)] 30)) mb L) := Lib.hid (HP2.out.same (Below.heap_alloc w2.drew _ _ HP2.out.lt))
  have HK3 : Hid (Below w.heap.size w (w2.drew.alloc (.cells #[.int .u8 (m.x0 : Int), .int .u8 (m.x1 : Int), .int .u8 (m.x2 : Int), .int .u8 (m.x3 : Int), .int .u8 (m.x4 : Int), .int .u8 (m.x5 : Int), .int .u8 (m.x6 : Int), .int .u8 (m.x7 : Int)] 30))) := Lib.hid (HK2.out.drew.alloc (by exact Nat.le_of_lt hs2) _)
  have Hs3 : Hid ((w2.drew.alloc (.cells #[.int .u8 (m.x0 : Int), .int .u8 (m.x1 : Int), .int .u8 (m.x2 : Int), .int .u8 (m.x3 : Int), .int .u8 (m.x4 : Int), .int .u8 (m.x5 : Int), .int .u8 (m.x6 : Int), .int .u8 (m.x7 : Int)] 30)).heap.size = w2.heap.size + 1) := Lib.hid (by simp)
  go_region_law (refine step_append_at (w2.drew.alloc (.cells #[.int .u8 (m.x0 : Int), .int .u8 (m.x1 : Int), .int .u8 (m.x2 : Int), .int .u8 (m.x3 : Int), .int .u8 (m.x4 : Int), .int .u8 (m.x5 : Int), .int .u8 (m.x6 : Int), .int .u8 (m.x7 : Int)] 30)) (by rfl) _ _ 66 (by rfl) B 30 i0 (.agg #[.int .u8 0, .int .u8 0, .int .u8 0, .int .u8 0, .int .u8 0, .int .u8 0, .int .u8 0, .int .u8 0]) 8 8 Tryz.underlying66 HI.out rfl (by decide) _ _ _ (by rfl) HO3.out (w2.heap.size + 1) w2.heap.size 0 1 1 _ (by simp [Act.eval]) (by decide) HRl.out (flatD_one [m]) (by have := Hlen.out; omega) (by have := Hlen.out; omega) (by have := Hs3.out; have := Hs2.out; have := HB.out; omega) ?_; go_must (intro v4 w4 ho4 hg4 hw4; obtain ⟨A4, c4, rfl⟩ := own_form ho4; have HB4 := Lib.hid (block_grown HB3.out hg4 (own_ne HO3.out HB3.out (by decide))); have q4 := freeR HB4.out; have q40 := q4.2.2.2.2.2.2.2.2.2.2.2.1; have q4f := q4.1; have hl4 := block_lt HB4.out; clear q4; have HO4 := Lib.hid ho4; have HW4 := Lib.hid hw4; have HG4 := Lib.hid hg4; clear ho4 hg4 hw4))
  all_goals
    go_upto_region 3 with fail
    have hs4 := HG4.out.size
    have hgm : some mb ≠ (Value.slice A L.length c).ownBlock := by
      obtain ⟨es, cl, h1, _⟩ := HP3.out
      exact own_ne_mapD HO3.out h1
    have hP4 : PlacesD w4 mb L := HP3.out.same (HG4.out.block mb HP3.out.lt hgm)
    have hX4 := block_grown HX3.out HG4.out (fun e => by have := HNe.out _ e.symm; omega)
    have hbm : mb ≠ br := by
      intro e2
      obtain ⟨es, clock, h1, _⟩ := hP4
      rw [e2, HB4.out] at h1
      simp at h1
    have hg5 := grown_setD (w := w4) br 10 (.slice A4 (L.length + 1) c4)
    have HB5 : Hid ((w4.setCell ⟨br, 10, none⟩ (.slice A4 (L.length + 1) c4)).heap[br]? = some (.cells (ringC s h pt (.slice A4 (L.length + 1) c4) mb) 68 (0, 0))) := by
      show _ = _
      have := Joins.block_setCell (i := 10) HB4.out (.slice A4 (L.length + 1) c4)
      rwa [ringC_led] at this
    have HO5 := Lib.hid (World.ownsRow.kept HO4.out hg5 (.inr (fun e2 => own_ne HO4.out HB4.out (by decide) e2.symm)))
    have HP5 := Lib.hid (hP4.same (hg5.block mb hP4.lt (by intro e2; injection e2 with e2; exact hbm e2)))
    have HX5 := Lib.hid (block_grown hX4 hg5 (by intro e2; injection e2 with e2; omega))
    have Hg5 := Lib.hid hg5
    have Hs4 := Lib.hid hs4
    clear hg5 q40 q4f hP4 hX4 hs4 y10 y11 yf zf x0 x1 x2 x3 x4 x5 x6 x7
    generalize w4.setCell ⟨br, 10, none⟩ (.slice A4 (L.length + 1) c4) = w5 at *
    obtain ⟨w6, hrun, hg6, hp6⟩ : ∃ w6, (Instr.mapUpdate 64 (.map (some mb)) m.V (.int .i64 (L.length : Int))).run Tryz.prog w5.drew = .ok () w6 ∧ w5.drew.grownBy w6 (some mb) ∧ (posD L m = none → PlacesD w6 mb (L ++ [m])) := by
      have hp5 : PlacesD w5.drew mb L := HP5.out.same rfl
      by_cases hp : posD L m = none
      · obtain ⟨w6, h1, h2, h3⟩ := put_placesD hp5 HL.out.ok m Hm.out hp
        exact ⟨w6, h1, h3, fun _ => h2⟩
      · obtain ⟨w6, h1, h2⟩ := put_anyD hp5 HL.out.ok m Hm.out (.int .i64 (L.length : Int))
        exact ⟨w6, h1, h2, fun h => absurd h hp⟩
    simp only [D8.V] at hrun
    have HP6 := Lib.hid hp6; have Hg6 := Lib.hid hg6
    clear hp6 hg6
    obtain ⟨uf, u0, u1, u2, u3, u4, u5, u6, u7, u8, u9, u10, u11⟩ := freeR HB5.out
    clear u0 u1 u2 u3 u4 u5 u6 u7 u8 u9 u10
    have hl5 := block_lt HB5.out
    refine wp_region_tail 6 (by kernel_rfl) (by kernel_rfl) ?_
    simp only [List.take_succ_cons, List.take_zero, List.drop_succ_cons, List.drop_zero]
    iterate 4 still_step
    refine still_loadD (by rfl) _ _ (by rfl) _ _ (by rfl) (load_dig w5.drew w.heap.size m HX5.out) ?_
    still_step
    refine wpStill_nil ?_
    refine wpList_putD w5.drew w6 (by rfl) _ _ _ 64 (by rfl) _ _ _ (by rfl) (by rfl) (by rfl) hrun ?_
    go_wp2
    go_ret
    have s6 : w5.heap.size ≤ w6.heap.size := Hg6.out.size
    have s5 := Hg5.out.size
    have s4 := Hs4.out
    have s3 := Hs3.out
    have s2 := Hs2.out
    have e6 : ∀ k, k < w5.heap.size → k ≠ mb → w6.heap[k]? = w5.heap[k]? := fun k hk hne => Hg6.out.block k hk (by intro e; injection e with e; exact hne e)
    have e5 : ∀ k, k < w4.heap.size → k ≠ br → w5.heap[k]? = w4.heap[k]? := fun k hk hne => Hg5.out.block k hk (by intro e; injection e with e; exact hne e)
    refine ⟨rfl, ⟨(Hg6.out.os.trans Hg5.out.os).trans (HG4.out.os.trans HK3.out.os), (Hg6.out.tape.trans Hg5.out.tape).trans (HG4.out.tape.trans HK3.out.tape), (Hg6.out.output.trans Hg5.out.output).trans (HG4.out.output.trans HK3.out.output), by omega, fun k hk hf => ?_⟩, ⟨A4, c4, (e6 br (block_lt HB5.out) (fun e => hbm e.symm)).trans HB5.out⟩, fun hp => ?_⟩
    · have h1 : k ≠ mb := fun e => hf (e ▸ HL.out.fm)
      have h2 : k ≠ br := fun e => hf (e ▸ HL.out.fb)
      rw [e6 k (by omega) h1, e5 k (by omega) h2, HG4.out.block k (by omega) (fun e => hf (HG.out k e.symm)), HK3.out.block k hk]
    · have hlen : (L ++ [m]).length = L.length + 1 := by simp
      have hO6 := World.ownsRow.kept (w := w5.drew) (own_below HO5.out (Below.refl _ _).drew) Hg6.out (.inr (fun e2 => by
        obtain ⟨es5, cl5, hm5, _⟩ := HP5.out
        exact own_ne_mapD HO5.out hm5 e2.symm))
      refine ⟨⟨A4, c4, ?_, ?_, fun g hg => ?_⟩, HP6.out hp, ?_, ?_, .inl HL.out.fb, .inl HL.out.fm, ?_⟩
      · rw [hlen]
        exact (e6 br (block_lt HB5.out) (fun e => hbm e.symm)).trans HB5.out
      · rw [hlen, flatD_append]
        exact hO6
      · rw [hlen] at hg
        rcases HW4.out with e | e
        · exact .inl (HG.out g (e.symm.trans hg))
        · have := (hO6.lt g hg).2
          rw [hg] at e
          injection e with e
          exact .inr ⟨by omega, this⟩
      · rw [List.nodup_append]
        refine ⟨HL.out.nodup, by simp, fun a ha b hb => ?_⟩
        simp only [List.mem_singleton] at hb
        rintro rfl
        exact posD_none.1 hp (hb ▸ ha)
      · intro d hd
        rcases List.mem_append.1 hd with h | h
        · exact HL.out.ok d h
        · simp only [List.mem_singleton] at h; exact h ▸ Hm.out
      · rintro k (hk | hk)
        · have := HL.out.fl k hk; omega
        · have := HB.out; omega
end
theorem RingAt.up {w w' : World} {B : Nat} {F : Nat → Prop} {T0 T1 br : Nat} {r : RingM} (a : RingAt w B F T0 T1 br r) (hb : Below w.heap.size w w') (hB : B ≤ w.heap.size) : RingAt w' B (more F w w') T0 T1 br r := by
  obtain ⟨⟨mb, bt, h1, h2⟩, ha, h0, h3, ho⟩ := a.below hb
  have b1 := a.b1
  have hs := hb.size
  refine ⟨⟨mb, bt, h1.wide (fun k hk => .inl hk) ?_, h2⟩, ?_, h0, h3, ho⟩
  · rintro k (hk | hk)
    · exact h1.fl k hk
    · omega
  · rintro k (hk | hk) ht
    · exact ha k hk ht
    · omega
theorem RingAt.chg {w w' : World} {B : Nat} {F : Nat → Prop} {T0 T1 br mb bt : Nat} {r r' : RingM} (a : RingAt w B F T0 T1 br r) (ht : TreeAt w T0 T1 bt r.h (keysD r.secret r.h)) (hc : Chg F w w') (hl : LedAt w' B (more F w w') br mb r.secret r.h (.pointer (some ⟨bt, 0, none⟩)) r'.led) (h1 : r'.secret = r.secret) (h2 : r'.h = r.h) (ho : r'.ok) :
    RingAt w' B (more F w w') T0 T1 br r' := by
  have b1 := a.b1
  refine ⟨⟨mb, bt, by rw [h1, h2]; exact hl, by rw [h1, h2]; exact ht.kept (fun k h3 h4 => hc.block k (by omega) (fun hf => a.apart k hf ⟨h3, h4⟩)) hc.size⟩, ?_, a.b0, Nat.le_trans b1 hc.size, ho⟩
  rintro k (hk | hk) ht
  · exact a.apart k hk ht
  · omega
theorem LedAt.up {w w' : World} {B : Nat} {F : Nat → Prop} {br mb h : Nat} {s : D8} {pt : Value} {L : List D8} (l : LedAt w B F br mb s h pt L) (hb : Below w.heap.size w w') (hB : B ≤ w.heap.size) : LedAt w' B (more F w w') br mb s h pt L := by
  have hs := hb.size
  refine (l.below hb).wide (fun k hk => .inl hk) ?_
  rintro k (hk | hk)
  · have := l.fl k hk; omega
  · omega
set_option maxRecDepth 100000 in
set_option maxHeartbeats 4000000 in
theorem reserve_led {w : World} {B : Nat} {F : Nat → Prop} {br mb : Nat} {pt : Value} {r : RingM} (m : D8) (l : LedAt w B F br mb r.secret r.h pt r.led) (k2 : r.h ≤ 8) (k5 : r.led.length ≤ 2 ^ r.h) (hm : m.ok) (hB : B ≤ w.heap.size) :
    Calls Tryz.prog 108 #[.pointer (some ⟨br, 0, none⟩), .agg #[.int .u8 (m.x0 : Int), .int .u8 (m.x1 : Int), .int .u8 (m.x2 : Int), .int .u8 (m.x3 : Int), .int .u8 (m.x4 : Int), .int .u8 (m.x5 : Int), .int .u8 (m.x6 : Int), .int .u8 (m.x7 : Int)]] w fun e w' => e = .returned (.tuple #[.int .i64 ((r.reserve m).2.1 : Int), .int .i64 ((r.reserve m).2.2 : Int)]) ∧ Chg F w w' ∧ LedAt w' B (more F w w') br mb r.secret r.h pt (r.reserve m).1.led := by
  obtain ⟨A, c, hb, _, _⟩ := l.cells
  have hlb := block_lt hb
  have HX2 : Hid ((w.alloc (.cells #[.int .u8 (m.x0 : Int), .int .u8 (m.x1 : Int), .int .u8 (m.x2 : Int), .int .u8 (m.x3 : Int), .int .u8 (m.x4 : Int), .int .u8 (m.x5 : Int), .int .u8 (m.x6 : Int), .int .u8 (m.x7 : Int)] 30)).heap[w.heap.size]? = some (.cells #[.int .u8 (m.x0 : Int), .int .u8 (m.x1 : Int), .int .u8 (m.x2 : Int), .int .u8 (m.x3 : Int), .int .u8 (m.x4 : Int), .int .u8 (m.x5 : Int), .int .u8 (m.x6 : Int), .int .u8 (m.x7 : Int)] 30 (0, 0))) := Lib.hid (heap_alloc_new w _)
  have HB2 := Lib.hid (block_alloc hb (.cells #[.int .u8 (m.x0 : Int), .int .u8 (m.x1 : Int), .int .u8 (m.x2 : Int), .int .u8 (m.x3 : Int), .int .u8 (m.x4 : Int), .int .u8 (m.x5 : Int), .int .u8 (m.x6 : Int), .int .u8 (m.x7 : Int)] 30))
  have HK2 := Lib.hid (h_one w (.cells #[.int .u8 (m.x0 : Int), .int .u8 (m.x1 : Int), .int .u8 (m.x2 : Int), .int .u8 (m.x3 : Int), .int .u8 (m.x4 : Int), .int .u8 (m.x5 : Int), .int .u8 (m.x6 : Int), .int .u8 (m.x7 : Int)] 30))
  have hlook := look_placesD (w := (w.alloc (.cells #[.int .u8 (m.x0 : Int), .int .u8 (m.x1 : Int), .int .u8 (m.x2 : Int), .int .u8 (m.x3 : Int), .int .u8 (m.x4 : Int), .int .u8 (m.x5 : Int), .int .u8 (m.x6 : Int), .int .u8 (m.x7 : Int)] 30)).drew) (l.map.same (Below.heap_alloc w _ _ l.map.lt)) l.nodup l.ok m hm
  have hld := load_dig (w.alloc (.cells #[.int .u8 (m.x0 : Int), .int .u8 (m.x1 : Int), .int .u8 (m.x2 : Int), .int .u8 (m.x3 : Int), .int .u8 (m.x4 : Int), .int .u8 (m.x5 : Int), .int .u8 (m.x6 : Int), .int .u8 (m.x7 : Int)] 30)).drew w.heap.size m HX2.out
  have hs2 : w.heap.size < (w.alloc (.cells #[.int .u8 (m.x0 : Int), .int .u8 (m.x1 : Int), .int .u8 (m.x2 : Int), .int .u8 (m.x3 : Int), .int .u8 (m.x4 : Int), .int .u8 (m.x5 : Int), .int .u8 (m.x6 : Int), .int .u8 (m.x7 : Int)] 30)).heap.size := by simp
  simp only [D8.V] at hlook
  have HL := Lib.hid l; have Hm := Lib.hid hm; have HB := Lib.hid hB; have K := Lib.hid (And.intro k2 k5)
  clear hb l hm hB k2 k5
  have Hres : Hid (r.reserve m = match posD r.led m with | some i => (r, i, 0) | none => if r.led.length = 2 ^ r.h then (r, 0, 17) else ({ r with led := r.led ++ [m] }, r.led.length, 0)) := Lib.hid rfl
  go_enter Tryz.func108, Tryz.ntmps108
  go_upto_region 3 with fail
  generalize w.alloc (.cells #[.int .u8 (m.x0 : Int), .int .u8 (m.x1 : Int), .int .u8 (m.x2 : Int), .int .u8 (m.x3 : Int), .int .u8 (m.x4 : Int), .int .u8 (m.x5 : Int), .int .u8 (m.x6 : Int), .int .u8 (m.x7 : Int)] 30) = w2 at *
  obtain ⟨yf, y0, y1, y2, y3, y4, y5, y6, y7, y8, y9, y10, y11⟩ := freeR HB2.out
  clear y0 y1 y2 y3 y4 y5 y6 y7 y8 y9 y10
  obtain ⟨zf, x0, x1, x2, x3, x4, x5, x6, x7⟩ := free8 HX2.out
  have hbk2 := block_lt HB2.out
  clear hld
  cases hp : posD r.led m with
  | some i =>
    have hres := Hres.out
    rw [hp] at hres hlook
    simp only at hres hlook
    have Hr := Lib.hid hres
    clear hp hres Hres
    go_region
    all_goals
      clear hlook
      go_wp2
      go_ret2
      have hbw : Below w.heap.size w w2.drew := HK2.out.drew
      rw [Hr.out]
      exact ⟨rfl, Chg.of_below hbw, HL.out.up hbw HB.out⟩
  | none =>
    have hres := Hres.out
    rw [hp] at hres hlook
    simp only at hres hlook
    have Hr := Lib.hid hres
    have Hp := Lib.hid hp
    clear hp hres Hres
    have hbw : Below w.heap.size w w2.drew := HK2.out.drew
    have HL2 : Hid (LedAt w2.drew B F br mb r.secret r.h pt r.led) := Lib.hid (HL.out.below hbw)
    have Hbw := Lib.hid hbw
    clear hbw
    go_region
    all_goals
      clear hlook
      go_wp2_with fail
      refine (left_led HL2.out K.out.1 K.out.2).mono ?_
      rintro e w3 ⟨rfl, hb3⟩
      have HL3 := Lib.hid (HL2.out.below hb3); have HX3 := Lib.hid (block_below (w := w2.drew) HX2.out hb3 hs2); have Hb3 := Lib.hid (Hbw.out.trans (hb3.mono Hbw.out.size))
      clear hb3 yf y11 zf x0 x1 x2 x3 x4 x5 x6 x7
      by_cases hfull : r.led.length = 2 ^ r.h
      · have hr := Hr.out
        rw [if_pos hfull] at hr
        have Hr2 := Lib.hid hr
        have hz : 2 ^ r.h - r.led.length = 0 := by omega
        rw [hz]
        clear hr hfull hz Hr
        go_wp2
        go_ret2
        rw [Hr2.out]
        exact ⟨rfl, Chg.of_below Hb3.out, HL.out.up Hb3.out HB.out⟩
      · have hr := Hr.out
        rw [if_neg hfull] at hr
        have Hr2 := Lib.hid hr
        obtain ⟨n, hn⟩ : ∃ n, n = 2 ^ r.h - r.led.length := ⟨_, rfl⟩
        rw [← hn]
        have b1 : ((n : Int) == 0) = false := by rw [beq_eq_false_iff_ne]; have := K.out.2; omega
        have hl3 := block_lt HX3.out
        obtain ⟨zf, x0, x1, x2, x3, x4, x5, x6, x7⟩ := free8 HX3.out
        have hlen : r.led.length < 60000 := by have := K.out; have := pow_le8 this.1; omega
        have Htk := Lib.hid (take_led m HL3.out Hm.out (Nat.le_trans HB.out Hb3.out.size) hlen)
        clear hr hfull hn Hr hlen
        go_wp2_with fail
        refine Htk.out.mono ?_
        rintro e w4 ⟨rfl, hc4, _, hl4⟩
        have hc : Chg F w w4 := (Chg.of_below Hb3.out).trans0 hc4
        have hl := (hl4 Hp.out).wide (G := more F w w4) (by
          rintro k (h | h)
          · exact .inl h
          · have := Hb3.out.size; exact .inr ⟨by omega, h.2⟩) (by
          rintro k (h | h)
          · have := HL3.out.fl k h; have := hc4.size; omega
          · have := HB.out; omega)
        have Hc := Lib.hid hc; have Hl := Lib.hid hl
        clear hc hl hc4 hl4 Htk b1
        go_wp2
        go_ret2
        refine ⟨by rw [Hr2.out]; rfl, Hc.out, by rw [Hr2.out]; exact Hl.out⟩
theorem reserve_any {w : World} {B : Nat} {F : Nat → Prop} {T0 T1 br : Nat} {r : RingM} (m : D8) (a : RingAt w B F T0 T1 br r) (hm : m.ok) (hB : B ≤ w.heap.size) :
    Calls Tryz.prog 108 #[.pointer (some ⟨br, 0, none⟩), .agg #[.int .u8 (m.x0 : Int), .int .u8 (m.x1 : Int), .int .u8 (m.x2 : Int), .int .u8 (m.x3 : Int), .int .u8 (m.x4 : Int), .int .u8 (m.x5 : Int), .int .u8 (m.x6 : Int), .int .u8 (m.x7 : Int)]] w fun e w' => e = .returned (.tuple #[.int .i64 ((r.reserve m).2.1 : Int), .int .i64 ((r.reserve m).2.2 : Int)]) ∧ Chg F w w' ∧ RingAt w' B (more F w w') T0 T1 br (r.reserve m).1 := by
  obtain ⟨mb, bt, l, ht⟩ := a.led
  refine (reserve_led m l a.ok.2.1 a.ok.2.2.2.2 hm hB).mono ?_
  rintro e w' ⟨rfl, hc, hl⟩
  exact ⟨rfl, hc, RingAt.chg (r' := (r.reserve m).1) a ht hc hl (RingM.reserve_secret r m).1 (RingM.reserve_secret r m).2 (RingM.reserve_ok a.ok hm)⟩
end Go.Proofs.YthjpaclcoipocaaGreat
namespace Go.Proofs.YthjpaclcoipocaaGreat
open Go.RowKit Go.Lib



set_option maxRecDepth 100000 in
set_option maxHeartbeats 2000000 in
theorem new_bad (s : D8) (h : Int) (w : World) (hh : h < 0 ∨ 8 < h) :
    Calls Tryz.prog 10 #[.agg #[.int .u8 (s.x0 : Int), .int .u8 (s.x1 : Int), .int .u8 (s.x2 : Int), .int .u8 (s.x3 : Int), .int .u8 (s.x4 : Int), .int .u8 (s.x5 : Int), .int .u8 (s.x6 : Int), .int .u8 (s.x7 : Int)], .int .i64 h] w fun e w' => e = .returned (.tuple #[.pointer none, .int .i64 2]) ∧ Below w.heap.size w w' := by
  have hb := h_one w (.cells #[.int .u8 (s.x0 : Int), .int .u8 (s.x1 : Int), .int .u8 (s.x2 : Int), .int .u8 (s.x3 : Int), .int .u8 (s.x4 : Int), .int .u8 (s.x5 : Int), .int .u8 (s.x6 : Int), .int .u8 (s.x7 : Int)] 30)
  by_cases h0 : h < 0
  · have d1 : decide (h < 0) = true := decide_eq_true h0
    go_enter Tryz.func10, Tryz.ntmps10
    go_wp2
    go_ret2
    exact ⟨rfl, hb⟩
  · have d1 : decide (h < 0) = false := decide_eq_false h0
    have d2 : decide (8 < h) = true := decide_eq_true (by omega)
    go_enter Tryz.func10, Tryz.ntmps10
    go_wp2
    go_ret2
    exact ⟨rfl, hb⟩
set_option maxRecDepth 100000 in
set_option maxHeartbeats 4000000 in
theorem new_any (s : D8) (h : Nat) (w : World) (hs : s.ok) (hh : h ≤ 8) :
    Calls Tryz.prog 10 #[.agg #[.int .u8 (s.x0 : Int), .int .u8 (s.x1 : Int), .int .u8 (s.x2 : Int), .int .u8 (s.x3 : Int), .int .u8 (s.x4 : Int), .int .u8 (s.x5 : Int), .int .u8 (s.x6 : Int), .int .u8 (s.x7 : Int)], .int .i64 (h : Int)] w fun e w' => ∃ br F T0 T1, e = .returned (.tuple #[.pointer (some ⟨br, 0, none⟩), .int .i64 0]) ∧ RingAt w' w.heap.size F T0 T1 br (RingM.new s h) ∧ Below w.heap.size w w' := by
  have Hs := Lib.hid hs
  have d1 : decide ((h : Int) < 0) = false := by simp
  have d2 : decide ((8 : Int) < (h : Int)) = false := decide_eq_false (by omega)
  obtain ⟨hS0, hM0, hR0, hw0, hz0⟩ := alloc3 w (.cells #[.int .u8 (s.x0 : Int), .int .u8 (s.x1 : Int), .int .u8 (s.x2 : Int), .int .u8 (s.x3 : Int), .int .u8 (s.x4 : Int), .int .u8 (s.x5 : Int), .int .u8 (s.x6 : Int), .int .u8 (s.x7 : Int)] 30) (.map #[] 0) (.cells (ringC s h (.pointer none) (.slice none 0 0) (w.heap.size + 1)) 68)
  have HM0 := Lib.hid hM0; have HR0 := Lib.hid hR0; have Hw0 := Lib.hid hw0; have Hz0 := Lib.hid hz0
  unfold ringC at HR0 Hw0 Hz0 HM0
  clear hS0 hM0 hR0 hw0 hz0 hs
  have hsh := shl_one hh
  have hpw := pow_le8 hh
  obtain ⟨n, hn⟩ : ∃ n, n = 2 ^ h := ⟨_, rfl⟩
  have hsh2 : IntKind.i64.wrap ((2 : Int) ^ h) = (n : Int) := by rw [hsh, hn]
  rw [← hn] at hpw
  have Hn := Lib.hid hn; have Hhh := Lib.hid hh
  have hmm := @run_makeMap Tryz.prog
  clear hsh hn
  go_enter Tryz.func10, Tryz.ntmps10
  go_upto_region 4 with fail
  generalize ((w.alloc _).alloc (.map #[] 0)).alloc (.cells _ 68) = v0 at *
  clear hmm
  have hs0 := Hz0.out
  obtain ⟨br, hbr⟩ : ∃ br, br = w.heap.size + 2 := ⟨_, rfl⟩
  have hR1 := HR0.out
  rw [← hbr] at hR1
  have hbr2 : w.heap.size + 1 + 1 = br := hbr.symm
  simp only [hbr2]
  have HR1 := Lib.hid hR1
  have hbm : w.heap.size + 1 < br := by omega
  have hbv : br < v0.heap.size := block_lt hR1
  have hwm : w.heap.size ≤ w.heap.size + 1 := by omega
  clear hs0 hR1 HR0 Hz0 hbr hbr2
  generalize w.heap.size + 1 = mb at *
  have hmb : mb < v0.heap.size := block_lt HM0.out
  have HDr : Hid (DRow (newD v0 n) v0.heap.size n (rowK (fun i => publicD (ownD s i)) 0 n)) := by rw [rowK_zero]; exact newD_row v0 n
  have HR2 := Lib.hid (newD_block (n := n) HR1.out); have HM2 := Lib.hid (newD_block (n := n) HM0.out)
  have Hw2 := Lib.hid (Hw0.out.trans ((newD_below v0 n).mono Hw0.out.size))
  have hmk := make_dig n (by omega) v0
  have hsz := newD_size v0 n
  have hmk2 : (Instr.makeSlice 66 (.int .i64 (IntKind.i64.wrap ((2 : Int) ^ h))) (.int .i64 (IntKind.i64.wrap ((2 : Int) ^ h)))).run Tryz.prog v0 = .ok (.slice (some ⟨v0.heap.size, 0, none⟩) n n) (newD v0 n) := by rw [hsh2]; exact hmk
  clear HM0 HR1 Hw0
  go_upto_region 5 with (first | (rw [hmk2]; simp only [Result.andThen_ok]) | (rw [hmk]; simp only [Result.andThen_ok]))
  generalize newD v0 n = v1 at *
  generalize v0.heap.size = g at *
  clear hmk hmk2
  have hbg : br < g := hbv
  go_wp2
  go_loopw [27] (fun i wr => ∃ k : Nat, k ≤ n ∧ i = .int .i64 (k : Int) ∧ DRow wr g n (rowK (fun i => publicD (ownD s i)) k n) ∧ wr.heap[br]? = some (.cells (ringC s h (.pointer none) (.slice none 0 0) mb) 68 (0, 0)) ∧ wr.heap[mb]? = some (.map #[] 0) ∧ Below w.heap.size w wr) (fun i _ => n - (RowKit.intOf i).toNat)
  case atStart => exact ⟨0, by omega, rfl, HDr.out, HR2.out, HM2.out, Hw2.out⟩
  case round =>
    obtain ⟨k, hk, rfl, hD, hR, hM, hw⟩ := hrel
    have HD := Lib.hid hD; have HR := Lib.hid hR; have HM := Lib.hid hM; have Hw := Lib.hid hw
    clear hD hR hM hw HDr HR2 HM2 Hw2
    by_cases hlt : k < n
    · have hd1 : decide ((k : Int) < (n : Int)) = true := decide_eq_true (by omega)
      have hki : (k : Int) < (n : Int) := by omega
      have Hk := Lib.hid hlt
      have Hset := Lib.hid (rowK_set (fun i => publicD (ownD s i)) k n)
      go_wp2_with fail
      refine (own_any s h _ _ mb br k wr Hs.out (by omega) HR.out).mono ?_
      rintro e v2 ⟨rfl, hb2⟩
      have HD2 := Lib.hid (HD.out.below hb2); have HR2 := Lib.hid (block_below HR.out hb2 (block_lt HR.out)); have HM2 := Lib.hid (block_below HM.out hb2 (block_lt HM.out)); have Hw2 := Lib.hid (Hw.out.trans (hb2.mono Hw.out.size))
      have Hok := Lib.hid (ownD_ok s k)
      have Hq : Hid (publicD (ownD s k) = publicD (ownD s k)) := Lib.hid rfl
      generalize hod : ownD s k = od at *
      clear hb2 HD HR HM Hw Hq
      go_wp2_with fail
      refine (public_any od v2 Hok.out).mono ?_
      rintro e v3 ⟨rfl, hb3⟩
      have HD3 := Lib.hid (HD2.out.below hb3); have HR3 := Lib.hid (block_below HR2.out hb3 (block_lt HR2.out)); have HM3 := Lib.hid (block_below HM2.out hb3 (block_lt HM2.out)); have Hw3 := Lib.hid (Hw2.out.trans (hb3.mono Hw2.out.size))
      obtain ⟨zf, r0, r1, r2, r3, r4, r5, r6, r7⟩ := HD3.out.at8 Hk.out
      have Hod := Lib.hid hod
      generalize hpd : publicD od = pd at *
      have Hpd : Hid (publicD (ownD s k) = pd) := Lib.hid (by rw [hod, hpd])
      obtain ⟨h4, g4⟩ := HD3.out.setR Hk.out pd
      rw [Hset.out] at h4
      have hlg := HD3.out.lt
      have HD4 := Lib.hid h4
      have HR4 := Lib.hid ((g4.block br (block_lt HR3.out) (by intro e; injection e with e; omega)).trans HR3.out)
      have HM4 := Lib.hid ((g4.block mb (block_lt HM3.out) (by intro e; injection e with e; omega)).trans HM3.out)
      have hwg : w.heap.size ≤ g := by omega
      have Hw4 := Lib.hid (Hw3.out.grown g4 Hw3.out.size (fun q hq => by injection hq with hq; omega))
      clear hb3 HD2 HR2 HM2 Hw2 HD3 HR3 HM3 Hw3 h4 g4 hod hpd
      go_wp2
      go_roundw
      case rel => exact ⟨k + 1, Hk.out, by go_num, HD4.out, HR4.out, HM4.out, Hw4.out⟩
      case measure => have := Hk.out; simp [RowKit.intOf]; omega
    · obtain rfl : k = n := by omega
      have hd1 : decide ((k : Int) < (k : Int)) = false := by simp
      rw [rowK_full] at HD
      have hks : keysD s h = (List.range k).map (fun i => publicD (ownD s i)) := by rw [Hn.out]; rfl
      rw [← hks] at HD
      have Hok := Lib.hid (keysD_ok s h)
      clear hlt hk hks
      go_wp2_with fail
      refine (tnew_any (some ⟨g, 0, none⟩) k k h (keysD s h) wr HD.out.rd Hok.out Hn.out hh).mono ?_
      rintro e v5 ⟨bt, rfl, ht5, hb5⟩
      have HT5 := Lib.hid ht5; have HR5 := Lib.hid (block_below HR.out hb5 (block_lt HR.out)); have HM5 := Lib.hid (block_below HM.out hb5 (block_lt HM.out)); have Hw5 := Lib.hid (Hw.out.trans (hb5.mono Hw.out.size))
      have hbl := block_lt HR5.out
      have hwl : br < wr.heap.size := block_lt HR.out
      have hws := Hw.out.size
      have hs5 := hb5.size
      obtain ⟨yf, y0, y1, y2, y3, y4, y5, y6, y7, y8, y9, y10, y11⟩ := freeR HR5.out
      clear ht5 hb5 HD HR Hw y0 y1 y2 y3 y4 y5 y6 y7 y8 y10 y11
      go_wp2
      have h6 := Joins.block_setCell (i := 9) HR5.out (.pointer (some ⟨bt, 0, none⟩))
      have e6 : (ringC s h (.pointer none) (.slice none 0 0) mb).setIfInBounds 9 (.pointer (some ⟨bt, 0, none⟩)) = ringC s h (.pointer (some ⟨bt, 0, none⟩)) (.slice none 0 0) mb := rfl
      rw [e6] at h6
      have g6 := grown_set1 v5 br 9 (.pointer (some ⟨bt, 0, none⟩))
      generalize v5.setCell ⟨br, 9, none⟩ (.pointer (some ⟨bt, 0, none⟩)) = v6 at *
      have hs6 : v5.heap.size ≤ v6.heap.size := g6.size
      refine bodyPost_ret (results_tmp2 rfl _ _ _) rfl ⟨br, fun k => k = mb ∨ k = br, wr.heap.size, v5.heap.size, rfl, ⟨⟨mb, bt, ⟨⟨none, 0, h6, World.ownsRow_nil _ _ _ _, fun g hg => by simp [Value.ownBlock] at hg⟩, ⟨#[], 0, (g6.block mb (block_lt HM5.out) (by intro e; injection e with e; omega)).trans HM5.out, rfl⟩, List.nodup_nil, fun d hd => by simp [RingM.new] at hd, .inr rfl, .inl rfl, ?_⟩, HT5.out.kept (fun k h1 h2 => g6.block k h2 (by intro e; injection e with e; omega)) hs6⟩, ?_, hws, hs6, ⟨Hs.out, hh, List.nodup_nil, fun d hd => by simp [RingM.new] at hd, by simp [RingM.new]⟩⟩, Hw5.out.grown g6 Hw5.out.size (fun q hq => by injection hq with hq; omega)⟩
      · rintro k (rfl | rfl)
        · have := block_lt HM5.out; omega
        · omega
      · rintro k (rfl | rfl) ht
        · have := block_lt HM.out; omega
        · omega
end Go.Proofs.YthjpaclcoipocaaGreat
