/- 'append(s, xs...)' onto a row of the call's own, from any slice that reads as cells. Nothing of the program stands in it, so there is no condition. -/
import Derived.Test.YthhiookcknnmdaaGreatWords
import Derived.Laws.AppendOwnNone
namespace Go.Proofs.YthhiookcknnmdaaGreat
open Go.RowKit Go.Lib

theorem run_app_nil {P : Program} (w : World) (base : Nat) (t ty e : TypeId) (i : TypeInfo) (sz : Nat) (ht : P.underlying t = some (.slice e)) (hi : P.info? e = some i)
  (v : Value) (n : Nat) (xs : List Value) (hown : w.ownsRow base e sz v n xs) (c : Nat) : (Builtin.append_ #[t, t] ty #[v, .slice none 0 c]).run P w = .ok v w := by
 rcases hown.2 with ⟨rfl, rfl⟩ | ⟨g, cap, cur, rfl, _, _, hnc, _⟩
 ·simp [Builtin.append_, run_underlying ht, sizeOf, typeInfo, hi, Builtin.lenOf, Builtin.firstCells]
 ·simp [Builtin.append_, run_underlying ht, sizeOf, typeInfo, hi, Builtin.lenOf, Builtin.firstCells, hnc, storeCells]

theorem own_ne {w : World} {base : Nat} {e t : TypeId} {sz n g : Nat} {v : Value} {xs : List Value} {cs : Array Value} {fz : Nat × Nat} (h : w.ownsRow base e sz v n xs) (hg : w.heap[g]? = some (.cells cs t fz)) (hne : e ≠ t) : some g ≠ v.ownBlock := by
 rcases h.2 with ⟨rfl, _⟩ | ⟨g', cap, cur, rfl, _, hgg, _⟩
 ·simp [Value.ownBlock]
 ·simp only [Value.ownBlock, ne_eq, Option.some.injEq]
  rintro rfl
  rw [hg] at hgg
  injection hgg with h1
  injection h1 with _ h2
  exact hne h2.symm
theorem wpList_append_rdg {P : Program} {ops : Array Oper} {rest : List Oper} {o : Oper} {a : Act} {Q : Exit → Act → World → Prop} (w : World) (hgd : o.guard = none) (s x : Operand) (t : TypeId)
  (ho : o.op = .call { callee := .builtin .append, args := #[s, x], argTypes := #[t, t] })
  (base : Nat) (e : TypeId) (i : TypeInfo) (z : Value) (sz bytes : Nat) (ht : P.underlying t = some (.slice e)) (hinfo : P.info? e = some i ∧ i.zero = some z ∧ i.size = sz ∧ i.bytes = bytes)
  (hzs : z.cells.size = sz) (hsz : 0 < sz) (v : Value) (n : Nat) (xs : List Value) (hs : a.eval s = v) (hown : w.ownsRow base e sz v n xs)
  (B : Nat) (A : Option Addr) (m c : Nat) (news : List Value) (hx : a.eval x = .slice A m c) (hr : Rd w B sz A m news) (h1 : ∀ u ∈ news, u.oneCell' = true)
  (h63 : n + m ≤ 281474976710656) (hbytes : (n + m) * bytes ≤ 140737488355328) (hbase : base ≤ w.heap.size)
  (h : ∀ v' w', w'.ownsRow base e sz v' (n + m) (xs ++ news) → Below base w w' → w.grownBy w' v.ownBlock → wpList P ops Q rest (a.put o.dst v') w') : wpList P ops Q (o :: rest) a w := by
 cases A with
 | none =>
  have hm : m = 0 := by
   rcases Nat.eq_zero_or_pos m with h0 | h0
   ·exact h0
   ·obtain ⟨_, _, h2, _⟩ := hr.2 h0
    cases h2
  subst hm
  have hn : news = [] := List.eq_nil_of_length_eq_zero (by simpa using hr.1)
  subst hn
  refine wpList_plain hgd fun K hK => ?_
  have hrun := run_app_nil (P := P) w base t o.type e i sz ht hinfo.1 v n xs hown c
  unfold Oper.wp
  simp [execOp, ho, resolve, invoke, builtin, hs, hx, hrun, Result.andThen]
  exact hK _ _ (h v w (by simpa using hown) (Below.refl _ _) (World.grownBy.refl _ _))
 | some ad =>
  refine wpList_append_own w hgd s x t ho base e i z sz bytes ht hinfo.1 hinfo.2.1 hinfo.2.2.1 hinfo.2.2.2 hzs hsz v n xs hs hown ad m c news hx hr.1 ?_ h1 (by simp only [maxLen]; omega) hbytes hbase ?_
  ·intro j u hu
   have hm : 0 < m := by
    rcases Nat.eq_zero_or_pos m with h0 | h0
    ·subst h0
     have hn : news = [] := List.eq_nil_of_length_eq_zero (by simpa using hr.1)
     subst hn; simp at hu
    ·exact h0
   obtain ⟨b, o', e1, _, hc⟩ := hr.2 hm
   obtain rfl : ad = ⟨b, o', none⟩ := by injection e1
   have := hc j u hu
   unfold Addr.add
   split
   ·subst_vars; simpa using this
   ·exact this
  ·intro v' w' hown' hg _
   exact h v' w' hown' ((Below.refl _ _).grown hg hbase (fun k hk => (hown.lt k hk).1)) hg
theorem wpList_append_rd {P : Program} {ops : Array Oper} {rest : List Oper} {o : Oper} {a : Act} {Q : Exit → Act → World → Prop} (w : World) (hgd : o.guard = none) (s x : Operand) (t : TypeId)
  (ho : o.op = .call { callee := .builtin .append, args := #[s, x], argTypes := #[t, t] })
  (base : Nat) (e : TypeId) (i : TypeInfo) (z : Value) (sz bytes : Nat) (ht : P.underlying t = some (.slice e)) (hinfo : P.info? e = some i ∧ i.zero = some z ∧ i.size = sz ∧ i.bytes = bytes)
  (hzs : z.cells.size = sz) (hsz : 0 < sz) (v : Value) (n : Nat) (xs : List Value) (hs : a.eval s = v) (hown : w.ownsRow base e sz v n xs)
  (B : Nat) (A : Option Addr) (m c : Nat) (news : List Value) (hx : a.eval x = .slice A m c) (hr : Rd w B sz A m news) (h1 : ∀ u ∈ news, u.oneCell' = true)
  (h63 : n + m ≤ 281474976710656) (hbytes : (n + m) * bytes ≤ 140737488355328) (hbase : base ≤ w.heap.size)
  (h : ∀ v' w', w'.ownsRow base e sz v' (n + m) (xs ++ news) → Below base w w' → wpList P ops Q rest (a.put o.dst v') w') : wpList P ops Q (o :: rest) a w :=
 wpList_append_rdg w hgd s x t ho base e i z sz bytes ht hinfo hzs hsz v n xs hs hown B A m c news hx hr h1 h63 hbytes hbase fun v' w' a1 a2 _ => h v' w' a1 a2
end Go.Proofs.YthhiookcknnmdaaGreat
