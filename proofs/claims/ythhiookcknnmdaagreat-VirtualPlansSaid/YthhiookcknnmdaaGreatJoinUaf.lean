/- What changes when a way does, and what stays. Nothing of the program stands in it but its tables, so there is no condition. What is stored into a way: a purse, what a lock is at, an outcome, who agreed. Nothing of the program stands in it but its tables, so there is no condition. The walk of Lock. Conditions: the way lies in memory, and may be. The walk of Lock. Conditions: the way lies in memory, and may be. The walk of Lock, from its head to its end. Conditions: the way lies in memory, and may be. -/
import Derived.Test.YthhiookcknnmdaaGreatJoinUae
import Derived.Great.Walk
namespace Go.Proofs.YthhiookcknnmdaaGreat
open Go.RowKit Go.Lib
structure WChg (F : Nat → Prop) (w w' : World) : Prop where
 os : w'.os = w.os
 tape : w'.tape = w.tape
 output : w'.output = w.output
 size : w.heap.size ≤ w'.heap.size
 block : ∀ k, k < w.heap.size → ¬ F k → w'.heap[k]? = w.heap[k]?
theorem WChg.of_below {F : Nat → Prop} {w w' : World} (h : Below w.heap.size w w') : WChg F w w' := ⟨h.os, h.tape, h.output, h.size, fun k hk _ => h.block k hk⟩
theorem WChg.of_grown {F : Nat → Prop} {w w' : World} {g : Nat} (h : w.grownBy w' (some g)) (hg : F g) : WChg F w w' := ⟨h.os, h.tape, h.output, h.size, fun k hk hf => h.block k hk (by intro e; injection e with e; exact hf (e ▸ hg))⟩
theorem WChg.trans {F : Nat → Prop} {w w1 w2 : World} (h : WChg F w w1) (h2 : WChg F w1 w2) : WChg F w w2 :=
 ⟨h2.os.trans h.os, h2.tape.trans h.tape, h2.output.trans h.output, Nat.le_trans h.size h2.size, fun k hk hf => (h2.block k (Nat.lt_of_lt_of_le hk h.size) hf).trans (h.block k hk hf)⟩
theorem WChg.trans_new {F G : Nat → Prop} {w w1 w2 : World} (h : WChg F w w1) (h2 : WChg G w1 w2) (hG : ∀ k, G k → k < w.heap.size → F k) : WChg F w w2 :=
 ⟨h2.os.trans h.os, h2.tape.trans h.tape, h2.output.trans h.output, Nat.le_trans h.size h2.size, fun k hk hf => (h2.block k (Nat.lt_of_lt_of_le hk h.size) (fun hg => hf (hG k hg hk))).trans (h.block k hk hf)⟩
theorem WChg.refl (F : Nat → Prop) (w : World) : WChg F w w := ⟨rfl, rfl, rfl, Nat.le_refl _, fun _ _ _ => rfl⟩
theorem WChg.below {F : Nat → Prop} {w w' : World} {B : Nat} (h : WChg F w w') (hF : ∀ k, F k → B ≤ k) (hB : B ≤ w.heap.size) : Below B w w' :=
 ⟨h.os, h.tape, h.output, h.size, fun k hk => h.block k (by omega) (fun hf => by have := hF k hf; omega)⟩
def WyA.F (a : WyA) (k : Nat) : Prop := k = a.ab ∨ k = a.ob ∨ a.Ap.map (·.block) = some k ∨ a.Ag.map (·.block) = some k
def WyA.sameF (a a' : WyA) : Prop := a'.ab = a.ab ∧ a'.ob = a.ob ∧ a'.Ap = a.Ap ∧ a'.Ag = a.Ag ∧ a'.l.length = a.l.length
theorem WyA.sameF.F {a a' : WyA} (h : a.sameF a') : a'.F = a.F := by
 obtain ⟨h1, h2, h3, h4, _⟩ := h
 funext k; unfold WyA.F; rw [h1, h2, h3, h4]
theorem WyA.sameF.refl (a : WyA) : a.sameF a := ⟨rfl, rfl, rfl, rfl, rfl⟩
theorem WyA.sameF.trans {a b c : WyA} (h : a.sameF b) (h2 : b.sameF c) : a.sameF c := by
 obtain ⟨h1, h2', h3, h4, h5⟩ := h; obtain ⟨k1, k2, k3, k4, k5⟩ := h2
 exact ⟨k1.trans h1, k2.trans h2', k3.trans h3, k4.trans h4, k5.trans h5⟩
structure Wy.Ok (y : Wy) : Prop where
 pl : y.pl.Ok
 np : y.pu.length + 1 = y.pl.ks.length
 na : y.ag.length = y.pl.ks.length
theorem own_keepV {w w' : World} {base n sz : Nat} {e : TypeId} {v : Value} {xs : List Value} (h : w.ownsRow base e sz v n xs) (hk : ∀ g, v.ownBlock = some g → w'.heap[g]? = w.heap[g]?) : w'.ownsRow base e sz v n xs := by
 refine ⟨h.1, ?_⟩
 rcases h.2 with h5 | ⟨g, cap, cur, e1, hb, hg, hr⟩
 ·exact .inl h5
 ·exact .inr ⟨g, cap, cur, e1, hb, (hk g (by rw [e1]; rfl)).trans hg, hr⟩
theorem own_block {w : World} {base n sz : Nat} {e : TypeId} {v : Value} {xs : List Value} (h : w.ownsRow base e sz v n xs) {g : Nat} (hg : v.ownBlock = some g) : base ≤ g ∧ ∃ cs, w.heap[g]? = some (.cells cs e (0, 0)) := by
 rcases h.2 with ⟨h5, _⟩ | ⟨g', cap, cur, e1, hb, hg', hr⟩
 ·rw [h5] at hg; simp [Value.ownBlock] at hg
 ·rw [e1] at hg; injection hg with hg; subst hg; exact ⟨hb, cur, hg'⟩
theorem own_slice {w : World} {base n sz c : Nat} {e : TypeId} {A : Option Addr} {xs : List Value} (h : w.ownsRow base e sz (.slice A n c) n xs) {g : Nat} (hg : A.map (·.block) = some g) : (Value.slice A n c).ownBlock = some g := by
 rcases h.2 with ⟨h5, _⟩ | ⟨g', cap, cur, e1, hb, hg', hr⟩
 ·injection h5 with e2; subst e2; simp at hg
 ·injection e1 with e2; subst e2; injection hg with hg; subst hg; rfl
section
variable {w w' : World} {B wb bk : Nat} {y : Wy} {a : WyA}
theorem WyAt.F_ge (h : WyAt w B wb bk y a) {k : Nat} (hk : a.F k) : B ≤ k := by
 rcases hk with rfl | rfl | hk | hk
 ·exact h.hab
 ·exact h.hob
 ·exact (own_block h.pu (own_slice h.pu hk)).1
 ·exact (own_block h.ag (own_slice h.ag hk)).1
theorem WyAt.F_type (h : WyAt w B wb bk y a) {k : Nat} (hk : a.F k) {cs : Array Value} {t : TypeId} {fz : Nat × Nat} (hc : w.heap[k]? = some (.cells cs t fz)) : t = 85 ∨ t = 4 := by
 rcases hk with rfl | rfl | hk | hk
 ·obtain ⟨_, _, e, _⟩ := h.at_; rw [hc] at e; cases e
 ·obtain ⟨_, _, e, _⟩ := h.by_; rw [hc] at e; cases e
 ·obtain ⟨_, cs', e⟩ := own_block h.pu (own_slice h.pu hk); rw [hc] at e; injection e with e; injection e with _ e; exact .inl e
 ·obtain ⟨_, cs', e⟩ := own_block h.ag (own_slice h.ag hk); rw [hc] at e; injection e with e; injection e with _ e; exact .inr e
theorem WyAt.notF (h : WyAt w B wb bk y a) {k : Nat} {cs : Array Value} {t : TypeId} {fz : Nat × Nat} (hc : w.heap[k]? = some (.cells cs t fz)) (h1 : t ≠ 85) (h2 : t ≠ 4) : ¬ a.F k := fun hk => by
 rcases h.F_type hk hc with e | e
 ·exact h1 e
 ·exact h2 e
theorem WyAt.F_lt (h : WyAt w B wb bk y a) {k : Nat} (hk : a.F k) : k < w.heap.size := by
 rcases hk with rfl | rfl | hk | hk
 ·exact h.at_.lt
 ·exact h.by_.lt
 ·obtain ⟨_, cs', e⟩ := own_block h.pu (own_slice h.pu hk); exact block_lt e
 ·obtain ⟨_, cs', e⟩ := own_block h.ag (own_slice h.ag hk); exact block_lt e
theorem SigOw.keepV {w w' : World} {C n : Nat} {v : Value} {ss : List (List Nat)} (h : SigOw w C v n ss) (hk : ∀ (k : Nat) (cs : Array Value) (t : TypeId) (fz : Nat × Nat), w.heap[k]? = some (Obj.cells cs t fz) → t = 46 ∨ t = 5 → w'.heap[k]? = w.heap[k]?) : SigOw w' C v n ss := by
 obtain ⟨vs, k1, k2, k3⟩ := h
 refine ⟨vs, own_keepV k1 fun g hg => ?_, k2, fun k hk' => ?_⟩
 ·obtain ⟨_, cs, e⟩ := own_block k1 hg; exact hk _ _ _ _ e (.inl rfl)
 ·obtain ⟨A, m, c, h4, h5⟩ := k3 k hk'
  exact ⟨A, m, c, h4, own_keepV h5 fun g hg => by obtain ⟨_, cs, e⟩ := own_block h5 hg; exact hk _ _ _ _ e (.inr rfl)⟩
theorem OuA.Own.keepV {a : OuA} {C : Nat} {w w' : World} (h : a.Own C w) (hk : ∀ (k : Nat) (cs : Array Value) (t : TypeId) (fz : Nat × Nat), w.heap[k]? = some (Obj.cells cs t fz) → t ≠ 85 → t ≠ 4 → w'.heap[k]? = w.heap[k]?) : a.Own C w' :=
 ⟨own_keepV h.p fun g hg => by obtain ⟨_, cs, e⟩ := own_block h.p hg; exact hk _ _ 3 _ e (by decide) (by decide), SigOw.keepV h.s fun k cs t fz e ht => hk k cs t fz e (by rcases ht with rfl | rfl <;> decide) (by rcases ht with rfl | rfl <;> decide), h.bp, h.bs, h.so⟩
theorem Pl.Own.keepV {p : Pl} {C : Nat} {Ak : Option Addr} {nk ck : Nat} {An : Option Addr} {nn cn : Nat} {Af : Option Addr} {nf cf : Nat} {w w' : World} (h : p.Own C Ak nk ck An nn cn Af nf cf w) (hk : ∀ (k : Nat) (cs : Array Value) (t : TypeId) (fz : Nat × Nat), w.heap[k]? = some (Obj.cells cs t fz) → t ≠ 85 → t ≠ 4 → w'.heap[k]? = w.heap[k]?) : p.Own C Ak nk ck An nn cn Af nf cf w' :=
 ⟨own_keepV h.k fun g hg => by obtain ⟨_, cs, e⟩ := own_block h.k hg; exact hk _ _ 27 _ e (by decide) (by decide), own_keepV h.n fun g hg => by obtain ⟨_, cs, e⟩ := own_block h.n hg; exact hk _ _ 3 _ e (by decide) (by decide), own_keepV h.f fun g hg => by obtain ⟨_, cs, e⟩ := own_block h.f hg; exact hk _ _ 3 _ e (by decide) (by decide), h.bk, h.bn, h.bf⟩
theorem PuA.Own.keepV {a : PuA} {C : Nat} {w w' : World} (h : a.Own C w) (hk : ∀ (k : Nat) (cs : Array Value) (t : TypeId) (fz : Nat × Nat), w.heap[k]? = some (Obj.cells cs t fz) → t ≠ 85 → t ≠ 4 → w'.heap[k]? = w.heap[k]?) : a.Own C w' :=
 ⟨own_keepV h.h fun g hg => by obtain ⟨_, cs, e⟩ := own_block h.h hg; exact hk _ _ 120 _ e (by decide) (by decide), h.s⟩
theorem WyAt.cells (h : WyAt w B wb bk y a) (hc : WChg a.F w w') : ∀ (k : Nat) (cs : Array Value) (t : TypeId) (fz : Nat × Nat), w.heap[k]? = some (Obj.cells cs t fz) → t ≠ 85 → t ≠ 4 → w'.heap[k]? = w.heap[k]? := fun k _ _ _ e h1 h2 => hc.block k (block_lt e) (h.notF e h1 h2)
theorem WyAt.chg {G : Nat → Prop} (h : WyAt w B wb bk y a) (hc : WChg G w w') (hG : ∀ k, a.F k → ¬ G k) (ht : ∀ (k : Nat) (cs : Array Value) (t : TypeId) (fz : Nat × Nat), G k → w.heap[k]? = some (.cells cs t fz) → t = 85 ∨ t = 4) : WyAt w' B wb bk y a := by
 have hk : ∀ (k : Nat) (cs : Array Value) (t : TypeId) (fz : Nat × Nat), w.heap[k]? = some (Obj.cells cs t fz) → t ≠ 85 → t ≠ 4 → w'.heap[k]? = w.heap[k]? := fun k cs t fz e h1 h2 => hc.block k (block_lt e) (fun hg => by
  rcases ht k cs t fz hg e with e | e
  ·exact h1 e
  ·exact h2 e)
 have hf : ∀ k, a.F k → w'.heap[k]? = w.heap[k]? := fun k hk => hc.block k (h.F_lt hk) (hG k hk)
 exact ⟨(hk _ _ 118 _ h.box (by decide) (by decide)).trans h.box, h.hb, h.pl.keepV hk, h.tb, h.ko, own_keepV h.pu fun g hg => hf g (.inr (.inr (.inl (by
   rcases h.pu.2 with ⟨h5, _⟩ | ⟨g', cap, cur, e1, _⟩
   ·rw [h5] at hg; simp [Value.ownBlock] at hg
   ·rw [e1] at hg; injection e1 with e1 _ _; rw [e1]; exact hg)))), h.pe, fun x hx => (h.po x hx).keepV hk, h.at_.same (hf _ (.inl rfl)), h.atk, h.atn, h.hab, h.by_.same (hf _ (.inr (.inl rfl))), h.bye, h.byk, h.byn, fun x hx => (h.byo x hx).keepV hk, h.hob, h.ne, own_keepV h.ag fun g hg => hf g (.inr (.inr (.inr (by
   rcases h.ag.2 with ⟨h5, _⟩ | ⟨g', cap, cur, e1, _⟩
   ·rw [h5] at hg; simp [Value.ownBlock] at hg
   ·rw [e1] at hg; injection e1 with e1 _ _; rw [e1]; exact hg))))⟩
end
section
variable {w w' : World} {B wb bk : Nat} {y : Wy} {a : WyA}
theorem WyAt.only (h : WyAt w B wb bk y a) {g : Nat} (hg : w.grownBy w' (some g)) (hF : a.F g) : (∀ (k : Nat) (cs : Array Value) (t : TypeId) (fz : Nat × Nat), w.heap[k]? = some (Obj.cells cs t fz) → t ≠ 85 → t ≠ 4 → w'.heap[k]? = w.heap[k]?) ∧ w'.heap[wb]? = w.heap[wb]? := by
 have hc : WChg a.F w w' := WChg.of_grown hg hF
 have hk := h.cells hc
 exact ⟨hk, hk wb _ 118 _ h.box (by decide) (by decide)⟩
theorem own_other {b e n sz : Nat} {v : Value} {xs : List Value} (h : w.ownsRow b e sz v n xs) {g : Nat} (hg : w.grownBy w' (some g)) (hne : ∀ cs fz, w.heap[g]? ≠ some (Obj.cells cs e fz)) : w'.ownsRow b e sz v n xs :=
 own_keepV h fun k hk => by
  obtain ⟨_, cs, e1⟩ := own_block h hk
  exact hg.block k (block_lt e1) (fun e2 => by injection e2 with e2; subst e2; exact hne _ _ e1)
theorem map_set_p (l : List PuA) (k : Nat) (x : PuA) : (l.set k x).map (·.p) = (l.map (·.p)).set k x.p := by simp [List.map_set]
theorem mem_setP {l : List PuA} {k : Nat} {x z : PuA} (h : z ∈ l.set k x) : z ∈ l ∨ z = x := List.mem_or_eq_of_mem_set h
theorem WyAt.setp (h : WyAt w B wb bk y a) {g : Nat} (hA : a.Ap = some ⟨g, 0, none⟩) {hop : Nat} (hl : hop < a.l.length) (x : PuA) (hx : x.Own B w) :
  w.there g (hop * 12) 12 ∧ w.grownBy (w.setCells g (hop * 12) x.cells) (some g) ∧ WyAt (w.setCells g (hop * 12) x.cells) B wb bk { y with pu := y.pu.set hop x.p } { a with l := a.l.set hop x } := by
 have hpu := h.pu
 rw [hA] at hpu
 obtain ⟨h1, h2, h3⟩ := own_put hpu hl x.cells rfl
 have hFg : a.F g := .inr (.inr (.inl (by rw [hA]; rfl)))
 obtain ⟨hk, hwb⟩ := h.only h2 hFg
 obtain ⟨_, cs0, hgc⟩ := own_block hpu (g := g) rfl
 have nab : a.ab ≠ g := fun e => by obtain ⟨_, _, e2, _⟩ := h.at_; rw [e, hgc] at e2; cases e2
 have nob : a.ob ≠ g := fun e => by obtain ⟨_, _, e2, _⟩ := h.by_; rw [e, hgc] at e2; cases e2
 refine ⟨h3, h2, ?_⟩
 refine ⟨?_, h.hb, h.pl.keepV hk, h.tb, h.ko, ?_, ?_, ?_, h.at_.same (h2.block _ h.at_.lt (by simpa using nab)), h.atk, h.atn, h.hab, h.by_.same (h2.block _ h.by_.lt (by simpa using nob)), h.bye, h.byk, h.byn, fun z hz => (h.byo z hz).keepV hk, h.hob, h.ne, ?_⟩
 ·have e := hwb.trans h.box
  simpa using e
 ·show World.ownsRow _ B 85 12 (.slice a.Ap (a.l.set hop x).length a.cp) (a.l.set hop x).length (flatP (a.l.set hop x))
  rw [List.length_set, hA, flatP_set _ _ _ hl]; exact h1
 ·show (a.l.set hop x).map (·.p) = _
  rw [map_set_p, h.pe]
 ·intro z hz
  rcases mem_setP hz with hz | rfl
  ·exact (h.po z hz).keepV hk
  ·exact hx.keepV hk
 ·exact own_other h.ag h2 (fun cs fz e => by rw [hgc] at e; injection e with e; injection e with _ e; exact absurd e (by decide))
theorem alSet_ok {β : Type} {l : List ((Int × Int) × β)} (h : ∀ x ∈ l, spOk x.1) {s : Int × Int} (hs : spOk s) (v : β) : ∀ x ∈ alSet l s v, spOk x.1 := fun x hx => by
 rcases alSet_mem hx with hx | rfl
 ·exact h x hx
 ·exact hs
theorem WyAt.setat (h : WyAt w B wb bk y a) {s : Int × Int} (hs : spOk s) (v : Int) :
  ∃ w', (Instr.mapUpdate 114 (.map (some a.ab)) (spV s) (.int .i64 v)).run Tryz.prog w = .ok () w' ∧ w.grownBy w' (some a.ab) ∧ WyAt w' B wb bk { y with at_ := alSet y.at_ s v } a := by
 obtain ⟨w', h1, h2, h3, h4⟩ := put_mapG keysA h.at_ (by intro p hp; obtain ⟨x, hx, rfl⟩ := List.mem_map.1 hp; exact h.atk x hx) (by rw [atV_keys]; exact h.atn) s hs (.int .i64 v)
 rw [atV_set] at h2
 obtain ⟨hk, hwb⟩ := h.only h3 (.inl rfl)
 have hm : ∀ cs t fz, w.heap[a.ab]? ≠ some (Obj.cells cs t fz) := fun cs t fz e => by obtain ⟨_, _, e2, _⟩ := h.at_; rw [e] at e2; cases e2
 refine ⟨w', h1, h3, ⟨hwb.trans h.box, h.hb, h.pl.keepV hk, h.tb, h.ko, own_other h.pu h3 (fun cs fz => hm cs _ fz), h.pe, fun x hx => (h.po x hx).keepV hk, h2, alSet_ok h.atk hs v, alSet_keys s v h.atn, h.hab, h.by_.same (h3.block _ h.by_.lt (by simpa using h.ne.symm)), h.bye, h.byk, h.byn, fun z hz => (h.byo z hz).keepV hk, h.hob, h.ne, own_other h.ag h3 (fun cs fz => hm cs _ fz)⟩⟩
theorem WyAt.setby (h : WyAt w B wb bk y a) {s : Int × Int} (hs : spOk s) (o : OuA) (ho : o.Own B w) :
  ∃ w', (Instr.mapUpdate 115 (.map (some a.ob)) (spV s) o.V).run Tryz.prog w = .ok () w' ∧ w.grownBy w' (some a.ob) ∧ WyAt w' B wb bk { y with by_ := alSet y.by_ s o.o } { a with lo := alSet a.lo s o } := by
 have e0 : a.lo.map (·.1) = y.by_.map (·.1) := by rw [← h.bye]; simp [byO, Function.comp_def]
 have e1 : ∀ x ∈ a.lo, spOk x.1 := fun x hx => by
  have : x.1 ∈ y.by_.map (·.1) := by rw [← e0]; exact List.mem_map_of_mem hx
  obtain ⟨z, hz, e⟩ := List.mem_map.1 this
  rw [← e]; exact h.byk z hz
 obtain ⟨w', h1, h2, h3, h4⟩ := put_mapG keysB h.by_ (by intro p hp; obtain ⟨x, hx, rfl⟩ := List.mem_map.1 hp; exact e1 x hx) (by rw [byV_keys, h.bye]; exact h.byn) s hs o.V
 rw [byV_set] at h2
 obtain ⟨hk, hwb⟩ := h.only h3 (.inr (.inl rfl))
 have hm : ∀ cs t fz, w.heap[a.ob]? ≠ some (Obj.cells cs t fz) := fun cs t fz e => by obtain ⟨_, _, e2, _⟩ := h.by_; rw [e] at e2; cases e2
 refine ⟨w', h1, h3, ⟨hwb.trans h.box, h.hb, h.pl.keepV hk, h.tb, h.ko, own_other h.pu h3 (fun cs fz => hm cs _ fz), h.pe, fun x hx => (h.po x hx).keepV hk, h.at_.same (h3.block _ h.at_.lt (by simpa using h.ne)), h.atk, h.atn, h.hab, h2, by show byO (alSet a.lo s o) = _; rw [byO_set, h.bye], alSet_ok h.byk hs o.o, alSet_keys s o.o h.byn, fun z hz => ?_, h.hob, h.ne, own_other h.ag h3 (fun cs fz => hm cs _ fz)⟩⟩
 rcases alSet_mem hz with hz | rfl
 ·exact (h.byo z hz).keepV hk
 ·exact ho.keepV hk
theorem bvB_set (l : List Bool) (k : Nat) (hk : k < l.length) (b : Bool) : bvB (l.set k b) = (bvB l).take k ++ [.bool b] ++ (bvB l).drop (k + 1) := by
 unfold bvB
 rw [List.map_set, List.set_eq_take_append_cons_drop, if_pos (by simpa using hk)]
 simp
theorem WyAt.setag (h : WyAt w B wb bk y a) {k : Nat} (hl : k < y.ag.length) : ∃ g, a.Ag = some ⟨g, 0, none⟩ ∧ B ≤ g ∧ g < w.heap.size ∧ (∃ cs, w.heap[g]? = some (.cells cs 4 (0, 0)) ∧ k < cs.size ∧ cs[k]? = some (.bool (y.ag.getD k false))) ∧
  w.grownBy (w.setCell ⟨g, k, none⟩ (.bool true)) (some g) ∧ WyAt (w.setCell ⟨g, k, none⟩ (.bool true)) B wb bk { y with ag := y.ag.set k true } a := by
 have hag := h.ag
 have hbl : (bvB y.ag).length = y.ag.length := by simp [bvB]
 rcases hag.2 with ⟨h5, h6⟩ | ⟨g, cap, cur, e1, hb, hgc, hnc, hcm, hcs, htk⟩
 ·omega
 injection e1 with e1 _ _
 rw [e1] at hag
 obtain ⟨h1, h2, h3⟩ := own_put hag hl [.bool true] rfl
 have es : w.setCells g (k * 1) [.bool true] = w.setCell ⟨g, k, none⟩ (.bool true) := by rw [Nat.mul_one]; rfl
 rw [es] at h1 h2
 have hFg : a.F g := .inr (.inr (.inr (by rw [e1]; rfl)))
 obtain ⟨hk, hwb⟩ := h.only h2 hFg
 have nab : a.ab ≠ g := fun e => by obtain ⟨_, _, e2, _⟩ := h.at_; rw [e, hgc] at e2; cases e2
 have nob : a.ob ≠ g := fun e => by obtain ⟨_, _, e2, _⟩ := h.by_; rw [e, hgc] at e2; cases e2
 have hkc : k < cur.size := by omega
 refine ⟨g, e1, hb, block_lt hgc, ⟨cur, hgc, hkc, ?_⟩, h2, ?_⟩
 ·have e3 : (cur.toList.take (y.ag.length * 1))[k]? = cur.toList[k]? := List.getElem?_take_of_lt (by omega)
  rw [← Array.getElem?_toList, ← e3, htk]
  simp [bvB, hl]
 refine ⟨?_, h.hb, h.pl.keepV hk, h.tb, h.ko, own_other h.pu h2 (fun cs fz e => by rw [hgc] at e; injection e with e; injection e with _ e; exact absurd e (by decide)), h.pe, fun x hx => (h.po x hx).keepV hk, h.at_.same (h2.block _ h.at_.lt (by simpa using nab)), h.atk, h.atn, h.hab, h.by_.same (h2.block _ h.by_.lt (by simpa using nob)), h.bye, h.byk, h.byn, fun z hz => (h.byo z hz).keepV hk, h.hob, h.ne, ?_⟩
 ·have e := hwb.trans h.box
  simpa using e
 ·show World.ownsRow _ B 4 1 (.slice a.Ag (y.ag.set k true).length a.cg) (y.ag.set k true).length (bvB (y.ag.set k true))
  rw [List.length_set, e1, bvB_set _ _ hl]
  simpa using h1
end
theorem unless_exact (f : FuncId) (pre caps : Array Value) (er : Int) (w : World) :
  Calls Tryz.prog 63 #[.func (.func f) pre caps, .int .i64 er] w fun e w' => e = .returned (.func (.func 131) #[] #[.pointer (some ⟨w.heap.size, 0, none⟩), .pointer (some ⟨w.heap.size + 1, 0, none⟩)]) ∧ w' = (w.alloc (.cells #[.func (.func f) pre caps] 37)).alloc (.cells #[.int .i64 er] 33) := by
 go_enter Tryz.func63, Tryz.ntmps63
 go_wp2
 go_ret
 exact ⟨rfl, rfl⟩
def allocs (w : World) (l : List Obj) : World := l.foldl World.alloc w
theorem allocs_append (w : World) (l m : List Obj) : allocs w (l ++ m) = allocs (allocs w l) m := List.foldl_append
theorem allocs_size : ∀ (l : List Obj) (w : World), (allocs w l).heap.size = w.heap.size + l.length
 | [], _ => rfl
 | o :: l, w => by
  have := allocs_size l (w.alloc o)
  show (allocs (w.alloc o) l).heap.size = _
  rw [this]; simp; omega
theorem allocs_below : ∀ (l : List Obj) (w : World), Below w.heap.size w (allocs w l)
 | [], w => Below.refl _ _
 | o :: l, w => by
  have h1 := allocs_below l (w.alloc o)
  exact (below_one w o).trans (h1.mono (by simp))
theorem allocs_at : ∀ (l : List Obj) (w : World) (j : Nat) (o : Obj), l[j]? = some o → (allocs w l).heap[w.heap.size + j]? = some o
 | [], _, j, _, h => by simp at h
 | o :: l, w, j, x, h => by
  show (allocs (w.alloc o) l).heap[_]? = _
  cases j with
  | zero =>
   simp at h; subst h
   exact block_below (heap_alloc_new w o) (allocs_below l (w.alloc o)) (by simp)
  | succ j =>
   have := allocs_at l (w.alloc o) j x (by simpa using h)
   rw [show w.heap.size + (j + 1) = (w.alloc o).heap.size + j from by simp; omega]
   exact this
structure ClI (w : World) (X : Nat) (objs : List Obj) (w' : World) : Prop where
 b : Below w.heap.size w w'
 blk : ∀ j o, objs[j]? = some o → j ≠ X → w'.heap[w.heap.size + j]? = some o
 z : w.heap.size + objs.length ≤ w'.heap.size
theorem ClI.start (w : World) (X : Nat) (objs : List Obj) : ClI w X objs (allocs w objs) := ⟨allocs_below objs w, fun j o h _ => allocs_at objs w j o h, by rw [allocs_size]; exact Nat.le_refl _⟩
theorem ClI.below {w w1 w2 : World} {X : Nat} {objs : List Obj} (h : ClI w X objs w1) (hb : Below w1.heap.size w1 w2) : ClI w X objs w2 :=
 ⟨h.b.trans (hb.mono h.b.size), fun j o hj hx => block_below (h.blk j o hj hx) hb (block_lt (h.blk j o hj hx)), Nat.le_trans h.z hb.size⟩
theorem ClI.grown {w w1 w2 : World} {X : Nat} {objs : List Obj} (h : ClI w X objs w1) (hg : w1.grownBy w2 (some (w.heap.size + X))) : ClI w X objs w2 :=
 ⟨h.b.grown hg h.b.size (fun k hk => by injection hk with hk; omega), fun j o hj hx => block_grown (h.blk j o hj hx) hg (by intro e; injection e with e; omega), Nat.le_trans h.z hg.size⟩
def firstE : List Int → Int
 | [] => 0
 | c :: l => if c = 0 then firstE l else c
theorem firstE_all : ∀ {l : List Int}, (∀ j, j < l.length → l.getD j 0 = 0) → firstE l = 0
 | [], _ => rfl
 | c :: l, h => by
  have h0 : c = 0 := h 0 (by simp)
  unfold firstE
  rw [if_pos h0]
  exact firstE_all fun j hj => h (j + 1) (by simpa using hj)
theorem firstE_no : ∀ {l : List Int} {k : Nat}, k < l.length → (∀ j, j < k → l.getD j 0 = 0) → l.getD k 0 ≠ 0 → firstE l = l.getD k 0
 | [], _, h, _, _ => by simp at h
 | c :: l, 0, _, _, hn => by
  have h0 : c ≠ 0 := hn
  unfold firstE
  rw [if_neg h0]; rfl
 | c :: l, k + 1, hk, h, hn => by
  have h0 : c = 0 := h 0 (by omega)
  unfold firstE
  rw [if_pos h0]
  exact firstE_no (by simpa using hk) (fun j hj => h (j + 1) (by omega)) hn
theorem firstE_if {c : Prop} [Decidable c] {e : Int} (he : e ≠ 0) (l : List Int) : firstE ((if c then 0 else e) :: l) = if c then firstE l else e := by
 by_cases h : c <;> simp [firstE, h, he]
theorem firstE_ne {l : List Int} {k : Nat} (hk : k < l.length) (h : firstE l = 0) (h2 : ∀ j, j < k → l.getD j 0 = 0) : l.getD k 0 = 0 := Decidable.by_contra fun hn => hn ((firstE_no hk h2 hn).symm.trans h)
def Wy.hold0 (y : Wy) (hop : Int) : Int × Pu := (y.pu.getD hop.toNat default).hold (y.pl.heldOf hop.toNat 0)
def Wy.hold1 (y : Wy) (hop : Int) : Int × Pu := (y.hold0 hop).2.hold (y.pl.heldOf hop.toNat 1)
def Wy.lockL (y : Wy) (hop now : Int) : List Int :=
 [if y.isHop hop = true then 0 else 9, if far now = true then 0 else 2, if decide (y.atI hop 0 = 0 ∧ y.atI hop 1 = 0) = true then 0 else 10, if (!(y.behind hop)) = true then 0 else 18,
  if decide (now ≤ y.pl.nr.getD hop.toNat 0 ∧ now ≤ y.pl.fr.getD hop.toNat 0) = true then 0 else 19, (y.hold0 hop).1, (y.hold1 hop).1]
theorem Wy.lockI_first (y : Wy) (hop now : Int) : (y.lockI hop now).1 = firstE (y.lockL hop now) := by
 unfold Wy.lockL
 rw [firstE_if (by decide), firstE_if (by decide), firstE_if (by decide), firstE_if (by decide), firstE_if (by decide)]
 unfold Wy.lockI
 change _ = (if y.isHop hop = true then if far now = true then if decide (y.atI hop 0 = 0 ∧ y.atI hop 1 = 0) = true then if (!y.behind hop) = true then if decide (now ≤ y.pl.nr.getD hop.toNat 0 ∧ now ≤ y.pl.fr.getD hop.toNat 0) = true then (if (y.hold0 hop).1 = 0 then (if (y.hold1 hop).1 = 0 then 0 else (y.hold1 hop).1) else (y.hold0 hop).1) else 19 else 18 else 10 else 2 else 9)
 have e1 : (y.pu.getD hop.toNat default).hold (y.pl.heldOf hop.toNat 0) = y.hold0 hop := rfl
 have e2 : (y.hold0 hop).2.hold (y.pl.heldOf hop.toNat 1) = y.hold1 hop := rfl
 rw [e1, e2]
 generalize y.hold0 hop = h0
 generalize y.hold1 hop = h1
 simp only [decide_eq_true_eq, Bool.not_eq_true']
 cases y.isHop hop <;> cases far now <;> cases y.behind hop <;> simp only [if_true, if_false, Bool.false_eq_true, Bool.true_eq_false] <;> (repeat' split) <;> simp_all
theorem Wy.lockI_yes {y : Wy} {hop now : Int} (h : (y.lockI hop now).1 = 0) : y.lockI hop now = y.hold1 hop := by
 revert h
 unfold Wy.lockI
 have e1 : (y.pu.getD hop.toNat default).hold (y.pl.heldOf hop.toNat 0) = y.hold0 hop := rfl
 have e2 : (y.hold0 hop).2.hold (y.pl.heldOf hop.toNat 1) = y.hold1 hop := rfl
 rw [e1, e2]
 generalize y.hold0 hop = h0
 generalize y.hold1 hop = h1
 (repeat' split) <;> simp_all
def lockObjs (w : World) (wb : Nat) (hop now : Int) : List Obj :=
 [.cells #[.pointer (some ⟨wb, 0, none⟩)] 50, .cells #[.int .i64 hop] 3, .cells #[.int .i64 now] 3, .cells #[.int .u8 0, .int .u8 0, .int .u8 0, .int .u8 0, .int .u8 0, .int .u8 0, .int .u8 0, .int .u8 0, .int .i64 0, .int .i64 0, .int .i64 0, .slice none 0 0] 85,
  .cells #[.func (.func 64) #[] #[.pointer (some ⟨w.heap.size + 0, 0, none⟩), .pointer (some ⟨w.heap.size + 1, 0, none⟩)]] 37, .cells #[.int .i64 9] 33, .cells #[.func (.func 65) #[] #[.pointer (some ⟨w.heap.size + 2, 0, none⟩)]] 37, .cells #[.int .i64 2] 33,
  .cells #[.func (.func 66) #[] #[.pointer (some ⟨w.heap.size + 0, 0, none⟩), .pointer (some ⟨w.heap.size + 1, 0, none⟩)]] 37, .cells #[.int .i64 10] 33, .cells #[.func (.func 67) #[] #[.pointer (some ⟨w.heap.size + 0, 0, none⟩), .pointer (some ⟨w.heap.size + 1, 0, none⟩)]] 37, .cells #[.int .i64 18] 33,
  .cells #[.func (.func 69) #[] #[.pointer (some ⟨w.heap.size + 2, 0, none⟩), .pointer (some ⟨w.heap.size + 0, 0, none⟩), .pointer (some ⟨w.heap.size + 1, 0, none⟩)]] 37, .cells #[.int .i64 19] 33,
  .cells #[.func (.func 131) #[] #[.pointer (some ⟨w.heap.size + 4, 0, none⟩), .pointer (some ⟨w.heap.size + 4 + 1, 0, none⟩)], .func (.func 131) #[] #[.pointer (some ⟨w.heap.size + 6, 0, none⟩), .pointer (some ⟨w.heap.size + 6 + 1, 0, none⟩)], .func (.func 131) #[] #[.pointer (some ⟨w.heap.size + 8, 0, none⟩), .pointer (some ⟨w.heap.size + 8 + 1, 0, none⟩)], .func (.func 131) #[] #[.pointer (some ⟨w.heap.size + 10, 0, none⟩), .pointer (some ⟨w.heap.size + 10 + 1, 0, none⟩)], .func (.func 131) #[] #[.pointer (some ⟨w.heap.size + 12, 0, none⟩), .pointer (some ⟨w.heap.size + 12 + 1, 0, none⟩)], .func (.func 70) #[] #[.pointer (some ⟨w.heap.size + 0, 0, none⟩), .pointer (some ⟨w.heap.size + 1, 0, none⟩), .pointer (some ⟨w.heap.size + 3, 0, none⟩)], .func (.func 72) #[] #[.pointer (some ⟨w.heap.size + 0, 0, none⟩), .pointer (some ⟨w.heap.size + 3, 0, none⟩), .pointer (some ⟨w.heap.size + 1, 0, none⟩)]] 43]
def lockFs (w : World) : Nat → FuncId × Array Value
 | 0 => (131, #[.pointer (some ⟨w.heap.size + 4, 0, none⟩), .pointer (some ⟨w.heap.size + 4 + 1, 0, none⟩)])
 | 1 => (131, #[.pointer (some ⟨w.heap.size + 6, 0, none⟩), .pointer (some ⟨w.heap.size + 6 + 1, 0, none⟩)])
 | 2 => (131, #[.pointer (some ⟨w.heap.size + 8, 0, none⟩), .pointer (some ⟨w.heap.size + 8 + 1, 0, none⟩)])
 | 3 => (131, #[.pointer (some ⟨w.heap.size + 10, 0, none⟩), .pointer (some ⟨w.heap.size + 10 + 1, 0, none⟩)])
 | 4 => (131, #[.pointer (some ⟨w.heap.size + 12, 0, none⟩), .pointer (some ⟨w.heap.size + 12 + 1, 0, none⟩)])
 | 5 => (70, #[.pointer (some ⟨w.heap.size + 0, 0, none⟩), .pointer (some ⟨w.heap.size + 1, 0, none⟩), .pointer (some ⟨w.heap.size + 3, 0, none⟩)])
 | _ => (72, #[.pointer (some ⟨w.heap.size + 0, 0, none⟩), .pointer (some ⟨w.heap.size + 3, 0, none⟩), .pointer (some ⟨w.heap.size + 1, 0, none⟩)])
structure LockI (w : World) (wb : Nat) (y : Wy) (hop now : Int) (k : Nat) (w' : World) : Prop where
 c : ClI w 3 (lockObjs w wb hop now) w'
 z : k ≤ 5 → w'.heap[w.heap.size + 3]? = some (.cells #[.int .u8 0, .int .u8 0, .int .u8 0, .int .u8 0, .int .u8 0, .int .u8 0, .int .u8 0, .int .u8 0, .int .i64 0, .int .i64 0, .int .i64 0, .slice none 0 0] 85 (0, 0))
 x : 5 < k → ∃ x : PuA, x.p = (if k = 6 then (y.hold0 hop).2 else (y.hold1 hop).2) ∧ x.Own w.heap.size w' ∧ w'.heap[w.heap.size + 3]? = some (.cells x.cells.toArray 85 (0, 0))
theorem ent_un1 : Ent 131 := fun _ _ => by kernel_rfl
theorem ent_l6 : Ent 70 := fun _ _ => by kernel_rfl
theorem ent_l7 : Ent 72 := fun _ _ => by kernel_rfl
theorem ent_l3 : Ent 66 := fun _ _ => by kernel_rfl
theorem ent_l4 : Ent 67 := fun _ _ => by kernel_rfl
theorem ent_l5 : Ent 69 := fun _ _ => by kernel_rfl
section
variable {w : World} {B wb bk : Nat} {y : Wy} {a : WyA}
theorem PuA.Own.weak {x : PuA} {C C' : Nat} {w : World} (h : x.Own C w) (hc : C' ≤ C) : x.Own C' w := ⟨own_weak h.h hc, h.s⟩
theorem hop_in {hop : Int} (hok : y.Ok) (h : y.isHop hop = true) : ∃ k : Nat, hop = k ∧ k + 1 < y.pl.ks.length ∧ k < y.pu.length := by
 simp only [Wy.isHop, Bool.and_eq_true, decide_eq_true_eq] at h
 obtain ⟨k, rfl⟩ := Int.eq_ofNat_of_zero_le h.1
 have := hok.np
 exact ⟨k, rfl, by omega, by omega⟩
theorem lock_calls (h : WyAt w B wb bk y a) (hok : y.Ok) (hop now : Int) : ∀ k, k < 7 → (∀ j, j < k → (y.lockL hop now).getD j 0 = 0) → ∀ w', LockI w wb y hop now k w' → Calls Tryz.prog (lockFs w k).1 (lockFs w k).2 w' fun e w'' => e = .returned (.int .i64 ((y.lockL hop now).getD k 0)) ∧ LockI w wb y hop now (k + 1) w'' := by
 intro k hk hc w' hI
 have hW := block_cell (hI.c.blk 0 _ rfl (by decide)) 0
 have hH := block_cell (hI.c.blk 1 _ rfl (by decide)) 0
 have hN := block_cell (hI.c.blk 2 _ rfl (by decide)) 0
 have hw := h.below hI.c.b
 have hin : 0 < k → ∃ n : Nat, hop = n ∧ n + 1 < y.pl.ks.length ∧ n < y.pu.length := fun h0 => by
  have h1 := hc 0 h0
  refine hop_in hok ?_
  cases hq : y.isHop hop with
  | true => rfl
  | false => rw [show (y.lockL hop now).getD 0 0 = if y.isHop hop = true then 0 else 9 from rfl, hq] at h1; simp at h1
 obtain rfl | rfl | rfl | rfl | rfl | rfl | rfl : k = 0 ∨ k = 1 ∨ k = 2 ∨ k = 3 ∨ k = 4 ∨ k = 5 ∨ k = 6 := by omega
 ·refine unless1_any 64 #[] #[.pointer (some ⟨w.heap.size + 0, 0, none⟩), .pointer (some ⟨w.heap.size + 1, 0, none⟩)] ent_l1 (w.heap.size + 4) (w.heap.size + (4 + 1)) 9 (y.isHop hop) (fun w3 => LockI w wb y hop now 1 w3) w' (block_cell (hI.c.blk 4 _ rfl (by decide)) 0) ?_ (fun w3 h3 => block_cell (h3.c.blk 5 _ rfl (by decide)) 0)
  refine (l1_any hw hW hH).mono ?_
  rintro e w2 ⟨rfl, rfl⟩
  exact ⟨rfl, hI.c, fun _ => hI.z (by omega), fun h => absurd h (by omega)⟩
 ·refine unless1_any 65 #[] #[.pointer (some ⟨w.heap.size + 2, 0, none⟩)] ent_l2 (w.heap.size + 6) (w.heap.size + (6 + 1)) 2 (far now) (fun w3 => LockI w wb y hop now 2 w3) w' (block_cell (hI.c.blk 6 _ rfl (by decide)) 0) ?_ (fun w3 h3 => block_cell (h3.c.blk 7 _ rfl (by decide)) 0)
  refine (l2_any hN).mono ?_
  rintro e w2 ⟨rfl, rfl⟩
  exact ⟨rfl, hI.c, fun _ => hI.z (by omega), fun h => absurd h (by omega)⟩
 ·obtain ⟨n, rfl, hn1, hn2⟩ := hin (by omega)
  have h8 := hok.pl.k8
  refine unless1_any 66 #[] #[.pointer (some ⟨w.heap.size + 0, 0, none⟩), .pointer (some ⟨w.heap.size + 1, 0, none⟩)] ent_l3 (w.heap.size + 8) (w.heap.size + (8 + 1)) 10 (decide (y.atI n 0 = 0 ∧ y.atI n 1 = 0)) (fun w3 => LockI w wb y n now 3 w3) w' (block_cell (hI.c.blk 8 _ rfl (by decide)) 0) ?_ (fun w3 h3 => block_cell (h3.c.blk 9 _ rfl (by decide)) 0)
  refine (l3_any hw hW hH (by omega) (by omega)).mono ?_
  rintro e w2 ⟨rfl, hb⟩
  exact ⟨rfl, hI.c.below hb, fun _ => block_below (hI.z (by omega)) hb (block_lt (hI.z (by omega))), fun h => absurd h (by omega)⟩
 ·obtain ⟨n, rfl, hn1, hn2⟩ := hin (by omega)
  have h8 := hok.pl.k8
  refine unless1_any 67 #[] #[.pointer (some ⟨w.heap.size + 0, 0, none⟩), .pointer (some ⟨w.heap.size + 1, 0, none⟩)] ent_l4 (w.heap.size + 10) (w.heap.size + (10 + 1)) 18 (!(y.behind n)) (fun w3 => LockI w wb y n now 4 w3) w' (block_cell (hI.c.blk 10 _ rfl (by decide)) 0) ?_ (fun w3 h3 => block_cell (h3.c.blk 11 _ rfl (by decide)) 0)
  refine (l4_any hw hW hH (by omega) (by omega)).mono ?_
  rintro e w2 ⟨rfl, rfl⟩
  exact ⟨rfl, hI.c, fun _ => hI.z (by omega), fun h => absurd h (by omega)⟩
 ·obtain ⟨n, rfl, hn1, hn2⟩ := hin (by omega)
  have hln := h.pl.at_.n.ilen; have hlf := h.pl.at_.f.ilen; have l1 := hok.pl.ln; have l2 := hok.pl.lf
  refine unless1_any 69 #[] #[.pointer (some ⟨w.heap.size + 2, 0, none⟩), .pointer (some ⟨w.heap.size + 0, 0, none⟩), .pointer (some ⟨w.heap.size + 1, 0, none⟩)] ent_l5 (w.heap.size + 12) (w.heap.size + (12 + 1)) 19 (decide (now ≤ y.pl.nr.getD n 0 ∧ now ≤ y.pl.fr.getD n 0)) (fun w3 => LockI w wb y n now 5 w3) w' (block_cell (hI.c.blk 12 _ rfl (by decide)) 0) ?_ (fun w3 h3 => block_cell (h3.c.blk 13 _ rfl (by decide)) 0)
  refine (l5_any hw hW hN n hH (by omega) (by omega)).mono ?_
  rintro e w2 ⟨rfl, hb⟩
  exact ⟨rfl, hI.c.below hb, fun _ => block_below (hI.z (by omega)) hb (block_lt (hI.z (by omega))), fun h => absurd h (by omega)⟩
 ·obtain ⟨n, rfl, hn1, hn2⟩ := hin (by omega)
  have hpl := h.plen
  have hz := hI.z (by omega)
  have hs := hI.c.z
  simp only [lockObjs, List.length_cons, List.length_nil] at hs
  refine (l6_any h hok.pl n hn1 (by omega) _ rfl hI.c.b hW hH hz (by omega) (by omega) (by omega) (by omega) (by omega)).mono ?_
  rintro e w2 ⟨x, hx, rfl, ho, hc2, hg⟩
  exact ⟨rfl, hI.c.grown hg, fun h => absurd h (by omega), fun _ => ⟨x, hx, ho.weak hI.c.b.size, hc2⟩⟩
 ·obtain ⟨n, rfl, hn1, hn2⟩ := hin (by omega)
  obtain ⟨x, hx, hxo, hxc⟩ := hI.x (by omega)
  refine (l7_any h hok.pl n hn1 x hI.c.b hW hH hxc hxo).mono ?_
  rw [if_pos rfl] at hx
  rw [hx]
  rintro e w2 ⟨x2, hx2, rfl, ho, hc2, hg⟩
  exact ⟨rfl, hI.c.grown hg, fun h => absurd h (by omega), fun _ => ⟨x2, hx2, ho.weak hI.c.b.size, hc2⟩⟩
end
theorem unless_at (f : FuncId) (pre caps : Array Value) (er : Int) (w : World) (n : Nat) (hn : w.heap.size = n) :
  Calls Tryz.prog 63 #[.func (.func f) pre caps, .int .i64 er] w fun e w' => e = .returned (.func (.func 131) #[] #[.pointer (some ⟨n, 0, none⟩), .pointer (some ⟨n + 1, 0, none⟩)]) ∧ w' = (w.alloc (.cells #[.func (.func f) pre caps] 37)).alloc (.cells #[.int .i64 er] 33) := by
 subst hn; exact unless_exact f pre caps er w
section
variable {w : World} {B wb bk : Nat} {y : Wy} {a : WyA}
set_option maxRecDepth 100000 in
set_option maxHeartbeats 4000000 in
theorem lock_any (h : WyAt w B wb bk y a) (hok : y.Ok) (hop now : Int) : Calls Tryz.prog 22 #[.pointer (some ⟨wb, 0, none⟩), .int .i64 hop, .int .i64 now] w fun e w' =>
  e = .returned (.int .i64 (y.lockI hop now).1) ∧ ∃ a', WyAt w' B wb bk (y.lock hop now).2 a' ∧ a.sameF a' ∧ WChg a.F w w' := by
 have H := Lib.hid h; have HOk := Lib.hid hok
 clear h hok
 go_enter Tryz.func22, Tryz.ntmps22
 go_upto_region 4 with fail
 refine wp_region_list ?_
 refine wpList_value (.func (.func 64) #[] #[.pointer (some ⟨w.heap.size + 0, 0, none⟩), .pointer (some ⟨w.heap.size + 1, 0, none⟩)]) (by kernel_rfl) (by kernel_rfl) ?_
 simp only [Act.put, sT]
 refine wpList_plain (by rfl) (fun K hK => ?_)
 go_simp
 go_at_call 63
 refine (unless_at 64 #[] #[.pointer (some ⟨w.heap.size + 0, 0, none⟩), .pointer (some ⟨w.heap.size + 1, 0, none⟩)] 9 _ (w.heap.size + 4) (by simp)).mono ?_
 rintro e w1 ⟨rfl, rfl⟩
 refine hK _ _ ?_
 clear hK K
 try simp only [Act.put, sT]
 refine wpList_value (.func (.func 65) #[] #[.pointer (some ⟨w.heap.size + 2, 0, none⟩)]) (by kernel_rfl) (by kernel_rfl) ?_
 simp only [Act.put, sT]
 refine wpList_plain (by rfl) (fun K hK => ?_)
 go_simp
 go_at_call 63
 refine (unless_at 65 #[] #[.pointer (some ⟨w.heap.size + 2, 0, none⟩)] 2 _ (w.heap.size + 6) (by simp)).mono ?_
 rintro e w1 ⟨rfl, rfl⟩
 refine hK _ _ ?_
 clear hK K
 try simp only [Act.put, sT]
 refine wpList_value (.func (.func 66) #[] #[.pointer (some ⟨w.heap.size + 0, 0, none⟩), .pointer (some ⟨w.heap.size + 1, 0, none⟩)]) (by kernel_rfl) (by kernel_rfl) ?_
 simp only [Act.put, sT]
 refine wpList_plain (by rfl) (fun K hK => ?_)
 go_simp
 go_at_call 63
 refine (unless_at 66 #[] #[.pointer (some ⟨w.heap.size + 0, 0, none⟩), .pointer (some ⟨w.heap.size + 1, 0, none⟩)] 10 _ (w.heap.size + 8) (by simp)).mono ?_
 rintro e w1 ⟨rfl, rfl⟩
 refine hK _ _ ?_
 clear hK K
 try simp only [Act.put, sT]
 refine wpList_value (.func (.func 67) #[] #[.pointer (some ⟨w.heap.size + 0, 0, none⟩), .pointer (some ⟨w.heap.size + 1, 0, none⟩)]) (by kernel_rfl) (by kernel_rfl) ?_
 simp only [Act.put, sT]
 refine wpList_plain (by rfl) (fun K hK => ?_)
 go_simp
 go_at_call 63
 refine (unless_at 67 #[] #[.pointer (some ⟨w.heap.size + 0, 0, none⟩), .pointer (some ⟨w.heap.size + 1, 0, none⟩)] 18 _ (w.heap.size + 10) (by simp)).mono ?_
 rintro e w1 ⟨rfl, rfl⟩
 refine hK _ _ ?_
 clear hK K
 try simp only [Act.put, sT]
 refine wpList_value (.func (.func 69) #[] #[.pointer (some ⟨w.heap.size + 2, 0, none⟩), .pointer (some ⟨w.heap.size + 0, 0, none⟩), .pointer (some ⟨w.heap.size + 1, 0, none⟩)]) (by kernel_rfl) (by kernel_rfl) ?_
 simp only [Act.put, sT]
 refine wpList_plain (by rfl) (fun K hK => ?_)
 go_simp
 go_at_call 63
 refine (unless_at 69 #[] #[.pointer (some ⟨w.heap.size + 2, 0, none⟩), .pointer (some ⟨w.heap.size + 0, 0, none⟩), .pointer (some ⟨w.heap.size + 1, 0, none⟩)] 19 _ (w.heap.size + 12) (by simp)).mono ?_
 rintro e w1 ⟨rfl, rfl⟩
 refine hK _ _ ?_
 clear hK K
 try simp only [Act.put, sT]
 refine wpList_value (.func (.func 70) #[] #[.pointer (some ⟨w.heap.size + 0, 0, none⟩), .pointer (some ⟨w.heap.size + 1, 0, none⟩), .pointer (some ⟨w.heap.size + 3, 0, none⟩)]) (by kernel_rfl) (by kernel_rfl) ?_
 simp only [Act.put, sT]
 refine wpList_value (.func (.func 72) #[] #[.pointer (some ⟨w.heap.size + 0, 0, none⟩), .pointer (some ⟨w.heap.size + 3, 0, none⟩), .pointer (some ⟨w.heap.size + 1, 0, none⟩)]) (by kernel_rfl) (by kernel_rfl) ?_
 simp only [Act.put, sT]
 refine Go.Great.wpList_buildSliceTo (by rfl) 182 43 7 _ (by rfl) (w.heap.size + 14) (by simp) _ (by rfl) Tryz.underlying182 #[.func (.func 131) #[] #[.pointer (some ⟨w.heap.size + 4, 0, none⟩), .pointer (some ⟨w.heap.size + 4 + 1, 0, none⟩)], .func (.func 131) #[] #[.pointer (some ⟨w.heap.size + 6, 0, none⟩), .pointer (some ⟨w.heap.size + 6 + 1, 0, none⟩)], .func (.func 131) #[] #[.pointer (some ⟨w.heap.size + 8, 0, none⟩), .pointer (some ⟨w.heap.size + 8 + 1, 0, none⟩)], .func (.func 131) #[] #[.pointer (some ⟨w.heap.size + 10, 0, none⟩), .pointer (some ⟨w.heap.size + 10 + 1, 0, none⟩)], .func (.func 131) #[] #[.pointer (some ⟨w.heap.size + 12, 0, none⟩), .pointer (some ⟨w.heap.size + 12 + 1, 0, none⟩)], .func (.func 70) #[] #[.pointer (some ⟨w.heap.size + 0, 0, none⟩), .pointer (some ⟨w.heap.size + 1, 0, none⟩), .pointer (some ⟨w.heap.size + 3, 0, none⟩)], .func (.func 72) #[] #[.pointer (some ⟨w.heap.size + 0, 0, none⟩), .pointer (some ⟨w.heap.size + 3, 0, none⟩), .pointer (some ⟨w.heap.size + 1, 0, none⟩)]] (by kernel_rfl) ?_
 simp only [Act.put, sT]
 have HI : Hid (LockI w wb y hop now 0 (allocs w (lockObjs w wb hop now))) := Lib.hid ⟨ClI.start _ _ _, fun _ => allocs_at _ _ 3 _ rfl, fun h => absurd h (by omega)⟩
 change wpList _ _ _ _ _ (allocs w (lockObjs w wb hop now))
 generalize allocs w (lockObjs w wb hop now) = w0 at *
 refine wpList_plain (by rfl) (fun K hK => ?_)
 go_simp
 go_at_call 62
 refine (first_any 7 (by omega) (lockFs w) (w.heap.size + 14) 0 (LockI w wb y hop now) (fun k => (y.lockL hop now).getD k 0) w0 HI.out ?_ ?_ (fun k hk hc w' hI => lock_calls H.out HOk.out hop now k hk hc w' hI)).mono ?_
 ·intro k w' hk hI
  have h14 := hI.c.blk 14 _ rfl (by decide)
  obtain rfl | rfl | rfl | rfl | rfl | rfl | rfl : k = 0 ∨ k = 1 ∨ k = 2 ∨ k = 3 ∨ k = 4 ∨ k = 5 ∨ k = 6 := by omega
  all_goals exact block_cell h14 _
 ·intro k hk
  obtain rfl | rfl | rfl | rfl | rfl | rfl | rfl : k = 0 ∨ k = 1 ∨ k = 2 ∨ k = 3 ∨ k = 4 ∨ k = 5 ∨ k = 6 := by omega
  ·exact ent_un1
  ·exact ent_un1
  ·exact ent_un1
  ·exact ent_un1
  ·exact ent_un1
  ·exact ent_l6
  ·exact ent_l7
 rintro e w1 (⟨rfl, hall, hI⟩ | ⟨k, hk, hc, hn, rfl, hI⟩)
 ·have hr : (y.lockI hop now).1 = 0 := by rw [y.lockI_first]; exact firstE_all hall
  have h1 : y.lockI hop now = y.hold1 hop := Wy.lockI_yes hr
  have hl : (y.lock hop now).2 = { y with pu := y.pu.set hop.toNat (y.hold1 hop).2, at_ := alSet (alSet y.at_ (hop, 0) 1) (hop, 1) 1 } := by unfold Wy.lock; rw [if_pos hr, h1]
  have hhop : y.isHop hop = true := by
   have := hall 0 (by omega)
   cases hq : y.isHop hop with
   | true => rfl
   | false => rw [show (y.lockL hop now).getD 0 0 = if y.isHop hop = true then 0 else 9 from rfl, hq] at this; simp at this
  obtain ⟨n, rfl, hn1, hn2⟩ := hop_in HOk.out hhop
  obtain ⟨x, hx, hxo, hxc⟩ := hI.x (by omega)
  rw [if_neg (by omega)] at hx
  rw [← hx] at hl
  have hW : w1.cell? ⟨w.heap.size, 0, none⟩ = some (.pointer (some ⟨wb, 0, none⟩)) := block_cell (hI.c.blk 0 _ rfl (by decide)) 0
  have hH : w1.cell? ⟨w.heap.size + 1, 0, none⟩ = some (.int .i64 n) := block_cell (hI.c.blk 1 _ rfl (by decide)) 0
  have hb := hI.c.b
  have HR := Lib.hid hr; have HL := Lib.hid hl; have HB := Lib.hid hb; have HXO := Lib.hid hxo; have HXC := Lib.hid hxc; have HC := Lib.hid hI.c
  have h8 := HOk.out.pl.k8
  have hpl := H.out.plen
  clear HI hall hI hr h1 hl hhop hb hxo hxc hx
  refine hK _ _ ?_
  clear hK K
  go_upto_region 7 with fail
  have hnl : n < a.l.length := by omega
  have hli : (n : Int) < (a.l.length : Int) := by omega
  have h1 : WyAt w1.drew B wb bk y a := H.out.below HB.out.drew
  obtain ⟨g, hA, hBg, hg1, _⟩ := h1.prange hnl
  have hxb : x.Own B w1.drew := ⟨own_weak HXO.out.h.drew (Nat.le_trans hBg (Nat.le_of_lt (by
   obtain ⟨g', hA', _, hg', _⟩ := H.out.prange hnl
   rw [hA] at hA'; injection hA' with hA'; injection hA' with hA'; subst hA'; exact hg'))), HXO.out.s⟩
  have hgw : g < w.heap.size := by
   obtain ⟨g', hA', _, hg', _⟩ := H.out.prange hnl
   rw [hA] at hA'; injection hA' with hA'; injection hA' with hA'; subst hA'; exact hg'
  obtain ⟨hth, hgr, h2⟩ := h1.setp hA hnl x hxb
  have hwb := block_lt H.out.box
  have hgb : g ≠ wb := fun e => by
   obtain ⟨_, cs, e2⟩ := own_block h1.pu (g := g) (by rw [hA]; rfl)
   have e3 := h1.box
   rw [e, e3] at e2; injection e2 with e2; injection e2 with _ e2; exact absurd e2 (by decide)
  have c14 : w1.drew.cell? ⟨wb, 14, none⟩ = some (.slice a.Ap a.l.length a.cp) := h1.c.2.1
  rw [hA] at c14
  have hHs := HC.out.z
  simp only [lockObjs, List.length_cons, List.length_nil] at hHs
  have HTH := Lib.hid hth; have HGR := Lib.hid hgr; have H2 := Lib.hid h2
  clear h1 hth hgr h2 hxb
  refine wp_region_held_drew (S := fun w' => w'.cell? ⟨w.heap.size, 0, none⟩ = some (.pointer (some ⟨wb, 0, none⟩)) ∧ w'.cell? ⟨w.heap.size + 1, 0, none⟩ = some (.int .i64 n) ∧ w'.cell? ⟨wb, 14, none⟩ = some (.slice (some ⟨g, 0, none⟩) a.l.length a.cp) ∧ w'.rangeAt (w.heap.size + 3) 0 x.cells) (by kernel_rfl) ⟨hW, hH, c14, range_front HXC.out 12 rfl⟩ (fun hHeld => ?_)
  have q1 : ∀ w' : World, (w'.cell? ⟨w.heap.size, 0, none⟩ = some (.pointer (some ⟨wb, 0, none⟩)) ∧ w'.cell? ⟨w.heap.size + 1, 0, none⟩ = some (.int .i64 n) ∧ w'.cell? ⟨wb, 14, none⟩ = some (.slice (some ⟨g, 0, none⟩) a.l.length a.cp) ∧ w'.rangeAt (w.heap.size + 3) 0 x.cells) → w'.cell? ⟨w.heap.size, 0, none⟩ = some (.pointer (some ⟨wb, 0, none⟩)) := fun _ h => h.1
  have q2 : ∀ w' : World, (w'.cell? ⟨w.heap.size, 0, none⟩ = some (.pointer (some ⟨wb, 0, none⟩)) ∧ w'.cell? ⟨w.heap.size + 1, 0, none⟩ = some (.int .i64 n) ∧ w'.cell? ⟨wb, 14, none⟩ = some (.slice (some ⟨g, 0, none⟩) a.l.length a.cp) ∧ w'.rangeAt (w.heap.size + 3) 0 x.cells) → w'.cell? ⟨w.heap.size + 1, 0, none⟩ = some (.int .i64 n) := fun _ h => h.2.1
  have q3 : ∀ w' : World, (w'.cell? ⟨w.heap.size, 0, none⟩ = some (.pointer (some ⟨wb, 0, none⟩)) ∧ w'.cell? ⟨w.heap.size + 1, 0, none⟩ = some (.int .i64 n) ∧ w'.cell? ⟨wb, 14, none⟩ = some (.slice (some ⟨g, 0, none⟩) a.l.length a.cp) ∧ w'.rangeAt (w.heap.size + 3) 0 x.cells) → w'.cell? ⟨wb, 14, none⟩ = some (.slice (some ⟨g, 0, none⟩) a.l.length a.cp) := fun _ h => h.2.2.1
  refine takP 0 28 ?_ rfl (by kernel_rfl) (fun _ _ _ => id) ?hy (by assumption) ?_
  case hy => intro w' h; have hx := q1 w' h; clear h; go_simp; try with_reducible rfl
  simp only [Act.put, sT]
  refine takP 1 29 ?_ rfl (by kernel_rfl) (fun _ _ _ => id) ?hy (by assumption) ?_
  case hy => intro w' h; clear h; go_simp; try with_reducible rfl
  simp only [Act.put, sT]
  refine takP 2 30 ?_ rfl (by kernel_rfl) (fun _ _ _ => id) ?hy (by assumption) ?_
  case hy => intro w' h; clear h; go_simp; try with_reducible rfl
  simp only [Act.put, sT]
  refine takP 3 31 ?_ rfl (by kernel_rfl) (fun _ _ _ => id) ?hy (by assumption) ?_
  case hy => intro w' h; have hx := q3 w' h; clear h; go_simp; try with_reducible rfl
  simp only [Act.put, sT]
  refine takP 4 32 ?_ rfl (by kernel_rfl) (fun _ _ _ => id) ?hy (by assumption) ?_
  case hy => intro w' h; have hx := q2 w' h; clear h; go_simp; try with_reducible rfl
  simp only [Act.put, sT]
  refine takeK 5 (some 33) (v := .agg ([.int .u8 x.p.nm.x0, .int .u8 x.p.nm.x1, .int .u8 x.p.nm.x2, .int .u8 x.p.nm.x3, .int .u8 x.p.nm.x4, .int .u8 x.p.nm.x5, .int .u8 x.p.nm.x6, .int .u8 x.p.nm.x7, .int .i64 x.p.no, .int .i64 x.p.h0, .int .i64 x.p.h1, .slice x.A x.n x.c] : List Value).toArray) rfl (by kernel_rfl) (by kernel_rfl) (fun _ _ _ => id) (yieldsIf_load_mid (by kernel_rfl) 85 _ (by rfl) (w.heap.size + 1 + 1 + 1) (0) (by rfl) [.int .u8 x.p.nm.x0, .int .u8 x.p.nm.x1, .int .u8 x.p.nm.x2, .int .u8 x.p.nm.x3, .int .u8 x.p.nm.x4, .int .u8 x.p.nm.x5, .int .u8 x.p.nm.x6, .int .u8 x.p.nm.x7, .int .i64 x.p.no, .int .i64 x.p.h0, .int .i64 x.p.h1, .slice x.A x.n x.c] _ (fun w' hw' => hw'.2.2.2) Tryz.underlying85 rfl (by kernel_rfl)) (by assumption) ?_
  simp only [Act.put, sT]
  refine takP 6 34 ?_ rfl (by kernel_rfl) (fun _ _ _ => id) ?hy (by assumption) ?_
  case hy => intro w' h; clear h; go_simp; try with_reducible rfl
  simp only [Act.put, sT]
  refine wpAnyH_ready (rs := [7]) (by kernel_rfl) (by simp) ?_
  refine AllReadyH.cons rfl (fun K hK => ?_) AllReadyH.nil
  rw [if_pos (by kernel_rfl)]
  try simp only [List.getElem_toArray, List.getElem_cons_zero, List.getElem_cons_succ]
  refine wp_store_mid 85 _ _ (by rfl) (g) (n * 12) #[.int .u8 x.p.nm.x0, .int .u8 x.p.nm.x1, .int .u8 x.p.nm.x2, .int .u8 x.p.nm.x3, .int .u8 x.p.nm.x4, .int .u8 x.p.nm.x5, .int .u8 x.p.nm.x6, .int .u8 x.p.nm.x7, .int .i64 x.p.no, .int .i64 x.p.h0, .int .i64 x.p.h1, .slice x.A x.n x.c] (by rfl) (by rfl) HTH.out (by kernel_rfl) (by kernel_rfl) ?_
  have HSq : Hid ((w1.drew.setCells g (n * 12) x.cells).cell? ⟨w.heap.size, 0, none⟩ = some (.pointer (some ⟨wb, 0, none⟩)) ∧ (w1.drew.setCells g (n * 12) x.cells).cell? ⟨w.heap.size + 1, 0, none⟩ = some (.int .i64 n) ∧ (w1.drew.setCells g (n * 12) x.cells).cell? ⟨wb, 14, none⟩ = some (.slice (some ⟨g, 0, none⟩) a.l.length a.cp) ∧ (w1.drew.setCells g (n * 12) x.cells).rangeAt (w.heap.size + 3) 0 x.cells) :=
   Lib.hid ⟨HGR.out.cell (by exact hW) (by simp; omega), HGR.out.cell (by exact hH) (by simp; omega), HGR.out.cell c14 (by simpa using hgb.symm), range_grown (range_front (show w1.drew.heap[_]? = _ from HXC.out) 12 rfl) HGR.out (show w.heap.size + 3 < w1.heap.size by omega) (by simp; omega)⟩
  refine hK.out _ _ HSq.out (fun _ => ?_)
  clear hK K
  simp only [Act.put]
  refine wpAnyH_done (by kernel_rfl) ?_ _
  have HW2 := Lib.hid HSq.out.1; have HH2 := Lib.hid HSq.out.2.1
  have HG2 : Hid (w1.grownBy (w1.drew.setCells g (n * 12) x.cells) (some g)) := Lib.hid (grown_below (Below.refl w1.heap.size w1).drew HGR.out)
  clear HSq hHeld q1 q2 q3 c14 HTH HGR
  go_upto_region 8 with fail
  change Code.wp _ _ _ _ (w1.drew.setCells g (n * 12) x.cells)
  generalize w1.drew.setCells g (n * 12) x.cells = w2 at *
  have habw := H.out.at_.lt
  have hab : a.ab ≠ wb := fun e => by
   obtain ⟨_, _, e2, _⟩ := H.out.at_
   rw [e, H.out.box] at e2; cases e2
  have h1 := H2.out.below (Below.refl (w2).heap.size w2).drew
  obtain ⟨w3, hrun, hg, h2⟩ := h1.setat (s := ((n : Int), 0)) ⟨⟨by show (0 : Int) ≤ (n : Int); omega, by show (n : Int) ≤ 100; omega⟩, by show (0 : Int) ≤ 0; omega, by show 0 ≤ (100 : Int); omega⟩ 1
  have c15 : (w2).drew.cell? ⟨wb, 15, none⟩ = some (.map (some a.ab)) := h1.c.2.2.1
  have hrun2 : (Instr.mapUpdate 114 (.map (some a.ab)) (.agg #[.int .i64 n, .int .i64 0]) (.int .i64 1)).run Tryz.prog (w2).drew = .ok () w3 := hrun
  have hSn : w3.cell? ⟨w.heap.size, 0, none⟩ = some (.pointer (some ⟨wb, 0, none⟩)) ∧ w3.cell? ⟨w.heap.size + 1, 0, none⟩ = some (.int .i64 n) ∧ w3.cell? ⟨wb, 15, none⟩ = some (.map (some a.ab)) := ⟨hg.cell (by exact HW2.out) (by simp; omega), hg.cell (by exact HH2.out) (by simp; omega), hg.cell c15 (by simpa using hab.symm)⟩
  have HG3 : Hid ((w2).grownBy w3 (some a.ab)) := Lib.hid (grown_below (Below.refl (w2).heap.size w2).drew hg)
  have H3 := Lib.hid h2; have HRun := Lib.hid hrun2; have HSn := Lib.hid hSn
  have HW3 := Lib.hid hSn.1; have HH3 := Lib.hid hSn.2.1
  clear h1 h2 hrun hrun2 hg hSn
  refine wp_region_held_drew (S := fun w' => w'.cell? ⟨w.heap.size, 0, none⟩ = some (.pointer (some ⟨wb, 0, none⟩)) ∧ w'.cell? ⟨w.heap.size + 1, 0, none⟩ = some (.int .i64 n) ∧ w'.cell? ⟨wb, 15, none⟩ = some (.map (some a.ab))) (by kernel_rfl) ⟨HW2.out, HH2.out, c15⟩ (fun hHeld => ?_)
  have q1 : ∀ w' : World, (w'.cell? ⟨w.heap.size, 0, none⟩ = some (.pointer (some ⟨wb, 0, none⟩)) ∧ w'.cell? ⟨w.heap.size + 1, 0, none⟩ = some (.int .i64 n) ∧ w'.cell? ⟨wb, 15, none⟩ = some (.map (some a.ab))) → w'.cell? ⟨w.heap.size, 0, none⟩ = some (.pointer (some ⟨wb, 0, none⟩)) := fun _ h => h.1
  have q2 : ∀ w' : World, (w'.cell? ⟨w.heap.size, 0, none⟩ = some (.pointer (some ⟨wb, 0, none⟩)) ∧ w'.cell? ⟨w.heap.size + 1, 0, none⟩ = some (.int .i64 n) ∧ w'.cell? ⟨wb, 15, none⟩ = some (.map (some a.ab))) → w'.cell? ⟨w.heap.size + 1, 0, none⟩ = some (.int .i64 n) := fun _ h => h.2.1
  have q3 : ∀ w' : World, (w'.cell? ⟨w.heap.size, 0, none⟩ = some (.pointer (some ⟨wb, 0, none⟩)) ∧ w'.cell? ⟨w.heap.size + 1, 0, none⟩ = some (.int .i64 n) ∧ w'.cell? ⟨wb, 15, none⟩ = some (.map (some a.ab))) → w'.cell? ⟨wb, 15, none⟩ = some (.map (some a.ab)) := fun _ h => h.2.2
  clear c15
  refine takP 0 35 ?_ rfl (by kernel_rfl) (fun _ _ _ => id) ?hy (by assumption) ?_
  case hy => intro w' h; have hx := q1 w' h; clear h; go_simp; try with_reducible rfl
  simp only [Act.put, sT]
  refine takP 1 36 ?_ rfl (by kernel_rfl) (fun _ _ _ => id) ?hy (by assumption) ?_
  case hy => intro w' h; clear h; go_simp; try with_reducible rfl
  simp only [Act.put, sT]
  refine takP 2 37 ?_ rfl (by kernel_rfl) (fun _ _ _ => id) ?hy (by assumption) ?_
  case hy => intro w' h; clear h; go_simp; try with_reducible rfl
  simp only [Act.put, sT]
  refine takP 3 38 ?_ rfl (by kernel_rfl) (fun _ _ _ => id) ?hy (by assumption) ?_
  case hy => intro w' h; have hx := q3 w' h; clear h; go_simp; try with_reducible rfl
  simp only [Act.put, sT]
  refine takP 4 39 ?_ rfl (by kernel_rfl) (fun _ _ _ => id) ?hy (by assumption) ?_
  case hy => intro w' h; have hx := q2 w' h; clear h; go_simp; try with_reducible rfl
  simp only [Act.put, sT]
  refine takP 5 40 ?_ rfl (by kernel_rfl) (fun _ _ _ => id) ?hy (by assumption) ?_
  case hy => intro w' h; clear h; go_simp; try with_reducible rfl
  simp only [Act.put, sT]
  have hrun2 := HRun.out
  refine wpAnyH_ready (rs := [6]) (by kernel_rfl) (by simp) ?_
  refine AllReadyH.cons rfl (fun K hK => ?_) AllReadyH.nil
  rw [if_pos (by kernel_rfl)]
  try simp only [List.getElem_toArray, List.getElem_cons_zero, List.getElem_cons_succ]
  go_simp
  refine hK.out _ _ HSn.out (fun _ => ?_)
  clear hK K hrun2 HRun
  try simp only [Act.put]
  refine wpAnyH_done (by kernel_rfl) ?_ _
  clear hHeld q1 q2 q3 HSn
  go_upto_region 9 with fail
  have h1 := H3.out.below (Below.refl (w3).heap.size w3).drew
  obtain ⟨w4, hrun, hg, h2⟩ := h1.setat (s := ((n : Int), 1)) ⟨⟨by show (0 : Int) ≤ (n : Int); omega, by show (n : Int) ≤ 100; omega⟩, by show (0 : Int) ≤ 1; omega, by show 1 ≤ (100 : Int); omega⟩ 1
  have c15 : (w3).drew.cell? ⟨wb, 15, none⟩ = some (.map (some a.ab)) := h1.c.2.2.1
  have hrun2 : (Instr.mapUpdate 114 (.map (some a.ab)) (.agg #[.int .i64 n, .int .i64 1]) (.int .i64 1)).run Tryz.prog (w3).drew = .ok () w4 := hrun
  have hSn : w4.cell? ⟨w.heap.size, 0, none⟩ = some (.pointer (some ⟨wb, 0, none⟩)) ∧ w4.cell? ⟨w.heap.size + 1, 0, none⟩ = some (.int .i64 n) ∧ w4.cell? ⟨wb, 15, none⟩ = some (.map (some a.ab)) := ⟨hg.cell (by exact HW3.out) (by simp; omega), hg.cell (by exact HH3.out) (by simp; omega), hg.cell c15 (by simpa using hab.symm)⟩
  have HG4 : Hid ((w3).grownBy w4 (some a.ab)) := Lib.hid (grown_below (Below.refl (w3).heap.size w3).drew hg)
  have H4 := Lib.hid h2; have HRun := Lib.hid hrun2; have HSn := Lib.hid hSn
  have HW4 := Lib.hid hSn.1; have HH4 := Lib.hid hSn.2.1
  clear h1 h2 hrun hrun2 hg hSn
  refine wp_region_held_drew (S := fun w' => w'.cell? ⟨w.heap.size, 0, none⟩ = some (.pointer (some ⟨wb, 0, none⟩)) ∧ w'.cell? ⟨w.heap.size + 1, 0, none⟩ = some (.int .i64 n) ∧ w'.cell? ⟨wb, 15, none⟩ = some (.map (some a.ab))) (by kernel_rfl) ⟨HW3.out, HH3.out, c15⟩ (fun hHeld => ?_)
  have q1 : ∀ w' : World, (w'.cell? ⟨w.heap.size, 0, none⟩ = some (.pointer (some ⟨wb, 0, none⟩)) ∧ w'.cell? ⟨w.heap.size + 1, 0, none⟩ = some (.int .i64 n) ∧ w'.cell? ⟨wb, 15, none⟩ = some (.map (some a.ab))) → w'.cell? ⟨w.heap.size, 0, none⟩ = some (.pointer (some ⟨wb, 0, none⟩)) := fun _ h => h.1
  have q2 : ∀ w' : World, (w'.cell? ⟨w.heap.size, 0, none⟩ = some (.pointer (some ⟨wb, 0, none⟩)) ∧ w'.cell? ⟨w.heap.size + 1, 0, none⟩ = some (.int .i64 n) ∧ w'.cell? ⟨wb, 15, none⟩ = some (.map (some a.ab))) → w'.cell? ⟨w.heap.size + 1, 0, none⟩ = some (.int .i64 n) := fun _ h => h.2.1
  have q3 : ∀ w' : World, (w'.cell? ⟨w.heap.size, 0, none⟩ = some (.pointer (some ⟨wb, 0, none⟩)) ∧ w'.cell? ⟨w.heap.size + 1, 0, none⟩ = some (.int .i64 n) ∧ w'.cell? ⟨wb, 15, none⟩ = some (.map (some a.ab))) → w'.cell? ⟨wb, 15, none⟩ = some (.map (some a.ab)) := fun _ h => h.2.2
  clear c15
  refine takP 0 41 ?_ rfl (by kernel_rfl) (fun _ _ _ => id) ?hy (by assumption) ?_
  case hy => intro w' h; have hx := q1 w' h; clear h; go_simp; try with_reducible rfl
  simp only [Act.put, sT]
  refine takP 1 42 ?_ rfl (by kernel_rfl) (fun _ _ _ => id) ?hy (by assumption) ?_
  case hy => intro w' h; clear h; go_simp; try with_reducible rfl
  simp only [Act.put, sT]
  refine takP 2 43 ?_ rfl (by kernel_rfl) (fun _ _ _ => id) ?hy (by assumption) ?_
  case hy => intro w' h; clear h; go_simp; try with_reducible rfl
  simp only [Act.put, sT]
  refine takP 3 44 ?_ rfl (by kernel_rfl) (fun _ _ _ => id) ?hy (by assumption) ?_
  case hy => intro w' h; have hx := q3 w' h; clear h; go_simp; try with_reducible rfl
  simp only [Act.put, sT]
  refine takP 4 45 ?_ rfl (by kernel_rfl) (fun _ _ _ => id) ?hy (by assumption) ?_
  case hy => intro w' h; have hx := q2 w' h; clear h; go_simp; try with_reducible rfl
  simp only [Act.put, sT]
  refine takP 5 46 ?_ rfl (by kernel_rfl) (fun _ _ _ => id) ?hy (by assumption) ?_
  case hy => intro w' h; clear h; go_simp; try with_reducible rfl
  simp only [Act.put, sT]
  have hrun2 := HRun.out
  refine wpAnyH_ready (rs := [6]) (by kernel_rfl) (by simp) ?_
  refine AllReadyH.cons rfl (fun K hK => ?_) AllReadyH.nil
  rw [if_pos (by kernel_rfl)]
  try simp only [List.getElem_toArray, List.getElem_cons_zero, List.getElem_cons_succ]
  go_simp
  refine hK.out _ _ HSn.out (fun _ => ?_)
  clear hK K hrun2 HRun
  try simp only [Act.put]
  refine wpAnyH_done (by kernel_rfl) ?_ _
  clear hHeld q1 q2 q3 HSn
  go_wp2
  go_ret
  rw [HR.out, HL.out]
  refine ⟨rfl, { a with l := a.l.set n x }, H4.out, ⟨rfl, rfl, rfl, rfl, by simp⟩, ?_⟩
  have hFg : a.F g := .inr (.inr (.inl (by rw [hA]; rfl)))
  exact (((WChg.of_below HB.out).trans (WChg.of_grown HG2.out hFg)).trans (WChg.of_grown HG3.out (.inl rfl))).trans (WChg.of_grown HG4.out (.inl rfl))
 ·have hr : (y.lockI hop now).1 = (y.lockL hop now).getD k 0 := by rw [y.lockI_first, firstE_no (by simpa [Wy.lockL] using hk) hc hn]
  have hl : (y.lock hop now).2 = y := by unfold Wy.lock; rw [if_neg (by rw [hr]; exact hn)]
  have hb := hI.c.b
  clear HI hc hk hI
  generalize (y.lockL hop now).getD k 0 = v at *
  have HR := Lib.hid hr; have HL := Lib.hid hl; have HB := Lib.hid hb
  have b1 : (v != 0) = true := by simpa using hn
  clear hr hl hn hb
  refine hK _ _ ?_
  clear hK K
  go_wp2
  go_ret
  rw [HR.out, HL.out]
  exact ⟨rfl, a, H.out.below HB.out, WyA.sameF.refl a, WChg.of_below HB.out⟩
end
end Go.Proofs.YthhiookcknnmdaaGreat
