/- What a way is in memory. Nothing of the program stands in it but its tables, so there is no condition. The walk of New, of a way that may be. Conditions: bounds; the plan and the purses may be. The walks of a way's small questions, and of the closures that ask them. Conditions: the way lies in memory. The walks of the closures by which Lock asks. Conditions: the way and the boxes lie in memory. The walks of hold, and of the closures of Lock that hold. Conditions: the way and the boxes lie in memory; the plan may be. -/
import Derived.Test.YthhiookcknnmdaaGreatJoinUad
import Derived.Test.YthhiookcknnmdaaGreatPuC
import Derived.Test.YthhiookcknnmdaaGreatPuB
import Derived.Test.YthhiookcknnmdaaGreatPuO
import Derived.Test.YthhiookcknnmdaaGreatJoinPK
namespace Go.Proofs.YthhiookcknnmdaaGreat
open Go.RowKit Go.Lib
theorem lits_i64 (d : Nat) (n : Int) (h : 0 ≤ n ∧ n ≤ 100) : Tryz.prog.keyLits (d + 1) 3 [.int .i64 n] = some [.int .i64 n] := by
 have hw : (Lit.int .i64 n).wf = true := by
  simp [Lit.wf, show IntKind.i64.min = -9223372036854775808 from rfl, show IntKind.i64.max = 9223372036854775807 from rfl]; omega
 unfold Program.keyLits
 simp only [Tryz.underlying3]
 simp [hw]
theorem cells_int : Tryz.prog.cellsOf 3 = 1 := by kernel_rfl
theorem cells_sp : Tryz.prog.cellsOf 123 = 2 := by kernel_rfl
theorem lits_sp (d : Nat) (s : Int × Int) (h : spOk s) : Tryz.prog.keyLits (d + 2) 123 [.int .i64 s.1, .int .i64 s.2] = some [.int .i64 s.1, .int .i64 s.2] := by
 obtain ⟨h0, h1⟩ := h
 have hr : List.range 2 = [0, 1] := by decide
 unfold Program.keyLits
 simp only [Tryz.underlying123, cells_sp, cells_int]
 simp [hr, lits_i64 d _ h0, lits_i64 d _ h1]
theorem lawSp : Go.Maps.Keyed Tryz.prog 123 := Go.Maps.Keyed.of_law (deep_law_laid (m := 5) laidOut (by decide) (of_decide_eq_true (by kernel_rfl)) (by kernel_rfl) (by kernel_rfl))
theorem keySp (s : Int × Int) (h : spOk s) : ∃ l, keyOf Tryz.prog 123 (spV s) = some l := by
 have hk : Tryz.prog.keyType 123 = true := by kernel_rfl
 have hf : (spV s).formed Tryz.prog 123 = true := by kernel_rfl
 have hs : 2 ≤ Tryz.prog.types.size := of_decide_eq_true (by kernel_rfl)
 obtain ⟨d, hd⟩ : ∃ d, Tryz.prog.types.size + 1 = d + 2 := ⟨Tryz.prog.types.size - 1, by omega⟩
 have hl2 : Tryz.prog.keyLits (Tryz.prog.types.size + 1) 123 (spV s).cells.toList = some [.int .i64 s.1, .int .i64 s.2] := by rw [hd]; exact lits_sp d s h
 refine ⟨.string (keyBytes [.int .i64 s.1, .int .i64 s.2]), ?_⟩
 unfold keyOf
 simp only [Tryz.underlying123]
 rw [hl2, hk, hf]
 rfl
theorem spV_inj (a b : Int × Int) (h : spV a = spV b) : a = b := by
 obtain ⟨a0, a1⟩ := a
 obtain ⟨b0, b1⟩ := b
 simpa [spV] using h
theorem keysA : KeySort Tryz.prog 114 123 3 (Int × Int) spV spOk := ⟨Tryz.underlying114, lawSp, spV_inj, keySp⟩
theorem keysB : KeySort Tryz.prog 115 123 59 (Int × Int) spV spOk := ⟨Tryz.underlying115, lawSp, spV_inj, keySp⟩
theorem atV_keys (l : List ((Int × Int) × Int)) : (atV l).map (·.1) = l.map (·.1) := by simp [atV, Function.comp_def]
theorem byV_keys (l : List ((Int × Int) × OuA)) : (byV l).map (·.1) = (byO l).map (·.1) := by simp [byV, byO, Function.comp_def]
theorem atV_get (l : List ((Int × Int) × Int)) (s : Int × Int) : alGet (Value.int .i64 0) (atV l) s = .int .i64 (alGet 0 l s) := by
 unfold alGet atV
 rw [List.find?_map]
 have : ((fun x : (Int × Int) × Value => decide (x.1 = s)) ∘ fun x : (Int × Int) × Int => (x.1, Value.int .i64 x.2)) = fun x => decide (x.1 = s) := rfl
 rw [this]
 cases l.find? (fun x => decide (x.1 = s)) <;> rfl
theorem atV_set (l : List ((Int × Int) × Int)) (s : Int × Int) (v : Int) : alSet (atV l) s (.int .i64 v) = atV (alSet l s v) := by
 unfold alSet
 rw [atV_keys]
 by_cases h : s ∈ l.map (·.1)
 ·rw [if_pos h, if_pos h]
  unfold atV
  rw [List.map_map, List.map_map]
  refine List.map_congr_left fun x _ => ?_
  simp only [Function.comp]
  by_cases hx : x.1 = s <;> simp [hx]
 ·rw [if_neg h, if_neg h]; simp [atV]
theorem byV_set (l : List ((Int × Int) × OuA)) (s : Int × Int) (v : OuA) : alSet (byV l) s v.V = byV (alSet l s v) := by
 unfold alSet
 have e : (byV l).map (·.1) = l.map (·.1) := by simp [byV, Function.comp_def]
 rw [e]
 by_cases h : s ∈ l.map (·.1)
 ·rw [if_pos h, if_pos h]
  unfold byV
  rw [List.map_map, List.map_map]
  refine List.map_congr_left fun x _ => ?_
  simp only [Function.comp]
  by_cases hx : x.1 = s <;> simp [hx]
 ·rw [if_neg h, if_neg h]; simp [byV]
theorem byO_set (l : List ((Int × Int) × OuA)) (s : Int × Int) (v : OuA) : byO (alSet l s v) = alSet (byO l) s v.o := by
 unfold alSet
 have e : (byO l).map (·.1) = l.map (·.1) := by simp [byO, Function.comp_def]
 rw [e]
 by_cases h : s ∈ l.map (·.1)
 ·rw [if_pos h, if_pos h]
  unfold byO
  rw [List.map_map, List.map_map]
  refine List.map_congr_left fun x _ => ?_
  simp only [Function.comp]
  by_cases hx : x.1 = s <;> simp [hx]
 ·rw [if_neg h, if_neg h]; simp [byO]
theorem byV_get (l : List ((Int × Int) × OuA)) (s : Int × Int) : ∃ a : OuA, alGet oua0.V (byV l) s = a.V ∧ alGet ou0 (byO l) s = a.o ∧ (a = oua0 ∨ ∃ x ∈ l, x.2 = a) := by
 unfold alGet byV byO
 rw [List.find?_map, List.find?_map]
 have e1 : ((fun x : (Int × Int) × Value => decide (x.1 = s)) ∘ fun x : (Int × Int) × OuA => (x.1, x.2.V)) = fun x => decide (x.1 = s) := rfl
 have e2 : ((fun x : (Int × Int) × Ou => decide (x.1 = s)) ∘ fun x : (Int × Int) × OuA => (x.1, x.2.o)) = fun x => decide (x.1 = s) := rfl
 rw [e1, e2]
 cases h : l.find? (fun x => decide (x.1 = s)) with
 | none => exact ⟨oua0, rfl, rfl, .inl rfl⟩
 | some x => exact ⟨x.2, rfl, rfl, .inr ⟨x, List.mem_of_find?_eq_some h, rfl⟩⟩
structure WyA where
 Ak : Option Addr
 nk : Nat
 ck : Nat
 An : Option Addr
 nn : Nat
 cn : Nat
 Af : Option Addr
 nf : Nat
 cf : Nat
 Ap : Option Addr
 cp : Nat
 ab : Nat
 ob : Nat
 Ag : Option Addr
 cg : Nat
 l : List PuA
 lo : List ((Int × Int) × OuA)
structure WyAt (w : World) (B wb bk : Nat) (y : Wy) (a : WyA) : Prop where
 box : w.heap[wb]? = some (.cells #[.int .u8 y.pl.tb.x0, .int .u8 y.pl.tb.x1, .int .u8 y.pl.tb.x2, .int .u8 y.pl.tb.x3, .int .u8 y.pl.tb.x4, .int .u8 y.pl.tb.x5, .int .u8 y.pl.tb.x6, .int .u8 y.pl.tb.x7, .slice a.Ak a.nk a.ck, .int .i64 y.pl.s0, .int .i64 y.pl.s1, .slice a.An a.nn a.cn, .slice a.Af a.nf a.cf, .iface 51 (.pointer (some ⟨bk, 0, none⟩)), .slice a.Ap a.l.length a.cp, .map (some a.ab), .map (some a.ob), .slice a.Ag y.ag.length a.cg] 118 (0, 0))
 hb : B ≤ wb
 pl : y.pl.Own B a.Ak a.nk a.ck a.An a.nn a.cn a.Af a.nf a.cf w
 tb : y.pl.tb.ok
 ko : ∀ d ∈ y.pl.ks, d.ok
 pu : w.ownsRow B 85 12 (.slice a.Ap a.l.length a.cp) a.l.length (flatP a.l)
 pe : a.l.map (·.p) = y.pu
 po : ∀ x ∈ a.l, x.Own B w
 at_ : MapG spV w a.ab (atV y.at_)
 atk : ∀ x ∈ y.at_, spOk x.1
 atn : (y.at_.map (·.1)).Nodup
 hab : B ≤ a.ab
 by_ : MapG spV w a.ob (byV a.lo)
 bye : byO a.lo = y.by_
 byk : ∀ x ∈ y.by_, spOk x.1
 byn : (y.by_.map (·.1)).Nodup
 byo : ∀ x ∈ a.lo, x.2.Own B w
 hob : B ≤ a.ob
 ne : a.ab ≠ a.ob
 ag : w.ownsRow B 4 1 (.slice a.Ag y.ag.length a.cg) y.ag.length (bvB y.ag)
def wyT (t : TypeId) : Prop := t = 118 ∨ t = 85 ∨ t = 120 ∨ t = 27 ∨ t = 3 ∨ t = 4 ∨ t = 46 ∨ t = 5
theorem Pl.Own.tk {p : Pl} {C : Nat} {Ak : Option Addr} {nk ck : Nat} {An : Option Addr} {nn cn : Nat} {Af : Option Addr} {nf cf : Nat} {w w' : World} {T : TypeId → Prop} (h : p.Own C Ak nk ck An nn cn Af nf cf w) (hk : TK T w w') (h1 : ¬ T 27) (h2 : ¬ T 3) : p.Own C Ak nk ck An nn cn Af nf cf w' :=
 ⟨own_tk h.k hk h1, own_tk h.n hk h2, own_tk h.f hk h2, h.bk, h.bn, h.bf⟩
theorem PuA.Own.tk {a : PuA} {C : Nat} {w w' : World} {T : TypeId → Prop} (h : a.Own C w) (hk : TK T w w') (h1 : ¬ T 120) : a.Own C w' := ⟨own_tk h.h hk h1, h.s⟩
theorem OuA.Own.tk {a : OuA} {C : Nat} {w w' : World} {T : TypeId → Prop} (h : a.Own C w) (hk : TK T w w') (h1 : ¬ T 3) (h2 : ¬ T 46) (h3 : ¬ T 5) : a.Own C w' :=
 ⟨own_tk h.p hk h1, h.s.tk hk h2 h3, h.bp, h.bs, h.so⟩
section
variable {w w' : World} {B wb bk : Nat} {y : Wy} {a : WyA}
theorem WyAt.tk {T : TypeId → Prop} (h : WyAt w B wb bk y a) (hk : TK T w w') (hT : ∀ t, T t → ¬ wyT t) (h1 : w'.heap[a.ab]? = w.heap[a.ab]?) (h2 : w'.heap[a.ob]? = w.heap[a.ob]?) : WyAt w' B wb bk y a := by
 have n1 : ¬ T 118 := fun e => hT _ e (.inl rfl)
 have n2 : ¬ T 85 := fun e => hT _ e (.inr (.inl rfl))
 have n3 : ¬ T 120 := fun e => hT _ e (.inr (.inr (.inl rfl)))
 have n4 : ¬ T 27 := fun e => hT _ e (.inr (.inr (.inr (.inl rfl))))
 have n5 : ¬ T 3 := fun e => hT _ e (.inr (.inr (.inr (.inr (.inl rfl)))))
 have n6 : ¬ T 4 := fun e => hT _ e (.inr (.inr (.inr (.inr (.inr (.inl rfl))))))
 have n7 : ¬ T 46 := fun e => hT _ e (.inr (.inr (.inr (.inr (.inr (.inr (.inl rfl)))))))
 have n8 : ¬ T 5 := fun e => hT _ e (.inr (.inr (.inr (.inr (.inr (.inr (.inr rfl)))))))
 exact ⟨hk.keep _ _ _ _ h.box n1, h.hb, h.pl.tk hk n4 n5, h.tb, h.ko, own_tk h.pu hk n2, h.pe, fun x hx => (h.po x hx).tk hk n3, h.at_.same h1, h.atk, h.atn, h.hab, h.by_.same h2, h.bye, h.byk, h.byn, fun x hx => (h.byo x hx).tk hk n5 n7 n8, h.hob, h.ne, own_tk h.ag hk n6⟩
theorem WyAt.below (h : WyAt w B wb bk y a) (hb : Below w.heap.size w w') : WyAt w' B wb bk y a :=
 h.tk (T := fun _ => False) (TK.of_below hb) (fun _ e => e.elim) (hb.block _ h.at_.lt) (hb.block _ h.by_.lt)
end
theorem Rd.pat {w : World} {B n : Nat} {A : Option Addr} {l : List PuA} (h : Rd w B 12 A n (flatP l)) {k : Nat} (hk : k < n) :
  ∃ b o, A = some ⟨b, o, none⟩ ∧ b < B ∧ w.cell? ⟨b, o + k * 12, none⟩ = some (.int .u8 (l.getD k default).p.nm.x0) ∧ w.cell? ⟨b, o + k * 12 + 1, none⟩ = some (.int .u8 (l.getD k default).p.nm.x1) ∧
   w.cell? ⟨b, o + k * 12 + 2, none⟩ = some (.int .u8 (l.getD k default).p.nm.x2) ∧ w.cell? ⟨b, o + k * 12 + 3, none⟩ = some (.int .u8 (l.getD k default).p.nm.x3) ∧
   w.cell? ⟨b, o + k * 12 + 4, none⟩ = some (.int .u8 (l.getD k default).p.nm.x4) ∧ w.cell? ⟨b, o + k * 12 + 5, none⟩ = some (.int .u8 (l.getD k default).p.nm.x5) ∧
   w.cell? ⟨b, o + k * 12 + 6, none⟩ = some (.int .u8 (l.getD k default).p.nm.x6) ∧ w.cell? ⟨b, o + k * 12 + 7, none⟩ = some (.int .u8 (l.getD k default).p.nm.x7) ∧
   w.cell? ⟨b, o + k * 12 + 8, none⟩ = some (.int .i64 (l.getD k default).p.no) ∧ w.cell? ⟨b, o + k * 12 + 9, none⟩ = some (.int .i64 (l.getD k default).p.h0) ∧ w.cell? ⟨b, o + k * 12 + 10, none⟩ = some (.int .i64 (l.getD k default).p.h1) ∧
   w.cell? ⟨b, o + k * 12 + 11, none⟩ = some (.slice (l.getD k default).A (l.getD k default).n (l.getD k default).c) := by
 have hl : l.length = n := by have := h.1; rw [flatP_len] at this; omega
 obtain ⟨b, o, e, hb, hc⟩ := h.2 (by omega)
 have f := fun j u (hj : j < 12) (hu : (l.getD k default).cells[j]? = some u) => hc (k * 12 + j) u ((flatP_at l k j (by omega) hj).trans hu)
 exact ⟨b, o, e, hb, f 0 _ (by omega) rfl, f 1 _ (by omega) rfl, f 2 _ (by omega) rfl, f 3 _ (by omega) rfl, f 4 _ (by omega) rfl, f 5 _ (by omega) rfl, f 6 _ (by omega) rfl, f 7 _ (by omega) rfl, f 8 _ (by omega) rfl, f 9 _ (by omega) rfl, f 10 _ (by omega) rfl, f 11 _ (by omega) rfl⟩
def Wy.begin (p : Pl) (ps : List Pu) : Wy := ⟨p, ps, [], [], List.replicate p.ks.length false⟩
def GivesWy (y : Wy) (bk : Nat) (w : World) (e : Ending) (w' : World) : Prop :=
 ∃ wb a, e = .returned (.tuple #[.pointer (some ⟨wb, 0, none⟩), .int .i64 0]) ∧ WyAt w' w.heap.size wb bk y a ∧ Below w.heap.size w w'
theorem madeBools (n : Nat) : (madeCells (Value.bool false).cells (n * 1)).toList = bvB (List.replicate n false) := by
 rw [Nat.mul_one]
 have : (Value.bool false).cells = #[.bool false] := rfl
 rw [this]
 apply List.ext_getElem
 ·simp [madeCells, bvB]
 ·intro i h1 h2
  have h3 : i % 1 = 0 := Nat.mod_one i
  simp [madeCells, bvB, h3]
theorem info_Pu : (Tryz.prog.info? 85).map (fun i => (i.zero, i.size, i.bytes)) = some (some (.agg #[.int .u8 0, .int .u8 0, .int .u8 0, .int .u8 0, .int .u8 0, .int .u8 0, .int .u8 0, .int .u8 0, .int .i64 0, .int .i64 0, .int .i64 0, .slice none 0 0]), 12, 56) := by kernel_rfl
set_option maxRecDepth 100000 in
set_option maxHeartbeats 8000000 in
theorem newway_any (p : Pl) (Ak : Option Addr) (nk ck : Nat) (An : Option Addr) (nn cn : Nat) (Af : Option Addr) (nf cf : Nat) (bk : Nat) (Au : Option Addr) (n cu : Nat) (l : List PuA) (wn : Int) (w : World)
  (h : p.At Ak nk ck An nn Af nf w) (hc : p.check wn = 0) (ht : p.tb.ok) (hko : ∀ d ∈ p.ks, d.ok) (hr : Rd w w.heap.size 12 Au n (flatP l)) (hn : n + 1 = nk) (hn7 : n ≤ 7)
  (hpa : ∀ x ∈ l, PuV.At x.p x.A x.n x.c w) (hpc : ∀ x ∈ l, x.p.check = 0) (hnm : ∀ j k, j < k → k < n → eqI (l.getD j default).p.nm.L (l.getD k default).p.nm.L = false) :
  Calls Tryz.prog 48 #[.agg #[.int .u8 p.tb.x0, .int .u8 p.tb.x1, .int .u8 p.tb.x2, .int .u8 p.tb.x3, .int .u8 p.tb.x4, .int .u8 p.tb.x5, .int .u8 p.tb.x6, .int .u8 p.tb.x7, .slice Ak nk ck, .int .i64 p.s0, .int .i64 p.s1, .slice An nn cn, .slice Af nf cf], .iface 51 (.pointer (some ⟨bk, 0, none⟩)), .slice Au n cu, .int .i64 wn] w (GivesWy (Wy.begin p (l.map (·.p))) bk w) := by
 have HX0 : Hid ((w.alloc (.cells #[.int .u8 p.tb.x0, .int .u8 p.tb.x1, .int .u8 p.tb.x2, .int .u8 p.tb.x3, .int .u8 p.tb.x4, .int .u8 p.tb.x5, .int .u8 p.tb.x6, .int .u8 p.tb.x7, .slice Ak nk ck, .int .i64 p.s0, .int .i64 p.s1, .slice An nn cn, .slice Af nf cf] 32)).heap[w.heap.size]? = some (.cells #[.int .u8 p.tb.x0, .int .u8 p.tb.x1, .int .u8 p.tb.x2, .int .u8 p.tb.x3, .int .u8 p.tb.x4, .int .u8 p.tb.x5, .int .u8 p.tb.x6, .int .u8 p.tb.x7, .slice Ak nk ck, .int .i64 p.s0, .int .i64 p.s1, .slice An nn cn, .slice Af nf cf] 32 (0, 0))) := heap_alloc_new _ _
 have Hb0 : Hid (Below w.heap.size w (w.alloc (.cells #[.int .u8 p.tb.x0, .int .u8 p.tb.x1, .int .u8 p.tb.x2, .int .u8 p.tb.x3, .int .u8 p.tb.x4, .int .u8 p.tb.x5, .int .u8 p.tb.x6, .int .u8 p.tb.x7, .slice Ak nk ck, .int .i64 p.s0, .int .i64 p.s1, .slice An nn cn, .slice Af nf cf] 32))) := below_one _ _
 have H := Lib.hid h; have HC := Lib.hid hc; have HR := Lib.hid hr; have HA := Lib.hid hpa; have HPC := Lib.hid hpc; have HNM := Lib.hid hnm
 have HT := Lib.hid ht; have HKo := Lib.hid hko
 have Hll : Hid (l.length = n) := by show _ = _; have := hr.1; rw [flatP_len] at this; omega
 have b0 : (p.check wn != 0) = false := by simpa using hc
 have Hkl := Lib.hid h.k.dlenD
 clear h hc hr hpa hpc hnm ht hko
 have hsub : (nk : Int) - 1 = (n : Int) := by omega
 have b1 : ((n : Int) != (n : Int)) = false := by simp
 obtain ⟨i0, hi, hz0, hz1, hz2⟩ := info_parts info_Pu
 have HI := Lib.hid (And.intro hi (And.intro hz0 (And.intro hz1 hz2))); clear hi hz0 hz1 hz2
 have hmm := @run_makeMap Tryz.prog
 go_enter Tryz.func48, Tryz.ntmps48
 go_upto_region 3 with fail
 generalize w.alloc (.cells #[.int .u8 p.tb.x0, .int .u8 p.tb.x1, .int .u8 p.tb.x2, .int .u8 p.tb.x3, .int .u8 p.tb.x4, .int .u8 p.tb.x5, .int .u8 p.tb.x6, .int .u8 p.tb.x7, .slice Ak nk ck, .int .i64 p.s0, .int .i64 p.s1, .slice An nn cn, .slice Af nf cf] 32) = w0 at *
 refine wp_region_list ?_
 refine wpList_load_mid (by rfl) 32 _ (by rfl) w.heap.size 0 (by rfl) [.int .u8 p.tb.x0, .int .u8 p.tb.x1, .int .u8 p.tb.x2, .int .u8 p.tb.x3, .int .u8 p.tb.x4, .int .u8 p.tb.x5, .int .u8 p.tb.x6, .int .u8 p.tb.x7, .slice Ak nk ck, .int .i64 p.s0, .int .i64 p.s1, .slice An nn cn, .slice Af nf cf] _ (range_all HX0.out) Tryz.underlying32 rfl (by kernel_rfl) ?_
 simp only [Act.put, sT]
 go_wp2_with fail
 refine (plcheck_any p Ak nk ck An nn cn Af nf cf wn w0 (H.out.up Hb0.out)).mono ?_
 rintro e w1 ⟨rfl, hb1⟩
 have HX1 := Lib.hid (block_below HX0.out hb1 (block_lt HX0.out)); have Hb1 := Lib.hid (Hb0.out.trans (hb1.mono Hb0.out.size))
 clear hb1
 have r := block_cell HX1.out
 have r0 := r 0; have r1 := r 1; have r2 := r 2; have r3 := r 3; have r4 := r 4; have r5 := r 5; have r6 := r 6; have r7 := r 7; have r8 := r 8; have r9 := r 9; have r10 := r 10; have r11 := r 11; have r12 := r 12
 simp at r0 r1 r2 r3 r4 r5 r6 r7 r8 r9 r10 r11 r12
 clear r
 go_upto_region 9 with fail
 refine wp_region_list ?_
 refine wpList_load_mid (by rfl) 32 _ (by rfl) w.heap.size 0 (by rfl) [.int .u8 p.tb.x0, .int .u8 p.tb.x1, .int .u8 p.tb.x2, .int .u8 p.tb.x3, .int .u8 p.tb.x4, .int .u8 p.tb.x5, .int .u8 p.tb.x6, .int .u8 p.tb.x7, .slice Ak nk ck, .int .i64 p.s0, .int .i64 p.s1, .slice An nn cn, .slice Af nf cf] _ (range_all HX1.out) Tryz.underlying32 rfl (by kernel_rfl) ?_
 simp only [Act.put, sT]
 go_wp2_with fail
 refine (plclone_any p Ak nk ck An nn cn Af nf cf w1 (H.out.up Hb1.out)).mono ?_
 rintro e w2 ⟨A1, n1, c1, A2, n2, c2, A3, n3, c3, rfl, hp2, hb2⟩
 have HX2 := Lib.hid (block_below HX1.out hb2 (block_lt HX1.out)); have Hb2 := Lib.hid (Hb1.out.trans (hb2.mono Hb1.out.size))
 have HP2 := Lib.hid hp2
 clear hp2 hb2 r0 r1 r2 r3 r4 r5 r6 r7 r8 r9 r10 r11 r12
 go_upto_region 10 with fail
 have HW3 : Hid ((((w2.alloc (.map #[] 0)).alloc (.map #[] 0)).alloc (.cells #[.int .u8 p.tb.x0, .int .u8 p.tb.x1, .int .u8 p.tb.x2, .int .u8 p.tb.x3, .int .u8 p.tb.x4, .int .u8 p.tb.x5, .int .u8 p.tb.x6, .int .u8 p.tb.x7, .slice A1 n1 c1, .int .i64 p.s0, .int .i64 p.s1, .slice A2 n2 c2, .slice A3 n3 c3, .iface 51 (.pointer (some ⟨bk, 0, none⟩)), .slice none 0 0, .map (some w2.heap.size), .map (some (w2.heap.size + 1)), .slice none 0 0] 118)).heap[w2.heap.size + 2]? = some (.cells #[.int .u8 p.tb.x0, .int .u8 p.tb.x1, .int .u8 p.tb.x2, .int .u8 p.tb.x3, .int .u8 p.tb.x4, .int .u8 p.tb.x5, .int .u8 p.tb.x6, .int .u8 p.tb.x7, .slice A1 n1 c1, .int .i64 p.s0, .int .i64 p.s1, .slice A2 n2 c2, .slice A3 n3 c3, .iface 51 (.pointer (some ⟨bk, 0, none⟩)), .slice none 0 0, .map (some w2.heap.size), .map (some (w2.heap.size + 1)), .slice none 0 0] 118 (0, 0))) := alloc_at (by simp)
 have HMA3 : Hid ((((w2.alloc (.map #[] 0)).alloc (.map #[] 0)).alloc (.cells #[.int .u8 p.tb.x0, .int .u8 p.tb.x1, .int .u8 p.tb.x2, .int .u8 p.tb.x3, .int .u8 p.tb.x4, .int .u8 p.tb.x5, .int .u8 p.tb.x6, .int .u8 p.tb.x7, .slice A1 n1 c1, .int .i64 p.s0, .int .i64 p.s1, .slice A2 n2 c2, .slice A3 n3 c3, .iface 51 (.pointer (some ⟨bk, 0, none⟩)), .slice none 0 0, .map (some w2.heap.size), .map (some (w2.heap.size + 1)), .slice none 0 0] 118)).heap[w2.heap.size]? = some (.map #[] 0)) := block_alloc (block_alloc (heap_alloc_new _ _) _) _
 have HMB3 : Hid ((((w2.alloc (.map #[] 0)).alloc (.map #[] 0)).alloc (.cells #[.int .u8 p.tb.x0, .int .u8 p.tb.x1, .int .u8 p.tb.x2, .int .u8 p.tb.x3, .int .u8 p.tb.x4, .int .u8 p.tb.x5, .int .u8 p.tb.x6, .int .u8 p.tb.x7, .slice A1 n1 c1, .int .i64 p.s0, .int .i64 p.s1, .slice A2 n2 c2, .slice A3 n3 c3, .iface 51 (.pointer (some ⟨bk, 0, none⟩)), .slice none 0 0, .map (some w2.heap.size), .map (some (w2.heap.size + 1)), .slice none 0 0] 118)).heap[w2.heap.size + 1]? = some (.map #[] 0)) := block_alloc (alloc_at (by simp)) _
 have Hb3 : Hid (Below w2.heap.size w2 (((w2.alloc (.map #[] 0)).alloc (.map #[] 0)).alloc (.cells #[.int .u8 p.tb.x0, .int .u8 p.tb.x1, .int .u8 p.tb.x2, .int .u8 p.tb.x3, .int .u8 p.tb.x4, .int .u8 p.tb.x5, .int .u8 p.tb.x6, .int .u8 p.tb.x7, .slice A1 n1 c1, .int .i64 p.s0, .int .i64 p.s1, .slice A2 n2 c2, .slice A3 n3 c3, .iface 51 (.pointer (some ⟨bk, 0, none⟩)), .slice none 0 0, .map (some w2.heap.size), .map (some (w2.heap.size + 1)), .slice none 0 0] 118))) := ((below_two w2 _ _).alloc (by simp; omega) _)
 have hz3 : (((w2.alloc (.map #[] 0)).alloc (.map #[] 0)).alloc (.cells #[.int .u8 p.tb.x0, .int .u8 p.tb.x1, .int .u8 p.tb.x2, .int .u8 p.tb.x3, .int .u8 p.tb.x4, .int .u8 p.tb.x5, .int .u8 p.tb.x6, .int .u8 p.tb.x7, .slice A1 n1 c1, .int .i64 p.s0, .int .i64 p.s1, .slice A2 n2 c2, .slice A3 n3 c3, .iface 51 (.pointer (some ⟨bk, 0, none⟩)), .slice none 0 0, .map (some w2.heap.size), .map (some (w2.heap.size + 1)), .slice none 0 0] 118)).heap.size = w2.heap.size + 3 := by simp
 generalize ((w2.alloc (.map #[] 0)).alloc (.map #[] 0)).alloc (.cells #[.int .u8 p.tb.x0, .int .u8 p.tb.x1, .int .u8 p.tb.x2, .int .u8 p.tb.x3, .int .u8 p.tb.x4, .int .u8 p.tb.x5, .int .u8 p.tb.x6, .int .u8 p.tb.x7, .slice A1 n1 c1, .int .i64 p.s0, .int .i64 p.s1, .slice A2 n2 c2, .slice A3 n3 c3, .iface 51 (.pointer (some ⟨bk, 0, none⟩)), .slice none 0 0, .map (some w2.heap.size), .map (some (w2.heap.size + 1)), .slice none 0 0] 118) = w3 at *
 have Hz3 := Lib.hid hz3
 clear hz3
 have Hbw3 := Lib.hid (Hb2.out.trans (Hb3.out.mono Hb2.out.size))
 have hwz := Hb2.out.size
 go_wp2
 go_loopw [43] (fun i w9 => ∃ (k : Nat) (Ax : Option Addr) (cx : Nat) (lx : List PuA), k ≤ n ∧ i = .int .i64 k ∧ Hid (w9.heap[w2.heap.size + 2]? = some (.cells #[.int .u8 p.tb.x0, .int .u8 p.tb.x1, .int .u8 p.tb.x2, .int .u8 p.tb.x3, .int .u8 p.tb.x4, .int .u8 p.tb.x5, .int .u8 p.tb.x6, .int .u8 p.tb.x7, .slice A1 n1 c1, .int .i64 p.s0, .int .i64 p.s1, .slice A2 n2 c2, .slice A3 n3 c3, .iface 51 (.pointer (some ⟨bk, 0, none⟩)), .slice Ax k cx, .map (some w2.heap.size), .map (some (w2.heap.size + 1)), .slice none 0 0] 118 (0, 0))) ∧ Hid (w9.ownsRow w3.heap.size 85 12 (.slice Ax k cx) k (flatP lx)) ∧ Hid (lx.map (·.p) = (l.take k).map (·.p)) ∧ Hid (∀ x ∈ lx, x.Own w3.heap.size w9) ∧ Hid (w3.grownBy w9 (some (w2.heap.size + 2)))) (fun i _ => n - (RowKit.intOf i).toNat)
 case atStart => exact ⟨0, none, 0, [], by omega, rfl, HW3, Lib.hid (World.ownsRow_nil _ _ _ _), Lib.hid rfl, Lib.hid (by simp), Lib.hid (World.grownBy.refl _ _)⟩
 case round =>
  obtain ⟨k, Ax, cx, lx, hk, rfl, HW, HO, HE, HQ, HG⟩ := hrel
  have hgs := HG.out.size
  have HBr : Hid (Below w.heap.size w wr) := Lib.hid (Hbw3.out.grown HG.out Hbw3.out.size (fun g hg => by cases hg; omega))
  by_cases hlt : k < n
  ·obtain ⟨b, o, hAu, hbB, x0, x1, x2, x3, x4, x5, x6, x7, x8, x9, x10, x11⟩ := (HR.out.below HBr.out (Nat.le_refl _)).pat hlt
   have hd1 : decide ((k : Int) < (n : Int)) = true := decide_eq_true (by omega)
   have hki : (k : Int) < (n : Int) := by omega
   have hmem : l.getD k default ∈ l := by rw [List.getD_eq_getElem?_getD, List.getElem?_eq_getElem (by rw [Hll.out]; exact hlt)]; exact List.getElem_mem _
   have hat := (HA.out _ hmem).up HBr.out
   have hck := HPC.out _ hmem
   have Hkk := Lib.hid (show ∀ j, j < k → eqI (l.getD j default).p.nm.L (l.getD k default).p.nm.L = false from fun j hj => HNM.out j k hj hlt)
   have Htk : Hid ((l.take (k + 1)).map (·.p) = (l.take k).map (·.p) ++ [(l.getD k default).p]) := Lib.hid (by rw [List.take_succ_eq_append_getElem (by rw [Hll.out]; exact hlt), List.map_append, List.getD_eq_getElem?_getD, List.getElem?_eq_getElem (show k < l.length by rw [Hll.out]; exact hlt)]; rfl)
   subst hAu
   generalize l.getD k default = x at *
   have HAt := Lib.hid hat
   have b2 : (x.p.check != 0) = false := by simpa using hck
   clear hat hmem hck
   have HT1 := Lib.hid (heap_alloc_new wr (.cells #[.int .u8 x.p.nm.x0, .int .u8 x.p.nm.x1, .int .u8 x.p.nm.x2, .int .u8 x.p.nm.x3, .int .u8 x.p.nm.x4, .int .u8 x.p.nm.x5, .int .u8 x.p.nm.x6, .int .u8 x.p.nm.x7, .int .i64 x.p.no, .int .i64 x.p.h0, .int .i64 x.p.h1, .slice x.A x.n x.c] 85))
   have HW1 := Lib.hid (block_alloc HW.out (.cells #[.int .u8 x.p.nm.x0, .int .u8 x.p.nm.x1, .int .u8 x.p.nm.x2, .int .u8 x.p.nm.x3, .int .u8 x.p.nm.x4, .int .u8 x.p.nm.x5, .int .u8 x.p.nm.x6, .int .u8 x.p.nm.x7, .int .i64 x.p.no, .int .i64 x.p.h0, .int .i64 x.p.h1, .slice x.A x.n x.c] 85))
   have HO1 := Lib.hid (HO.out.alloc (.cells #[.int .u8 x.p.nm.x0, .int .u8 x.p.nm.x1, .int .u8 x.p.nm.x2, .int .u8 x.p.nm.x3, .int .u8 x.p.nm.x4, .int .u8 x.p.nm.x5, .int .u8 x.p.nm.x6, .int .u8 x.p.nm.x7, .int .i64 x.p.no, .int .i64 x.p.h0, .int .i64 x.p.h1, .slice x.A x.n x.c] 85))
   have HAt1 := Lib.hid (HAt.out.up (below_one wr (.cells #[.int .u8 x.p.nm.x0, .int .u8 x.p.nm.x1, .int .u8 x.p.nm.x2, .int .u8 x.p.nm.x3, .int .u8 x.p.nm.x4, .int .u8 x.p.nm.x5, .int .u8 x.p.nm.x6, .int .u8 x.p.nm.x7, .int .i64 x.p.no, .int .i64 x.p.h0, .int .i64 x.p.h1, .slice x.A x.n x.c] 85)))
   have Hba := Lib.hid (below_one wr (.cells #[.int .u8 x.p.nm.x0, .int .u8 x.p.nm.x1, .int .u8 x.p.nm.x2, .int .u8 x.p.nm.x3, .int .u8 x.p.nm.x4, .int .u8 x.p.nm.x5, .int .u8 x.p.nm.x6, .int .u8 x.p.nm.x7, .int .i64 x.p.no, .int .i64 x.p.h0, .int .i64 x.p.h1, .slice x.A x.n x.c] 85))
   go_upto_region 13 with fail
   generalize wr.alloc (.cells #[.int .u8 x.p.nm.x0, .int .u8 x.p.nm.x1, .int .u8 x.p.nm.x2, .int .u8 x.p.nm.x3, .int .u8 x.p.nm.x4, .int .u8 x.p.nm.x5, .int .u8 x.p.nm.x6, .int .u8 x.p.nm.x7, .int .i64 x.p.no, .int .i64 x.p.h0, .int .i64 x.p.h1, .slice x.A x.n x.c] 85) = w4 at *
   clear x0 x1 x2 x3 x4 x5 x6 x7 x8 x9 x10 x11
   refine wp_region_list ?_
   refine wpList_load_mid (by rfl) 85 _ (by rfl) wr.heap.size 0 (by rfl) [.int .u8 x.p.nm.x0, .int .u8 x.p.nm.x1, .int .u8 x.p.nm.x2, .int .u8 x.p.nm.x3, .int .u8 x.p.nm.x4, .int .u8 x.p.nm.x5, .int .u8 x.p.nm.x6, .int .u8 x.p.nm.x7, .int .i64 x.p.no, .int .i64 x.p.h0, .int .i64 x.p.h1, .slice x.A x.n x.c] _ (range_all HT1.out) Tryz.underlying85 rfl (by kernel_rfl) ?_
   simp only [Act.put, sT]
   go_wp2_with fail
   refine (pcheck_any x.p x.A x.n x.c w4 HAt1.out).mono ?_
   rintro e w5 ⟨rfl, hb5⟩
   have HT5 := Lib.hid (block_below HT1.out hb5 (block_lt HT1.out)); have HW5 := Lib.hid (block_below HW1.out hb5 (block_lt HW1.out)); have HO5 := Lib.hid (own_below HO1.out hb5); have HAt5 := Lib.hid (HAt1.out.up hb5); have Hb5 := Lib.hid (Hba.out.trans (hb5.mono Hba.out.size))
   clear hb5
   have s14 := block_cell HW5.out 14
   simp at s14
   have Hlx : Hid (lx.length = k) := by show _ = _; have := congrArg List.length HE.out; simp at this; rw [Hll.out] at this; omega
   obtain ⟨wo, rfl⟩ : ∃ wo : World, wo = wr := ⟨_, rfl⟩
   go_wp2
   go_loopw [57] (fun i w9 => ∃ (j : Nat), j ≤ k ∧ i = .int .i64 j ∧ Hid (Below w5.heap.size w5 w9)) (fun i _ => k - (RowKit.intOf i).toNat)
   case atStart => exact ⟨0, by omega, rfl, Lib.hid (Below.refl _ _)⟩
   case round =>
    obtain ⟨j, hj, rfl, HB⟩ := hrel
    have heq := eql_dig
    have HTr := Lib.hid (block_below HT5.out HB.out (block_lt HT5.out))
    by_cases hlt2 : j < k
    ·obtain ⟨b', o', hAx, hbB', y0, y1, y2, y3, y4, y5, y6, y7, y8, y9, y10, y11⟩ := ((Rd.of_own HO5.out).below HB.out (Nat.le_refl _)).pat hlt2
     have hd2 : decide ((j : Int) < (k : Int)) = true := decide_eq_true (by omega)
     have hji : (j : Int) < (k : Int) := by omega
     have hnm : (lx.getD j default).p.nm = (l.getD j default).p.nm := by
      have h1 := congrArg (fun q => q[j]?) HE.out
      simp only [List.getElem?_map] at h1
      rw [List.getElem?_take_of_lt hlt2, List.getElem?_eq_getElem (show j < lx.length by rw [Hlx.out]; exact hlt2), List.getElem?_eq_getElem (show j < l.length by rw [Hll.out]; omega)] at h1
      simp only [Option.map_some, Option.some.injEq] at h1
      rw [List.getD_eq_getElem?_getD, List.getD_eq_getElem?_getD, List.getElem?_eq_getElem (show j < lx.length by rw [Hlx.out]; exact hlt2), List.getElem?_eq_getElem (show j < l.length by rw [Hll.out]; omega)]
      simp only [Option.getD_some]
      rw [h1]
     have hE := Hkk.out j hlt2
     rw [← hnm] at hE
     subst hAx
     generalize lx.getD j default = q at *
     have c5 : eqI [(q.p.nm.x0 : Int), (q.p.nm.x1 : Int), (q.p.nm.x2 : Int), (q.p.nm.x3 : Int), (q.p.nm.x4 : Int), (q.p.nm.x5 : Int), (q.p.nm.x6 : Int), (q.p.nm.x7 : Int)] [(x.p.nm.x0 : Int), (x.p.nm.x1 : Int), (x.p.nm.x2 : Int), (x.p.nm.x3 : Int), (x.p.nm.x4 : Int), (x.p.nm.x5 : Int), (x.p.nm.x6 : Int), (x.p.nm.x7 : Int)] = false := hE
     clear hnm hE
     obtain ⟨_, t0, t1, t2, t3, t4, t5, t6, t7⟩ : True ∧ wr.cell? ⟨wo.heap.size, 0, none⟩ = some (.int .u8 x.p.nm.x0) ∧ wr.cell? ⟨wo.heap.size, 1, none⟩ = some (.int .u8 x.p.nm.x1) ∧ wr.cell? ⟨wo.heap.size, 2, none⟩ = some (.int .u8 x.p.nm.x2) ∧ wr.cell? ⟨wo.heap.size, 3, none⟩ = some (.int .u8 x.p.nm.x3) ∧ wr.cell? ⟨wo.heap.size, 4, none⟩ = some (.int .u8 x.p.nm.x4) ∧ wr.cell? ⟨wo.heap.size, 5, none⟩ = some (.int .u8 x.p.nm.x5) ∧ wr.cell? ⟨wo.heap.size, 6, none⟩ = some (.int .u8 x.p.nm.x6) ∧ wr.cell? ⟨wo.heap.size, 7, none⟩ = some (.int .u8 x.p.nm.x7) := ⟨trivial, block_cell HTr.out 0, block_cell HTr.out 1, block_cell HTr.out 2, block_cell HTr.out 3, block_cell HTr.out 4, block_cell HTr.out 5, block_cell HTr.out 6, block_cell HTr.out 7⟩
     have HBa := Lib.hid (HB.out.alloc HB.out.size (.cells #[.int .u8 q.p.nm.x0, .int .u8 q.p.nm.x1, .int .u8 q.p.nm.x2, .int .u8 q.p.nm.x3, .int .u8 q.p.nm.x4, .int .u8 q.p.nm.x5, .int .u8 q.p.nm.x6, .int .u8 q.p.nm.x7, .int .i64 q.p.no, .int .i64 q.p.h0, .int .i64 q.p.h1, .slice q.A q.n q.c] 85))
     have hlt9 := block_lt HTr.out
     go_wp2
     go_roundw
     case rel => exact ⟨j + 1, hlt2, by go_num, HBa⟩
     case measure => simp [RowKit.intOf]; omega
    ·have hjk : j = k := by omega
     have hd2 : decide ((j : Int) < (k : Int)) = false := decide_eq_false (by omega)
     have Hjk := Lib.hid hjk
     clear hjk
     have HT6 := HTr
     have HW6 := Lib.hid (block_below HW5.out HB.out (block_lt HW5.out)); have HO6 := Lib.hid (own_below HO5.out HB.out); have HAt6 := Lib.hid (HAt5.out.up HB.out); have Hb6 := Lib.hid (Hb5.out.trans (HB.out.mono Hb5.out.size))
     have hgs6 : w3.heap.size ≤ wr.heap.size := by have := Hb6.out.size; omega
     clear s14
     have s14 := block_cell HW6.out 14
     simp at s14
     obtain ⟨_, t0, t1, t2, t3, t4, t5, t6, t7, t8, t9, t10, t11⟩ : True ∧ wr.cell? ⟨wo.heap.size, 0, none⟩ = some (.int .u8 x.p.nm.x0) ∧ wr.cell? ⟨wo.heap.size, 1, none⟩ = some (.int .u8 x.p.nm.x1) ∧ wr.cell? ⟨wo.heap.size, 2, none⟩ = some (.int .u8 x.p.nm.x2) ∧ wr.cell? ⟨wo.heap.size, 3, none⟩ = some (.int .u8 x.p.nm.x3) ∧ wr.cell? ⟨wo.heap.size, 4, none⟩ = some (.int .u8 x.p.nm.x4) ∧ wr.cell? ⟨wo.heap.size, 5, none⟩ = some (.int .u8 x.p.nm.x5) ∧ wr.cell? ⟨wo.heap.size, 6, none⟩ = some (.int .u8 x.p.nm.x6) ∧ wr.cell? ⟨wo.heap.size, 7, none⟩ = some (.int .u8 x.p.nm.x7) ∧ wr.cell? ⟨wo.heap.size, 8, none⟩ = some (.int .i64 x.p.no) ∧ wr.cell? ⟨wo.heap.size, 9, none⟩ = some (.int .i64 x.p.h0) ∧ wr.cell? ⟨wo.heap.size, 10, none⟩ = some (.int .i64 x.p.h1) ∧ wr.cell? ⟨wo.heap.size, 11, none⟩ = some (.slice x.A x.n x.c) := ⟨trivial, block_cell HT6.out 0, block_cell HT6.out 1, block_cell HT6.out 2, block_cell HT6.out 3, block_cell HT6.out 4, block_cell HT6.out 5, block_cell HT6.out 6, block_cell HT6.out 7, block_cell HT6.out 8, block_cell HT6.out 9, block_cell HT6.out 10, block_cell HT6.out 11⟩
     have hlw := block_lt HW6.out
     go_wp2
     go_region_law (first
      | (go_simp; go_at_call 95; go_must (refine (copied_any x.p x.A x.n x.c wr.drew ⟨HAt6.out.rd.drew, HAt6.out.cap, HAt6.out.small⟩).mono ?_; rintro e w7 ⟨A6, n6, c6, rfl, ho7, hb7⟩; have HB7 : Hid (Below wr.heap.size wr w7) := Lib.hid ((Below.refl wr.heap.size wr).drew.trans hb7); have HQ7 : Hid (w7.ownsRow w3.heap.size 120 11 (.slice A6 n6 c6) n6 (flatH x.p.held)) := Lib.hid (own_weak ho7 hgs6); clear ho7 hb7; have HW7 := Lib.hid (block_below HW6.out HB7.out hlw); have HK7 := Lib.hid ((own_below HO6.out HB7.out).alloc (.cells #[.int .u8 x.p.nm.x0, .int .u8 x.p.nm.x1, .int .u8 x.p.nm.x2, .int .u8 x.p.nm.x3, .int .u8 x.p.nm.x4, .int .u8 x.p.nm.x5, .int .u8 x.p.nm.x6, .int .u8 x.p.nm.x7, .int .i64 x.p.no, .int .i64 x.p.h0, .int .i64 x.p.h1, .slice A6 n6 c6] 85)); have s147 := block_cell HW7.out 14; simp at s147; have HR7 : Hid (Rd (w7.alloc (.cells #[.int .u8 x.p.nm.x0, .int .u8 x.p.nm.x1, .int .u8 x.p.nm.x2, .int .u8 x.p.nm.x3, .int .u8 x.p.nm.x4, .int .u8 x.p.nm.x5, .int .u8 x.p.nm.x6, .int .u8 x.p.nm.x7, .int .i64 x.p.no, .int .i64 x.p.h0, .int .i64 x.p.h1, .slice A6 n6 c6] 85)) (w7.heap.size + 1) 12 (some ⟨w7.heap.size, 0, none⟩) 1 [.int .u8 x.p.nm.x0, .int .u8 x.p.nm.x1, .int .u8 x.p.nm.x2, .int .u8 x.p.nm.x3, .int .u8 x.p.nm.x4, .int .u8 x.p.nm.x5, .int .u8 x.p.nm.x6, .int .u8 x.p.nm.x7, .int .i64 x.p.no, .int .i64 x.p.h0, .int .i64 x.p.h1, .slice A6 n6 c6]) := Lib.hid (by have := Rd.newA (n := 1) (sz := 12) (xs := [.int .u8 x.p.nm.x0, .int .u8 x.p.nm.x1, .int .u8 x.p.nm.x2, .int .u8 x.p.nm.x3, .int .u8 x.p.nm.x4, .int .u8 x.p.nm.x5, .int .u8 x.p.nm.x6, .int .u8 x.p.nm.x7, .int .i64 x.p.no, .int .i64 x.p.h0, .int .i64 x.p.h1, .slice A6 n6 c6]) w7 85 #[.int .u8 x.p.nm.x0, .int .u8 x.p.nm.x1, .int .u8 x.p.nm.x2, .int .u8 x.p.nm.x3, .int .u8 x.p.nm.x4, .int .u8 x.p.nm.x5, .int .u8 x.p.nm.x6, .int .u8 x.p.nm.x7, .int .i64 x.p.no, .int .i64 x.p.h0, .int .i64 x.p.h1, .slice A6 n6 c6] rfl rfl; simp at this; exact this); have hz7 := block_lt HW7.out; have hb77 : w3.heap.size ≤ (w7.alloc (.cells #[.int .u8 x.p.nm.x0, .int .u8 x.p.nm.x1, .int .u8 x.p.nm.x2, .int .u8 x.p.nm.x3, .int .u8 x.p.nm.x4, .int .u8 x.p.nm.x5, .int .u8 x.p.nm.x6, .int .u8 x.p.nm.x7, .int .i64 x.p.no, .int .i64 x.p.h0, .int .i64 x.p.h1, .slice A6 n6 c6] 85)).heap.size := (by have := HB7.out.size; rw [World.size_alloc]; omega)))
      | (refine step_append_atV (w7.alloc (.cells #[.int .u8 x.p.nm.x0, .int .u8 x.p.nm.x1, .int .u8 x.p.nm.x2, .int .u8 x.p.nm.x3, .int .u8 x.p.nm.x4, .int .u8 x.p.nm.x5, .int .u8 x.p.nm.x6, .int .u8 x.p.nm.x7, .int .i64 x.p.no, .int .i64 x.p.h0, .int .i64 x.p.h1, .slice A6 n6 c6] 85)) (by rfl) _ _ 52 (by rfl) w3.heap.size 85 i0 (.agg #[.int .u8 0, .int .u8 0, .int .u8 0, .int .u8 0, .int .u8 0, .int .u8 0, .int .u8 0, .int .u8 0, .int .i64 0, .int .i64 0, .int .i64 0, .slice none 0 0]) 12 56 Tryz.underlying52 HI.out rfl (by decide) _ _ _ (by rfl) HK7.out (w7.heap.size + 1) w7.heap.size 0 1 1 _ (by simp [Act.eval]) (by decide) HR7.out (by simp [Value.oneCell']) (by omega) (by omega) hb77 ?_; go_must (intro v8 w8 ho8 hg8 hw8; obtain ⟨A8, c8, rfl⟩ := own_form ho8; have HO8 := Lib.hid ho8; have HG8 := Lib.hid hg8; clear ho8 hg8 hw8; have HW8 := Lib.hid (block_grown (block_alloc HW7.out (.cells #[.int .u8 x.p.nm.x0, .int .u8 x.p.nm.x1, .int .u8 x.p.nm.x2, .int .u8 x.p.nm.x3, .int .u8 x.p.nm.x4, .int .u8 x.p.nm.x5, .int .u8 x.p.nm.x6, .int .u8 x.p.nm.x7, .int .i64 x.p.no, .int .i64 x.p.h0, .int .i64 x.p.h1, .slice A6 n6 c6] 85)) HG8.out (own_ne HK7.out (block_alloc HW7.out (.cells #[.int .u8 x.p.nm.x0, .int .u8 x.p.nm.x1, .int .u8 x.p.nm.x2, .int .u8 x.p.nm.x3, .int .u8 x.p.nm.x4, .int .u8 x.p.nm.x5, .int .u8 x.p.nm.x6, .int .u8 x.p.nm.x7, .int .i64 x.p.no, .int .i64 x.p.h0, .int .i64 x.p.h1, .slice A6 n6 c6] 85)) (by decide))); have s8 := block_cell HW8.out 14; have sf8 := block_free HW8.out; simp at s8)))
     all_goals
      have h9 := Joins.block_setCell (i := 14) HW8.out (.slice A8 (k + 1) c8)
      have g9 := pgrown_set (w := w8) (w2.heap.size + 2) 14 (.slice A8 (k + 1) c8)
      simp at h9
      have HW9 := Lib.hid h9
      have HO9 : Hid ((w8.setCell ⟨w2.heap.size + 2, 14, none⟩ (.slice A8 (k + 1) c8)).ownsRow w3.heap.size 85 12 (.slice A8 (k + 1) c8) (k + 1) (flatP (lx ++ [(⟨x.p, A6, n6, c6⟩ : PuA)]))) := Lib.hid (by rw [flatP_append]; exact HO8.out.kept g9 (.inr fun e => own_ne HO8.out HW8.out (by decide) e.symm))
      have hstep : ∀ {b2 sz2 n2 : Nat} {e2 : TypeId} {v2 : Value} {x2 : List Value}, w7.ownsRow b2 e2 sz2 v2 n2 x2 → e2 ≠ 85 → e2 ≠ 118 → (w8.setCell ⟨w2.heap.size + 2, 14, none⟩ (.slice A8 (k + 1) c8)).ownsRow b2 e2 sz2 v2 n2 x2 := fun hq h1 h2 => by
       have q5 := (World.ownsRow.alloc hq (.cells #[.int .u8 x.p.nm.x0, .int .u8 x.p.nm.x1, .int .u8 x.p.nm.x2, .int .u8 x.p.nm.x3, .int .u8 x.p.nm.x4, .int .u8 x.p.nm.x5, .int .u8 x.p.nm.x6, .int .u8 x.p.nm.x7, .int .i64 x.p.no, .int .i64 x.p.h0, .int .i64 x.p.h1, .slice A6 n6 c6] 85)).kept HG8.out (own_apart (World.ownsRow.alloc hq (.cells #[.int .u8 x.p.nm.x0, .int .u8 x.p.nm.x1, .int .u8 x.p.nm.x2, .int .u8 x.p.nm.x3, .int .u8 x.p.nm.x4, .int .u8 x.p.nm.x5, .int .u8 x.p.nm.x6, .int .u8 x.p.nm.x7, .int .i64 x.p.no, .int .i64 x.p.h0, .int .i64 x.p.h1, .slice A6 n6 c6] 85)) HK7.out h1)
       exact q5.kept g9 (.inr fun e => own_ne q5 HW8.out h2 e.symm)
      have HE9 : Hid ((lx ++ [(⟨x.p, A6, n6, c6⟩ : PuA)]).map (·.p) = (l.take (k + 1)).map (·.p)) := Lib.hid (by rw [List.map_append, HE.out, Htk.out]; rfl)
      have HQ9 : Hid (∀ q ∈ lx ++ [(⟨x.p, A6, n6, c6⟩ : PuA)], q.Own w3.heap.size (w8.setCell ⟨w2.heap.size + 2, 14, none⟩ (.slice A8 (k + 1) c8))) := Lib.hid (fun q hq => by
       rcases List.mem_append.1 hq with h | h
       ·have h0 := HQ.out q h
        exact ⟨hstep (own_below (own_below h0.h (Hb6.out)) HB7.out) (by decide) (by decide), h0.s⟩
       ·rw [List.mem_singleton] at h
        subst h
        refine ⟨hstep HQ7.out (by decide) (by decide), ?_⟩
        have e1 := HQ7.out.1
        rw [flatH_len] at e1
        have e2 := HAt6.out.small
        have e3 := HAt6.out.rd.hlen
        show n6 ≤ _
        omega)
      have HG9 : Hid (w3.grownBy (w8.setCell ⟨w2.heap.size + 2, 14, none⟩ (.slice A8 (k + 1) c8)) (some (w2.heap.size + 2))) := Lib.hid ((grown_row (grown_alloc (grown_row (row := none) HG.out ⟨(Hb6.out.trans (HB7.out.mono Hb6.out.size)).os, (Hb6.out.trans (HB7.out.mono Hb6.out.size)).tape, (Hb6.out.trans (HB7.out.mono Hb6.out.size)).output, (Hb6.out.trans (HB7.out.mono Hb6.out.size)).size, fun q hq _ => (Hb6.out.trans (HB7.out.mono Hb6.out.size)).block q hq⟩ (fun _ e => by cases e)) (.cells #[.int .u8 x.p.nm.x0, .int .u8 x.p.nm.x1, .int .u8 x.p.nm.x2, .int .u8 x.p.nm.x3, .int .u8 x.p.nm.x4, .int .u8 x.p.nm.x5, .int .u8 x.p.nm.x6, .int .u8 x.p.nm.x7, .int .i64 x.p.no, .int .i64 x.p.h0, .int .i64 x.p.h1, .slice A6 n6 c6] 85)) HG8.out (fun g hg => (HK7.out.lt g hg).1)).trans g9)
      clear h9 g9
      go_wp2
      go_roundw
      case rel => exact ⟨k + 1, A8, c8, lx ++ [(⟨x.p, A6, n6, c6⟩ : PuA)], hlt, by go_num, HW9, HO9, HE9, HQ9, HG9⟩
      case measure => simp [RowKit.intOf]; omega
  ·have hkn : k = n := by omega
   have hd1 : decide ((k : Int) < (n : Int)) = false := decide_eq_false (by omega)
   have Hkn := Lib.hid hkn
   clear hkn
   have HX9 := Lib.hid ((HG.out.block w.heap.size (by have := Hbw3.out.size; have := block_lt HX2.out; have := Hz3.out; omega) (by have := block_lt HX2.out; intro e; injection e with e; omega)).trans (block_below HX2.out Hb3.out (block_lt HX2.out)))
   have s8 := block_cell HX9.out 8
   have s17 := block_cell HW.out 17
   have sf := block_free HW.out
   simp at s8 s17
   have hlw := block_lt HW.out
   have hnk8 : nk ≤ 8 := by omega
   obtain ⟨iB, hj, hj0, hj1, hj2⟩ := info_parts info_boolV
   have HIB := Lib.hid (And.intro hj (And.intro hj0 (And.intro hj1 hj2))); clear hj hj0 hj1 hj2
   go_wp2_with (at_make; refine wpList_make_full wr (by rfl) _ _ 116 (by rfl) wr.heap.size 4 iB (.bool false) 1 Tryz.underlying116 HIB.out.1 HIB.out.2.1 HIB.out.2.2.1 .i64 .i64 _ _ nk (by rfl) (by rfl) rfl rfl (by rw [HIB.out.2.2.2]; omega) (by simp only [maxLen]; omega) (Nat.le_refl _) ?_; go_must (intro w6 ho6 hg6; rw [madeBools] at ho6; have HO6 := Lib.hid ho6; have HB6 : Hid (Below wr.heap.size wr w6) := Lib.hid (below_of_grown hg6 (Nat.le_refl _) (by simp)); clear ho6 hg6; have HW6 := Lib.hid (block_below HW.out HB6.out hlw); have s176 := block_cell HW6.out 17; have sf6 := block_free HW6.out; simp at s176))
   go_ret2
   have h9 := Joins.block_setCell (i := 17) HW6.out (.slice (some ⟨wr.heap.size, 0, none⟩) nk nk)
   have g9 := pgrown_set (w := w6) (w2.heap.size + 2) 17 (.slice (some ⟨wr.heap.size, 0, none⟩) nk nk)
   simp at h9
   have hlx : lx.length = k := by have := congrArg List.length HE.out; simp at this; rw [Hll.out] at this; omega
   have hO6 := own_below HO.out HB6.out
   have hall : w3.grownBy (w6.setCell ⟨w2.heap.size + 2, 17, none⟩ (.slice (some ⟨wr.heap.size, 0, none⟩) nk nk)) (some (w2.heap.size + 2)) := (grown_row (row := none) HG.out ⟨HB6.out.os, HB6.out.tape, HB6.out.output, HB6.out.size, fun q hq _ => HB6.out.block q hq⟩ (fun _ e => by cases e)).trans g9
   have hP3 := HP2.out.tk (T := fun _ => False) (TK.of_below Hb3.out) (fun e => e) (fun e => e)
   have hPW := hP3.tk (T := fun t => t = 118) (TK.of_grown hall HW3.out rfl) (by decide) (by decide)
   have hb69 : TK (fun t => t = 118) w6 (w6.setCell ⟨w2.heap.size + 2, 17, none⟩ (.slice (some ⟨wr.heap.size, 0, none⟩) nk nk)) := TK.of_grown g9 HW6.out rfl
   have hbr : TK (fun t => t = 118) wr (w6.setCell ⟨w2.heap.size + 2, 17, none⟩ (.slice (some ⟨wr.heap.size, 0, none⟩) nk nk)) := (TK.of_below HB6.out).trans hb69
   have hw12 := Hb1.out.size
   have hw3 := Hz3.out
   have hltk : l.take k = l := List.take_of_length_le (by rw [Hll.out, Hkn.out]; exact Nat.le_refl _)
   refine ⟨w2.heap.size + 2, ⟨A1, n1, c1, A2, n2, c2, A3, n3, c3, Ax, cx, w2.heap.size, w2.heap.size + 1, some ⟨wr.heap.size, 0, none⟩, nk, lx, []⟩, rfl, ?_, ?_⟩
   ·refine ⟨?_, by omega, ?_, HT.out, HKo.out, ?_, ?_, ?_, ?_, by simp [Wy.begin], by simp [Wy.begin], hwz, ?_, rfl, by simp [Wy.begin], by simp [Wy.begin], by simp, by show w.heap.size ≤ w2.heap.size + 1; omega, by show w2.heap.size ≠ w2.heap.size + 1; omega, ?_⟩
    ·show (w6.setCell ⟨w2.heap.size + 2, 17, none⟩ (.slice (some ⟨wr.heap.size, 0, none⟩) nk nk)).heap[w2.heap.size + 2]? = some (.cells #[.int .u8 p.tb.x0, .int .u8 p.tb.x1, .int .u8 p.tb.x2, .int .u8 p.tb.x3, .int .u8 p.tb.x4, .int .u8 p.tb.x5, .int .u8 p.tb.x6, .int .u8 p.tb.x7, .slice A1 n1 c1, .int .i64 p.s0, .int .i64 p.s1, .slice A2 n2 c2, .slice A3 n3 c3, .iface 51 (.pointer (some ⟨bk, 0, none⟩)), .slice Ax lx.length cx, .map (some w2.heap.size), .map (some (w2.heap.size + 1)), .slice (some ⟨wr.heap.size, 0, none⟩) (List.replicate p.ks.length false).length nk] 118 (0, 0))
     rw [hlx, List.length_replicate, Hkl.out]
     exact h9
    ·exact ⟨own_weak hPW.k hw12, own_weak hPW.n hw12, own_weak hPW.f hw12, hPW.bk, hPW.bn, hPW.bf⟩
    ·show World.ownsRow _ _ _ _ (.slice Ax lx.length cx) lx.length _
     rw [hlx]
     exact own_weak (own_tk HO.out hbr (by decide)) (by omega)
    ·show lx.map (·.p) = l.map (·.p)
     rw [HE.out, hltk]
    ·intro x hx
     have h0 := (HQ.out x hx).tk hbr (by decide)
     exact ⟨own_weak h0.h (by omega), h0.s⟩
    ·exact ⟨#[], 0, (hall.block w2.heap.size (by omega) (by intro e; injection e with e; omega)).trans HMA3.out, rfl⟩
    ·exact ⟨#[], 0, (hall.block (w2.heap.size + 1) (by omega) (by intro e; injection e with e; omega)).trans HMB3.out, rfl⟩
    ·show World.ownsRow _ _ _ _ (.slice _ (List.replicate p.ks.length false).length nk) (List.replicate p.ks.length false).length (bvB (List.replicate p.ks.length false))
     rw [List.length_replicate, Hkl.out]
     exact own_weak (own_tk HO6.out hb69 (by decide)) HBr.out.size
   ·exact Hbw3.out.grown hall Hbw3.out.size (fun g hg => by cases hg; omega)
theorem ent_l1 : Ent 64 := fun _ _ => by kernel_rfl
theorem ent_l2 : Ent 65 := fun _ _ => by kernel_rfl
section
variable {w : World} {B wb bk : Nat} {y : Wy} {a : WyA}
theorem WyAt.plen (h : WyAt w B wb bk y a) : a.l.length = y.pu.length := by have := congrArg List.length h.pe; simpa using this
theorem WyAt.look (h : WyAt w B wb bk y a) (i k : Int) (hs : spOk (i, k)) : (Instr.lookup 114 (.map (some a.ab)) (.agg #[.int .i64 i, .int .i64 k]) false).run Tryz.prog w = .ok (.int .i64 (y.atI i k)) w := by
 have := look_mapG keysA h.at_ (by intro p hp; obtain ⟨x, hx, rfl⟩ := List.mem_map.1 hp; exact h.atk x hx) (by rw [atV_keys]; exact h.atn) (i, k) hs (z := .int .i64 0) (by kernel_rfl)
 rw [atV_get] at this
 exact this
theorem WyAt.c (h : WyAt w B wb bk y a) : w.cell? ⟨wb, 13, none⟩ = some (.iface 51 (.pointer (some ⟨bk, 0, none⟩))) ∧ w.cell? ⟨wb, 14, none⟩ = some (.slice a.Ap a.l.length a.cp) ∧ w.cell? ⟨wb, 15, none⟩ = some (.map (some a.ab)) ∧ w.cell? ⟨wb, 16, none⟩ = some (.map (some a.ob)) ∧ w.cell? ⟨wb, 17, none⟩ = some (.slice a.Ag y.ag.length a.cg) ∧ w.cell? ⟨wb, 8, none⟩ = some (.slice a.Ak a.nk a.ck) ∧ w.cell? ⟨wb, 11, none⟩ = some (.slice a.An a.nn a.cn) ∧ w.cell? ⟨wb, 12, none⟩ = some (.slice a.Af a.nf a.cf) :=
 ⟨block_cell h.box 13, block_cell h.box 14, block_cell h.box 15, block_cell h.box 16, block_cell h.box 17, block_cell h.box 8, block_cell h.box 11, block_cell h.box 12⟩
set_option maxRecDepth 100000 in
theorem ishop_any (h : WyAt w B wb bk y a) (hop : Int) : Calls Tryz.prog 61 #[.pointer (some ⟨wb, 0, none⟩), .int .i64 hop] w fun e w' => e = .returned (.bool (y.isHop hop)) ∧ w = w' := by
 obtain ⟨_, c14, _⟩ := h.c
 have H : Hid (y.isHop hop = (decide (0 ≤ hop) && decide (hop < (a.l.length : Int)))) := by show _ = _; rw [h.plen]; rfl
 generalize a.l.length = n at *
 cases h1 : decide (0 ≤ hop) with
 | false =>
  rw [h1] at H
  go_enter Tryz.func61, Tryz.ntmps61
  go_wp2
  go_ret
  exact ⟨ret_bool (by rw [H.out]; rfl), rfl⟩
 | true =>
  cases h2 : decide (hop < (n : Int)) with
  | false =>
   rw [h1, h2] at H
   go_enter Tryz.func61, Tryz.ntmps61
   go_wp2
   go_ret
   exact ⟨ret_bool (by rw [H.out]; rfl), rfl⟩
  | true =>
   rw [h1, h2] at H
   go_enter Tryz.func61, Tryz.ntmps61
   go_wp2
   go_ret
   exact ⟨ret_bool (by rw [H.out]; rfl), rfl⟩
set_option maxRecDepth 100000 in
theorem isspot_any (h : WyAt w B wb bk y a) (hop wh : Int) : Calls Tryz.prog 77 #[.pointer (some ⟨wb, 0, none⟩), .int .i64 hop, .int .i64 wh] w fun e w' => e = .returned (.bool (y.isSpot hop wh)) ∧ w = w' := by
 have H : Hid (y.isSpot hop wh = (y.isHop hop && decide (0 ≤ wh) && decide (wh ≤ 1))) := Lib.hid rfl
 have Hh := Lib.hid h
 clear h
 generalize hq : y.isHop hop = q at *
 have Hq := Lib.hid hq
 clear hq
 cases q with
 | false =>
  go_enter Tryz.func77, Tryz.ntmps77
  go_wp2_with (go_at_call 61; refine (ishop_any Hh.out hop).mono ?_; rintro e w1 ⟨he, rfl⟩; rw [Hq.out] at he; subst he)
  go_ret
  exact ⟨ret_bool (by rw [H.out]; rfl), rfl⟩
 | true =>
  cases h1 : decide (0 ≤ wh) with
  | false =>
   rw [h1] at H
   go_enter Tryz.func77, Tryz.ntmps77
   go_wp2_with (go_at_call 61; refine (ishop_any Hh.out hop).mono ?_; rintro e w1 ⟨he, rfl⟩; rw [Hq.out] at he; subst he)
   go_ret
   exact ⟨ret_bool (by rw [H.out]; rfl), rfl⟩
  | true =>
   cases h2 : decide (wh ≤ 1) with
   | false =>
    rw [h1, h2] at H
    go_enter Tryz.func77, Tryz.ntmps77
    go_wp2_with (go_at_call 61; refine (ishop_any Hh.out hop).mono ?_; rintro e w1 ⟨he, rfl⟩; rw [Hq.out] at he; subst he)
    go_ret
    exact ⟨ret_bool (by rw [H.out]; rfl), rfl⟩
   | true =>
    rw [h1, h2] at H
    go_enter Tryz.func77, Tryz.ntmps77
    go_wp2_with (go_at_call 61; refine (ishop_any Hh.out hop).mono ?_; rintro e w1 ⟨he, rfl⟩; rw [Hq.out] at he; subst he)
    go_ret
    exact ⟨ret_bool (by rw [H.out]; rfl), rfl⟩
set_option maxRecDepth 100000 in
set_option maxHeartbeats 2000000 in
theorem behind_any (h : WyAt w B wb bk y a) (hop : Int) (h0 : 0 ≤ hop) (h1 : hop ≤ 100) : Calls Tryz.prog 68 #[.pointer (some ⟨wb, 0, none⟩), .int .i64 hop] w fun e w' => e = .returned (.bool (y.behind hop)) ∧ w = w' := by
 obtain ⟨_, _, c15, _⟩ := h.c
 obtain ⟨n, rfl⟩ := Int.eq_ofNat_of_zero_le h0
 have Hb : Hid (y.behind (n : Int) = (List.range n).any fun i => y.atI i 0 == 0) := Lib.hid rfl
 have Hh := Lib.hid h
 clear h
 go_enter Tryz.func68, Tryz.ntmps68
 go_wp2
 go_loopw [7] (fun i wr => wr = w ∧ ∃ k : Nat, k ≤ n ∧ i = .int .i64 k ∧ Hid (∀ j, j < k → (y.atI (j : Int) 0 == 0) = false)) (fun i _ => n - (RowKit.intOf i).toNat)
 case atStart => exact ⟨rfl, 0, by omega, rfl, Lib.hid (fun j hj => absurd hj (by omega))⟩
 case round =>
  obtain ⟨rfl, k, hk, rfl, HJ⟩ := hrel
  by_cases hlt : k < n
  ·have hd1 : decide ((k : Int) < (n : Int)) = true := decide_eq_true (by omega)
   have hki : (k : Int) < (n : Int) := by omega
   have hl := Hh.out.look (k : Int) 0 ⟨⟨by show (0 : Int) ≤ (k : Int); omega, by show (k : Int) ≤ 100; omega⟩, by show (0 : Int) ≤ 0; omega, by show (0 : Int) ≤ 100; omega⟩
   generalize hv : y.atI (k : Int) 0 = v at *
   have Hv := Lib.hid hv
   clear hv
   cases hq : (v == 0) with
   | true =>
    have Hr : Hid ((List.range n).any (fun i => y.atI i 0 == 0) = true) := Lib.hid (List.any_eq_true.2 ⟨k, by simpa using hlt, by rw [Hv.out]; exact hq⟩)
    go_wp2
    go_ret
    exact ⟨ret_bool (by rw [Hb.out, Hr.out]), rfl⟩
   | false =>
    have Hq := Lib.hid hq
    go_wp2
    go_roundw
    case rel =>
     refine ⟨trivial, k + 1, hlt, by go_num, Lib.hid (fun j hj => ?_)⟩
     rcases Nat.lt_or_ge j k with h1 | h1
     ·exact HJ.out j h1
     ·obtain rfl : j = k := by omega
      rw [Hv.out]; exact Hq.out
    case measure => simp [RowKit.intOf]; omega
  ·have hkn : k = n := by omega
   subst hkn
   have hd1 : decide ((k : Int) < (k : Int)) = false := decide_eq_false (by omega)
   have Hr : Hid ((List.range k).any (fun i => y.atI i 0 == 0) = false) := Lib.hid (by
    rw [List.any_eq_false]
    intro j hj
    rw [HJ.out j (by simpa using hj)]; simp)
   clear hlt
   go_wp2
   go_ret
   exact ⟨ret_bool (by rw [Hb.out, Hr.out]), rfl⟩
end
section
variable {w : World} {B wb bk : Nat} {y : Wy} {a : WyA} {cW cH cN : Nat} {hop now : Int}
set_option maxRecDepth 100000 in
theorem l1_any (h : WyAt w B wb bk y a) (hW : w.cell? ⟨cW, 0, none⟩ = some (.pointer (some ⟨wb, 0, none⟩))) (hH : w.cell? ⟨cH, 0, none⟩ = some (.int .i64 hop)) :
  Calls Tryz.prog 64 #[.pointer (some ⟨cW, 0, none⟩), .pointer (some ⟨cH, 0, none⟩)] w fun e w' => e = .returned (.bool (y.isHop hop)) ∧ w = w' := by
 go_enter Tryz.func64, Tryz.ntmps64
 go_wp2_with (go_at_call 61; refine (ishop_any h hop).mono ?_; rintro e w1 ⟨rfl, rfl⟩)
 go_ret
 exact ⟨rfl, rfl⟩
set_option maxRecDepth 100000 in
theorem l2_any (hN : w.cell? ⟨cN, 0, none⟩ = some (.int .i64 now)) :
  Calls Tryz.prog 65 #[.pointer (some ⟨cN, 0, none⟩)] w fun e w' => e = .returned (.bool (far now)) ∧ w = w' := by
 go_enter Tryz.func65, Tryz.ntmps65
 go_wp2_with (go_at_call 52; refine (height_any now w).mono ?_; rintro e w1 ⟨rfl, rfl⟩)
 go_ret
 exact ⟨rfl, rfl⟩
set_option maxRecDepth 100000 in
theorem l4_any (h : WyAt w B wb bk y a) (hW : w.cell? ⟨cW, 0, none⟩ = some (.pointer (some ⟨wb, 0, none⟩))) (hH : w.cell? ⟨cH, 0, none⟩ = some (.int .i64 hop)) (h0 : 0 ≤ hop) (h1 : hop ≤ 100) :
  Calls Tryz.prog 67 #[.pointer (some ⟨cW, 0, none⟩), .pointer (some ⟨cH, 0, none⟩)] w fun e w' => e = .returned (.bool (!(y.behind hop))) ∧ w = w' := by
 go_enter Tryz.func67, Tryz.ntmps67
 go_wp2_with (go_at_call 68; refine (behind_any h hop h0 h1).mono ?_; rintro e w1 ⟨rfl, rfl⟩)
 go_ret
 exact ⟨rfl, rfl⟩
set_option maxRecDepth 100000 in
set_option maxHeartbeats 2000000 in
theorem l3_any (h : WyAt w B wb bk y a) (hW : w.cell? ⟨cW, 0, none⟩ = some (.pointer (some ⟨wb, 0, none⟩))) (hH : w.cell? ⟨cH, 0, none⟩ = some (.int .i64 hop)) (h0 : 0 ≤ hop) (h1 : hop ≤ 100) :
  Calls Tryz.prog 66 #[.pointer (some ⟨cW, 0, none⟩), .pointer (some ⟨cH, 0, none⟩)] w fun e w' => e = .returned (.bool (decide (y.atI hop 0 = 0 ∧ y.atI hop 1 = 0))) ∧ Below w.heap.size w w' := by
 have hd := h.below (Below.refl w.heap.size w).drew
 obtain ⟨_, _, c15, _⟩ := hd.c
 have k0 := hd.look hop 0 ⟨⟨h0, h1⟩, by show (0 : Int) ≤ 0; omega, by show (0 : Int) ≤ 100; omega⟩
 have k1 := hd.look hop 1 ⟨⟨h0, h1⟩, by show (0 : Int) ≤ 1; omega, by show (1 : Int) ≤ 100; omega⟩
 clear h hd
 generalize hv : y.atI hop 0 = v at *
 generalize hu : y.atI hop 1 = u at *
 clear hv hu
 cases q0 : (v == 0) with
 | false =>
  have Hr : Hid (decide (v = 0 ∧ u = 0) = false) := Lib.hid (decide_eq_false (fun e => by simp [e.1] at q0))
  go_enter Tryz.func66, Tryz.ntmps66
  go_wp2
  go_region
  all_goals
   go_wp2
   go_ret
   exact ⟨ret_bool (by rw [Hr.out]), (Below.refl _ _).drew⟩
 | true =>
  cases q1 : (u == 0) with
  | false =>
   have Hr : Hid (decide (v = 0 ∧ u = 0) = false) := Lib.hid (decide_eq_false (fun e => by simp [e.2] at q1))
   go_enter Tryz.func66, Tryz.ntmps66
   go_wp2
   go_region
   all_goals
    go_wp2
    go_ret
    exact ⟨ret_bool (by rw [Hr.out]), (Below.refl _ _).drew⟩
  | true =>
   have Hr : Hid (decide (v = 0 ∧ u = 0) = true) := Lib.hid (decide_eq_true ⟨by simpa using q0, by simpa using q1⟩)
   go_enter Tryz.func66, Tryz.ntmps66
   go_wp2
   go_region
   all_goals
    go_wp2
    go_ret
    exact ⟨ret_bool (by rw [Hr.out]), (Below.refl _ _).drew⟩
set_option maxRecDepth 100000 in
set_option maxHeartbeats 2000000 in
theorem l5_any (h : WyAt w B wb bk y a) (hW : w.cell? ⟨cW, 0, none⟩ = some (.pointer (some ⟨wb, 0, none⟩))) (hN : w.cell? ⟨cN, 0, none⟩ = some (.int .i64 now)) (k : Nat) (hH : w.cell? ⟨cH, 0, none⟩ = some (.int .i64 k)) (h1 : k < a.nn) (h2 : k < a.nf) :
  Calls Tryz.prog 69 #[.pointer (some ⟨cN, 0, none⟩), .pointer (some ⟨cW, 0, none⟩), .pointer (some ⟨cH, 0, none⟩)] w fun e w' => e = .returned (.bool (decide (now ≤ y.pl.nr.getD k 0 ∧ now ≤ y.pl.fr.getD k 0))) ∧ Below w.heap.size w w' := by
 have hd := h.below (Below.refl w.heap.size w).drew
 obtain ⟨_, _, _, _, _, _, c11, c12⟩ := hd.c
 obtain ⟨b, o, e1, hb, x0⟩ := hd.pl.at_.n.iat h1
 obtain ⟨b', o', e2, hb', x1⟩ := hd.pl.at_.f.iat h2
 have g1 : (k : Int) < (a.nn : Int) := by omega
 have g2 : (k : Int) < (a.nf : Int) := by omega
 clear h hd
 generalize a.An = An at *
 generalize a.Af = Af at *
 generalize a.nn = nn at *
 generalize a.nf = nf at *
 generalize a.cn = cn at *
 generalize a.cf = cf at *
 subst e1 e2
 generalize y.pl.nr.getD k 0 = v at *
 generalize y.pl.fr.getD k 0 = u at *
 by_cases q0 : now ≤ v
 ·by_cases q1 : now ≤ u
  ·have b0 : decide (now ≤ v) = true := decide_eq_true q0
   have b1 : decide (now ≤ u) = true := decide_eq_true q1
   have Hr : Hid (decide (now ≤ v ∧ now ≤ u) = true) := Lib.hid (decide_eq_true ⟨q0, q1⟩)
   clear q0 q1
   go_enter Tryz.func69, Tryz.ntmps69
   go_wp2
   go_region
   all_goals
    go_wp2
    go_ret
    exact ⟨ret_bool (by rw [Hr.out]), (Below.refl _ _).drew⟩
  ·have b0 : decide (now ≤ v) = true := decide_eq_true q0
   have b1 : decide (now ≤ u) = false := decide_eq_false q1
   have Hr : Hid (decide (now ≤ v ∧ now ≤ u) = false) := Lib.hid (decide_eq_false (fun e => q1 e.2))
   clear q0 q1
   go_enter Tryz.func69, Tryz.ntmps69
   go_wp2
   go_region
   all_goals
    go_wp2
    go_ret
    exact ⟨ret_bool (by rw [Hr.out]), (Below.refl _ _).drew⟩
 ·have b0 : decide (now ≤ v) = false := decide_eq_false q0
  have Hr : Hid (decide (now ≤ v ∧ now ≤ u) = false) := Lib.hid (decide_eq_false (fun e => q0 e.1))
  clear q0
  go_enter Tryz.func69, Tryz.ntmps69
  go_wp2
  go_region
  all_goals
   go_wp2
   go_ret
   exact ⟨ret_bool (by rw [Hr.out]), (Below.refl _ _).drew⟩
end
theorem check0 {p : Pl} {wn : Int} (h : p.check wn = 0) : PlH p wn ∧ ∀ k, 1 ≤ k → k < p.ks.length - 1 → gapB p wn k = false := by
 have h1 : winB wn = true := by cases hq : winB wn with | true => rfl | false => rw [plc_win hq] at h; cases h
 have h2 : manyB p.ks.length = true := by cases hq : manyB p.ks.length with | true => rfl | false => rw [plc_many h1 hq] at h; cases h
 have h3 : ∀ k, k < p.ks.length → dupK p.ks k = false := fun k hk => by cases hq : dupK p.ks k with | false => rfl | true => rw [plc_dup h1 h2 hk hq] at h; cases h
 have K := PlK.of h1 h2 h3
 have h4 : (stkB p.s0 && stkB p.s1) = true := by cases hq : (stkB p.s0 && stkB p.s1) with | true => rfl | false => rw [plc_stk K hq] at h; cases h
 have h5 : p.nr.length = p.ks.length - 1 ∧ p.fr.length = p.ks.length - 1 := Decidable.by_contra fun hq => by rw [plc_len K h4 hq] at h; cases h
 have L : PlL p wn := ⟨K, h4, h5⟩
 have h6 : ∀ k, k < p.ks.length - 1 → (far (p.nr.getD k 0) && far (p.fr.getD k 0)) = true := fun k hk => by cases hq : (far (p.nr.getD k 0) && far (p.fr.getD k 0)) with | true => rfl | false => rw [plc_hgt L hk hq] at h; cases h
 have HH : PlH p wn := ⟨L, h6⟩
 exact ⟨HH, fun k h1 hk => by cases hq : gapB p wn k with | false => rfl | true => rw [plc_gap HH h1 hk hq] at h; cases h⟩
structure Pl.Ok (p : Pl) : Prop where
 tb : p.tb.ok
 ko : ∀ d ∈ p.ks, d.ok
 k2 : 2 ≤ p.ks.length
 k8 : p.ks.length ≤ 8
 ln : p.nr.length = p.ks.length - 1
 lf : p.fr.length = p.ks.length - 1
 s0 : 1 ≤ p.s0 ∧ p.s0 ≤ 562949953421312
 s1 : 1 ≤ p.s1 ∧ p.s1 ≤ 562949953421312
 hn : ∀ k, k < p.ks.length - 1 → 0 ≤ p.nr.getD k 0 ∧ p.nr.getD k 0 ≤ 1099511627776
 hf : ∀ k, k < p.ks.length - 1 → 0 ≤ p.fr.getD k 0 ∧ p.fr.getD k 0 ≤ 1099511627776
theorem Pl.Ok.of {p : Pl} {wn : Int} (h : p.check wn = 0) (ht : p.tb.ok) (hk : ∀ d ∈ p.ks, d.ok) : p.Ok := by
 obtain ⟨H, _⟩ := check0 h
 have h2 := H.m; have h3 := H.s
 simp only [manyB, stkB, Bool.and_eq_true, decide_eq_true_eq] at h2 h3
 refine ⟨ht, hk, h2.1, h2.2, H.l.1, H.l.2, h3.1, h3.2, fun k hk => ?_, fun k hk => ?_⟩
 ·have := H.h k hk
  simp only [Bool.and_eq_true, far_iff] at this
  exact this.1
 ·have := H.h k hk
  simp only [Bool.and_eq_true, far_iff] at this
  exact this.2
theorem getD_mem8 {l : List D8} {k : Nat} (h : k < l.length) : l.getD k dz8 ∈ l := by
 rw [List.getD_eq_getElem?_getD, List.getElem?_eq_getElem h]; exact List.getElem_mem h
theorem Pl.Ok.good {p : Pl} (h : p.Ok) {hop : Nat} (hh : hop + 1 < p.ks.length) {wh : Int} (hw : wh = 0 ∨ wh = 1) : (p.lock hop wh).good := by
 have h1 := h.s0; have h2 := h.s1; have h3 := h.hn hop (by omega); have h4 := h.hf hop (by omega)
 rcases hw with rfl | rfl
 ·exact ⟨rfl, ⟨h1.1, by show p.s0 ≤ _; omega⟩, h3, rfl, .inl rfl⟩
 ·exact ⟨rfl, ⟨h2.1, by show p.s1 ≤ _; omega⟩, h4, rfl, .inr rfl⟩
theorem Pl.Ok.keys {p : Pl} (h : p.Ok) (hop : Nat) (wh : Int) : ∀ d ∈ (p.lock hop wh).ks, d.ok := fun d hd => by
 have := h.k2
 simp only [Pl.lock, List.mem_cons, List.not_mem_nil, or_false] at hd
 rcases hd with rfl | rfl
 ·exact h.ko _ (getD_mem8 (by omega))
 ·exact h.ko _ (getD_mem8 (by omega))
theorem Pl.Ok.fit {p : Pl} (h : p.Ok) {hop : Nat} (hh : hop + 1 < p.ks.length) {wh : Int} (hw : wh = 0 ∨ wh = 1) : (p.lock hop wh).fit := by
 have g := h.good hh hw
 refine ⟨⟨by rw [g.k]; omega, by rw [g.k]; omega⟩, by rcases g.s with e | e <;> rw [e] <;> omega, ⟨by have := g.c; omega, g.c.2⟩, by rw [g.n]; omega, h.tb, h.keys hop wh⟩
section
variable {P : Program} {ops : Array Oper} {rest : List Oper} {o : Oper} {a : Act} {w : World} {Q : Exit → Act → World → Prop}
theorem wpList_run (V : Value) (w' : World) (hw : Region.wanted o (yielded ops a.tmps) = true) (hrun : (execOp a.eval o).run P w = .ok (.value V) w') (h : wpList P ops Q rest (a.put o.dst V) w') : wpList P ops Q (o :: rest) a w := by
 unfold wpList
 rw [if_pos hw]
 left
 unfold Oper.wp
 rw [hrun]
 exact h
end
theorem own_away {w : World} {b s n g : Nat} {e : TypeId} {v : Value} {x : List Value} (h : w.ownsRow b e s v n x) (hg : g < b) : v.ownBlock = none ∨ v.ownBlock ≠ some g := by
 cases hv : v.ownBlock with
 | none => exact .inl rfl
 | some z => exact .inr (fun e => by injection e with e; have := (h.lt z hv).1; omega)
section
variable {w : World} {B wb bk : Nat} {y : Wy} {a : WyA} {cW cH cX : Nat}
set_option maxRecDepth 100000 in
set_option maxHeartbeats 4000000 in
theorem whold_any (h : WyAt w B wb bk y a) (hok : y.pl.Ok) (p : Pu) (A : Option Addr) (n c : Nat) (hop : Nat) (wh : Int) (hp : PuV.At p A n c w) (hh : hop + 1 < y.pl.ks.length) (hw : wh = 0 ∨ wh = 1) :
  Calls Tryz.prog 71 #[.pointer (some ⟨wb, 0, none⟩), .agg #[.int .u8 p.nm.x0, .int .u8 p.nm.x1, .int .u8 p.nm.x2, .int .u8 p.nm.x3, .int .u8 p.nm.x4, .int .u8 p.nm.x5, .int .u8 p.nm.x6, .int .u8 p.nm.x7, .int .i64 p.no, .int .i64 p.h0, .int .i64 p.h1, .slice A n c], .int .i64 hop, .int .i64 wh] w (GivesCh (p.hold (y.pl.heldOf hop wh)) w) := by
 have HX0 : Hid (((w.alloc (.cells #[.int .u8 p.nm.x0, .int .u8 p.nm.x1, .int .u8 p.nm.x2, .int .u8 p.nm.x3, .int .u8 p.nm.x4, .int .u8 p.nm.x5, .int .u8 p.nm.x6, .int .u8 p.nm.x7, .int .i64 p.no, .int .i64 p.h0, .int .i64 p.h1, .slice A n c] 85)).alloc (.cells #[.int .u8 0, .int .u8 0, .int .u8 0, .int .u8 0, .int .u8 0, .int .u8 0, .int .u8 0, .int .u8 0, .int .i64 0, .int .i64 0, .int .i64 0, .slice none 0 0] 85)).heap[w.heap.size]? = some (.cells #[.int .u8 p.nm.x0, .int .u8 p.nm.x1, .int .u8 p.nm.x2, .int .u8 p.nm.x3, .int .u8 p.nm.x4, .int .u8 p.nm.x5, .int .u8 p.nm.x6, .int .u8 p.nm.x7, .int .i64 p.no, .int .i64 p.h0, .int .i64 p.h1, .slice A n c] 85 (0, 0))) := block_alloc (heap_alloc_new _ _) _
 have HY0 : Hid (((w.alloc (.cells #[.int .u8 p.nm.x0, .int .u8 p.nm.x1, .int .u8 p.nm.x2, .int .u8 p.nm.x3, .int .u8 p.nm.x4, .int .u8 p.nm.x5, .int .u8 p.nm.x6, .int .u8 p.nm.x7, .int .i64 p.no, .int .i64 p.h0, .int .i64 p.h1, .slice A n c] 85)).alloc (.cells #[.int .u8 0, .int .u8 0, .int .u8 0, .int .u8 0, .int .u8 0, .int .u8 0, .int .u8 0, .int .u8 0, .int .i64 0, .int .i64 0, .int .i64 0, .slice none 0 0] 85)).heap[w.heap.size + 1]? = some (.cells #[.int .u8 0, .int .u8 0, .int .u8 0, .int .u8 0, .int .u8 0, .int .u8 0, .int .u8 0, .int .u8 0, .int .i64 0, .int .i64 0, .int .i64 0, .slice none 0 0] 85 (0, 0))) := alloc_at (by simp)
 have Hb0 : Hid (Below w.heap.size w ((w.alloc (.cells #[.int .u8 p.nm.x0, .int .u8 p.nm.x1, .int .u8 p.nm.x2, .int .u8 p.nm.x3, .int .u8 p.nm.x4, .int .u8 p.nm.x5, .int .u8 p.nm.x6, .int .u8 p.nm.x7, .int .i64 p.no, .int .i64 p.h0, .int .i64 p.h1, .slice A n c] 85)).alloc (.cells #[.int .u8 0, .int .u8 0, .int .u8 0, .int .u8 0, .int .u8 0, .int .u8 0, .int .u8 0, .int .u8 0, .int .i64 0, .int .i64 0, .int .i64 0, .slice none 0 0] 85))) := below_two _ _ _
 have H := Lib.hid h; have HP := Lib.hid hp
 have hkl := h.pl.at_.k.dlenD; have hln := h.pl.at_.n.ilen; have hlf := h.pl.at_.f.ilen
 have q1 : hop + 1 < a.nk := by omega
 have q2 : hop < a.nn := by have := hok.ln; omega
 have q3 : hop < a.nf := by have := hok.lf; omega
 have HF := Lib.hid (hok.fit hh hw)
 have HHe : Hid (y.pl.heldOf hop wh = ⟨(y.pl.lock hop wh).name, (y.pl.lock hop wh).cp, wh, (y.pl.lock hop wh).un⟩) := Lib.hid rfl
 clear h hp hkl hln hlf
 go_enter Tryz.func71, Tryz.ntmps71
 go_upto_region 1 with fail
 generalize (w.alloc (.cells #[.int .u8 p.nm.x0, .int .u8 p.nm.x1, .int .u8 p.nm.x2, .int .u8 p.nm.x3, .int .u8 p.nm.x4, .int .u8 p.nm.x5, .int .u8 p.nm.x6, .int .u8 p.nm.x7, .int .i64 p.no, .int .i64 p.h0, .int .i64 p.h1, .slice A n c] 85)).alloc (.cells #[.int .u8 0, .int .u8 0, .int .u8 0, .int .u8 0, .int .u8 0, .int .u8 0, .int .u8 0, .int .u8 0, .int .i64 0, .int .i64 0, .int .i64 0, .slice none 0 0] 85) = w0 at *
 have H0 := Lib.hid (H.out.below Hb0.out)
 refine wp_region_list ?_
 refine wpList_value (.pointer (some ⟨wb, 0, none⟩)) (by kernel_rfl) (by kernel_rfl) ?_
 simp only [Act.put, sT]
 refine wpList_value (.pointer (some ⟨wb, 0, none⟩)) (by kernel_rfl) (by kernel_rfl) ?_
 simp only [Act.put, sT]
 refine wpList_value (.pointer (some ⟨wb, 0, none⟩)) (by kernel_rfl) (by kernel_rfl) ?_
 simp only [Act.put, sT]
 refine wpList_load_mid (by rfl) 32 _ (by rfl) wb 0 (by rfl) [.int .u8 y.pl.tb.x0, .int .u8 y.pl.tb.x1, .int .u8 y.pl.tb.x2, .int .u8 y.pl.tb.x3, .int .u8 y.pl.tb.x4, .int .u8 y.pl.tb.x5, .int .u8 y.pl.tb.x6, .int .u8 y.pl.tb.x7, .slice a.Ak a.nk a.ck, .int .i64 y.pl.s0, .int .i64 y.pl.s1, .slice a.An a.nn a.cn, .slice a.Af a.nf a.cf] _ (range_front H0.out.box 13 rfl) Tryz.underlying32 rfl (by kernel_rfl) ?_
 simp only [Act.put, sT]
 refine wpList_value (.int .i64 hop) (by kernel_rfl) (by kernel_rfl) ?_
 simp only [Act.put, sT]
 refine wpList_value (.int .i64 wh) (by kernel_rfl) (by kernel_rfl) ?_
 simp only [Act.put, sT]
 refine wpList_plain (by rfl) (fun K hK => ?_)
 go_simp
 go_at_call 16
 refine (pllock_ok y.pl _ _ _ _ _ _ _ _ _ hop wh w0 H0.out.pl.at_ q1 q2 q3 hw).mono ?_
 rintro e w1 ⟨A1, n1, c1, rfl, hr1, hn1, hb1⟩
 have HR1 := Lib.hid hr1
 have HX1 := Lib.hid (block_below HX0.out hb1 (block_lt HX0.out)); have HY1 := Lib.hid (block_below HY0.out hb1 (block_lt HY0.out)); have Hb1 := Lib.hid (Hb0.out.trans (hb1.mono Hb0.out.size))
 clear hr1 hn1 hb1
 generalize y.pl.lock hop wh = l at *
 refine hK _ _ ?_
 clear hK K
 try simp only [Act.put, sT]
 refine wpList_value (.tuple #[.agg #[.int .i64 l.kd, .int .u8 l.hs.x0, .int .u8 l.hs.x1, .int .u8 l.hs.x2, .int .u8 l.hs.x3, .int .u8 l.hs.x4, .int .u8 l.hs.x5, .int .u8 l.hs.x6, .int .u8 l.hs.x7, .slice A1 n1 c1, .int .i64 l.st, .int .i64 l.cp, .int .i64 l.un], .int .i64 0]) (by kernel_rfl) (by kernel_rfl) ?_
 simp only [Act.put, sT]
 refine wpList_value (.agg #[.int .i64 l.kd, .int .u8 l.hs.x0, .int .u8 l.hs.x1, .int .u8 l.hs.x2, .int .u8 l.hs.x3, .int .u8 l.hs.x4, .int .u8 l.hs.x5, .int .u8 l.hs.x6, .int .u8 l.hs.x7, .slice A1 n1 c1, .int .i64 l.st, .int .i64 l.cp, .int .i64 l.un]) (by kernel_rfl) (by kernel_rfl) ?_
 simp only [Act.put, sT]
 refine wpList_value (.int .i64 0) (by kernel_rfl) (by kernel_rfl) ?_
 simp only [Act.put, sT]
 refine wpList_run (.pointer (some ⟨(w1).heap.size, 0, none⟩)) ((w1).alloc (.cells #[.int .i64 0, .int .u8 0, .int .u8 0, .int .u8 0, .int .u8 0, .int .u8 0, .int .u8 0, .int .u8 0, .int .u8 0, .slice none 0 0, .int .i64 0, .int .i64 0, .int .i64 0] 40)) (by kernel_rfl) (by kernel_rfl) ?_
 simp only [Act.put, sT]
 have hl1 := heap_alloc_new w1 (.cells #[.int .i64 0, .int .u8 0, .int .u8 0, .int .u8 0, .int .u8 0, .int .u8 0, .int .u8 0, .int .u8 0, .int .u8 0, .slice none 0 0, .int .i64 0, .int .i64 0, .int .i64 0] 40)
 have HX2 := Lib.hid (block_alloc HX1.out (.cells #[.int .i64 0, .int .u8 0, .int .u8 0, .int .u8 0, .int .u8 0, .int .u8 0, .int .u8 0, .int .u8 0, .int .u8 0, .slice none 0 0, .int .i64 0, .int .i64 0, .int .i64 0] 40)); have HY2 := Lib.hid (block_alloc HY1.out (.cells #[.int .i64 0, .int .u8 0, .int .u8 0, .int .u8 0, .int .u8 0, .int .u8 0, .int .u8 0, .int .u8 0, .int .u8 0, .slice none 0 0, .int .i64 0, .int .i64 0, .int .i64 0] 40))
 have Hb2 := Lib.hid (Hb1.out.alloc Hb1.out.size (.cells #[.int .i64 0, .int .u8 0, .int .u8 0, .int .u8 0, .int .u8 0, .int .u8 0, .int .u8 0, .int .u8 0, .int .u8 0, .slice none 0 0, .int .i64 0, .int .i64 0, .int .i64 0] 40))
 have HR2 := Lib.hid (HR1.out.below (below_one w1 (.cells #[.int .i64 0, .int .u8 0, .int .u8 0, .int .u8 0, .int .u8 0, .int .u8 0, .int .u8 0, .int .u8 0, .int .u8 0, .slice none 0 0, .int .i64 0, .int .i64 0, .int .i64 0] 40)) (Nat.le_refl _))
 have hz2 := HX1.out
 have hlx := block_lt HX1.out; have hly := block_lt HY1.out
 have hz3 : w1.heap.size < (w1.alloc (.cells #[.int .i64 0, .int .u8 0, .int .u8 0, .int .u8 0, .int .u8 0, .int .u8 0, .int .u8 0, .int .u8 0, .int .u8 0, .slice none 0 0, .int .i64 0, .int .i64 0, .int .i64 0] 40)).heap.size := by simp
 clear hz2
 generalize w1.alloc (.cells #[.int .i64 0, .int .u8 0, .int .u8 0, .int .u8 0, .int .u8 0, .int .u8 0, .int .u8 0, .int .u8 0, .int .u8 0, .slice none 0 0, .int .i64 0, .int .i64 0, .int .i64 0] 40) = w2 at *
 have HL2 := Lib.hid hl1
 clear hl1
 refine wpList_store_mid (by rfl) 40 _ _ (by rfl) (w1.heap.size) 0 #[.int .i64 l.kd, .int .u8 l.hs.x0, .int .u8 l.hs.x1, .int .u8 l.hs.x2, .int .u8 l.hs.x3, .int .u8 l.hs.x4, .int .u8 l.hs.x5, .int .u8 l.hs.x6, .int .u8 l.hs.x7, .slice A1 n1 c1, .int .i64 l.st, .int .i64 l.cp, .int .i64 l.un] (by rfl) (by rfl) (there_mid HL2.out (by simp)) (by kernel_rfl) (by kernel_rfl) ?_
 obtain ⟨s1', s2'⟩ := set_all HL2.out [.int .i64 l.kd, .int .u8 l.hs.x0, .int .u8 l.hs.x1, .int .u8 l.hs.x2, .int .u8 l.hs.x3, .int .u8 l.hs.x4, .int .u8 l.hs.x5, .int .u8 l.hs.x6, .int .u8 l.hs.x7, .slice A1 n1 c1, .int .i64 l.st, .int .i64 l.cp, .int .i64 l.un] rfl
 have HS1 := Lib.hid s1'; have HS2 := Lib.hid s2'
 clear s1' s2'
 dsimp only
 generalize World.setCells _ _ _ [.int .i64 l.kd, .int .u8 l.hs.x0, .int .u8 l.hs.x1, .int .u8 l.hs.x2, .int .u8 l.hs.x3, .int .u8 l.hs.x4, .int .u8 l.hs.x5, .int .u8 l.hs.x6, .int .u8 l.hs.x7, .slice A1 n1 c1, .int .i64 l.st, .int .i64 l.cp, .int .i64 l.un] = w3 at *
 refine wpList_value (.int .i64 0) (by kernel_rfl) (by kernel_rfl) ?_
 simp only [Act.put, sT]
 have HX3 := Lib.hid (block_grown HX2.out HS2.out (by simp; omega)); have HY3 := Lib.hid (block_grown HY2.out HS2.out (by simp; omega))
 have Hb3 := Lib.hid (Hb2.out.grown HS2.out Hb2.out.size (fun k hk => by cases hk; omega))
 have hb23 : Below w1.heap.size w2 w3 := (Below.refl w1.heap.size w2).grown HS2.out (by omega) (fun k hk => by cases hk; omega)
 have hz23 := hb23.size
 have HR3 : Hid (Rd w3 w3.heap.size 8 A1 n1 (flatD l.ks)) := Lib.hid ((HR2.out.below hb23 (Nat.le_refl _)).more (by omega))
 have HP3 := Lib.hid (HP.out.up Hb3.out)
 have HL3 := HS1
 have hzx : w1.heap.size < w3.heap.size := by omega
 clear hb23 HR1 HR2 HX1 HX2 HY1 HY2 HL2 HS1 HS2 H0 HX0 HY0
 go_upto_region 4 with fail
 have hSa : ∀ w', Below w3.heap.size w3 w' → w'.heap[w.heap.size]? = some (.cells #[.int .u8 p.nm.x0, .int .u8 p.nm.x1, .int .u8 p.nm.x2, .int .u8 p.nm.x3, .int .u8 p.nm.x4, .int .u8 p.nm.x5, .int .u8 p.nm.x6, .int .u8 p.nm.x7, .int .i64 p.no, .int .i64 p.h0, .int .i64 p.h1, .slice A n c] 85 (0, 0)) := fun w' hw' => block_below HX3.out hw' (by omega)
 have hSb : ∀ w', Below w3.heap.size w3 w' → w'.heap[w1.heap.size]? = some (.cells #[.int .i64 l.kd, .int .u8 l.hs.x0, .int .u8 l.hs.x1, .int .u8 l.hs.x2, .int .u8 l.hs.x3, .int .u8 l.hs.x4, .int .u8 l.hs.x5, .int .u8 l.hs.x6, .int .u8 l.hs.x7, .slice A1 n1 c1, .int .i64 l.st, .int .i64 l.cp, .int .i64 l.un] 40 (0, 0)) := fun w' hw' => block_below HL3.out hw' (by omega)
 have c11 : ∀ w' : World, (w'.heap[w.heap.size]? = some (.cells #[.int .u8 p.nm.x0, .int .u8 p.nm.x1, .int .u8 p.nm.x2, .int .u8 p.nm.x3, .int .u8 p.nm.x4, .int .u8 p.nm.x5, .int .u8 p.nm.x6, .int .u8 p.nm.x7, .int .i64 p.no, .int .i64 p.h0, .int .i64 p.h1, .slice A n c] 85 (0, 0)) ∧ w'.heap[w1.heap.size]? = some (.cells #[.int .i64 l.kd, .int .u8 l.hs.x0, .int .u8 l.hs.x1, .int .u8 l.hs.x2, .int .u8 l.hs.x3, .int .u8 l.hs.x4, .int .u8 l.hs.x5, .int .u8 l.hs.x6, .int .u8 l.hs.x7, .slice A1 n1 c1, .int .i64 l.st, .int .i64 l.cp, .int .i64 l.un] 40 (0, 0))) → w'.cell? ⟨w1.heap.size, 11, none⟩ = some (.int .i64 l.cp) := fun w' hw' => by have := block_cell hw'.2 11; simpa using this
 have c12 : ∀ w' : World, (w'.heap[w.heap.size]? = some (.cells #[.int .u8 p.nm.x0, .int .u8 p.nm.x1, .int .u8 p.nm.x2, .int .u8 p.nm.x3, .int .u8 p.nm.x4, .int .u8 p.nm.x5, .int .u8 p.nm.x6, .int .u8 p.nm.x7, .int .i64 p.no, .int .i64 p.h0, .int .i64 p.h1, .slice A n c] 85 (0, 0)) ∧ w'.heap[w1.heap.size]? = some (.cells #[.int .i64 l.kd, .int .u8 l.hs.x0, .int .u8 l.hs.x1, .int .u8 l.hs.x2, .int .u8 l.hs.x3, .int .u8 l.hs.x4, .int .u8 l.hs.x5, .int .u8 l.hs.x6, .int .u8 l.hs.x7, .slice A1 n1 c1, .int .i64 l.st, .int .i64 l.cp, .int .i64 l.un] 40 (0, 0))) → w'.cell? ⟨w1.heap.size, 12, none⟩ = some (.int .i64 l.un) := fun w' hw' => by have := block_cell hw'.2 12; simpa using this
 have HSa := Lib.hid hSa; have HSb := Lib.hid hSb
 clear hSa hSb
 refine wp_region_held_drew (S := fun w' => w'.heap[w.heap.size]? = some (.cells #[.int .u8 p.nm.x0, .int .u8 p.nm.x1, .int .u8 p.nm.x2, .int .u8 p.nm.x3, .int .u8 p.nm.x4, .int .u8 p.nm.x5, .int .u8 p.nm.x6, .int .u8 p.nm.x7, .int .i64 p.no, .int .i64 p.h0, .int .i64 p.h1, .slice A n c] 85 (0, 0)) ∧ w'.heap[w1.heap.size]? = some (.cells #[.int .i64 l.kd, .int .u8 l.hs.x0, .int .u8 l.hs.x1, .int .u8 l.hs.x2, .int .u8 l.hs.x3, .int .u8 l.hs.x4, .int .u8 l.hs.x5, .int .u8 l.hs.x6, .int .u8 l.hs.x7, .slice A1 n1 c1, .int .i64 l.st, .int .i64 l.cp, .int .i64 l.un] 40 (0, 0))) (by kernel_rfl) ⟨HX3.out, HL3.out⟩ (fun hHeld => ?_)
 refine takeK 0 (some 26) (v := .agg ([.int .u8 p.nm.x0, .int .u8 p.nm.x1, .int .u8 p.nm.x2, .int .u8 p.nm.x3, .int .u8 p.nm.x4, .int .u8 p.nm.x5, .int .u8 p.nm.x6, .int .u8 p.nm.x7, .int .i64 p.no, .int .i64 p.h0, .int .i64 p.h1, .slice A n c] : List Value).toArray) rfl (by kernel_rfl) (by kernel_rfl) (fun _ _ _ => id) (yieldsIf_load_mid (by kernel_rfl) 85 _ (by rfl) (w.heap.size) (0) (by rfl) [.int .u8 p.nm.x0, .int .u8 p.nm.x1, .int .u8 p.nm.x2, .int .u8 p.nm.x3, .int .u8 p.nm.x4, .int .u8 p.nm.x5, .int .u8 p.nm.x6, .int .u8 p.nm.x7, .int .i64 p.no, .int .i64 p.h0, .int .i64 p.h1, .slice A n c] _ (fun w' hw' => range_all hw'.1) Tryz.underlying85 rfl (by kernel_rfl)) (by assumption) ?_
 simp only [Act.put, sT]
 refine takeK 1 (some 27) (v := .agg ([.int .i64 l.kd, .int .u8 l.hs.x0, .int .u8 l.hs.x1, .int .u8 l.hs.x2, .int .u8 l.hs.x3, .int .u8 l.hs.x4, .int .u8 l.hs.x5, .int .u8 l.hs.x6, .int .u8 l.hs.x7, .slice A1 n1 c1, .int .i64 l.st, .int .i64 l.cp, .int .i64 l.un] : List Value).toArray) rfl (by kernel_rfl) (by kernel_rfl) (fun _ _ _ => id) (yieldsIf_load_mid (by kernel_rfl) 40 _ (by rfl) (w1.heap.size) (0) (by rfl) [.int .i64 l.kd, .int .u8 l.hs.x0, .int .u8 l.hs.x1, .int .u8 l.hs.x2, .int .u8 l.hs.x3, .int .u8 l.hs.x4, .int .u8 l.hs.x5, .int .u8 l.hs.x6, .int .u8 l.hs.x7, .slice A1 n1 c1, .int .i64 l.st, .int .i64 l.cp, .int .i64 l.un] _ (fun w' hw' => range_all hw'.2) Tryz.underlying40 rfl (by kernel_rfl)) (by assumption) ?_
 simp only [Act.put, sT]
 refine takP 3 29 ?_ rfl (by kernel_rfl) (fun _ _ _ => id) ?hy (by assumption) ?_
 case hy => intro w' h; clear h; go_simp; try with_reducible rfl
 simp only [Act.put, sT]
 refine takP 4 30 ?_ rfl (by kernel_rfl) (fun _ _ _ => id) ?hy (by assumption) ?_
 case hy => intro w' h; have hx := c11 w' h; clear h; go_simp; try with_reducible rfl
 simp only [Act.put, sT]
 refine takP 5 31 ?_ rfl (by kernel_rfl) (fun _ _ _ => id) ?hy (by assumption) ?_
 case hy => intro w' h; clear h; go_simp; try with_reducible rfl
 simp only [Act.put, sT]
 refine takP 6 32 ?_ rfl (by kernel_rfl) (fun _ _ _ => id) ?hy (by assumption) ?_
 case hy => intro w' h; clear h; go_simp; try with_reducible rfl
 simp only [Act.put, sT]
 refine takP 7 33 ?_ rfl (by kernel_rfl) (fun _ _ _ => id) ?hy (by assumption) ?_
 case hy => intro w' h; have hx := c12 w' h; clear h; go_simp; try with_reducible rfl
 simp only [Act.put, sT]
 refine wpAnyH_ready (rs := [2]) (by kernel_rfl) (by simp) ?_
 refine AllReadyH.cons rfl (fun K hK => ?_) AllReadyH.nil
 rw [if_pos (by kernel_rfl)]
 try simp only [List.getElem_toArray, List.getElem_cons_zero, List.getElem_cons_succ]
 go_simp
 go_at_call 18
 refine (lkname_any l A1 n1 c1 w3.drew HR3.out.drew HF.out).mono ?_
 rintro e w4 ⟨rfl, hb4⟩
 have HB4 := Lib.hid ((Below.refl w3.heap.size w3).drew.trans hb4)
 have Hb4 := Lib.hid (Hb3.out.trans (HB4.out.mono Hb3.out.size))
 clear hb4
 generalize l.name = d at *
 refine hK.out _ _ ⟨HSa.out _ HB4.out, HSb.out _ HB4.out⟩ (fun _ => ?_)
 clear hK K
 try simp only [Act.put, sT]
 refine takP 8 34 ?_ rfl (by kernel_rfl) (fun _ _ _ => id) ?hy (by assumption) ?_
 case hy => intro w' h; clear h; go_simp; try with_reducible rfl
 simp only [Act.put, sT]
 refine wpAnyH_ready (rs := [9]) (by kernel_rfl) (by simp) ?_
 refine AllReadyH.cons rfl (fun K hK => ?_) AllReadyH.nil
 rw [if_pos (by kernel_rfl)]
 try simp only [List.getElem_toArray, List.getElem_cons_zero, List.getElem_cons_succ]
 go_simp
 go_at_call 132
 have HR4 := Lib.hid (congrArg p.hold HHe.out)
 refine (hold_any p A n c ⟨d, l.cp, wh, l.un⟩ w4 (HP.out.up Hb4.out)).mono ?_
 generalize p.hold ⟨d, l.cp, wh, l.un⟩ = r at *
 rintro e w5 ⟨A5, n5, c5, rfl, ho5, hb5⟩
 have HO5 := Lib.hid ho5
 have HB5 := Lib.hid (HB4.out.trans (hb5.mono HB4.out.size))
 have Hb5 := Lib.hid (Hb4.out.trans (hb5.mono Hb4.out.size))
 have hz4 := HB4.out.size
 have hz5 := HB5.out.size
 clear ho5 hb5
 refine hK.out _ _ ⟨HSa.out _ HB5.out, HSb.out _ HB5.out⟩ (fun _ => ?_)
 clear hK K
 try simp only [Act.put, sT]
 refine takP 10 36 ?_ rfl (by kernel_rfl) (fun _ _ _ => id) ?hy (by assumption) ?_
 case hy => intro w' h; clear h; go_simp; try with_reducible rfl
 simp only [Act.put, sT]
 refine takP 11 37 ?_ rfl (by kernel_rfl) (fun _ _ _ => id) ?hy (by assumption) ?_
 case hy => intro w' h; clear h; go_simp; try with_reducible rfl
 simp only [Act.put, sT]
 refine wpAnyH_ready (rs := [12]) (by kernel_rfl) (by simp) ?_
 refine AllReadyH.cons rfl (fun K hK => ?_) AllReadyH.nil
 rw [if_pos (by kernel_rfl)]
 try simp only [List.getElem_toArray, List.getElem_cons_zero, List.getElem_cons_succ]
 have HY5 := Lib.hid (block_below HY3.out HB5.out (by omega))
 have HX5 := Lib.hid (HSa.out _ HB5.out); have HL5 := Lib.hid (HSb.out _ HB5.out)
 refine wp_store_mid 85 _ _ (by rfl) (w.heap.size + 1) (0) #[.int .u8 r.2.nm.x0, .int .u8 r.2.nm.x1, .int .u8 r.2.nm.x2, .int .u8 r.2.nm.x3, .int .u8 r.2.nm.x4, .int .u8 r.2.nm.x5, .int .u8 r.2.nm.x6, .int .u8 r.2.nm.x7, .int .i64 r.2.no, .int .i64 r.2.h0, .int .i64 r.2.h1, .slice A5 n5 c5] (by rfl) (by rfl) (there_mid HY5.out (by simp)) (by kernel_rfl) (by kernel_rfl) ?_
 obtain ⟨s1', s2'⟩ := set_all HY5.out [.int .u8 r.2.nm.x0, .int .u8 r.2.nm.x1, .int .u8 r.2.nm.x2, .int .u8 r.2.nm.x3, .int .u8 r.2.nm.x4, .int .u8 r.2.nm.x5, .int .u8 r.2.nm.x6, .int .u8 r.2.nm.x7, .int .i64 r.2.no, .int .i64 r.2.h0, .int .i64 r.2.h1, .slice A5 n5 c5] (by simp)
 have HS1 := Lib.hid s1'
 have HB6 := Lib.hid (Hb5.out.grown s2' Hb5.out.size (fun k hk => by cases hk; omega))
 have HO6 := Lib.hid (HO5.out.kept s2' (own_away HO5.out (by omega)))
 have HX6 := Lib.hid (block_grown HX5.out s2' (by simp)); have HL6 := Lib.hid (block_grown HL5.out s2' (by simp; omega))
 clear s1' s2'
 refine hK.out _ _ ⟨HX6.out, HL6.out⟩ (fun _ => ?_)
 clear hK K
 simp only [Act.put]
 refine takP 13 9 ?_ rfl (by kernel_rfl) (fun _ _ _ => id) ?hy (by assumption) ?_
 case hy => intro w' h; clear h; go_simp; try with_reducible rfl
 simp only [Act.put, sT]
 refine wpAnyH_done (by kernel_rfl) ?_ _
 go_wp2
 refine bodyPost_ret (results_cellT 8 9 85 (w.heap.size + 1) #[.int .u8 r.2.nm.x0, .int .u8 r.2.nm.x1, .int .u8 r.2.nm.x2, .int .u8 r.2.nm.x3, .int .u8 r.2.nm.x4, .int .u8 r.2.nm.x5, .int .u8 r.2.nm.x6, .int .u8 r.2.nm.x7, .int .i64 r.2.no, .int .i64 r.2.h0, .int .i64 r.2.h1, .slice A5 n5 c5] _ _ _ rfl rfl HS1.out Tryz.underlying85 rfl (by kernel_rfl)) rfl ?_
 rw [HR4.out]
 exact ⟨A5, n5, c5, rfl, own_weak HO6.out Hb4.out.size, HB6.out⟩
theorem WyAt.prange (h : WyAt w B wb bk y a) {k : Nat} (hk : k < a.l.length) : ∃ g, a.Ap = some ⟨g, 0, none⟩ ∧ B ≤ g ∧ g < w.heap.size ∧ w.rangeAt g (k * 12) (a.l.getD k default).cells := by
 have hx := flatP_len a.l
 rcases h.pu.2 with ⟨_, h5⟩ | ⟨g, cap, cur, e1, hb, hg, hnc, hcm, hcs, htk⟩
 ·omega
 ·injection e1 with e1 _ _
  refine ⟨g, e1, hb, block_lt hg, fun j v hj => ?_⟩
  have hj12 : j < 12 := (List.getElem?_eq_some_iff.1 hj).1
  have h3 := flatP_at a.l k j hk hj12
  rw [block_cell hg, ← Array.getElem?_toList]
  have : (cur.toList.take (a.l.length * 12))[k * 12 + j]? = cur.toList[k * 12 + j]? := List.getElem?_take_of_lt (by omega)
  rw [← this, htk, h3]; exact hj
theorem WyAt.pget (h : WyAt w B wb bk y a) {k : Nat} (hk : k < a.l.length) : (a.l.getD k default).p = y.pu.getD k default ∧ (a.l.getD k default).Own B w := by
 have h1 : a.l.getD k default ∈ a.l := by rw [List.getD_eq_getElem?_getD, List.getElem?_eq_getElem hk]; exact List.getElem_mem hk
 refine ⟨?_, h.po _ h1⟩
 rw [← h.pe, List.getD_eq_getElem?_getD, List.getD_eq_getElem?_getD, List.getElem?_map, List.getElem?_eq_getElem hk]; rfl
theorem hold_len (p : Pu) (h : Hd) : (p.hold h).2.held.length ≤ 17 := by
 by_cases e : (p.hold h).1 = 0
 ·obtain ⟨_, _, _, h4, _, h6⟩ := hold_ok e
  rw [h6]; show (p.held ++ [h]).length ≤ 17
  simp; omega
 ·rw [hold_no e]; exact Nat.zero_le _
theorem grown_below {w w1 w2 : World} {row : Option Nat} (h : Below w.heap.size w w1) (hg : w1.grownBy w2 row) : w.grownBy w2 row :=
 ⟨hg.os.trans h.os, hg.tape.trans h.tape, hg.output.trans h.output, Nat.le_trans h.size hg.size, fun k hk hne => (hg.block k (Nat.lt_of_lt_of_le hk h.size) hne).trans (h.block k hk)⟩
theorem PuA.Own.below {x : PuA} {C : Nat} {w w' : World} (h : x.Own C w) (hb : Below w.heap.size w w') : x.Own C w' := ⟨own_below h.h hb, h.s⟩
theorem range_grown {w w' : World} {b o : Nat} {vs : List Value} {row : Option Nat} (h : w.rangeAt b o vs) (hg : w.grownBy w' row) (hb : b < w.heap.size) (hr : some b ≠ row) : w'.rangeAt b o vs := fun j v hj => by
 rw [← h j v hj]; have e := hg.block b hb hr; simp only [World.cell?, e]
set_option maxRecDepth 100000 in
set_option maxHeartbeats 4000000 in
theorem l6_any {w0 : World} (h0 : WyAt w0 B wb bk y a) (hok : y.pl.Ok) (hop : Nat) (hh : hop + 1 < y.pl.ks.length) (hl : hop < a.l.length) (cs : Array Value) (hcs : cs.size = 12) (hb : Below w0.heap.size w0 w) (hW : w.cell? ⟨cW, 0, none⟩ = some (.pointer (some ⟨wb, 0, none⟩))) (hH : w.cell? ⟨cH, 0, none⟩ = some (.int .i64 hop))
  (hX : w.heap[cX]? = some (.cells cs 85 (0, 0))) (hcx : w0.heap.size ≤ cX) (hcw : cW < w.heap.size) (hch : cH < w.heap.size) (h1 : cW ≠ cX) (h2 : cH ≠ cX) :
  Calls Tryz.prog 70 #[.pointer (some ⟨cW, 0, none⟩), .pointer (some ⟨cH, 0, none⟩), .pointer (some ⟨cX, 0, none⟩)] w fun e w' =>
   ∃ x : PuA, x.p = ((y.pu.getD hop default).hold (y.pl.heldOf hop 0)).2 ∧ e = .returned (.int .i64 ((y.pu.getD hop default).hold (y.pl.heldOf hop 0)).1) ∧ x.Own w.heap.size w' ∧ w'.heap[cX]? = some (.cells x.cells.toArray 85 (0, 0)) ∧ w.grownBy w' (some cX) := by
 have hw := h0.below hb
 obtain ⟨g, hA, hBg, hg0, _⟩ := h0.prange hl
 obtain ⟨g', hA', _, hgw, hr⟩ := hw.prange hl
 rw [hA] at hA'; injection hA' with hA'; injection hA' with hA'; subst hA'
 obtain ⟨hxp, hxo⟩ := hw.pget hl
 obtain ⟨_, c14, _⟩ := hw.c
 rw [hA] at c14
 have hwb := block_lt h0.box
 rw [← hxp]
 have HL : Hid (hop < a.l.length) := Lib.hid hl
 have hli : (hop : Int) < (a.l.length : Int) := by omega
 have H := Lib.hid hw; have HR := Lib.hid hr; have HX := Lib.hid hX; have HO := Lib.hid hxo; have Hbw := Lib.hid hb
 have HC14 := Lib.hid c14; have HCW := Lib.hid hW; have HCH := Lib.hid hH
 have hcx2 := block_lt hX
 clear h0 hw hr hxp hxo c14 hX hb hA
 generalize a.l.getD hop default = x at *
 generalize a.l.length = nl at *
 generalize a.cp = cl at *
 go_enter Tryz.func70, Tryz.ntmps70
 go_upto_region 1 with fail
 have hS : ∀ w', Below w.heap.size w w' → w'.cell? ⟨cW, 0, none⟩ = some (.pointer (some ⟨wb, 0, none⟩)) ∧ w'.cell? ⟨cH, 0, none⟩ = some (.int .i64 hop) ∧ w'.cell? ⟨wb, 14, none⟩ = some (.slice (some ⟨g, 0, none⟩) nl cl) ∧ w'.rangeAt g (hop * 12) x.cells := fun w' hw' => ⟨(hw'.cell (p := ⟨cW, 0, none⟩) hcw).trans HCW.out, (hw'.cell (p := ⟨cH, 0, none⟩) hch).trans HCH.out, (hw'.cell (p := ⟨wb, 14, none⟩) (Nat.lt_of_lt_of_le hwb Hbw.out.size)).trans HC14.out, range_below HR.out hw' hgw⟩
 have HS := Lib.hid hS
 clear hS
 refine wp_region_held_drew (S := fun w' => w'.cell? ⟨cW, 0, none⟩ = some (.pointer (some ⟨wb, 0, none⟩)) ∧ w'.cell? ⟨cH, 0, none⟩ = some (.int .i64 hop) ∧ w'.cell? ⟨wb, 14, none⟩ = some (.slice (some ⟨g, 0, none⟩) nl cl) ∧ w'.rangeAt g (hop * 12) x.cells) (by kernel_rfl) (HS.out _ (Below.refl _ _).drew) (fun hHeld => ?_)
 have q1 : ∀ w' : World, (w'.cell? ⟨cW, 0, none⟩ = some (.pointer (some ⟨wb, 0, none⟩)) ∧ w'.cell? ⟨cH, 0, none⟩ = some (.int .i64 hop) ∧ w'.cell? ⟨wb, 14, none⟩ = some (.slice (some ⟨g, 0, none⟩) nl cl) ∧ w'.rangeAt g (hop * 12) x.cells) → w'.cell? ⟨cW, 0, none⟩ = some (.pointer (some ⟨wb, 0, none⟩)) := fun _ h => h.1
 have q2 : ∀ w' : World, (w'.cell? ⟨cW, 0, none⟩ = some (.pointer (some ⟨wb, 0, none⟩)) ∧ w'.cell? ⟨cH, 0, none⟩ = some (.int .i64 hop) ∧ w'.cell? ⟨wb, 14, none⟩ = some (.slice (some ⟨g, 0, none⟩) nl cl) ∧ w'.rangeAt g (hop * 12) x.cells) → w'.cell? ⟨cH, 0, none⟩ = some (.int .i64 hop) := fun _ h => h.2.1
 have q3 : ∀ w' : World, (w'.cell? ⟨cW, 0, none⟩ = some (.pointer (some ⟨wb, 0, none⟩)) ∧ w'.cell? ⟨cH, 0, none⟩ = some (.int .i64 hop) ∧ w'.cell? ⟨wb, 14, none⟩ = some (.slice (some ⟨g, 0, none⟩) nl cl) ∧ w'.rangeAt g (hop * 12) x.cells) → w'.cell? ⟨wb, 14, none⟩ = some (.slice (some ⟨g, 0, none⟩) nl cl) := fun _ h => h.2.2.1
 refine takP 0 5 ?_ rfl (by kernel_rfl) (fun _ _ _ => id) ?hy (by assumption) ?_
 case hy => intro w' h; have hx := q1 w' h; clear h; go_simp; try with_reducible rfl
 simp only [Act.put, sT]
 refine takP 1 6 ?_ rfl (by kernel_rfl) (fun _ _ _ => id) ?hy (by assumption) ?_
 case hy => intro w' h; have hx := q1 w' h; clear h; go_simp; try with_reducible rfl
 simp only [Act.put, sT]
 refine takP 2 7 ?_ rfl (by kernel_rfl) (fun _ _ _ => id) ?hy (by assumption) ?_
 case hy => intro w' h; clear h; go_simp; try with_reducible rfl
 simp only [Act.put, sT]
 refine takP 3 8 ?_ rfl (by kernel_rfl) (fun _ _ _ => id) ?hy (by assumption) ?_
 case hy => intro w' h; clear h; go_simp; try with_reducible rfl
 simp only [Act.put, sT]
 refine takP 4 9 ?_ rfl (by kernel_rfl) (fun _ _ _ => id) ?hy (by assumption) ?_
 case hy => intro w' h; have hx := q3 w' h; clear h; go_simp; try with_reducible rfl
 simp only [Act.put, sT]
 refine takP 5 10 ?_ rfl (by kernel_rfl) (fun _ _ _ => id) ?hy (by assumption) ?_
 case hy => intro w' h; have hx := q2 w' h; clear h; go_simp; try with_reducible rfl
 simp only [Act.put, sT]
 refine takP 6 11 ?_ rfl (by kernel_rfl) (fun _ _ _ => id) ?hy (by assumption) ?_
 case hy => intro w' h; clear h; go_simp; try with_reducible rfl
 simp only [Act.put, sT]
 refine takeK 7 (some 12) (v := .agg ([.int .u8 x.p.nm.x0, .int .u8 x.p.nm.x1, .int .u8 x.p.nm.x2, .int .u8 x.p.nm.x3, .int .u8 x.p.nm.x4, .int .u8 x.p.nm.x5, .int .u8 x.p.nm.x6, .int .u8 x.p.nm.x7, .int .i64 x.p.no, .int .i64 x.p.h0, .int .i64 x.p.h1, .slice x.A x.n x.c] : List Value).toArray) rfl (by kernel_rfl) (by kernel_rfl) (fun _ _ _ => id) (yieldsIf_load_mid (by kernel_rfl) 85 _ (by rfl) (g) (hop * 12) (by rfl) [.int .u8 x.p.nm.x0, .int .u8 x.p.nm.x1, .int .u8 x.p.nm.x2, .int .u8 x.p.nm.x3, .int .u8 x.p.nm.x4, .int .u8 x.p.nm.x5, .int .u8 x.p.nm.x6, .int .u8 x.p.nm.x7, .int .i64 x.p.no, .int .i64 x.p.h0, .int .i64 x.p.h1, .slice x.A x.n x.c] _ (fun w' hw' => hw'.2.2.2) Tryz.underlying85 rfl (by kernel_rfl)) (by assumption) ?_
 simp only [Act.put, sT]
 refine takP 8 13 ?_ rfl (by kernel_rfl) (fun _ _ _ => id) ?hy (by assumption) ?_
 case hy => intro w' h; have hx := q2 w' h; clear h; go_simp; try with_reducible rfl
 simp only [Act.put, sT]
 refine wpAnyH_ready (rs := [9]) (by kernel_rfl) (by simp) ?_
 refine AllReadyH.cons rfl (fun K hK => ?_) AllReadyH.nil
 rw [if_pos (by kernel_rfl)]
 try simp only [List.getElem_toArray, List.getElem_cons_zero, List.getElem_cons_succ]
 go_simp
 go_at_call 71
 refine (whold_any (H.out.below (Below.refl _ _).drew) hok x.p x.A x.n x.c hop 0 ((HO.out.below (Below.refl _ _).drew).at_) hh (.inl rfl)).mono ?_
 have hlen := hold_len x.p (y.pl.heldOf hop 0)
 generalize hr9 : x.p.hold (y.pl.heldOf hop 0) = r at *
 have HRq := Lib.hid hr9
 have HLn := Lib.hid hlen
 clear hr9 hlen
 rintro e w1 ⟨A5, n5, c5, rfl, ho5, hb5⟩
 have HB1 := Lib.hid ((Below.refl w.heap.size w).drew.trans hb5)
 have HO1 : Hid (w1.ownsRow w.heap.size 120 11 (.slice A5 n5 c5) n5 (flatH r.2.held)) := Lib.hid ho5
 clear ho5 hb5
 refine hK.out _ _ (HS.out _ HB1.out) (fun _ => ?_)
 clear hK K
 try simp only [Act.put, sT]
 refine takP 10 4 ?_ rfl (by kernel_rfl) (fun _ _ _ => id) ?hy (by assumption) ?_
 case hy => intro w' h; clear h; go_simp; try with_reducible rfl
 simp only [Act.put, sT]
 refine takP 11 15 ?_ rfl (by kernel_rfl) (fun _ _ _ => id) ?hy (by assumption) ?_
 case hy => intro w' h; clear h; go_simp; try with_reducible rfl
 simp only [Act.put, sT]
 refine takP 12 16 ?_ rfl (by kernel_rfl) (fun _ _ _ => id) ?hy (by assumption) ?_
 case hy => intro w' h; clear h; go_simp; try with_reducible rfl
 simp only [Act.put, sT]
 refine wpAnyH_ready (rs := [13]) (by kernel_rfl) (by simp) ?_
 refine AllReadyH.cons rfl (fun K hK => ?_) AllReadyH.nil
 rw [if_pos (by kernel_rfl)]
 try simp only [List.getElem_toArray, List.getElem_cons_zero, List.getElem_cons_succ]
 have HX1 := Lib.hid (block_below HX.out HB1.out hcx2)
 refine wp_store_mid 85 _ _ (by rfl) (cX) (0) #[.int .u8 r.2.nm.x0, .int .u8 r.2.nm.x1, .int .u8 r.2.nm.x2, .int .u8 r.2.nm.x3, .int .u8 r.2.nm.x4, .int .u8 r.2.nm.x5, .int .u8 r.2.nm.x6, .int .u8 r.2.nm.x7, .int .i64 r.2.no, .int .i64 r.2.h0, .int .i64 r.2.h1, .slice A5 n5 c5] (by rfl) (by rfl) (there_mid HX1.out (by simp [hcs])) (by kernel_rfl) (by kernel_rfl) ?_
 obtain ⟨s1', s2'⟩ := set_all HX1.out [.int .u8 r.2.nm.x0, .int .u8 r.2.nm.x1, .int .u8 r.2.nm.x2, .int .u8 r.2.nm.x3, .int .u8 r.2.nm.x4, .int .u8 r.2.nm.x5, .int .u8 r.2.nm.x6, .int .u8 r.2.nm.x7, .int .i64 r.2.no, .int .i64 r.2.h0, .int .i64 r.2.h1, .slice A5 n5 c5] (by simp [hcs])
 have HG : Hid (w.grownBy (w1.setCells cX 0 [.int .u8 r.2.nm.x0, .int .u8 r.2.nm.x1, .int .u8 r.2.nm.x2, .int .u8 r.2.nm.x3, .int .u8 r.2.nm.x4, .int .u8 r.2.nm.x5, .int .u8 r.2.nm.x6, .int .u8 r.2.nm.x7, .int .i64 r.2.no, .int .i64 r.2.h0, .int .i64 r.2.h1, .slice A5 n5 c5]) (some cX)) := Lib.hid (grown_below HB1.out s2')
 have HS1 := Lib.hid s1'
 have HO2 := Lib.hid (HO1.out.kept s2' (own_away HO1.out hcx2))
 have hs9 := HS.out _ HB1.out
 have HSz : Hid ((w1.setCells cX 0 [.int .u8 r.2.nm.x0, .int .u8 r.2.nm.x1, .int .u8 r.2.nm.x2, .int .u8 r.2.nm.x3, .int .u8 r.2.nm.x4, .int .u8 r.2.nm.x5, .int .u8 r.2.nm.x6, .int .u8 r.2.nm.x7, .int .i64 r.2.no, .int .i64 r.2.h0, .int .i64 r.2.h1, .slice A5 n5 c5]).cell? ⟨cW, 0, none⟩ = some (.pointer (some ⟨wb, 0, none⟩)) ∧ (w1.setCells cX 0 [.int .u8 r.2.nm.x0, .int .u8 r.2.nm.x1, .int .u8 r.2.nm.x2, .int .u8 r.2.nm.x3, .int .u8 r.2.nm.x4, .int .u8 r.2.nm.x5, .int .u8 r.2.nm.x6, .int .u8 r.2.nm.x7, .int .i64 r.2.no, .int .i64 r.2.h0, .int .i64 r.2.h1, .slice A5 n5 c5]).cell? ⟨cH, 0, none⟩ = some (.int .i64 hop) ∧ (w1.setCells cX 0 [.int .u8 r.2.nm.x0, .int .u8 r.2.nm.x1, .int .u8 r.2.nm.x2, .int .u8 r.2.nm.x3, .int .u8 r.2.nm.x4, .int .u8 r.2.nm.x5, .int .u8 r.2.nm.x6, .int .u8 r.2.nm.x7, .int .i64 r.2.no, .int .i64 r.2.h0, .int .i64 r.2.h1, .slice A5 n5 c5]).cell? ⟨wb, 14, none⟩ = some (.slice (some ⟨g, 0, none⟩) nl cl) ∧ (w1.setCells cX 0 [.int .u8 r.2.nm.x0, .int .u8 r.2.nm.x1, .int .u8 r.2.nm.x2, .int .u8 r.2.nm.x3, .int .u8 r.2.nm.x4, .int .u8 r.2.nm.x5, .int .u8 r.2.nm.x6, .int .u8 r.2.nm.x7, .int .i64 r.2.no, .int .i64 r.2.h0, .int .i64 r.2.h1, .slice A5 n5 c5]).rangeAt g (hop * 12) x.cells) := Lib.hid ⟨s2'.cell hs9.1 (by simpa using h1), s2'.cell hs9.2.1 (by simpa using h2), s2'.cell hs9.2.2.1 (by simp; omega), range_grown hs9.2.2.2 s2' (by have := HB1.out.size; omega) (by simp; omega)⟩
 clear s1' s2' hs9
 refine hK.out _ _ HSz.out (fun _ => ?_)
 clear hK K
 simp only [Act.put]
 refine takP 14 3 ?_ rfl (by kernel_rfl) (fun _ _ _ => id) ?hy (by assumption) ?_
 case hy => intro w' h; clear h; go_simp; try with_reducible rfl
 simp only [Act.put, sT]
 refine wpAnyH_done (by kernel_rfl) ?_ _
 go_wp2
 go_ret
 rw [HRq.out]
 exact ⟨⟨r.2, A5, n5, c5⟩, rfl, rfl, ⟨HO2.out, by have := HO2.out.1; rw [flatH_len] at this; have := HLn.out; show n5 ≤ 1000000; omega⟩, HS1.out, HG.out⟩
set_option maxRecDepth 100000 in
set_option maxHeartbeats 4000000 in
theorem l7_any {w0 : World} (h0 : WyAt w0 B wb bk y a) (hok : y.pl.Ok) (hop : Nat) (hh : hop + 1 < y.pl.ks.length) (x : PuA) (hb : Below w0.heap.size w0 w) (hW : w.cell? ⟨cW, 0, none⟩ = some (.pointer (some ⟨wb, 0, none⟩))) (hH : w.cell? ⟨cH, 0, none⟩ = some (.int .i64 hop))
  (hX : w.heap[cX]? = some (.cells x.cells.toArray 85 (0, 0))) {M : Nat} (hxo : x.Own M w) :
  Calls Tryz.prog 72 #[.pointer (some ⟨cW, 0, none⟩), .pointer (some ⟨cX, 0, none⟩), .pointer (some ⟨cH, 0, none⟩)] w fun e w' =>
   ∃ x' : PuA, x'.p = (x.p.hold (y.pl.heldOf hop 1)).2 ∧ e = .returned (.int .i64 (x.p.hold (y.pl.heldOf hop 1)).1) ∧ x'.Own w.heap.size w' ∧ w'.heap[cX]? = some (.cells x'.cells.toArray 85 (0, 0)) ∧ w.grownBy w' (some cX) := by
 have H := Lib.hid (h0.below hb); have HX := Lib.hid hX; have HO := Lib.hid hxo
 have hcx2 := block_lt hX
 clear h0 hX hb hxo
 go_enter Tryz.func72, Tryz.ntmps72
 go_upto_region 1 with fail
 refine wp_region_list ?_
 refine wpList_value (.pointer (some ⟨wb, 0, none⟩)) (by kernel_rfl) (by go_simp) ?_
 simp only [Act.put, sT]
 refine wpList_load_mid (by rfl) 85 _ (by rfl) cX 0 (by rfl) [.int .u8 x.p.nm.x0, .int .u8 x.p.nm.x1, .int .u8 x.p.nm.x2, .int .u8 x.p.nm.x3, .int .u8 x.p.nm.x4, .int .u8 x.p.nm.x5, .int .u8 x.p.nm.x6, .int .u8 x.p.nm.x7, .int .i64 x.p.no, .int .i64 x.p.h0, .int .i64 x.p.h1, .slice x.A x.n x.c] _ (range_front HX.out 12 rfl) Tryz.underlying85 rfl (by kernel_rfl) ?_
 simp only [Act.put, sT]
 refine wpList_value (.int .i64 hop) (by kernel_rfl) (by go_simp) ?_
 simp only [Act.put, sT]
 refine wpList_plain (by rfl) (fun K hK => ?_)
 go_simp
 go_at_call 71
 have hlen := hold_len x.p (y.pl.heldOf hop 1)
 refine (whold_any H.out hok x.p x.A x.n x.c hop 1 HO.out.at_ hh (.inr rfl)).mono ?_
 generalize hr9 : x.p.hold (y.pl.heldOf hop 1) = r at *
 have HRq := Lib.hid hr9
 have HLn := Lib.hid hlen
 clear hr9 hlen
 rintro e w1 ⟨A5, n5, c5, rfl, ho5, hb5⟩
 have HB1 := Lib.hid hb5
 have HO1 : Hid (w1.ownsRow w.heap.size 120 11 (.slice A5 n5 c5) n5 (flatH r.2.held)) := Lib.hid ho5
 clear ho5 hb5
 refine hK _ _ ?_
 clear hK K
 try simp only [Act.put, sT]
 refine wpList_value (.tuple #[.agg #[.int .u8 r.2.nm.x0, .int .u8 r.2.nm.x1, .int .u8 r.2.nm.x2, .int .u8 r.2.nm.x3, .int .u8 r.2.nm.x4, .int .u8 r.2.nm.x5, .int .u8 r.2.nm.x6, .int .u8 r.2.nm.x7, .int .i64 r.2.no, .int .i64 r.2.h0, .int .i64 r.2.h1, .slice A5 n5 c5], .int .i64 r.1]) (by kernel_rfl) (by kernel_rfl) ?_
 simp only [Act.put, sT]
 refine wpList_value (.agg #[.int .u8 r.2.nm.x0, .int .u8 r.2.nm.x1, .int .u8 r.2.nm.x2, .int .u8 r.2.nm.x3, .int .u8 r.2.nm.x4, .int .u8 r.2.nm.x5, .int .u8 r.2.nm.x6, .int .u8 r.2.nm.x7, .int .i64 r.2.no, .int .i64 r.2.h0, .int .i64 r.2.h1, .slice A5 n5 c5]) (by kernel_rfl) (by kernel_rfl) ?_
 simp only [Act.put, sT]
 refine wpList_value (.int .i64 r.1) (by kernel_rfl) (by kernel_rfl) ?_
 simp only [Act.put, sT]
 have HX1 : Hid (w1.heap[cX]? = some (.cells #[.int .u8 x.p.nm.x0, .int .u8 x.p.nm.x1, .int .u8 x.p.nm.x2, .int .u8 x.p.nm.x3, .int .u8 x.p.nm.x4, .int .u8 x.p.nm.x5, .int .u8 x.p.nm.x6, .int .u8 x.p.nm.x7, .int .i64 x.p.no, .int .i64 x.p.h0, .int .i64 x.p.h1, .slice x.A x.n x.c] 85 (0, 0))) := Lib.hid (block_below HX.out HB1.out hcx2)
 refine wpList_store_mid (by rfl) 85 _ _ (by rfl) (cX) 0 #[.int .u8 r.2.nm.x0, .int .u8 r.2.nm.x1, .int .u8 r.2.nm.x2, .int .u8 r.2.nm.x3, .int .u8 r.2.nm.x4, .int .u8 r.2.nm.x5, .int .u8 r.2.nm.x6, .int .u8 r.2.nm.x7, .int .i64 r.2.no, .int .i64 r.2.h0, .int .i64 r.2.h1, .slice A5 n5 c5] (by rfl) (by rfl) (there_mid HX1.out (by simp)) (by kernel_rfl) (by kernel_rfl) ?_
 obtain ⟨s1', s2'⟩ := set_all HX1.out [.int .u8 r.2.nm.x0, .int .u8 r.2.nm.x1, .int .u8 r.2.nm.x2, .int .u8 r.2.nm.x3, .int .u8 r.2.nm.x4, .int .u8 r.2.nm.x5, .int .u8 r.2.nm.x6, .int .u8 r.2.nm.x7, .int .i64 r.2.no, .int .i64 r.2.h0, .int .i64 r.2.h1, .slice A5 n5 c5] rfl
 have HS1 := Lib.hid s1'; have HS2 := Lib.hid s2'
 clear s1' s2'
 dsimp only
 generalize World.setCells _ _ _ [.int .u8 r.2.nm.x0, .int .u8 r.2.nm.x1, .int .u8 r.2.nm.x2, .int .u8 r.2.nm.x3, .int .u8 r.2.nm.x4, .int .u8 r.2.nm.x5, .int .u8 r.2.nm.x6, .int .u8 r.2.nm.x7, .int .i64 r.2.no, .int .i64 r.2.h0, .int .i64 r.2.h1, .slice A5 n5 c5] = w2 at *
 have HG : Hid (w.grownBy w2 (some cX)) := Lib.hid (grown_below HB1.out HS2.out)
 have HO2 := Lib.hid (HO1.out.kept HS2.out (own_away HO1.out hcx2))
 refine wpList_value (.int .i64 r.1) (by kernel_rfl) (by kernel_rfl) ?_
 simp only [Act.put, sT]
 go_wp2
 go_ret
 rw [HRq.out]
 exact ⟨⟨r.2, A5, n5, c5⟩, rfl, rfl, ⟨HO2.out, by have := HO2.out.1; rw [flatH_len] at this; have := HLn.out; show n5 ≤ 1000000; omega⟩, HS1.out, HG.out⟩
end
end Go.Proofs.YthhiookcknnmdaaGreat
