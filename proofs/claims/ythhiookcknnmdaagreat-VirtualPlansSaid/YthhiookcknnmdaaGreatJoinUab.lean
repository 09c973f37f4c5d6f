/- Plans in memory; the walks of their small questions, and of a row of digests sought through. Conditions: bounds. The walk of a plan's Check. Conditions: bounds. Rows cloned: digests, numbers, bools. Conditions: bounds on how many. The walk of NewPlan. Conditions: bounds. The walks of a lock's bytes. Conditions: bounds. -/
import Derived.Test.YthhiookcknnmdaaGreatJoinUaa
import Derived.Test.YthhiookcknnmdaaGreatPuI
import Derived.RegionTactic
import Derived.Test.YthhiookcknnmdaaGreatAppend
import Derived.Deep.RegionLaw
import Derived.Deep.DeepCutAuto
import Derived.Test.YthhiookcknnmdaaGreatOctT
import Derived.Test.YthhiookcknnmdaaGreatJoinH
namespace Go.Proofs.YthhiookcknnmdaaGreat
open Go.RowKit Go.Lib
theorem takeK {P : Program} {ops : Array Oper} {Q : Exit → Act → World → Prop} {md : Region.Mode} {S : World → Prop} {fuel : Nat} {listed : Array Bool} {a : Act} {w : World} (i : Nat) (d : Option Tmp) {oi : Oper} {v : Value} (hi : ops[i]? = some oi) (hd : oi.dst = d)
 (hk : (Region.noSelect ops && Region.free md ops listed i && (Region.ready md ops listed).contains i) = true)
 (hQ : ∀ c a w, Q (.panic c) (a.put d v) w → Q (.panic c) a w) (hy : YieldsIf P ops S oi v a) (hS : S w)
 (h : wpAnyH P md ops Q S fuel (listed.setIfInBounds i true) (a.put d v) w) : wpAnyH P md ops Q S (fuel + 1) listed a w := by
 simp only [Bool.and_eq_true] at hk
 exact takeH i d hi hd hk.1.1 hk.1.2 hk.2 hQ hy hS h
theorem takP {P : Program} {ops : Array Oper} {Q : Exit → Act → World → Prop} {md : Region.Mode} {S : World → Prop} {fuel : Nat} {listed : Array Bool} {a : Act} {w : World} (i : Nat) (d : Tmp) (v : Value) {oi : Oper} (hi : ops[i]? = some oi)
 (hk : (oi.dst == some d && Region.noSelect ops && Region.free md ops listed i && (Region.ready md ops listed).contains i && Region.wanted oi (yielded ops a.tmps)) = true)
 (hQ : ∀ c a w, Q (.panic c) (a.put (some d) v) w → Q (.panic c) a w) (hy : ∀ w', S w' → (execOp a.eval oi).run P w' = .ok (.value v) w') (hS : S w)
 (h : wpAnyH P md ops Q S fuel (listed.setIfInBounds i true) (a.put (some d) v) w) : wpAnyH P md ops Q S (fuel + 1) listed a w := by
 simp only [Bool.and_eq_true, beq_iff_eq] at hk
 exact takeH i (some d) hi hk.1.1.1.1 hk.1.1.1.2 hk.1.1.2 hk.1.2 hQ (Or.inl ⟨hk.2, hy⟩) hS h
theorem sT {α : Type _} : (∀ (l : List α) (i : Nat) (a : α), l.toArray.setIfInBounds i a = (l.set i a).toArray) ∧ (∀ (a b : α) (l : List α), (a :: l).set 0 b = b :: l) ∧ (∀ (a b : α) (l : List α) (i : Nat), (a :: l).set (i + 1) b = a :: l.set i b) := ⟨fun _ _ _ => List.setIfInBounds_toArray .., fun _ _ _ => rfl, fun _ _ _ _ => rfl⟩
def ivs (l : List Int) : List Value := l.map fun x => .int .i64 x
theorem ivs_len (l : List Int) : (ivs l).length = l.length := by simp [ivs]
theorem ivs_append (l m : List Int) : ivs (l ++ m) = ivs l ++ ivs m := by simp [ivs]
theorem ivs_one (l : List Int) : ∀ u ∈ ivs l, u.oneCell' = true := by
 intro u hu
 simp only [ivs, List.mem_map] at hu
 obtain ⟨x, _, rfl⟩ := hu
 rfl
section
variable {w w' : World} {B n k : Nat} {A : Option Addr} {l : List Int}
theorem Rd.ilen (h : Rd w B 1 A n (ivs l)) : l.length = n := by have := h.1; rw [ivs_len] at this; omega
theorem Rd.iat (h : Rd w B 1 A n (ivs l)) (hk : k < n) : ∃ b o, A = some ⟨b, o, none⟩ ∧ b < B ∧ w.cell? ⟨b, o + k, none⟩ = some (.int .i64 (l.getD k 0)) := by
 have hl := h.ilen
 obtain ⟨b, o, e, hb, hc⟩ := h.2 (by omega)
 refine ⟨b, o, e, hb, hc k _ ?_⟩
 simp [ivs, List.getD_eq_getElem?_getD, List.getElem?_eq_getElem (show k < l.length by omega)]
end
theorem Rd.di8v {w : World} {B n : Nat} {A : Option Addr} {l : List D8} (h : Rd w B 8 A n (flatD l)) {k : Nat} (hk : k < n) :
  ∃ b o, A = some ⟨b, o, none⟩ ∧ b < B ∧ w.cell? ⟨b, o + k * 8, none⟩ = some (.int .u8 (l.getD k dz8).x0) ∧ w.cell? ⟨b, o + k * 8 + 1, none⟩ = some (.int .u8 (l.getD k dz8).x1) ∧
   w.cell? ⟨b, o + k * 8 + 2, none⟩ = some (.int .u8 (l.getD k dz8).x2) ∧ w.cell? ⟨b, o + k * 8 + 3, none⟩ = some (.int .u8 (l.getD k dz8).x3) ∧
   w.cell? ⟨b, o + k * 8 + 4, none⟩ = some (.int .u8 (l.getD k dz8).x4) ∧ w.cell? ⟨b, o + k * 8 + 5, none⟩ = some (.int .u8 (l.getD k dz8).x5) ∧
   w.cell? ⟨b, o + k * 8 + 6, none⟩ = some (.int .u8 (l.getD k dz8).x6) ∧ w.cell? ⟨b, o + k * 8 + 7, none⟩ = some (.int .u8 (l.getD k dz8).x7) := by
 obtain ⟨b, o, e, hb, hc⟩ := h.di hk
 exact ⟨b, o, e, hb, hc 0 (by omega), hc 1 (by omega), hc 2 (by omega), hc 3 (by omega), hc 4 (by omega), hc 5 (by omega), hc 6 (by omega), hc 7 (by omega)⟩
structure Pl.At (p : Pl) (Ak : Option Addr) (nk ck : Nat) (An : Option Addr) (nn : Nat) (Af : Option Addr) (nf : Nat) (w : World) : Prop where
 k : Rd w w.heap.size 8 Ak nk (flatD p.ks)
 n : Rd w w.heap.size 1 An nn (ivs p.nr)
 f : Rd w w.heap.size 1 Af nf (ivs p.fr)
 bk : nk ≤ 1000000
 bn : nn ≤ 1000000
 bf : nf ≤ 1000000
 cap : nk ≤ ck
theorem Pl.At.up {p : Pl} {Ak : Option Addr} {nk ck : Nat} {An : Option Addr} {nn : Nat} {Af : Option Addr} {nf : Nat} {w w' : World} (h : p.At Ak nk ck An nn Af nf w) (hb : Below w.heap.size w w') : p.At Ak nk ck An nn Af nf w' :=
 ⟨(h.k.below hb (Nat.le_refl _)).more hb.size, (h.n.below hb (Nat.le_refl _)).more hb.size, (h.f.below hb (Nat.le_refl _)).more hb.size, h.bk, h.bn, h.bf, h.cap⟩
theorem winB_dec (n : Int) : winB n = (decide (1 ≤ n) && decide (n ≤ 1048576)) := rfl
set_option maxRecDepth 100000 in
theorem height_any (n : Int) (w : World) : Calls Tryz.prog 52 #[.int .i64 n] w fun e w' => e = .returned (.bool (far n)) ∧ w = w' := by
 have H := Lib.hid (far_dec n)
 by_cases h : 0 ≤ n
 ·by_cases h2 : n ≤ 1099511627776
  ·have q1 : decide (0 ≤ n) = true := decide_eq_true h
   have q2 : decide (n ≤ 1099511627776) = true := decide_eq_true h2
   rw [q1, q2] at H
   clear h h2
   go_enter Tryz.func52, Tryz.ntmps52
   go_wp2
   go_ret
   exact ⟨ret_bool (by rw [H.out]; rfl), rfl⟩
  ·have q1 : decide (0 ≤ n) = true := decide_eq_true h
   have q2 : decide (n ≤ 1099511627776) = false := decide_eq_false h2
   rw [q1, q2] at H
   clear h h2
   go_enter Tryz.func52, Tryz.ntmps52
   go_wp2
   go_ret
   exact ⟨ret_bool (by rw [H.out]; rfl), rfl⟩
 ·have q1 : decide (0 ≤ n) = false := decide_eq_false h
  rw [q1] at H
  clear h
  go_enter Tryz.func52, Tryz.ntmps52
  go_wp2
  go_ret
  exact ⟨ret_bool (by rw [H.out]; rfl), rfl⟩
set_option maxRecDepth 100000 in
theorem window_any (n : Int) (w : World) : Calls Tryz.prog 51 #[.int .i64 n] w fun e w' => e = .returned (.bool (winB n)) ∧ w = w' := by
 have H := Lib.hid (winB_dec n)
 by_cases h : 1 ≤ n
 ·by_cases h2 : n ≤ 1048576
  ·have q1 : decide (1 ≤ n) = true := decide_eq_true h
   have q2 : decide (n ≤ 1048576) = true := decide_eq_true h2
   rw [q1, q2] at H
   clear h h2
   go_enter Tryz.func51, Tryz.ntmps51
   go_wp2
   go_ret
   exact ⟨ret_bool (by rw [H.out]; rfl), rfl⟩
  ·have q1 : decide (1 ≤ n) = true := decide_eq_true h
   have q2 : decide (n ≤ 1048576) = false := decide_eq_false h2
   rw [q1, q2] at H
   clear h h2
   go_enter Tryz.func51, Tryz.ntmps51
   go_wp2
   go_ret
   exact ⟨ret_bool (by rw [H.out]; rfl), rfl⟩
 ·have q1 : decide (1 ≤ n) = false := decide_eq_false h
  rw [q1] at H
  clear h
  go_enter Tryz.func51, Tryz.ntmps51
  go_wp2
  go_ret
  exact ⟨ret_bool (by rw [H.out]; rfl), rfl⟩
set_option maxRecDepth 100000 in
theorem many_any (A : Option Addr) (n c : Nat) (w : World) : Calls Tryz.prog 53 #[.slice A n c] w fun e w' => e = .returned (.bool (manyB n)) ∧ w = w' := by
 have H : Hid (manyB n = (decide ((2 : Int) ≤ (n : Int)) && decide ((n : Int) ≤ 8))) := by
  show _ = _
  have e1 : decide ((2 : Int) ≤ (n : Int)) = decide (2 ≤ n) := decide_eq_decide.2 (by omega)
  have e2 : decide ((n : Int) ≤ 8) = decide (n ≤ 8) := decide_eq_decide.2 (by omega)
  rw [e1, e2]; rfl
 by_cases h : 2 ≤ n
 ·by_cases h2 : n ≤ 8
  ·have q1 : decide ((2 : Int) ≤ (n : Int)) = true := decide_eq_true (by omega)
   have q2 : decide ((n : Int) ≤ 8) = true := decide_eq_true (by omega)
   rw [q1, q2] at H
   clear h h2
   go_enter Tryz.func53, Tryz.ntmps53
   go_wp2
   go_ret
   exact ⟨ret_bool (by rw [H.out]; rfl), rfl⟩
  ·have q1 : decide ((2 : Int) ≤ (n : Int)) = true := decide_eq_true (by omega)
   have q2 : decide ((n : Int) ≤ 8) = false := decide_eq_false (by omega)
   rw [q1, q2] at H
   clear h h2
   go_enter Tryz.func53, Tryz.ntmps53
   go_wp2
   go_ret
   exact ⟨ret_bool (by rw [H.out]; rfl), rfl⟩
 ·have q1 : decide ((2 : Int) ≤ (n : Int)) = false := decide_eq_false (by omega)
  rw [q1] at H
  clear h
  go_enter Tryz.func53, Tryz.ntmps53
  go_wp2
  go_ret
  exact ⟨ret_bool (by rw [H.out]; rfl), rfl⟩
set_option maxRecDepth 100000 in
set_option maxHeartbeats 2000000 in
theorem dindex_any (A : Option Addr) (n c : Nat) (l : List D8) (d : D8) (w : World) (h : Rd w w.heap.size 8 A n (flatD l)) (hn : n ≤ 1000000) :
  Calls Tryz.prog 124 #[.slice A n c, .agg #[.int .u8 d.x0, .int .u8 d.x1, .int .u8 d.x2, .int .u8 d.x3, .int .u8 d.x4, .int .u8 d.x5, .int .u8 d.x6, .int .u8 d.x7]] w fun e w' => ∃ r : Int, e = .returned (.int .i64 r) ∧ (0 ≤ r ↔ ∃ j, j < n ∧ eqI (l.getD j dz8).L d.L = true) ∧ Below w.heap.size w w' := by
 have H := Lib.hid h
 clear h
 have HD : Hid ((w.alloc (.cells #[.int .u8 d.x0, .int .u8 d.x1, .int .u8 d.x2, .int .u8 d.x3, .int .u8 d.x4, .int .u8 d.x5, .int .u8 d.x6, .int .u8 d.x7] 27)).heap[w.heap.size]? = some (.cells #[.int .u8 d.x0, .int .u8 d.x1, .int .u8 d.x2, .int .u8 d.x3, .int .u8 d.x4, .int .u8 d.x5, .int .u8 d.x6, .int .u8 d.x7] 27 (0, 0))) := heap_alloc_new _ _
 have heq := eql_dig
 go_enter Tryz.func124, Tryz.ntmps124
 go_wp2
 go_loopw [8] (fun i wr => ∃ k : Nat, k ≤ n ∧ i = .int .i64 k ∧ (∀ j, j < k → eqI (l.getD j dz8).L d.L = false) ∧ wr.heap[w.heap.size]? = some (.cells #[.int .u8 d.x0, .int .u8 d.x1, .int .u8 d.x2, .int .u8 d.x3, .int .u8 d.x4, .int .u8 d.x5, .int .u8 d.x6, .int .u8 d.x7] 27 (0, 0)) ∧ Below w.heap.size w wr ∧ w.heap.size < wr.heap.size) (fun i _ => n - (RowKit.intOf i).toNat)
 case atStart => exact ⟨0, by omega, rfl, fun j hj => absurd hj (by omega), HD.out, below_one _ _, by simp⟩
 case round =>
  obtain ⟨k, hk, rfl, h0, hD, hbel, hsz⟩ := hrel
  have H0 := Lib.hid h0; have HD' := Lib.hid hD; have Hbel := Lib.hid hbel
  have z := block_cell hD
  have z0 := z 0; have z1 := z 1; have z2 := z 2; have z3 := z 3; have z4 := z 4; have z5 := z 5; have z6 := z 6; have z7 := z 7
  simp at z0 z1 z2 z3 z4 z5 z6 z7
  clear z
  clear h0 hD
  by_cases hlt : k < n
  ·obtain ⟨b, o, rfl, hbB, x0, x1, x2, x3, x4, x5, x6, x7⟩ := (H.out.below hbel (Nat.le_refl _)).di8v hlt
   have hd1 : decide ((k : Int) < (n : Int)) = true := decide_eq_true (by omega)
   have hki : (k : Int) < (n : Int) := by omega
   generalize hhk : l.getD k dz8 = h at *
   have Hhk := Lib.hid hhk
   clear hhk hbel
   by_cases hE : eqI h.L d.L = true
   ·have c5 : eqI [(d.x0 : Int), (d.x1 : Int), (d.x2 : Int), (d.x3 : Int), (d.x4 : Int), (d.x5 : Int), (d.x6 : Int), (d.x7 : Int)] [(h.x0 : Int), (h.x1 : Int), (h.x2 : Int), (h.x3 : Int), (h.x4 : Int), (h.x5 : Int), (h.x6 : Int), (h.x7 : Int)] = true := by have := eqI_iff.1 hE; exact eqI_iff.2 this.symm
    have HE := Lib.hid hE
    clear hE
    go_wp2
    go_region
    all_goals
     go_wp2
     go_ret
     exact ⟨k, rfl, ⟨fun _ => ⟨k, hlt, by rw [Hhk.out]; exact HE.out⟩, fun _ => by omega⟩, Hbel.out.drew⟩
   ·have hE' : eqI h.L d.L = false := by simpa using hE
    have c5 : eqI [(d.x0 : Int), (d.x1 : Int), (d.x2 : Int), (d.x3 : Int), (d.x4 : Int), (d.x5 : Int), (d.x6 : Int), (d.x7 : Int)] [(h.x0 : Int), (h.x1 : Int), (h.x2 : Int), (h.x3 : Int), (h.x4 : Int), (h.x5 : Int), (h.x6 : Int), (h.x7 : Int)] = false := by
     cases hx : eqI [(d.x0 : Int), (d.x1 : Int), (d.x2 : Int), (d.x3 : Int), (d.x4 : Int), (d.x5 : Int), (d.x6 : Int), (d.x7 : Int)] [(h.x0 : Int), (h.x1 : Int), (h.x2 : Int), (h.x3 : Int), (h.x4 : Int), (h.x5 : Int), (h.x6 : Int), (h.x7 : Int)] with
     | false => rfl
     | true => exact absurd (eqI_iff.2 (eqI_iff.1 hx).symm) hE
    have HE := Lib.hid hE'
    clear hE hE'
    go_wp2
    go_region
    all_goals
     go_wp2
     go_roundw
     case rel =>
      refine ⟨k + 1, by omega, by go_num, fun j hj => ?_, HD'.out, Hbel.out.drew, hsz⟩
      rcases Nat.lt_or_ge j k with h1 | h1
      ·exact H0.out j h1
      ·obtain rfl : j = k := by omega
       rw [Hhk.out]; exact HE.out
     case measure => simp [RowKit.intOf]; omega
  ·have hkn : k = n := by omega
   subst hkn
   have hd1 : decide ((k : Int) < (k : Int)) = false := decide_eq_false (by omega)
   clear hlt hbel
   go_wp2
   go_ret
   exact ⟨-1, rfl, ⟨fun h => by omega, fun ⟨j, hj, hh⟩ => by rw [H0.out j hj] at hh; cases hh⟩, Hbel.out⟩
set_option maxRecDepth 100000 in
theorem dcontains_any (A : Option Addr) (n c : Nat) (l : List D8) (d : D8) (w : World) (h : Rd w w.heap.size 8 A n (flatD l)) (hn : n ≤ 1000000) :
  Calls Tryz.prog 55 #[.slice A n c, .agg #[.int .u8 d.x0, .int .u8 d.x1, .int .u8 d.x2, .int .u8 d.x3, .int .u8 d.x4, .int .u8 d.x5, .int .u8 d.x6, .int .u8 d.x7]] w fun e w' => e = .returned (.bool ((List.range n).any fun j => eqI (l.getD j dz8).L d.L)) ∧ Below w.heap.size w w' := by
 have H := Lib.hid ((h.alloc (Nat.le_refl _) (.cells #[.int .u8 d.x0, .int .u8 d.x1, .int .u8 d.x2, .int .u8 d.x3, .int .u8 d.x4, .int .u8 d.x5, .int .u8 d.x6, .int .u8 d.x7] 27)).more (B' := (w.alloc (.cells #[.int .u8 d.x0, .int .u8 d.x1, .int .u8 d.x2, .int .u8 d.x3, .int .u8 d.x4, .int .u8 d.x5, .int .u8 d.x6, .int .u8 d.x7] 27)).heap.size) (by simp))
 clear h
 go_enter Tryz.func55, Tryz.ntmps55
 go_wp2_with (go_at_call 124; refine (dindex_any A n c l d _ H.out hn).mono ?_; rintro e w1 ⟨r, rfl, hr, hb⟩; have Hr := Lib.hid hr; have Hb := Lib.hid hb; clear hr hb)
 go_ret
 refine ⟨ret_bool ?_, (below_one w _).trans (Hb.out.mono (by simp))⟩
 by_cases h : 0 ≤ r
 ·rw [decide_eq_true h, eq_comm, List.any_eq_true]
  obtain ⟨j, hj, hh⟩ := Hr.out.1 h
  exact ⟨j, by simpa using hj, hh⟩
 ·rw [decide_eq_false h, eq_comm, List.any_eq_false]
  intro j hj
  have hj' : j < n := by simpa using hj
  intro hh
  exact h (Hr.out.2 ⟨j, hj', hh⟩)
section
variable {p : Pl} {wn : Int}
theorem plc_win (h : winB wn = false) : p.check wn = 1 := by simp [Pl.check, h]
theorem plc_many (h : winB wn = true) (h2 : manyB p.ks.length = false) : p.check wn = 3 := by simp [Pl.check, h, h2]
theorem plc_dup (h : winB wn = true) (h2 : manyB p.ks.length = true) {k : Nat} (hk : k < p.ks.length) (h3 : dupK p.ks k = true) : p.check wn = 7 := by
 have : (List.range p.ks.length).any (dupK p.ks) = true := List.any_eq_true.2 ⟨k, by simpa using hk, h3⟩
 simp [Pl.check, h, h2, this]
structure PlK (p : Pl) (wn : Int) : Prop where
 w : winB wn = true
 m : manyB p.ks.length = true
 d : (List.range p.ks.length).any (dupK p.ks) = false
theorem PlK.of (h : winB wn = true) (h2 : manyB p.ks.length = true) (h3 : ∀ k, k < p.ks.length → dupK p.ks k = false) : PlK p wn :=
 ⟨h, h2, by rw [List.any_eq_false]; intro k hk; rw [h3 k (by simpa using hk)]; simp⟩
theorem plc_stk (h : PlK p wn) (h2 : (stkB p.s0 && stkB p.s1) = false) : p.check wn = 2 := by simp only [Pl.check, h.w, h.m, h.d, h2]; simp
theorem plc_len (h : PlK p wn) (h2 : (stkB p.s0 && stkB p.s1) = true) (h3 : ¬ (p.nr.length = p.ks.length - 1 ∧ p.fr.length = p.ks.length - 1)) : p.check wn = 3 := by
 simp only [Pl.check, h.w, h.m, h.d, h2, if_neg h3]; simp
structure PlL (p : Pl) (wn : Int) : Prop extends PlK p wn where
 s : (stkB p.s0 && stkB p.s1) = true
 l : p.nr.length = p.ks.length - 1 ∧ p.fr.length = p.ks.length - 1
theorem plc_hgt (h : PlL p wn) {k : Nat} (hk : k < p.ks.length - 1) (h2 : (far (p.nr.getD k 0) && far (p.fr.getD k 0)) = false) : p.check wn = 2 := by
 have : (List.range (p.ks.length - 1)).all (fun i => far (p.nr.getD i 0) && far (p.fr.getD i 0)) = false := by
  rw [List.all_eq_false]
  exact ⟨k, by simpa using hk, by rw [h2]; simp⟩
 simp only [Pl.check, h.w, h.m, h.d, h.s, if_pos h.l, this]; simp
structure PlH (p : Pl) (wn : Int) : Prop extends PlL p wn where
 h : ∀ k, k < p.ks.length - 1 → (far (p.nr.getD k 0) && far (p.fr.getD k 0)) = true
theorem PlH.all (h : PlH p wn) : (List.range (p.ks.length - 1)).all (fun i => far (p.nr.getD i 0) && far (p.fr.getD i 0)) = true := by
 rw [List.all_eq_true]; intro k hk; exact h.h k (by simpa using hk)
theorem plc_gap (h : PlH p wn) {k : Nat} (h1 : 1 ≤ k) (hk : k < p.ks.length - 1) (h2 : gapB p wn k = true) : p.check wn = 20 := by
 have : (List.range (p.ks.length - 1)).any (fun i => decide (1 ≤ i) && gapB p wn i) = true := List.any_eq_true.2 ⟨k, by simpa using hk, by rw [h2]; simpa using h1⟩
 simp only [Pl.check, h.w, h.m, h.d, h.s, if_pos h.l, h.all, this]; simp
theorem plc_ok (h : PlH p wn) (h2 : ∀ k, 1 ≤ k → k < p.ks.length - 1 → gapB p wn k = false) : p.check wn = 0 := by
 have : (List.range (p.ks.length - 1)).any (fun i => decide (1 ≤ i) && gapB p wn i) = false := by
  rw [List.any_eq_false]
  intro k hk
  have hk' : k < p.ks.length - 1 := by simpa using hk
  by_cases h1 : 1 ≤ k
  ·rw [h2 k h1 hk']; simp
  ·simp [h1]
 simp only [Pl.check, h.w, h.m, h.d, h.s, if_pos h.l, h.all, this]; simp
end
theorem elem_dig : Tryz.prog.underlying 25 = some (.slice (Tryz.prog.elem 25)) := by kernel_rfl
theorem sizeOf_dig : ∀ w', (sizeOf (Tryz.prog.elem 25)).run Tryz.prog w' = .ok 8 w' := fun w' => by kernel_rfl
theorem flatD_take (l : List D8) (k : Nat) : (flatD l).take (k * 8) = flatD (l.take k) := by
 induction l generalizing k with
 | nil => simp [flatD]
 | cons i l ih =>
  have e : flatD (i :: l) = i.cells ++ flatD l := by simp [flatD]
  have hl : i.cells.length = 8 := rfl
  cases k with
  | zero => simp [flatD]
  | succ k =>
   have e2 : flatD ((i :: l).take (k + 1)) = i.cells ++ flatD (l.take k) := by simp [flatD]
   rw [e, e2, ← ih, List.take_append, hl, show List.take ((k + 1) * 8) i.cells = i.cells from List.take_of_length_le (by rw [hl]; omega), show (k + 1) * 8 - 8 = k * 8 by omega]
theorem any_take (l : List D8) (k : Nat) : ((List.range k).any fun j => eqI ((l.take k).getD j dz8).L (l.getD k dz8).L) = dupK l k := by
 unfold dupK
 have : ∀ (m : Nat), m ≤ k → ((List.range m).any fun j => eqI ((l.take k).getD j dz8).L (l.getD k dz8).L) = ((List.range m).any fun j => eqI (l.getD j dz8).L (l.getD k dz8).L) := by
  intro m hm
  induction m with
  | zero => rfl
  | succ m ih =>
   rw [List.range_succ, List.any_append, List.any_append, ih (by omega)]
   congr 1
   simp [List.getD_eq_getElem?_getD, List.getElem?_take, show m < k by omega]
 exact this k (Nat.le_refl _)
theorem stk_dec (n : Int) : stkB n = (decide (1 ≤ n) && decide (n ≤ 562949953421312)) := rfl
set_option maxRecDepth 100000 in
set_option maxHeartbeats 4000000 in
theorem plcheck_any (p : Pl) (Ak : Option Addr) (nk ck : Nat) (An : Option Addr) (nn cn : Nat) (Af : Option Addr) (nf cf : Nat) (wn : Int) (w : World) (h : p.At Ak nk ck An nn Af nf w) :
  Calls Tryz.prog 15 #[.agg #[.int .u8 p.tb.x0, .int .u8 p.tb.x1, .int .u8 p.tb.x2, .int .u8 p.tb.x3, .int .u8 p.tb.x4, .int .u8 p.tb.x5, .int .u8 p.tb.x6, .int .u8 p.tb.x7, .slice Ak nk ck, .int .i64 p.s0, .int .i64 p.s1, .slice An nn cn, .slice Af nf cf], .int .i64 wn] w fun e w' => e = .returned (.int .i64 (p.check wn)) ∧ Below w.heap.size w w' := by
 have HX : Hid ((w.alloc (.cells #[.int .u8 p.tb.x0, .int .u8 p.tb.x1, .int .u8 p.tb.x2, .int .u8 p.tb.x3, .int .u8 p.tb.x4, .int .u8 p.tb.x5, .int .u8 p.tb.x6, .int .u8 p.tb.x7, .slice Ak nk ck, .int .i64 p.s0, .int .i64 p.s1, .slice An nn cn, .slice Af nf cf] 32)).heap[w.heap.size]? = some (.cells #[.int .u8 p.tb.x0, .int .u8 p.tb.x1, .int .u8 p.tb.x2, .int .u8 p.tb.x3, .int .u8 p.tb.x4, .int .u8 p.tb.x5, .int .u8 p.tb.x6, .int .u8 p.tb.x7, .slice Ak nk ck, .int .i64 p.s0, .int .i64 p.s1, .slice An nn cn, .slice Af nf cf] 32 (0, 0))) := heap_alloc_new _ _
 have Hw : Hid (Below w.heap.size w (w.alloc (.cells #[.int .u8 p.tb.x0, .int .u8 p.tb.x1, .int .u8 p.tb.x2, .int .u8 p.tb.x3, .int .u8 p.tb.x4, .int .u8 p.tb.x5, .int .u8 p.tb.x6, .int .u8 p.tb.x7, .slice Ak nk ck, .int .i64 p.s0, .int .i64 p.s1, .slice An nn cn, .slice Af nf cf] 32))) := below_one _ _
 have Hz : Hid ((w.alloc (.cells #[.int .u8 p.tb.x0, .int .u8 p.tb.x1, .int .u8 p.tb.x2, .int .u8 p.tb.x3, .int .u8 p.tb.x4, .int .u8 p.tb.x5, .int .u8 p.tb.x6, .int .u8 p.tb.x7, .slice Ak nk ck, .int .i64 p.s0, .int .i64 p.s1, .slice An nn cn, .slice Af nf cf] 32)).heap.size = w.heap.size + 1) := by show _ = _; simp
 have H := Lib.hid h
 have Hl := Lib.hid h.k.dlenD; have Hln := Lib.hid h.n.ilen; have Hlf := Lib.hid h.f.ilen
 have hck := h.cap; have hbk := h.bk
 clear h
 cases hW : winB wn with
 | false =>
  have Hr := Lib.hid (plc_win (p := p) hW)
  go_enter Tryz.func15, Tryz.ntmps15
  go_wp2_with (go_at_call 51; refine (window_any _ _).mono ?_; rintro e w1 ⟨rfl, rfl⟩)
  go_ret
  exact ⟨by rw [Hr.out]; rfl, Hw.out⟩
 | true =>
 have HW := Lib.hid hW
 cases hM : manyB nk with
 | false =>
  have Hr := Lib.hid (plc_many (p := p) hW (by rw [Hl.out]; exact hM))
  go_enter Tryz.func15, Tryz.ntmps15
  go_wp2_with (first | (go_at_call 51; refine (window_any _ _).mono ?_; rintro e w1 ⟨rfl, rfl⟩) | (go_at_call 53; refine (many_any _ _ _ _).mono ?_; rintro e w1 ⟨rfl, rfl⟩))
  go_ret
  exact ⟨by rw [Hr.out]; rfl, Hw.out⟩
 | true =>
 have HM := Lib.hid (show manyB p.ks.length = true by rw [Hl.out]; exact hM)
 go_enter Tryz.func15, Tryz.ntmps15
 go_wp2_with (first | (go_at_call 51; refine (window_any _ _).mono ?_; rintro e w1 ⟨rfl, rfl⟩) | (go_at_call 53; refine (many_any _ _ _ _).mono ?_; rintro e w1 ⟨rfl, rfl⟩))
 generalize w.alloc (.cells #[.int .u8 p.tb.x0, .int .u8 p.tb.x1, .int .u8 p.tb.x2, .int .u8 p.tb.x3, .int .u8 p.tb.x4, .int .u8 p.tb.x5, .int .u8 p.tb.x6, .int .u8 p.tb.x7, .slice Ak nk ck, .int .i64 p.s0, .int .i64 p.s1, .slice An nn cn, .slice Af nf cf] 32) = w0 at *
 go_loopw [22] (fun i wr => ∃ k : Nat, k ≤ nk ∧ i = .int .i64 k ∧ (∀ j, j < k → dupK p.ks j = false) ∧ Below w0.heap.size w0 wr) (fun i _ => nk - (RowKit.intOf i).toNat)
 case atStart => exact ⟨0, by omega, rfl, fun j hj => absurd hj (by omega), Below.refl _ _⟩
 case round =>
  obtain ⟨k, hk, rfl, h0, hbel⟩ := hrel
  have H0 := Lib.hid h0; have Hbel := Lib.hid hbel
  have Hk0 := Lib.hid ((H.out.up Hw.out).up hbel)
  have HXr := Lib.hid (block_below HX.out hbel (by rw [Hz.out]; omega))
  have hszr : w.heap.size < wr.heap.size := by have := hbel.size; have := Hz.out; omega
  have z := block_cell HXr.out
  have z0 := z 0; have z1 := z 1; have z2 := z 2; have z3 := z 3; have z4 := z 4; have z5 := z 5; have z6 := z 6; have z7 := z 7; have z8 := z 8; have z9 := z 9; have z10 := z 10; have z11 := z 11; have z12 := z 12
  simp at z0 z1 z2 z3 z4 z5 z6 z7 z8 z9 z10 z11 z12
  clear z
  clear h0 hbel
  by_cases hlt : k < nk
  ·obtain ⟨A2, hsl, hrd⟩ := slice_to elem_dig sizeOf_dig Hk0.out.k hck (m := k) (by omega)
   rw [flatD_take] at hrd
   obtain ⟨b, o, rfl, hbB, x0, x1, x2, x3, x4, x5, x6, x7⟩ := Hk0.out.k.di8v hlt
   have hd1 : decide ((k : Int) < (nk : Int)) = true := decide_eq_true (by omega)
   have hki : (k : Int) < (nk : Int) := by omega
   generalize hhk : p.ks.getD k dz8 = h at *
   have Hhk := Lib.hid hhk
   clear hhk
   have HNX : Hid ((wr.alloc (.cells #[.int .u8 h.x0, .int .u8 h.x1, .int .u8 h.x2, .int .u8 h.x3, .int .u8 h.x4, .int .u8 h.x5, .int .u8 h.x6, .int .u8 h.x7] 27)).heap[wr.heap.size]? = some (.cells #[.int .u8 h.x0, .int .u8 h.x1, .int .u8 h.x2, .int .u8 h.x3, .int .u8 h.x4, .int .u8 h.x5, .int .u8 h.x6, .int .u8 h.x7] 27 (0, 0))) := heap_alloc_new _ _
   have Hrd := Lib.hid (((hrd.alloc (Nat.le_refl _) (.cells #[.int .u8 h.x0, .int .u8 h.x1, .int .u8 h.x2, .int .u8 h.x3, .int .u8 h.x4, .int .u8 h.x5, .int .u8 h.x6, .int .u8 h.x7] 27)).more (B' := (wr.alloc (.cells #[.int .u8 h.x0, .int .u8 h.x1, .int .u8 h.x2, .int .u8 h.x3, .int .u8 h.x4, .int .u8 h.x5, .int .u8 h.x6, .int .u8 h.x7] 27)).heap.size) (by simp)))
   have Hb2 := Lib.hid (below_one wr (.cells #[.int .u8 h.x0, .int .u8 h.x1, .int .u8 h.x2, .int .u8 h.x3, .int .u8 h.x4, .int .u8 h.x5, .int .u8 h.x6, .int .u8 h.x7] 27))
   clear hrd
   go_wp2_with fail
   generalize wr.alloc (.cells #[.int .u8 h.x0, .int .u8 h.x1, .int .u8 h.x2, .int .u8 h.x3, .int .u8 h.x4, .int .u8 h.x5, .int .u8 h.x6, .int .u8 h.x7] 27) = wx at *
   have y := block_cell HNX.out
   have y0 := y 0; have y1 := y 1; have y2 := y 2; have y3 := y 3; have y4 := y 4; have y5 := y 5; have y6 := y 6; have y7 := y 7
   simp at y0 y1 y2 y3 y4 y5 y6 y7
   clear y
   have HX2 := Lib.hid (block_below HXr.out Hb2.out (by omega))
   have u := block_cell HX2.out
   have u0 := u 0; have u1 := u 1; have u2 := u 2; have u3 := u 3; have u4 := u 4; have u5 := u 5; have u6 := u 6; have u7 := u 7; have u8 := u 8; have u9 := u 9; have u10 := u 10; have u11 := u 11; have u12 := u 12
   simp at u0 u1 u2 u3 u4 u5 u6 u7 u8 u9 u10 u11 u12
   clear u
   refine wp_region_tail 5 (by kernel_rfl) (by kernel_rfl) ?_
   simp only [List.take_succ_cons, List.take_zero, List.drop_succ_cons, List.drop_zero]
   iterate 5 still_step
   refine wpStill_nil ?_
   go_wp2_with fail
   refine (dcontains_any A2 k ck _ h _ Hrd.out.drew (by omega)).mono ?_
   rintro e w2 ⟨he, hb2⟩
   have HA := any_take p.ks k
   rw [Hhk.out] at HA
   rw [HA] at he
   subst he
   have Hb3 := Lib.hid ((Hbel.out.trans (Hb2.out.mono Hbel.out.size)).drew.trans (hb2.mono (by have := Hbel.out.size; have := Hb2.out.size; show w0.heap.size ≤ wx.heap.size; omega)))
   clear HA hb2
   cases hd : dupK p.ks k with
   | true =>
    have Hr := Lib.hid (plc_dup (p := p) HW.out HM.out (k := k) (by rw [Hl.out]; exact hlt) hd)
    go_wp2
    go_ret
    exact ⟨by rw [Hr.out]; rfl, Hw.out.trans (Hb3.out.mono Hw.out.size)⟩
   | false =>
    have Hd := Lib.hid hd
    go_wp2
    go_roundw
    case rel =>
     refine ⟨k + 1, by omega, by go_num, fun j hj => ?_, Hb3.out⟩
     rcases Nat.lt_or_ge j k with h1 | h1
     ·exact H0.out j h1
     ·obtain rfl : j = k := by omega
      exact Hd.out
    case measure => simp [RowKit.intOf]; omega
  ·have hkn : k = nk := by omega
   subst hkn
   have hd1 : decide ((k : Int) < (k : Int)) = false := decide_eq_false (by omega)
   have HK : Hid (PlK p wn) := PlK.of HW.out HM.out (by rw [Hl.out]; exact H0.out)
   clear hlt
   have hk2 : 2 ≤ k := by have := HM.out; rw [Hl.out] at this; simp [manyB] at this; omega
   have Hbw := Lib.hid (Hw.out.trans (Hbel.out.mono Hw.out.size))
   have ix0 : ∀ w, (Instr.index 29 (.agg #[.int .i64 p.s0, .int .i64 p.s1]) (.int .i64 0)).run Tryz.prog w = .ok (.int .i64 p.s0) w := fun _ => by kernel_rfl
   have ix1 : ∀ w, (Instr.index 29 (.agg #[.int .i64 p.s0, .int .i64 p.s1]) (.int .i64 1)).run Tryz.prog w = .ok (.int .i64 p.s1) w := fun _ => by kernel_rfl
   by_cases hs0 : p.s0 < 1
   ·have q1 : decide (p.s0 < 1) = true := decide_eq_true hs0
    have Hr := Lib.hid (plc_stk HK.out (by simp [stkB]; omega))
    clear hs0
    go_wp2
    refine wp_loop_rounds 3 ?_
    rw [rounds_succ]; go_wp2
    go_ret
    exact ⟨by rw [Hr.out]; rfl, Hbw.out⟩
   have q1 : decide (p.s0 < 1) = false := decide_eq_false hs0
   by_cases hs1 : 562949953421312 < p.s0
   ·have q2 : decide (562949953421312 < p.s0) = true := decide_eq_true hs1
    have Hr := Lib.hid (plc_stk HK.out (by simp [stkB]; omega))
    clear hs0 hs1
    go_wp2
    refine wp_loop_rounds 3 ?_
    rw [rounds_succ]; go_wp2
    go_ret
    exact ⟨by rw [Hr.out]; rfl, Hbw.out⟩
   have q2 : decide (562949953421312 < p.s0) = false := decide_eq_false hs1
   by_cases hs2 : p.s1 < 1
   ·have q3 : decide (p.s1 < 1) = true := decide_eq_true hs2
    have Hr := Lib.hid (plc_stk HK.out (by simp [stkB]; omega))
    clear hs0 hs1 hs2
    go_wp2
    refine wp_loop_rounds 3 ?_
    rw [rounds_succ]; go_wp2
    rw [rounds_succ]; go_wp2
    go_ret
    exact ⟨by rw [Hr.out]; rfl, Hbw.out⟩
   have q3 : decide (p.s1 < 1) = false := decide_eq_false hs2
   by_cases hs3 : 562949953421312 < p.s1
   ·have q4 : decide (562949953421312 < p.s1) = true := decide_eq_true hs3
    have Hr := Lib.hid (plc_stk HK.out (by simp [stkB]; omega))
    clear hs0 hs1 hs2 hs3
    go_wp2
    refine wp_loop_rounds 3 ?_
    rw [rounds_succ]; go_wp2
    rw [rounds_succ]; go_wp2
    go_ret
    exact ⟨by rw [Hr.out]; rfl, Hbw.out⟩
   have q4 : decide (562949953421312 < p.s1) = false := decide_eq_false hs3
   have HS : Hid ((stkB p.s0 && stkB p.s1) = true) := by show _ = _; simp [stkB]; omega
   clear hs0 hs1 hs2 hs3
   obtain ⟨m, hm⟩ : ∃ m, k = m + 1 := ⟨k - 1, by omega⟩
   have hsub : (k : Int) - 1 = (m : Int) := by omega
   have Hm := Lib.hid hm
   clear hm
   by_cases he : ¬ (nn = m ∧ nf = m)
   ·have Hr := Lib.hid (plc_len HK.out HS.out (by rw [Hl.out, Hln.out, Hlf.out, Hm.out]; exact he))
    by_cases e1 : nn = m
    ·have b1 : ((nn : Int) != (m : Int)) = false := by simp [e1]
     have b2 : ((nf : Int) != (m : Int)) = true := by rw [bne_iff_ne]; omega
     clear he e1
     go_wp2
     refine wp_loop_rounds 3 ?_
     iterate 3 (rw [rounds_succ]; go_wp2)
     go_ret
     exact ⟨by rw [Hr.out]; rfl, Hbw.out⟩
    ·have b1 : ((nn : Int) != (m : Int)) = true := by rw [bne_iff_ne]; omega
     clear he e1
     go_wp2
     refine wp_loop_rounds 3 ?_
     iterate 3 (rw [rounds_succ]; go_wp2)
     go_ret
     exact ⟨by rw [Hr.out]; rfl, Hbw.out⟩
   obtain ⟨rfl, rfl⟩ := Decidable.not_not.1 he
   clear he
   have b1 : ((nf : Int) != (nf : Int)) = false := by simp
   have HL : Hid (PlL p wn) := ⟨HK.out, HS.out, by rw [Hl.out, Hln.out, Hlf.out, Hm.out]; simp⟩
   have hlm : p.ks.length - 1 = nf := by rw [Hl.out, Hm.out]; rfl
   have Hlm := Lib.hid hlm
   clear hlm
   go_wp2
   refine wp_loop_rounds 3 ?_
   iterate 3 (rw [rounds_succ]; go_wp2_with fail)
   have Hrr := Lib.hid (((H.out.up Hw.out).up Hbel.out))
   have hbf := H.out.bf
   obtain ⟨w5, rfl⟩ : ∃ w5 : World, w5 = wr := ⟨_, rfl⟩
   go_loopw [63] (fun i w9 => w9 = w5 ∧ ∃ k : Nat, k ≤ nf ∧ i = .int .i64 k ∧ (∀ j, j < k → (far (p.nr.getD j 0) && far (p.fr.getD j 0)) = true)) (fun i _ => nf - (RowKit.intOf i).toNat)
   case atStart => exact ⟨rfl, 0, by omega, rfl, fun j hj => absurd hj (by omega)⟩
   case round =>
    obtain ⟨rfl, q, hk, rfl, h0⟩ := hrel
    have H5 := Lib.hid h0
    clear h0
    by_cases hlt : q < nf
    ·obtain ⟨b, o, rfl, hbB, x0⟩ := Hrr.out.n.iat hlt
     obtain ⟨b', o', rfl, hbB', y0⟩ := Hrr.out.f.iat hlt
     have hd1 : decide ((q : Int) < (nf : Int)) = true := decide_eq_true (by omega)
     have hki : (q : Int) < (nf : Int) := by omega
     generalize hh1 : p.nr.getD q 0 = g1 at *
     generalize hh2 : p.fr.getD q 0 = g2 at *
     have Hh1 := Lib.hid hh1; have Hh2 := Lib.hid hh2
     clear hh1 hh2
     cases f1 : far g1 with
     | false =>
      have Hr := Lib.hid (plc_hgt HL.out (k := q) (by rw [Hlm.out]; exact hlt) (by rw [Hh1.out, f1]; rfl))
      go_wp2_with (go_at_call 52; refine (height_any _ _).mono ?_; rintro e w1 ⟨rfl, rfl⟩)
      go_ret
      exact ⟨by rw [Hr.out]; rfl, Hbw.out⟩
     | true =>
      cases f2 : far g2 with
      | false =>
       have Hr := Lib.hid (plc_hgt HL.out (k := q) (by rw [Hlm.out]; exact hlt) (by rw [Hh2.out, f2]; simp))
       go_wp2_with (go_at_call 52; refine (height_any _ _).mono ?_; rintro e w1 ⟨rfl, rfl⟩)
       go_ret
       exact ⟨by rw [Hr.out]; rfl, Hbw.out⟩
      | true =>
       have HF : Hid ((far (p.nr.getD q 0) && far (p.fr.getD q 0)) = true) := by show _ = _; rw [Hh1.out, Hh2.out, f1, f2]; rfl
       go_wp2_with (go_at_call 52; refine (height_any _ _).mono ?_; rintro e w1 ⟨rfl, rfl⟩)
       go_roundw
       case rel =>
        refine ⟨trivial, q + 1, by omega, by go_num, fun j hj => ?_⟩
        rcases Nat.lt_or_ge j q with h1 | h1
        ·exact H5.out j h1
        ·obtain rfl : j = q := by omega
         exact HF.out
       case measure => simp [RowKit.intOf]; omega
    ·have hkn : q = nf := by omega
     subst hkn
     have hd1 : decide ((q : Int) < (q : Int)) = false := decide_eq_false (by omega)
     have HH : Hid (PlH p wn) := ⟨HL.out, by rw [Hlm.out]; exact H5.out⟩
     clear hlt
     have hq1 : 1 ≤ q := by omega
     have hwx : ∀ j, j < q → (0 ≤ p.nr.getD j 0 ∧ p.nr.getD j 0 ≤ 1099511627776) ∧ (0 ≤ p.fr.getD j 0 ∧ p.fr.getD j 0 ≤ 1099511627776) := fun j hj => by
      have := H5.out j hj
      simp only [Bool.and_eq_true, far_iff] at this
      exact this
     have Hwx := Lib.hid hwx
     clear hwx
     go_wp2_with fail
     obtain ⟨w6, rfl⟩ : ∃ w6 : World, w6 = wr := ⟨_, rfl⟩
     go_loopw [11] (fun i w9 => Below w6.heap.size w6 w9 ∧ ∃ s : Nat, 1 ≤ s ∧ s ≤ q ∧ i = .int .i64 s ∧ (∀ j, 1 ≤ j → j < s → gapB p wn j = false)) (fun i _ => q - (RowKit.intOf i).toNat)
     case atStart => exact ⟨Below.refl _ _, 1, by omega, by omega, rfl, fun j hj hj2 => absurd hj2 (by omega)⟩
     case round =>
      obtain ⟨hb6, s, hs1, hs, rfl, h0⟩ := hrel
      have H6 := Lib.hid h0; have Hb6 := Lib.hid hb6
      clear h0 hb6
      by_cases hlt : s < q
      ·obtain ⟨r, hr⟩ : ∃ r, s = r + 1 := ⟨s - 1, by omega⟩
       have hsub2 : (s : Int) - 1 = (r : Int) := by omega
       have hrq : r < q := by omega
       have HX6 := Lib.hid (block_below (block_below HXr.out (Below.refl _ _) (by omega)) Hb6.out (by omega))
       obtain ⟨b, o, e1, hbB, x0⟩ := (Hrr.out.up Hb6.out).n.iat hlt
       obtain ⟨b', o', e2, hbB', y0⟩ := (Hrr.out.up Hb6.out).f.iat hlt
       obtain ⟨b3, o3, e3, hbB3, x1⟩ := (Hrr.out.up Hb6.out).n.iat hrq
       obtain ⟨b4, o4, e4, hbB4, y1⟩ := (Hrr.out.up Hb6.out).f.iat hrq
       rw [e1] at e3; rw [e2] at e4
       injection e3 with e3; injection e3 with e3 e5; injection e4 with e4; injection e4 with e4 e6
       subst e1 e2 e3 e4 e5 e6
       have k1 := Hwx.out s hlt; have k2 := Hwx.out r hrq
       have Hgap : Hid (gapB p wn s = (decide (p.nr.getD r 0 - p.nr.getD s 0 < wn) || decide (p.fr.getD s 0 - p.fr.getD r 0 < wn))) := by show _ = _; unfold gapB; rw [hr]; rfl
       have HR20 : Hid (gapB p wn s = true → p.check wn = 20) := fun h => plc_gap HH.out hs1 (by rw [Hlm.out]; exact hlt) h
       have hd1 : decide ((s : Int) < (q : Int)) = true := decide_eq_true (by omega)
       have hki : (s : Int) < (q : Int) := by omega
       have hrki : (r : Int) < (q : Int) := by omega
       have v := block_cell HX6.out
       have v0 := v 0; have v1 := v 1; have v2 := v 2; have v3 := v 3; have v4 := v 4; have v5 := v 5; have v6 := v 6; have v7 := v 7; have v8 := v 8; have v9 := v 9; have v10 := v 10; have v11 := v 11; have v12 := v 12
       simp at v0 v1 v2 v3 v4 v5 v6 v7 v8 v9 v10 v11 v12
       clear v
       have Hr1 := Lib.hid hr
       clear hr
       generalize p.nr.getD r 0 = g1 at *
       generalize p.nr.getD s 0 = g2 at *
       generalize p.fr.getD s 0 = g3 at *
       generalize p.fr.getD r 0 = g4 at *
       obtain ⟨⟨k3, k4⟩, k5, k6⟩ := k1
       obtain ⟨⟨k7, k8⟩, k9, k10⟩ := k2
       cases c1 : decide (g1 - g2 < wn) with
       | true =>
        have Hr := Lib.hid (HR20.out (by rw [Hgap.out, c1]; rfl))
        go_wp2
        go_region
        all_goals
         go_wp2
         go_ret
         exact ⟨by rw [Hr.out]; rfl, Hbw.out.trans (Hb6.out.drew.mono Hbw.out.size)⟩
       | false =>
        cases c2 : decide (g3 - g4 < wn) with
        | true =>
         have Hr := Lib.hid (HR20.out (by rw [Hgap.out, c1, c2]; rfl))
         go_wp2
         go_region
         all_goals
          go_wp2
          go_ret
          exact ⟨by rw [Hr.out]; rfl, Hbw.out.trans (Hb6.out.drew.mono Hbw.out.size)⟩
        | false =>
         have HG : Hid (gapB p wn s = false) := by show _ = _; rw [Hgap.out, c1, c2]; rfl
         go_wp2
         go_region
         all_goals
          go_wp2
          go_roundw
          case rel =>
           refine ⟨Hb6.out.drew, s + 1, by omega, by omega, by go_num, fun j hj hj2 => ?_⟩
           rcases Nat.lt_or_ge j s with h1 | h1
           ·exact H6.out j hj h1
           ·obtain rfl : j = s := by omega
            exact HG.out
          case measure => simp [RowKit.intOf]; omega
      ·have hkn : s = q := by omega
       subst hkn
       have hd1 : decide ((s : Int) < (s : Int)) = false := decide_eq_false (by omega)
       have Hr := Lib.hid (plc_ok HH.out (by rw [Hlm.out]; exact H6.out))
       clear hlt
       go_wp2
       go_ret
       exact ⟨by rw [Hr.out]; rfl, Hbw.out.trans (Hb6.out.mono Hbw.out.size)⟩
theorem flatD_one (L : List D8) : ∀ u ∈ flatD L, u.oneCell' = true := by
 intro u hu
 simp only [flatD, List.mem_flatMap] at hu
 obtain ⟨x, _, hx⟩ := hu
 simp [D8.cells] at hx
 rcases hx with rfl | rfl | rfl | rfl | rfl | rfl | rfl | rfl <;> rfl
theorem own_emptyD (u : World) (t : TypeId) (sz B : Nat) (hB : B ≤ u.heap.size) : (u.alloc (.cells #[] t)).ownsRow B t sz (.slice (some ⟨u.heap.size, 0, none⟩) 0 0) 0 [] :=
 ⟨by simp, .inr ⟨u.heap.size, 0, #[], rfl, hB, heap_alloc_new u _, by omega, by simp [maxLen], by simp, by simp⟩⟩
theorem info_Dg : (Tryz.prog.info? 27).map (fun i => (i.zero, i.size, i.bytes)) = some (some (.agg #[.int .u8 0, .int .u8 0, .int .u8 0, .int .u8 0, .int .u8 0, .int .u8 0, .int .u8 0, .int .u8 0]), 8, 8) := by kernel_rfl
set_option maxRecDepth 100000 in
set_option maxHeartbeats 2000000 in
theorem sdclone_any (L : List D8) (A : Option Addr) (n c : Nat) (w : World) (hr : Rd w w.heap.size 8 A n (flatD L)) (hn : n ≤ 1000000) :
  Calls Tryz.prog 54 #[.slice A n c] w fun r w' => ∃ A' c', r = .returned (.slice A' n c') ∧ w'.ownsRow w.heap.size 27 8 (.slice A' n c') n (flatD L) ∧ Below w.heap.size w w' := by
 cases A with
 | none =>
  have h0 : n = 0 := by
   rcases Nat.eq_zero_or_pos n with h0 | h0
   ·exact h0
   ·obtain ⟨_, _, h2, _⟩ := hr.2 h0
    cases h2
  subst h0
  have hL : flatD L = [] := List.eq_nil_of_length_eq_zero (by have := hr.1; omega)
  rw [hL]
  clear hr
  have heq : ∀ w : World, (binOp .eql 25 (.slice none 0 c) (.slice none 0 0)).run Tryz.prog w = .ok (.bool true) w := fun w => run_eql_slice_nil w _ _ none 0 c 0 0 Tryz.underlying25
  go_enter Tryz.func54, Tryz.ntmps54
  go_wp2
  go_ret
  exact ⟨none, 0, rfl, World.ownsRow_nil _ _ _ _, Below.refl _ _⟩
 | some a =>
  obtain ⟨i0, hi, hz0, hz1, hz2⟩ := info_parts info_Dg
  have HI := Lib.hid (And.intro hi (And.intro hz0 (And.intro hz1 hz2))); clear hi hz0 hz1 hz2
  have HO : Hid ((w.alloc (.cells #[] 27)).ownsRow w.heap.size 27 8 (.slice (some ⟨w.heap.size, 0, none⟩) 0 0) 0 []) := own_emptyD w _ _ _ (Nat.le_refl _)
  have Hr := Lib.hid ((hr.alloc (Nat.le_refl _) (.cells #[] 27)).more (B' := (w.alloc (.cells #[] 27)).heap.size) (by simp))
  have h1 := flatD_one L
  have Hu := Lib.hid Tryz.underlying25
  have heq : ∀ w : World, (binOp .eql 25 (.slice (some a) n c) (.slice none 0 0)).run Tryz.prog w = .ok (.bool false) w := fun w => run_eql_slice_nil w _ _ (some a) n c 0 0 Tryz.underlying25
  clear hr
  go_enter Tryz.func54, Tryz.ntmps54
  go_wp2_with (at_builtin; go_must (refine wpList_append_rd (w.alloc (.cells #[] 27)) (by rfl) _ _ 25 (by rfl) w.heap.size 27 i0 (.agg #[.int .u8 0, .int .u8 0, .int .u8 0, .int .u8 0, .int .u8 0, .int .u8 0, .int .u8 0, .int .u8 0]) 8 8 Hu.out HI.out rfl (by decide) _ _ _ (by rfl) HO.out (w.alloc (.cells #[] 27)).heap.size (some a) n c _ (by rfl) Hr.out h1 (by omega) (by omega) (by simp) ?_); intro v4 w4 ho4 hb4; obtain ⟨A4, c4, rfl⟩ := own_form ho4; simp only [Nat.zero_add, List.nil_append] at ho4; have HO4 := Lib.hid ho4; have Hb4 := Lib.hid ((h_one w (.cells #[] 27)).trans (hb4.mono (Nat.le_refl _))); clear ho4 hb4)
  go_ret
  exact ⟨A4, c4, by simp, HO4.out, Hb4.out⟩
theorem info_intV : (Tryz.prog.info? 3).map (fun i => (i.zero, i.size, i.bytes)) = some (some (.int .i64 0), 1, 8) := by kernel_rfl
set_option maxRecDepth 100000 in
set_option maxHeartbeats 2000000 in
theorem iclone_any (L : List Value) (hL1 : ∀ u ∈ L, u.oneCell' = true) (A : Option Addr) (n c : Nat) (w : World) (hr : Rd w w.heap.size 1 A n L) (hn : n ≤ 1000000) :
  Calls Tryz.prog 144 #[.slice A n c] w fun r w' => ∃ A' c', r = .returned (.slice A' n c') ∧ w'.ownsRow w.heap.size 3 1 (.slice A' n c') n L ∧ Below w.heap.size w w' := by
 cases A with
 | none =>
  have h0 : n = 0 := by
   rcases Nat.eq_zero_or_pos n with h0 | h0
   ·exact h0
   ·obtain ⟨_, _, h2, _⟩ := hr.2 h0
    cases h2
  subst h0
  have hL : L = [] := List.eq_nil_of_length_eq_zero (by have := hr.1; omega)
  rw [hL]
  clear hr
  have heq : ∀ w : World, (binOp .eql 30 (.slice none 0 c) (.slice none 0 0)).run Tryz.prog w = .ok (.bool true) w := fun w => run_eql_slice_nil w _ _ none 0 c 0 0 Tryz.underlying30
  go_enter Tryz.func144, Tryz.ntmps144
  go_wp2
  go_ret
  exact ⟨none, 0, rfl, World.ownsRow_nil _ _ _ _, Below.refl _ _⟩
 | some a =>
  obtain ⟨i0, hi, hz0, hz1, hz2⟩ := info_parts info_intV
  have HI := Lib.hid (And.intro hi (And.intro hz0 (And.intro hz1 hz2))); clear hi hz0 hz1 hz2
  have HO : Hid ((w.alloc (.cells #[] 3)).ownsRow w.heap.size 3 1 (.slice (some ⟨w.heap.size, 0, none⟩) 0 0) 0 []) := own_emptyD w _ _ _ (Nat.le_refl _)
  have Hr := Lib.hid ((hr.alloc (Nat.le_refl _) (.cells #[] 3)).more (B' := (w.alloc (.cells #[] 3)).heap.size) (by simp))
  have Hu := Lib.hid Tryz.underlying30
  have heq : ∀ w : World, (binOp .eql 30 (.slice (some a) n c) (.slice none 0 0)).run Tryz.prog w = .ok (.bool false) w := fun w => run_eql_slice_nil w _ _ (some a) n c 0 0 Tryz.underlying30
  clear hr
  go_enter Tryz.func144, Tryz.ntmps144
  go_wp2_with (at_builtin; go_must (refine wpList_append_rd (w.alloc (.cells #[] 3)) (by rfl) _ _ 30 (by rfl) w.heap.size 3 i0 (.int .i64 0) 1 8 Hu.out HI.out rfl (by decide) _ _ _ (by rfl) HO.out (w.alloc (.cells #[] 3)).heap.size (some a) n c _ (by rfl) Hr.out hL1 (by omega) (by omega) (by simp) ?_); intro v4 w4 ho4 hb4; obtain ⟨A4, c4, rfl⟩ := own_form ho4; simp only [Nat.zero_add, List.nil_append] at ho4; have HO4 := Lib.hid ho4; have Hb4 := Lib.hid ((h_one w (.cells #[] 3)).trans (hb4.mono (Nat.le_refl _))); clear ho4 hb4)
  go_ret
  exact ⟨A4, c4, by simp, HO4.out, Hb4.out⟩
theorem info_boolV : (Tryz.prog.info? 4).map (fun i => (i.zero, i.size, i.bytes)) = some (some (.bool false), 1, 1) := by kernel_rfl
set_option maxRecDepth 100000 in
set_option maxHeartbeats 2000000 in
theorem boclone_any (L : List Value) (hL1 : ∀ u ∈ L, u.oneCell' = true) (A : Option Addr) (n c : Nat) (w : World) (hr : Rd w w.heap.size 1 A n L) (hn : n ≤ 1000000) :
  Calls Tryz.prog 113 #[.slice A n c] w fun r w' => ∃ A' c', r = .returned (.slice A' n c') ∧ w'.ownsRow w.heap.size 4 1 (.slice A' n c') n L ∧ Below w.heap.size w w' := by
 cases A with
 | none =>
  have h0 : n = 0 := by
   rcases Nat.eq_zero_or_pos n with h0 | h0
   ·exact h0
   ·obtain ⟨_, _, h2, _⟩ := hr.2 h0
    cases h2
  subst h0
  have hL : L = [] := List.eq_nil_of_length_eq_zero (by have := hr.1; omega)
  rw [hL]
  clear hr
  have heq : ∀ w : World, (binOp .eql 116 (.slice none 0 c) (.slice none 0 0)).run Tryz.prog w = .ok (.bool true) w := fun w => run_eql_slice_nil w _ _ none 0 c 0 0 Tryz.underlying116
  go_enter Tryz.func113, Tryz.ntmps113
  go_wp2
  go_ret
  exact ⟨none, 0, rfl, World.ownsRow_nil _ _ _ _, Below.refl _ _⟩
 | some a =>
  obtain ⟨i0, hi, hz0, hz1, hz2⟩ := info_parts info_boolV
  have HI := Lib.hid (And.intro hi (And.intro hz0 (And.intro hz1 hz2))); clear hi hz0 hz1 hz2
  have HO : Hid ((w.alloc (.cells #[] 4)).ownsRow w.heap.size 4 1 (.slice (some ⟨w.heap.size, 0, none⟩) 0 0) 0 []) := own_emptyD w _ _ _ (Nat.le_refl _)
  have Hr := Lib.hid ((hr.alloc (Nat.le_refl _) (.cells #[] 4)).more (B' := (w.alloc (.cells #[] 4)).heap.size) (by simp))
  have Hu := Lib.hid Tryz.underlying116
  have heq : ∀ w : World, (binOp .eql 116 (.slice (some a) n c) (.slice none 0 0)).run Tryz.prog w = .ok (.bool false) w := fun w => run_eql_slice_nil w _ _ (some a) n c 0 0 Tryz.underlying116
  clear hr
  go_enter Tryz.func113, Tryz.ntmps113
  go_wp2_with (at_builtin; go_must (refine wpList_append_rd (w.alloc (.cells #[] 4)) (by rfl) _ _ 116 (by rfl) w.heap.size 4 i0 (.bool false) 1 1 Hu.out HI.out rfl (by decide) _ _ _ (by rfl) HO.out (w.alloc (.cells #[] 4)).heap.size (some a) n c _ (by rfl) Hr.out hL1 (by omega) (by omega) (by simp) ?_); intro v4 w4 ho4 hb4; obtain ⟨A4, c4, rfl⟩ := own_form ho4; simp only [Nat.zero_add, List.nil_append] at ho4; have HO4 := Lib.hid ho4; have Hb4 := Lib.hid ((h_one w (.cells #[] 4)).trans (hb4.mono (Nat.le_refl _))); clear ho4 hb4)
  go_ret
  exact ⟨A4, c4, by simp, HO4.out, Hb4.out⟩
structure Pl.Own (p : Pl) (C : Nat) (Ak : Option Addr) (nk ck : Nat) (An : Option Addr) (nn cn : Nat) (Af : Option Addr) (nf cf : Nat) (w : World) : Prop where
 k : w.ownsRow C 27 8 (.slice Ak nk ck) nk (flatD p.ks)
 n : w.ownsRow C 3 1 (.slice An nn cn) nn (ivs p.nr)
 f : w.ownsRow C 3 1 (.slice Af nf cf) nf (ivs p.fr)
 bk : nk ≤ 1000000
 bn : nn ≤ 1000000
 bf : nf ≤ 1000000
theorem Pl.Own.at_ {p : Pl} {C : Nat} {Ak : Option Addr} {nk ck : Nat} {An : Option Addr} {nn cn : Nat} {Af : Option Addr} {nf cf : Nat} {w : World} (h : p.Own C Ak nk ck An nn cn Af nf cf w) : p.At Ak nk ck An nn Af nf w :=
 ⟨Rd.of_own h.k, Rd.of_own h.n, Rd.of_own h.f, h.bk, h.bn, h.bf, own_cap h.k⟩
def GivesPl (p : Pl) (er : Int) (w : World) (e : Ending) (w' : World) : Prop :=
 ∃ Ak nk ck An nn cn Af nf cf, e = .returned (.tuple #[.agg #[.int .u8 p.tb.x0, .int .u8 p.tb.x1, .int .u8 p.tb.x2, .int .u8 p.tb.x3, .int .u8 p.tb.x4, .int .u8 p.tb.x5, .int .u8 p.tb.x6, .int .u8 p.tb.x7, .slice Ak nk ck, .int .i64 p.s0, .int .i64 p.s1, .slice An nn cn, .slice Af nf cf], .int .i64 er]) ∧ p.Own w.heap.size Ak nk ck An nn cn Af nf cf w' ∧ Below w.heap.size w w'
theorem pl0_own (C : Nat) (w : World) : pl0.Own C none 0 0 none 0 0 none 0 0 w := ⟨World.ownsRow_nil _ _ _ _, World.ownsRow_nil _ _ _ _, World.ownsRow_nil _ _ _ _, by omega, by omega, by omega⟩
theorem pl0_at (w : World) : pl0.At none 0 0 none 0 none 0 w := ⟨Rd.empty, Rd.empty, Rd.empty, by omega, by omega, by omega, by omega⟩
theorem free13 {w : World} {g : Nat} {T : TypeId} {c0 c1 c2 c3 c4 c5 c6 c7 c8 c9 c10 c11 c12 : Value} (h : w.heap[g]? = some (.cells #[c0, c1, c2, c3, c4, c5, c6, c7, c8, c9, c10, c11, c12] T (0, 0))) :
  (∀ j, w.frozen? ⟨g, j, none⟩ = false) ∧ w.cell? ⟨g, 0, none⟩ = some c0 ∧ w.cell? ⟨g, 1, none⟩ = some c1 ∧ w.cell? ⟨g, 2, none⟩ = some c2 ∧ w.cell? ⟨g, 3, none⟩ = some c3 ∧ w.cell? ⟨g, 4, none⟩ = some c4 ∧ w.cell? ⟨g, 5, none⟩ = some c5 ∧ w.cell? ⟨g, 6, none⟩ = some c6 ∧ w.cell? ⟨g, 7, none⟩ = some c7 ∧ w.cell? ⟨g, 8, none⟩ = some c8 ∧ w.cell? ⟨g, 9, none⟩ = some c9 ∧ w.cell? ⟨g, 10, none⟩ = some c10 ∧ w.cell? ⟨g, 11, none⟩ = some c11 ∧ w.cell? ⟨g, 12, none⟩ = some c12 :=
 ⟨fun j => block_free h j, block_cell h 0, block_cell h 1, block_cell h 2, block_cell h 3, block_cell h 4, block_cell h 5, block_cell h 6, block_cell h 7, block_cell h 8, block_cell h 9, block_cell h 10, block_cell h 11, block_cell h 12⟩
set_option maxRecDepth 100000 in
set_option maxHeartbeats 4000000 in
theorem newplan_any (tb : D8) (ks : List D8) (s0 s1 last wn : Int) (Ak : Option Addr) (nk ck : Nat) (w : World) (h : Rd w w.heap.size 8 Ak nk (flatD ks)) (hn : nk ≤ 1000000) :
  Calls Tryz.prog 12 #[.agg #[.int .u8 tb.x0, .int .u8 tb.x1, .int .u8 tb.x2, .int .u8 tb.x3, .int .u8 tb.x4, .int .u8 tb.x5, .int .u8 tb.x6, .int .u8 tb.x7], .slice Ak nk ck, .agg #[.int .i64 s0, .int .i64 s1], .int .i64 last, .int .i64 wn] w (GivesPl (Pl.new tb ks s0 s1 last wn).2 (Pl.new tb ks s0 s1 last wn).1 w) := by
 have Hl := Lib.hid h.dlenD
 have Hw : Hid (Below w.heap.size w (((w.alloc (.cells #[.int .u8 tb.x0, .int .u8 tb.x1, .int .u8 tb.x2, .int .u8 tb.x3, .int .u8 tb.x4, .int .u8 tb.x5, .int .u8 tb.x6, .int .u8 tb.x7] 27)).alloc (.cells #[.int .i64 s0, .int .i64 s1] 29)).alloc (.cells #[.int .u8 0, .int .u8 0, .int .u8 0, .int .u8 0, .int .u8 0, .int .u8 0, .int .u8 0, .int .u8 0, .slice none 0 0, .int .i64 0, .int .i64 0, .slice none 0 0, .slice none 0 0] 32))) := ((below_two w _ _).alloc (by simp; omega) _)
 have Hz : Hid ((((w.alloc (.cells #[.int .u8 tb.x0, .int .u8 tb.x1, .int .u8 tb.x2, .int .u8 tb.x3, .int .u8 tb.x4, .int .u8 tb.x5, .int .u8 tb.x6, .int .u8 tb.x7] 27)).alloc (.cells #[.int .i64 s0, .int .i64 s1] 29)).alloc (.cells #[.int .u8 0, .int .u8 0, .int .u8 0, .int .u8 0, .int .u8 0, .int .u8 0, .int .u8 0, .int .u8 0, .slice none 0 0, .int .i64 0, .int .i64 0, .slice none 0 0, .slice none 0 0] 32)).heap.size = w.heap.size + 3) := by show _ = _; simp
 have HX0 : Hid ((((w.alloc (.cells #[.int .u8 tb.x0, .int .u8 tb.x1, .int .u8 tb.x2, .int .u8 tb.x3, .int .u8 tb.x4, .int .u8 tb.x5, .int .u8 tb.x6, .int .u8 tb.x7] 27)).alloc (.cells #[.int .i64 s0, .int .i64 s1] 29)).alloc (.cells #[.int .u8 0, .int .u8 0, .int .u8 0, .int .u8 0, .int .u8 0, .int .u8 0, .int .u8 0, .int .u8 0, .slice none 0 0, .int .i64 0, .int .i64 0, .slice none 0 0, .slice none 0 0] 32)).heap[w.heap.size]? = some (.cells #[.int .u8 tb.x0, .int .u8 tb.x1, .int .u8 tb.x2, .int .u8 tb.x3, .int .u8 tb.x4, .int .u8 tb.x5, .int .u8 tb.x6, .int .u8 tb.x7] 27 (0, 0))) := block_alloc (block_alloc (heap_alloc_new _ _) _) _
 have HX1 : Hid ((((w.alloc (.cells #[.int .u8 tb.x0, .int .u8 tb.x1, .int .u8 tb.x2, .int .u8 tb.x3, .int .u8 tb.x4, .int .u8 tb.x5, .int .u8 tb.x6, .int .u8 tb.x7] 27)).alloc (.cells #[.int .i64 s0, .int .i64 s1] 29)).alloc (.cells #[.int .u8 0, .int .u8 0, .int .u8 0, .int .u8 0, .int .u8 0, .int .u8 0, .int .u8 0, .int .u8 0, .slice none 0 0, .int .i64 0, .int .i64 0, .slice none 0 0, .slice none 0 0] 32)).heap[w.heap.size + 1]? = some (.cells #[.int .i64 s0, .int .i64 s1] 29 (0, 0))) := block_alloc (alloc_at (by simp)) _
 have HX2 : Hid ((((w.alloc (.cells #[.int .u8 tb.x0, .int .u8 tb.x1, .int .u8 tb.x2, .int .u8 tb.x3, .int .u8 tb.x4, .int .u8 tb.x5, .int .u8 tb.x6, .int .u8 tb.x7] 27)).alloc (.cells #[.int .i64 s0, .int .i64 s1] 29)).alloc (.cells #[.int .u8 0, .int .u8 0, .int .u8 0, .int .u8 0, .int .u8 0, .int .u8 0, .int .u8 0, .int .u8 0, .slice none 0 0, .int .i64 0, .int .i64 0, .slice none 0 0, .slice none 0 0] 32)).heap[w.heap.size + 2]? = some (.cells #[.int .u8 0, .int .u8 0, .int .u8 0, .int .u8 0, .int .u8 0, .int .u8 0, .int .u8 0, .int .u8 0, .slice none 0 0, .int .i64 0, .int .i64 0, .slice none 0 0, .slice none 0 0] 32 (0, 0))) := alloc_at (by simp)
 have Hr := Lib.hid h
 clear h
 cases hW : winB wn with
 | false =>
  have He : Hid (Pl.new tb ks s0 s1 last wn = (1, pl0)) := by show _ = _; simp [Pl.new, hW]
  go_enter Tryz.func12, Tryz.ntmps12
  go_upto_region 2 with (first | (go_at_call 51; refine (window_any _ _).mono ?_; rintro e w1 ⟨rfl, rfl⟩) | (go_at_call 52; refine (height_any _ _).mono ?_; rintro e w1 ⟨rfl, rfl⟩) | (go_at_call 53; refine (many_any _ _ _ _).mono ?_; rintro e w1 ⟨rfl, rfl⟩))
  generalize (((w.alloc (.cells #[.int .u8 tb.x0, .int .u8 tb.x1, .int .u8 tb.x2, .int .u8 tb.x3, .int .u8 tb.x4, .int .u8 tb.x5, .int .u8 tb.x6, .int .u8 tb.x7] 27)).alloc (.cells #[.int .i64 s0, .int .i64 s1] 29)).alloc (.cells #[.int .u8 0, .int .u8 0, .int .u8 0, .int .u8 0, .int .u8 0, .int .u8 0, .int .u8 0, .int .u8 0, .slice none 0 0, .int .i64 0, .int .i64 0, .slice none 0 0, .slice none 0 0] 32)) = w0 at *
  refine wp_region_list ?_
  refine wpList_value (.agg #[.int .u8 0, .int .u8 0, .int .u8 0, .int .u8 0, .int .u8 0, .int .u8 0, .int .u8 0, .int .u8 0, .slice none 0 0, .int .i64 0, .int .i64 0, .slice none 0 0, .slice none 0 0]) (by kernel_rfl) (by kernel_rfl) ?_
  simp only [Act.put, sT]
  refine wpList_store_mid (by rfl) 32 _ _ (by rfl) (w.heap.size + 2) 0 #[.int .u8 0, .int .u8 0, .int .u8 0, .int .u8 0, .int .u8 0, .int .u8 0, .int .u8 0, .int .u8 0, .slice none 0 0, .int .i64 0, .int .i64 0, .slice none 0 0, .slice none 0 0] (by rfl) (by rfl) (there_mid HX2.out (by simp)) (by kernel_rfl) (by kernel_rfl) ?_
  obtain ⟨s1', s2'⟩ := set_all HX2.out [.int .u8 0, .int .u8 0, .int .u8 0, .int .u8 0, .int .u8 0, .int .u8 0, .int .u8 0, .int .u8 0, .slice none 0 0, .int .i64 0, .int .i64 0, .slice none 0 0, .slice none 0 0] rfl
  have HS1 := Lib.hid s1'; have HS2 := Lib.hid s2'
  clear s1' s2'
  dsimp only
  generalize World.setCells _ _ _ [.int .u8 0, .int .u8 0, .int .u8 0, .int .u8 0, .int .u8 0, .int .u8 0, .int .u8 0, .int .u8 0, .slice none 0 0, .int .i64 0, .int .i64 0, .slice none 0 0, .slice none 0 0] = w9 at *
  go_wp2
  refine bodyPost_ret (results_cellT 10 11 32 (w.heap.size + 2) #[.int .u8 0, .int .u8 0, .int .u8 0, .int .u8 0, .int .u8 0, .int .u8 0, .int .u8 0, .int .u8 0, .slice none 0 0, .int .i64 0, .int .i64 0, .slice none 0 0, .slice none 0 0] _ _ _ rfl rfl HS1.out Tryz.underlying32 rfl (by kernel_rfl)) rfl ?_
  unfold GivesPl
  rw [He.out]
  exact ⟨none, 0, 0, none, 0, 0, none, 0, 0, rfl, pl0_own _ _, Hw.out.grown HS2.out (by have := Hz.out; omega) (fun k hk => by cases hk; omega)⟩
 | true =>
 cases hF : far last with
 | false =>
  have He : Hid (Pl.new tb ks s0 s1 last wn = (2, pl0)) := by show _ = _; simp [Pl.new, hW, hF]
  go_enter Tryz.func12, Tryz.ntmps12
  go_upto_region 4 with (first | (go_at_call 51; refine (window_any _ _).mono ?_; rintro e w1 ⟨rfl, rfl⟩) | (go_at_call 52; refine (height_any _ _).mono ?_; rintro e w1 ⟨rfl, rfl⟩) | (go_at_call 53; refine (many_any _ _ _ _).mono ?_; rintro e w1 ⟨rfl, rfl⟩))
  generalize (((w.alloc (.cells #[.int .u8 tb.x0, .int .u8 tb.x1, .int .u8 tb.x2, .int .u8 tb.x3, .int .u8 tb.x4, .int .u8 tb.x5, .int .u8 tb.x6, .int .u8 tb.x7] 27)).alloc (.cells #[.int .i64 s0, .int .i64 s1] 29)).alloc (.cells #[.int .u8 0, .int .u8 0, .int .u8 0, .int .u8 0, .int .u8 0, .int .u8 0, .int .u8 0, .int .u8 0, .slice none 0 0, .int .i64 0, .int .i64 0, .slice none 0 0, .slice none 0 0] 32)) = w0 at *
  refine wp_region_list ?_
  refine wpList_value (.agg #[.int .u8 0, .int .u8 0, .int .u8 0, .int .u8 0, .int .u8 0, .int .u8 0, .int .u8 0, .int .u8 0, .slice none 0 0, .int .i64 0, .int .i64 0, .slice none 0 0, .slice none 0 0]) (by kernel_rfl) (by kernel_rfl) ?_
  simp only [Act.put, sT]
  refine wpList_store_mid (by rfl) 32 _ _ (by rfl) (w.heap.size + 2) 0 #[.int .u8 0, .int .u8 0, .int .u8 0, .int .u8 0, .int .u8 0, .int .u8 0, .int .u8 0, .int .u8 0, .slice none 0 0, .int .i64 0, .int .i64 0, .slice none 0 0, .slice none 0 0] (by rfl) (by rfl) (there_mid HX2.out (by simp)) (by kernel_rfl) (by kernel_rfl) ?_
  obtain ⟨s1', s2'⟩ := set_all HX2.out [.int .u8 0, .int .u8 0, .int .u8 0, .int .u8 0, .int .u8 0, .int .u8 0, .int .u8 0, .int .u8 0, .slice none 0 0, .int .i64 0, .int .i64 0, .slice none 0 0, .slice none 0 0] rfl
  have HS1 := Lib.hid s1'; have HS2 := Lib.hid s2'
  clear s1' s2'
  dsimp only
  generalize World.setCells _ _ _ [.int .u8 0, .int .u8 0, .int .u8 0, .int .u8 0, .int .u8 0, .int .u8 0, .int .u8 0, .int .u8 0, .slice none 0 0, .int .i64 0, .int .i64 0, .slice none 0 0, .slice none 0 0] = w9 at *
  go_wp2
  refine bodyPost_ret (results_cellT 10 11 32 (w.heap.size + 2) #[.int .u8 0, .int .u8 0, .int .u8 0, .int .u8 0, .int .u8 0, .int .u8 0, .int .u8 0, .int .u8 0, .slice none 0 0, .int .i64 0, .int .i64 0, .slice none 0 0, .slice none 0 0] _ _ _ rfl rfl HS1.out Tryz.underlying32 rfl (by kernel_rfl)) rfl ?_
  unfold GivesPl
  rw [He.out]
  exact ⟨none, 0, 0, none, 0, 0, none, 0, 0, rfl, pl0_own _ _, Hw.out.grown HS2.out (by have := Hz.out; omega) (fun k hk => by cases hk; omega)⟩
 | true =>
 cases hM : manyB nk with
 | false =>
  have He : Hid (Pl.new tb ks s0 s1 last wn = (3, pl0)) := by show _ = _; simp [Pl.new, hW, hF, Hl.out, hM]
  go_enter Tryz.func12, Tryz.ntmps12
  go_upto_region 6 with (first | (go_at_call 51; refine (window_any _ _).mono ?_; rintro e w1 ⟨rfl, rfl⟩) | (go_at_call 52; refine (height_any _ _).mono ?_; rintro e w1 ⟨rfl, rfl⟩) | (go_at_call 53; refine (many_any _ _ _ _).mono ?_; rintro e w1 ⟨rfl, rfl⟩))
  generalize (((w.alloc (.cells #[.int .u8 tb.x0, .int .u8 tb.x1, .int .u8 tb.x2, .int .u8 tb.x3, .int .u8 tb.x4, .int .u8 tb.x5, .int .u8 tb.x6, .int .u8 tb.x7] 27)).alloc (.cells #[.int .i64 s0, .int .i64 s1] 29)).alloc (.cells #[.int .u8 0, .int .u8 0, .int .u8 0, .int .u8 0, .int .u8 0, .int .u8 0, .int .u8 0, .int .u8 0, .slice none 0 0, .int .i64 0, .int .i64 0, .slice none 0 0, .slice none 0 0] 32)) = w0 at *
  refine wp_region_list ?_
  refine wpList_value (.agg #[.int .u8 0, .int .u8 0, .int .u8 0, .int .u8 0, .int .u8 0, .int .u8 0, .int .u8 0, .int .u8 0, .slice none 0 0, .int .i64 0, .int .i64 0, .slice none 0 0, .slice none 0 0]) (by kernel_rfl) (by kernel_rfl) ?_
  simp only [Act.put, sT]
  refine wpList_store_mid (by rfl) 32 _ _ (by rfl) (w.heap.size + 2) 0 #[.int .u8 0, .int .u8 0, .int .u8 0, .int .u8 0, .int .u8 0, .int .u8 0, .int .u8 0, .int .u8 0, .slice none 0 0, .int .i64 0, .int .i64 0, .slice none 0 0, .slice none 0 0] (by rfl) (by rfl) (there_mid HX2.out (by simp)) (by kernel_rfl) (by kernel_rfl) ?_
  obtain ⟨s1', s2'⟩ := set_all HX2.out [.int .u8 0, .int .u8 0, .int .u8 0, .int .u8 0, .int .u8 0, .int .u8 0, .int .u8 0, .int .u8 0, .slice none 0 0, .int .i64 0, .int .i64 0, .slice none 0 0, .slice none 0 0] rfl
  have HS1 := Lib.hid s1'; have HS2 := Lib.hid s2'
  clear s1' s2'
  dsimp only
  generalize World.setCells _ _ _ [.int .u8 0, .int .u8 0, .int .u8 0, .int .u8 0, .int .u8 0, .int .u8 0, .int .u8 0, .int .u8 0, .slice none 0 0, .int .i64 0, .int .i64 0, .slice none 0 0, .slice none 0 0] = w9 at *
  go_wp2
  refine bodyPost_ret (results_cellT 10 11 32 (w.heap.size + 2) #[.int .u8 0, .int .u8 0, .int .u8 0, .int .u8 0, .int .u8 0, .int .u8 0, .int .u8 0, .int .u8 0, .slice none 0 0, .int .i64 0, .int .i64 0, .slice none 0 0, .slice none 0 0] _ _ _ rfl rfl HS1.out Tryz.underlying32 rfl (by kernel_rfl)) rfl ?_
  unfold GivesPl
  rw [He.out]
  exact ⟨none, 0, 0, none, 0, 0, none, 0, 0, rfl, pl0_own _ _, Hw.out.grown HS2.out (by have := Hz.out; omega) (fun k hk => by cases hk; omega)⟩
 | true =>
 go_enter Tryz.func12, Tryz.ntmps12
 go_upto_region 7 with (first | (go_at_call 51; refine (window_any _ _).mono ?_; rintro e w1 ⟨rfl, rfl⟩) | (go_at_call 52; refine (height_any _ _).mono ?_; rintro e w1 ⟨rfl, rfl⟩) | (go_at_call 53; refine (many_any _ _ _ _).mono ?_; rintro e w1 ⟨rfl, rfl⟩))
 generalize (((w.alloc (.cells #[.int .u8 tb.x0, .int .u8 tb.x1, .int .u8 tb.x2, .int .u8 tb.x3, .int .u8 tb.x4, .int .u8 tb.x5, .int .u8 tb.x6, .int .u8 tb.x7] 27)).alloc (.cells #[.int .i64 s0, .int .i64 s1] 29)).alloc (.cells #[.int .u8 0, .int .u8 0, .int .u8 0, .int .u8 0, .int .u8 0, .int .u8 0, .int .u8 0, .int .u8 0, .slice none 0 0, .int .i64 0, .int .i64 0, .slice none 0 0, .slice none 0 0] 32)) = w0 at *
 go_cut [12] (fun s12 wx => ∃ (pb : Nat) (Ax : Option Addr) (cx : Nat), s12 = .pointer (some ⟨pb, 0, none⟩) ∧ wx.heap[pb]? = some (.cells #[.int .u8 tb.x0, .int .u8 tb.x1, .int .u8 tb.x2, .int .u8 tb.x3, .int .u8 tb.x4, .int .u8 tb.x5, .int .u8 tb.x6, .int .u8 tb.x7, .slice Ax nk cx, .int .i64 s0, .int .i64 s1, .slice none 0 0, .slice none 0 0] 32 (0, 0)) ∧ wx.ownsRow w0.heap.size 27 8 (.slice Ax nk cx) nk (flatD ks) ∧ Below w0.heap.size w0 wx ∧ w0.heap.size ≤ pb)
 case first =>
  have hz1 : w.heap.size < w0.heap.size := by have := Hz.out; omega
  have hz2 : w.heap.size + 1 < w0.heap.size := by have := Hz.out; omega
  have HR0 := Lib.hid ((Hr.out.below Hw.out (Nat.le_refl _)).more (B' := w0.heap.size) (by omega))
  refine wp_region_held_drew (S := fun w' => Below w0.heap.size w0 w') (by kernel_rfl) (Below.refl _ _).drew (fun hHeld => ?_)
  refine takeK 0 (some 28) (v := .agg ([.int .u8 tb.x0, .int .u8 tb.x1, .int .u8 tb.x2, .int .u8 tb.x3, .int .u8 tb.x4, .int .u8 tb.x5, .int .u8 tb.x6, .int .u8 tb.x7] : List Value).toArray) rfl (by kernel_rfl) (by kernel_rfl) (fun _ _ _ => id) (yieldsIf_load_mid (by kernel_rfl) 27 _ (by rfl) (w.heap.size) (0) (by rfl) [.int .u8 tb.x0, .int .u8 tb.x1, .int .u8 tb.x2, .int .u8 tb.x3, .int .u8 tb.x4, .int .u8 tb.x5, .int .u8 tb.x6, .int .u8 tb.x7] _ (fun w' hw' => range_all (block_below HX0.out hw' hz1)) Tryz.underlying27 rfl (by kernel_rfl)) (by assumption) ?_
  simp only [Act.put, sT]
  refine takP 1 29 ?_ rfl (by kernel_rfl) (fun _ _ _ => id) ?hy (by assumption) ?_
  case hy => intro w' h; clear h; go_simp; try with_reducible rfl
  simp only [Act.put, sT]
  refine takeK 3 (some 31) (v := .agg ([.int .i64 s0, .int .i64 s1] : List Value).toArray) rfl (by kernel_rfl) (by kernel_rfl) (fun _ _ _ => id) (yieldsIf_load_mid (by kernel_rfl) 29 _ (by rfl) (w.heap.size + 1) (0) (by rfl) [.int .i64 s0, .int .i64 s1] _ (fun w' hw' => range_all (block_below HX1.out hw' hz2)) Tryz.underlying29 rfl (by kernel_rfl)) (by assumption) ?_
  simp only [Act.put, sT]
  refine wpAnyH_ready (rs := [2, 5]) (by kernel_rfl) (by simp) ?_
  refine AllReadyH.cons rfl (fun K hK => ?_) (AllReadyH.cons rfl (fun K hK => ?_) AllReadyH.nil)
  all_goals
   rw [if_pos (by kernel_rfl)]
   try simp only [List.getElem_toArray, List.getElem_cons_zero, List.getElem_cons_succ]
  ·go_simp
   go_at_call 54
   refine (sdclone_any ks Ak nk ck _ HR0.out.drew hn).mono ?_
   rintro e w4 ⟨A4, c4, rfl, ho4, hb4⟩
   have HB4 : Hid (Below w0.heap.size w0 w4) := Lib.hid ((Below.refl _ _).drew.trans hb4)
   have HO4 : Hid (w4.ownsRow w0.heap.size 27 8 (.slice A4 nk c4) nk (flatD ks)) := Lib.hid ho4
   clear ho4 hb4
   refine hK.out _ _ HB4.out (fun _ => ?_)
   clear hK K
   try simp only [Act.put, sT]
   refine takP 4 32 ?_ rfl (by kernel_rfl) (fun _ _ _ => id) ?hy (by assumption) ?_
   case hy => intro w' h; clear h; go_simp; try with_reducible rfl
   simp only [Act.put, sT]
   refine wpAnyH_ready (rs := [5]) (by kernel_rfl) (by simp) ?_
   refine AllReadyH.cons rfl (fun K hK => ?_) AllReadyH.nil
   rw [if_pos (by kernel_rfl)]
   try simp only [List.getElem_toArray, List.getElem_cons_zero, List.getElem_cons_succ]
   go_simp
   have HB5 := Lib.hid (HB4.out.alloc HB4.out.size (.cells #[.int .u8 0, .int .u8 0, .int .u8 0, .int .u8 0, .int .u8 0, .int .u8 0, .int .u8 0, .int .u8 0, .slice none 0 0, .int .i64 0, .int .i64 0, .slice none 0 0, .slice none 0 0] 32))
   have HZ5 : Hid ((w4.alloc (.cells #[.int .u8 0, .int .u8 0, .int .u8 0, .int .u8 0, .int .u8 0, .int .u8 0, .int .u8 0, .int .u8 0, .slice none 0 0, .int .i64 0, .int .i64 0, .slice none 0 0, .slice none 0 0] 32)).heap[w4.heap.size]? = some (.cells #[.int .u8 0, .int .u8 0, .int .u8 0, .int .u8 0, .int .u8 0, .int .u8 0, .int .u8 0, .int .u8 0, .slice none 0 0, .int .i64 0, .int .i64 0, .slice none 0 0, .slice none 0 0] 32)) := heap_alloc_new _ _
   have HO5 := Lib.hid (HO4.out.alloc (.cells #[.int .u8 0, .int .u8 0, .int .u8 0, .int .u8 0, .int .u8 0, .int .u8 0, .int .u8 0, .int .u8 0, .slice none 0 0, .int .i64 0, .int .i64 0, .slice none 0 0, .slice none 0 0] 32))
   generalize w4.alloc (.cells #[.int .u8 0, .int .u8 0, .int .u8 0, .int .u8 0, .int .u8 0, .int .u8 0, .int .u8 0, .int .u8 0, .slice none 0 0, .int .i64 0, .int .i64 0, .slice none 0 0, .slice none 0 0] 32) = w5 at *
   refine hK.out _ _ HB5.out (fun _ => ?_)
   clear hK K
   try simp only [Act.put, sT]
   refine wpAnyH_ready (rs := [6]) (by kernel_rfl) (by simp) ?_
   refine AllReadyH.cons rfl (fun K hK => ?_) AllReadyH.nil
   rw [if_pos (by kernel_rfl)]
   try simp only [List.getElem_toArray, List.getElem_cons_zero, List.getElem_cons_succ]
   refine wp_store_mid 32 _ _ (by rfl) (w4.heap.size) (0) #[.int .u8 tb.x0, .int .u8 tb.x1, .int .u8 tb.x2, .int .u8 tb.x3, .int .u8 tb.x4, .int .u8 tb.x5, .int .u8 tb.x6, .int .u8 tb.x7, .slice A4 nk c4, .int .i64 s0, .int .i64 s1, .slice none 0 0, .slice none 0 0] (by rfl) (by rfl) (there_mid HZ5.out (by simp)) (by kernel_rfl) (by kernel_rfl) ?_
   obtain ⟨s1', s2'⟩ := set_all HZ5.out [.int .u8 tb.x0, .int .u8 tb.x1, .int .u8 tb.x2, .int .u8 tb.x3, .int .u8 tb.x4, .int .u8 tb.x5, .int .u8 tb.x6, .int .u8 tb.x7, .slice A4 nk c4, .int .i64 s0, .int .i64 s1, .slice none 0 0, .slice none 0 0] rfl
   have HB6 := Lib.hid (HB5.out.grown s2' HB5.out.size (fun k hk => by cases hk; exact HB4.out.size))
   refine hK.out _ _ HB6.out (fun _ => ?_)
   clear hK K
   simp only [Act.put]
   refine wpAnyH_done (by kernel_rfl) ?_ _
   go_wp2_with fail
   go_meet
   exact ⟨w4.heap.size, A4, c4, rfl, s1', HO5.out.kept s2' (.inr fun e => own_ne HO5.out HZ5.out (by decide) e.symm), HB6.out, HB4.out.size⟩
  ·go_simp
   have HB4 : Hid (Below w0.heap.size w0 ((w0.alloc (.cells #[.int .u8 0, .int .u8 0, .int .u8 0, .int .u8 0, .int .u8 0, .int .u8 0, .int .u8 0, .int .u8 0, .slice none 0 0, .int .i64 0, .int .i64 0, .slice none 0 0, .slice none 0 0] 32)).drew)) := Lib.hid (((Below.refl _ _).alloc (Nat.le_refl _) _).drew)
   have HZ4 : Hid (((w0.alloc (.cells #[.int .u8 0, .int .u8 0, .int .u8 0, .int .u8 0, .int .u8 0, .int .u8 0, .int .u8 0, .int .u8 0, .slice none 0 0, .int .i64 0, .int .i64 0, .slice none 0 0, .slice none 0 0] 32)).drew).heap[w0.heap.size]? = some (.cells #[.int .u8 0, .int .u8 0, .int .u8 0, .int .u8 0, .int .u8 0, .int .u8 0, .int .u8 0, .int .u8 0, .slice none 0 0, .int .i64 0, .int .i64 0, .slice none 0 0, .slice none 0 0] 32)) := Lib.hid (heap_alloc_new w0 _)
   have HR4 := Lib.hid ((HR0.out.alloc (Nat.le_refl _) (.cells #[.int .u8 0, .int .u8 0, .int .u8 0, .int .u8 0, .int .u8 0, .int .u8 0, .int .u8 0, .int .u8 0, .slice none 0 0, .int .i64 0, .int .i64 0, .slice none 0 0, .slice none 0 0] 32)).drew.more (B' := ((w0.alloc (.cells #[.int .u8 0, .int .u8 0, .int .u8 0, .int .u8 0, .int .u8 0, .int .u8 0, .int .u8 0, .int .u8 0, .slice none 0 0, .int .i64 0, .int .i64 0, .slice none 0 0, .slice none 0 0] 32)).drew).heap.size) (by simp))
   have hz4 : ((w0.alloc (.cells #[.int .u8 0, .int .u8 0, .int .u8 0, .int .u8 0, .int .u8 0, .int .u8 0, .int .u8 0, .int .u8 0, .slice none 0 0, .int .i64 0, .int .i64 0, .slice none 0 0, .slice none 0 0] 32)).drew).heap.size = w0.heap.size + 1 := by simp
   generalize (w0.alloc (.cells #[.int .u8 0, .int .u8 0, .int .u8 0, .int .u8 0, .int .u8 0, .int .u8 0, .int .u8 0, .int .u8 0, .slice none 0 0, .int .i64 0, .int .i64 0, .slice none 0 0, .slice none 0 0] 32)).drew = w4 at *
   have Hz4 := Lib.hid hz4
   clear hz4
   refine hK.out _ _ HB4.out (fun _ => ?_)
   clear hK K
   try simp only [Act.put, sT]
   refine wpAnyH_ready (rs := [2]) (by kernel_rfl) (by simp) ?_
   refine AllReadyH.cons rfl (fun K hK => ?_) AllReadyH.nil
   rw [if_pos (by kernel_rfl)]
   try simp only [List.getElem_toArray, List.getElem_cons_zero, List.getElem_cons_succ]
   go_simp
   go_at_call 54
   refine (sdclone_any ks Ak nk ck _ HR4.out hn).mono ?_
   rintro e w5 ⟨A4, c4, rfl, ho4, hb4⟩
   have HB5 := Lib.hid (HB4.out.trans (hb4.mono HB4.out.size))
   have HZ5 := Lib.hid (block_below HZ4.out hb4 (by rw [Hz4.out]; omega))
   have HO5 : Hid (w5.ownsRow w0.heap.size 27 8 (.slice A4 nk c4) nk (flatD ks)) := Lib.hid (own_weak ho4 HB4.out.size)
   clear ho4 hb4
   refine hK.out _ _ HB5.out (fun _ => ?_)
   clear hK K
   try simp only [Act.put, sT]
   refine takP 4 32 ?_ rfl (by kernel_rfl) (fun _ _ _ => id) ?hy (by assumption) ?_
   case hy => intro w' h; clear h; go_simp; try with_reducible rfl
   simp only [Act.put, sT]
   refine wpAnyH_ready (rs := [6]) (by kernel_rfl) (by simp) ?_
   refine AllReadyH.cons rfl (fun K hK => ?_) AllReadyH.nil
   rw [if_pos (by kernel_rfl)]
   try simp only [List.getElem_toArray, List.getElem_cons_zero, List.getElem_cons_succ]
   refine wp_store_mid 32 _ _ (by rfl) (w0.heap.size) (0) #[.int .u8 tb.x0, .int .u8 tb.x1, .int .u8 tb.x2, .int .u8 tb.x3, .int .u8 tb.x4, .int .u8 tb.x5, .int .u8 tb.x6, .int .u8 tb.x7, .slice A4 nk c4, .int .i64 s0, .int .i64 s1, .slice none 0 0, .slice none 0 0] (by rfl) (by rfl) (there_mid HZ5.out (by simp)) (by kernel_rfl) (by kernel_rfl) ?_
   obtain ⟨s1', s2'⟩ := set_all HZ5.out [.int .u8 tb.x0, .int .u8 tb.x1, .int .u8 tb.x2, .int .u8 tb.x3, .int .u8 tb.x4, .int .u8 tb.x5, .int .u8 tb.x6, .int .u8 tb.x7, .slice A4 nk c4, .int .i64 s0, .int .i64 s1, .slice none 0 0, .slice none 0 0] rfl
   have HB6 := Lib.hid (HB5.out.grown s2' HB5.out.size (fun k hk => by cases hk; exact Nat.le_refl _))
   refine hK.out _ _ HB6.out (fun _ => ?_)
   clear hK K
   simp only [Act.put]
   refine wpAnyH_done (by kernel_rfl) ?_ _
   go_wp2_with fail
   go_meet
   exact ⟨w0.heap.size, A4, c4, rfl, s1', HO5.out.kept s2' (.inr fun e => own_ne HO5.out HZ5.out (by decide) e.symm), HB6.out, Nat.le_refl _⟩
 case rest =>
  obtain ⟨pb, Ax, cx, rfl, hP, hO, hB, hpb⟩ := hcut
  have HP := Lib.hid hP; have HO := Lib.hid hO; have HB := Lib.hid hB
  have hm2 : 2 ≤ nk ∧ nk ≤ 8 := by simpa [manyB] using hM
  have hwn : 1 ≤ wn ∧ wn ≤ 1048576 := by simpa [winB] using hW
  have hla : 0 ≤ last ∧ last ≤ 1099511627776 := far_iff.1 hF
  obtain ⟨m, hm⟩ : ∃ m, nk = m + 1 := ⟨nk - 1, by omega⟩
  have hsub : (nk : Int) - 1 = (m : Int) := by omega
  have hm7 : m ≤ 7 := by omega
  have Hm := Lib.hid hm
  clear hm hP hO hB
  obtain ⟨i0, hi, hz0, hz1, hz2⟩ := info_parts info_intV
  have HI := Lib.hid (And.intro hi (And.intro hz0 (And.intro hz1 hz2))); clear hi hz0 hz1 hz2
  have hpbc := block_lt HP.out
  go_wp2_with fail
  go_loopw [37] (fun i w9 => ∃ (k : Nat) (An : Option Addr) (cn : Nat) (Af : Option Addr) (cf : Nat), k ≤ m ∧ i = .int .i64 k ∧ w9.heap[pb]? = some (.cells #[.int .u8 tb.x0, .int .u8 tb.x1, .int .u8 tb.x2, .int .u8 tb.x3, .int .u8 tb.x4, .int .u8 tb.x5, .int .u8 tb.x6, .int .u8 tb.x7, .slice Ax nk cx, .int .i64 s0, .int .i64 s1, .slice An k cn, .slice Af k cf] 32 (0, 0)) ∧ w9.ownsRow wc.heap.size 3 1 (.slice An k cn) k (ivs ((List.range k).map fun (i : Nat) => last + ((m : Nat) - (i : Int)) * wn)) ∧ w9.ownsRow wc.heap.size 3 1 (.slice Af k cf) k (ivs ((List.range k).map fun (i : Nat) => last + ((i : Int) + 1) * wn)) ∧ Ap (.slice An k cn) (.slice Af k cf) ∧ wc.grownBy w9 (some pb)) (fun i _ => m - (RowKit.intOf i).toNat)
  case atStart => exact ⟨0, none, 0, none, 0, by omega, rfl, HP.out, World.ownsRow_nil _ _ _ _, World.ownsRow_nil _ _ _ _, Ap.nil _, World.grownBy.refl _ _⟩
  case round =>
   obtain ⟨k, An, cn, Af, cf, hk, rfl, hPk, hOn, hOf, hap, hg⟩ := hrel
   have HPk := Lib.hid hPk; have HOn := Lib.hid hOn; have HOf := Lib.hid hOf; have Hap := Lib.hid hap; have Hg := Lib.hid hg
   clear hPk hOn hOf hap hg
   by_cases hlt : k < m
   ·have hd1 : decide ((k : Int) < (m : Int)) = true := decide_eq_true (by omega)
    have hki : (k : Int) < (m : Int) := by omega
    have hp1 : 0 ≤ ((m : Int) - (k : Int)) * wn ∧ ((m : Int) - (k : Int)) * wn ≤ 7 * 1048576 := ⟨Int.mul_nonneg (by omega) (by omega), Int.le_trans (Int.mul_le_mul_of_nonneg_right (show (m : Int) - (k : Int) ≤ 7 by omega) (by omega)) (Int.mul_le_mul_of_nonneg_left hwn.2 (by omega))⟩
    have hp2 : 0 ≤ ((k : Int) + 1) * wn ∧ ((k : Int) + 1) * wn ≤ 7 * 1048576 := ⟨Int.mul_nonneg (by omega) (by omega), Int.le_trans (Int.mul_le_mul_of_nonneg_right (show (k : Int) + 1 ≤ 7 by omega) (by omega)) (Int.mul_le_mul_of_nonneg_left hwn.2 (by omega))⟩
    obtain ⟨hp10, hp11⟩ := hp1
    obtain ⟨hp20, hp21⟩ := hp2
    obtain ⟨hw1, hw2⟩ := hwn
    obtain ⟨hl1, hl2⟩ := hla
    have hgs := Hg.out.size
    have z := block_cell HPk.out
    have z0 := z 0; have z1 := z 1; have z2 := z 2; have z3 := z 3; have z4 := z 4; have z5 := z 5; have z6 := z 6; have z7 := z 7; have z8 := z 8; have z9 := z 9; have z10 := z 10; have z11 := z 11; have z12 := z 12
    simp at z0 z1 z2 z3 z4 z5 z6 z7 z8 z9 z10 z11 z12
    clear z
    have zf := block_free HPk.out
    have hN : Hid ((List.range (k + 1)).map (fun (i : Nat) => last + ((m : Nat) - (i : Int)) * wn) = (List.range k).map (fun (i : Nat) => last + ((m : Nat) - (i : Int)) * wn) ++ [last + ((m : Nat) - (k : Int)) * wn]) := by show _ = _; rw [List.range_succ, List.map_append]; rfl
    have hF2 : Hid ((List.range (k + 1)).map (fun (i : Nat) => last + ((i : Int) + 1) * wn) = (List.range k).map (fun (i : Nat) => last + ((i : Int) + 1) * wn) ++ [last + ((k : Int) + 1) * wn]) := by show _ = _; rw [List.range_succ, List.map_append]; rfl
    go_upto_region 13 with (at_builtin; go_must (refine append_at wr (by rfl) _ _ 30 (by rfl) wc.heap.size 3 i0 (.int .i64 0) 1 8 Tryz.underlying30 HI.out rfl (by decide) _ _ _ (by rfl) HOn.out 1 1 #[.int .i64 (last + ((m : Int) - (k : Int)) * wn)] 3 (by simp [Act.eval]) rfl (by simp [Value.oneCell']) (by omega) (by omega) hgs ?_; intro v7 w7 own7 bel7 gr7 at7; obtain ⟨A7, c7, rfl⟩ := own_form own7; have O7 := Lib.hid own7; have HP7 := Lib.hid (block_grown (block_alloc HPk.out (.cells #[.int .i64 (last + ((m : Int) - (k : Int)) * wn)] 3)) gr7 (own_ne HOn.out HPk.out (by decide))); have HF7 := Lib.hid ((World.ownsRow.alloc HOf.out (.cells #[.int .i64 (last + ((m : Int) - (k : Int)) * wn)] 3)).kept gr7 (Hap.out.symm).ne); have Hap7 := Lib.hid (Ap.symm (Ap.grown (Hap.out.symm) HOf.out at7)); have GR7 := Lib.hid gr7; clear own7 bel7 gr7 at7 z0 z1 z2 z3 z4 z5 z6 z7 z8 z9 z10 z11 z12 zf; obtain ⟨zf, z0, z1, z2, z3, z4, z5, z6, z7, z8, z9, z10, z11, z12⟩ := free13 HP7.out))
    have h8 := Joins.block_setCell (i := 11) HP7.out (.slice A7 (k + 1) c7)
    have g8 := pgrown_set (w := w7) pb 11 (.slice A7 (k + 1) c7)
    simp at h8
    have HP8 := Lib.hid h8
    have O8 := Lib.hid (O7.out.kept g8 (.inr fun e => own_ne O7.out HP7.out (by decide) e.symm))
    have HF8 := Lib.hid (HF7.out.kept g8 (.inr fun e => own_ne HF7.out HP7.out (by decide) e.symm))
    have G8 := Lib.hid g8
    clear h8 g8 zf z0 z1 z2 z3 z4 z5 z6 z7 z8 z9 z10 z11 z12
    have hgs7 : wc.heap.size ≤ w7.heap.size := by have := GR7.out.size; rw [World.size_alloc] at this; omega
    have hgs8 : wc.heap.size ≤ (w7.setCell ⟨pb, 11, none⟩ (.slice A7 (k + 1) c7)).heap.size := by simpa using hgs7
    generalize w7.setCell ⟨pb, 11, none⟩ (.slice A7 (k + 1) c7) = w8 at *
    obtain ⟨zf, z0, z1, z2, z3, z4, z5, z6, z7, z8, z9, z10, z11, z12⟩ := free13 HP8.out
    go_upto_region 14 with (at_builtin; go_must (refine append_at w8 (by rfl) _ _ 30 (by rfl) wc.heap.size 3 i0 (.int .i64 0) 1 8 Tryz.underlying30 HI.out rfl (by decide) _ _ _ (by rfl) HF8.out 1 1 #[.int .i64 (last + ((k : Int) + 1) * wn)] 3 (by simp [Act.eval]) rfl (by simp [Value.oneCell']) (by omega) (by omega) hgs8 ?_; intro v9 w9 own9 bel9 gr9 at9; obtain ⟨A9, c9, rfl⟩ := own_form own9; have O9 := Lib.hid own9; have HP9 := Lib.hid (block_grown (block_alloc HP8.out (.cells #[.int .i64 (last + ((k : Int) + 1) * wn)] 3)) gr9 (own_ne HF8.out HP8.out (by decide))); have HN9 := Lib.hid ((World.ownsRow.alloc O8.out (.cells #[.int .i64 (last + ((k : Int) + 1) * wn)] 3)).kept gr9 (Hap7.out).ne); have Hap9 := Lib.hid (Ap.grown Hap7.out O8.out at9); have GR9 := Lib.hid gr9; clear own9 bel9 gr9 at9 z0 z1 z2 z3 z4 z5 z6 z7 z8 z9 z10 z11 z12 zf; obtain ⟨zf, z0, z1, z2, z3, z4, z5, z6, z7, z8, z9, z10, z11, z12⟩ := free13 HP9.out))
    have h10 := Joins.block_setCell (i := 12) HP9.out (.slice A9 (k + 1) c9)
    have g10 := pgrown_set (w := w9) pb 12 (.slice A9 (k + 1) c9)
    simp at h10
    have HP10 := Lib.hid h10
    have O10 := Lib.hid (O9.out.kept g10 (.inr fun e => own_ne O9.out HP9.out (by decide) e.symm))
    have HN10 := Lib.hid (HN9.out.kept g10 (.inr fun e => own_ne HN9.out HP9.out (by decide) e.symm))
    have HG10 : Hid (wc.grownBy (w9.setCell ⟨pb, 12, none⟩ (.slice A9 (k + 1) c9)) (some pb)) :=
     Lib.hid ((grown_row (grown_alloc ((grown_row (grown_alloc Hg.out _) GR7.out (fun g hg => (HOn.out.lt g hg).1)).trans G8.out) _) GR9.out (fun g hg => (HF8.out.lt g hg).1)).trans g10)
    clear h10 g10
    go_wp2
    go_roundw
    case rel => exact ⟨k + 1, A7, c7, A9, c9, hlt, by go_num, HP10.out, by rw [hN.out, ivs_append]; exact HN10.out, by rw [hF2.out, ivs_append]; exact O10.out, Hap9.out, HG10.out⟩
    case measure => simp [RowKit.intOf]; omega
   ·have hkn : k = m := by omega
    subst hkn
    have hd1 : decide ((k : Int) < (k : Int)) = false := decide_eq_false (by omega)
    obtain ⟨hgb, hgk⟩ : Below w0.heap.size w0 wr ∧ wr.ownsRow w0.heap.size 27 8 (.slice Ax nk cx) nk (flatD ks) := by
     refine ⟨HB.out.grown Hg.out HB.out.size (fun g hg => by cases hg; exact hpb), HO.out.kept Hg.out (.inr fun e => own_ne HO.out HP.out (by decide) e.symm)⟩
    have HB9 := Lib.hid hgb; have HK9 := Lib.hid hgk
    clear hgb hgk
    have Hd9 : Hid ((Pl.mk_ tb ks s0 s1 last wn).At Ax nk cx An k Af k wr) := by
     have e1 : ks.length - 1 = k := by rw [Hl.out, Hm.out]; rfl
     refine ⟨Rd.of_own HK9.out, ?_, ?_, hn, by omega, by omega, own_cap HK9.out⟩
     ·show Rd _ _ _ _ _ (ivs ((List.range (ks.length - 1)).map _))
      rw [e1]; exact Rd.of_own HOn.out
     ·show Rd _ _ _ _ _ (ivs ((List.range (ks.length - 1)).map _))
      rw [e1]; exact Rd.of_own HOf.out
    have HX9 := Lib.hid (block_below HX2.out HB9.out (by have := Hz.out; omega))
    have hpw := block_lt HPk.out
    have He0 : Hid ((Pl.mk_ tb ks s0 s1 last wn).check wn = 0 → Pl.new tb ks s0 s1 last wn = (0, Pl.mk_ tb ks s0 s1 last wn)) := by show _ → _; intro h; simp [Pl.new, hW, hF, Hl.out, hM, h]
    have He1 : Hid ((Pl.mk_ tb ks s0 s1 last wn).check wn ≠ 0 → Pl.new tb ks s0 s1 last wn = ((Pl.mk_ tb ks s0 s1 last wn).check wn, pl0)) := by show _ → _; intro h; simp [Pl.new, hW, hF, Hl.out, hM, h]
    go_upto_region 15 with fail
    refine wp_region_list ?_
    refine wpList_load_mid (by rfl) 32 _ (by rfl) pb 0 (by rfl) [.int .u8 tb.x0, .int .u8 tb.x1, .int .u8 tb.x2, .int .u8 tb.x3, .int .u8 tb.x4, .int .u8 tb.x5, .int .u8 tb.x6, .int .u8 tb.x7, .slice Ax nk cx, .int .i64 s0, .int .i64 s1, .slice An k cn, .slice Af k cf] _ (range_all HPk.out) Tryz.underlying32 rfl (by kernel_rfl) ?_
    simp only [Act.put, sT]
    go_wp2_with fail
    refine (plcheck_any (Pl.mk_ tb ks s0 s1 last wn) Ax nk cx An k cn Af k cf wn wr Hd9.out).mono ?_
    rintro e w10 ⟨rfl, hb10⟩
    have HP10 := Lib.hid (block_below HPk.out hb10 hpw)
    have HX10 := Lib.hid (block_below HX9.out hb10 (by have := HB9.out.size; have := Hz.out; omega))
    have HK10 := Lib.hid (own_below HK9.out hb10); have HN10 := Lib.hid (own_below HOn.out hb10); have HF10 := Lib.hid (own_below HOf.out hb10)
    have HB10 := Lib.hid (HB9.out.trans (hb10.mono HB9.out.size))
    clear hb10
    by_cases hq : (Pl.mk_ tb ks s0 s1 last wn).check wn = 0
    ·have b1 : ((Pl.mk_ tb ks s0 s1 last wn).check wn != 0) = false := by simpa using hq
     have HE := Lib.hid (He0.out hq)
     clear hq
     go_upto_region 18 with fail
     refine wp_region_list ?_
     refine wpList_load_mid (by rfl) 32 _ (by rfl) pb 0 (by rfl) [.int .u8 tb.x0, .int .u8 tb.x1, .int .u8 tb.x2, .int .u8 tb.x3, .int .u8 tb.x4, .int .u8 tb.x5, .int .u8 tb.x6, .int .u8 tb.x7, .slice Ax nk cx, .int .i64 s0, .int .i64 s1, .slice An k cn, .slice Af k cf] _ (range_all HP10.out) Tryz.underlying32 rfl (by kernel_rfl) ?_
     simp only [Act.put, sT]
     refine wpList_store_mid (by rfl) 32 _ _ (by rfl) (w.heap.size + 2) 0 #[.int .u8 tb.x0, .int .u8 tb.x1, .int .u8 tb.x2, .int .u8 tb.x3, .int .u8 tb.x4, .int .u8 tb.x5, .int .u8 tb.x6, .int .u8 tb.x7, .slice Ax nk cx, .int .i64 s0, .int .i64 s1, .slice An k cn, .slice Af k cf] (by rfl) (by rfl) (there_mid HX10.out (by simp)) (by kernel_rfl) (by kernel_rfl) ?_
     obtain ⟨s1', s2'⟩ := set_all HX10.out [.int .u8 tb.x0, .int .u8 tb.x1, .int .u8 tb.x2, .int .u8 tb.x3, .int .u8 tb.x4, .int .u8 tb.x5, .int .u8 tb.x6, .int .u8 tb.x7, .slice Ax nk cx, .int .i64 s0, .int .i64 s1, .slice An k cn, .slice Af k cf] rfl
     have HS1 := Lib.hid s1'; have HS2 := Lib.hid s2'
     clear s1' s2'
     dsimp only
     generalize World.setCells _ _ _ [.int .u8 tb.x0, .int .u8 tb.x1, .int .u8 tb.x2, .int .u8 tb.x3, .int .u8 tb.x4, .int .u8 tb.x5, .int .u8 tb.x6, .int .u8 tb.x7, .slice Ax nk cx, .int .i64 s0, .int .i64 s1, .slice An k cn, .slice Af k cf] = w11 at *
     go_wp2
     refine bodyPost_ret (results_cellT 10 11 32 (w.heap.size + 2) #[.int .u8 tb.x0, .int .u8 tb.x1, .int .u8 tb.x2, .int .u8 tb.x3, .int .u8 tb.x4, .int .u8 tb.x5, .int .u8 tb.x6, .int .u8 tb.x7, .slice Ax nk cx, .int .i64 s0, .int .i64 s1, .slice An k cn, .slice Af k cf] _ _ _ rfl rfl HS1.out Tryz.underlying32 rfl (by kernel_rfl)) rfl ?_
     unfold GivesPl
     rw [HE.out]
     refine ⟨Ax, nk, cx, An, k, cn, Af, k, cf, rfl, ?_, ?_⟩
     ·have e1 : ks.length - 1 = k := by rw [Hl.out, Hm.out]; rfl
      have hw0 := Hw.out.size
      have hwc := HB.out.size
      refine ⟨own_weak (HK10.out.kept HS2.out (.inr fun e => own_ne HK10.out HX10.out (by decide) e.symm)) hw0, ?_, ?_, hn, by omega, by omega⟩
      ·show World.ownsRow _ _ _ _ _ _ (ivs ((List.range (ks.length - 1)).map _))
       rw [e1]; exact own_weak (HN10.out.kept HS2.out (.inr fun e => own_ne HN10.out HX10.out (by decide) e.symm)) (by omega)
      ·show World.ownsRow _ _ _ _ _ _ (ivs ((List.range (ks.length - 1)).map _))
       rw [e1]; exact own_weak (HF10.out.kept HS2.out (.inr fun e => own_ne HF10.out HX10.out (by decide) e.symm)) (by omega)
     ·exact Hw.out.trans ((HB10.out.mono Hw.out.size).grown HS2.out (by have := HB10.out.size; have := Hz.out; omega) (fun k hk => by cases hk; omega))
    ·have b1 : ((Pl.mk_ tb ks s0 s1 last wn).check wn != 0) = true := by simpa using hq
     have HE := Lib.hid (He1.out hq)
     clear hq
     go_upto_region 17 with fail
     refine wp_region_list ?_
     refine wpList_value (.agg #[.int .u8 0, .int .u8 0, .int .u8 0, .int .u8 0, .int .u8 0, .int .u8 0, .int .u8 0, .int .u8 0, .slice none 0 0, .int .i64 0, .int .i64 0, .slice none 0 0, .slice none 0 0]) (by kernel_rfl) (by kernel_rfl) ?_
     simp only [Act.put, sT]
     refine wpList_value (.int .i64 ((Pl.mk_ tb ks s0 s1 last wn).check wn)) (by kernel_rfl) (by kernel_rfl) ?_
     simp only [Act.put, sT]
     refine wpList_store_mid (by rfl) 32 _ _ (by rfl) (w.heap.size + 2) 0 #[.int .u8 0, .int .u8 0, .int .u8 0, .int .u8 0, .int .u8 0, .int .u8 0, .int .u8 0, .int .u8 0, .slice none 0 0, .int .i64 0, .int .i64 0, .slice none 0 0, .slice none 0 0] (by rfl) (by rfl) (there_mid HX10.out (by simp)) (by kernel_rfl) (by kernel_rfl) ?_
     obtain ⟨s1', s2'⟩ := set_all HX10.out [.int .u8 0, .int .u8 0, .int .u8 0, .int .u8 0, .int .u8 0, .int .u8 0, .int .u8 0, .int .u8 0, .slice none 0 0, .int .i64 0, .int .i64 0, .slice none 0 0, .slice none 0 0] rfl
     have HS1 := Lib.hid s1'; have HS2 := Lib.hid s2'
     clear s1' s2'
     dsimp only
     generalize World.setCells _ _ _ [.int .u8 0, .int .u8 0, .int .u8 0, .int .u8 0, .int .u8 0, .int .u8 0, .int .u8 0, .int .u8 0, .slice none 0 0, .int .i64 0, .int .i64 0, .slice none 0 0, .slice none 0 0] = w11 at *
     go_wp2
     refine bodyPost_ret (results_cellT 10 11 32 (w.heap.size + 2) #[.int .u8 0, .int .u8 0, .int .u8 0, .int .u8 0, .int .u8 0, .int .u8 0, .int .u8 0, .int .u8 0, .slice none 0 0, .int .i64 0, .int .i64 0, .slice none 0 0, .slice none 0 0] _ _ _ rfl rfl HS1.out Tryz.underlying32 rfl (by kernel_rfl)) rfl ?_
     unfold GivesPl
     rw [HE.out]
     exact ⟨none, 0, 0, none, 0, 0, none, 0, 0, rfl, pl0_own _ _, Hw.out.trans ((HB10.out.mono Hw.out.size).grown HS2.out (by have := HB10.out.size; have := Hz.out; omega) (fun k hk => by cases hk; omega))⟩
theorem rd_bytes {w : World} {g o : Nat} {T : TypeId} {fz : Nat × Nat} {cs : Array Value} (d : D8) (h : w.heap[g]? = some (.cells cs T fz)) (hcs : (cs.toList.drop o).take 8 = bv d.bytes) : Rd w w.heap.size 1 (some ⟨g, o, none⟩) 8 (bv d.bytes) := by
 refine ⟨by rw [bv_len]; rfl, fun _ => ⟨g, o, rfl, block_lt h, fun j u hu => ?_⟩⟩
 rw [block_cell h]
 rw [← hcs, List.getElem?_take] at hu
 split at hu
 ·rw [List.getElem?_drop] at hu; rw [← Array.getElem?_toList]; exact hu
 ·cases hu
theorem encB8 (d : D8) : (encB d.bytes).length ≤ 19 := by
 unfold encB
 rw [List.length_append]
 have := encN_len d.bytes.length
 have h8 : d.bytes.length = 8 := rfl
 omega
def Lk.head (l : Lk) : List Nat := encN l.kd.toNat ++ encB l.hs.bytes ++ encN l.ks.length
theorem lkhead_len (l : Lk) : l.head.length ≤ 41 := by
 unfold Lk.head
 simp only [List.length_append]
 have := encB8 l.hs; have := encN_len l.kd.toNat; have := encN_len l.ks.length
 omega
theorem encDs_len (l : List D8) : (encDs l).length ≤ 19 * l.length := by
 induction l with
 | nil => simp [encDs]
 | cons h l ih => unfold encDs at ih ⊢; rw [List.flatMap_cons, List.length_append, List.length_cons]; have := encB8 h; omega
theorem take_d8 {l : List D8} {k : Nat} (h : k < l.length) : l.take (k + 1) = l.take k ++ [l.getD k dz8] := by
 rw [List.take_add_one, List.getElem?_eq_getElem h]; simp [List.getD_eq_getElem?_getD, h]
theorem encDs_take {l : List D8} {k : Nat} (h : k < l.length) : encDs (l.take (k + 1)) = encDs (l.take k) ++ encB (l.getD k dz8).bytes := by
 unfold encDs
 rw [take_d8 h, List.flatMap_append]
 simp
set_option maxRecDepth 100000 in
set_option maxHeartbeats 4000000 in
theorem lkbytes_any (l : Lk) (A : Option Addr) (n c : Nat) (w : World) (h : Rd w w.heap.size 8 A n (flatD l.ks)) (hn : n ≤ 8) (hk : 0 ≤ l.kd ∧ l.kd ≤ 1) (hs : 0 ≤ l.st ∧ l.st ≤ 8) (hc : 0 ≤ l.cp ∧ l.cp ≤ 1125899906842624) (hu : 0 ≤ l.un ∧ l.un ≤ 1099511627776) :
  Calls Tryz.prog 58 #[.agg #[.int .i64 l.kd, .int .u8 l.hs.x0, .int .u8 l.hs.x1, .int .u8 l.hs.x2, .int .u8 l.hs.x3, .int .u8 l.hs.x4, .int .u8 l.hs.x5, .int .u8 l.hs.x6, .int .u8 l.hs.x7, .slice A n c, .int .i64 l.st, .int .i64 l.cp, .int .i64 l.un]] w (GivesB w l.bytes) := by
 have HX0 : Hid ((w.alloc (.cells #[.int .i64 l.kd, .int .u8 l.hs.x0, .int .u8 l.hs.x1, .int .u8 l.hs.x2, .int .u8 l.hs.x3, .int .u8 l.hs.x4, .int .u8 l.hs.x5, .int .u8 l.hs.x6, .int .u8 l.hs.x7, .slice A n c, .int .i64 l.st, .int .i64 l.cp, .int .i64 l.un] 40)).heap[w.heap.size]? = some (.cells #[.int .i64 l.kd, .int .u8 l.hs.x0, .int .u8 l.hs.x1, .int .u8 l.hs.x2, .int .u8 l.hs.x3, .int .u8 l.hs.x4, .int .u8 l.hs.x5, .int .u8 l.hs.x6, .int .u8 l.hs.x7, .slice A n c, .int .i64 l.st, .int .i64 l.cp, .int .i64 l.un] 40 (0, 0))) := heap_alloc_new _ _
 have Hb0 : Hid (Below w.heap.size w (w.alloc (.cells #[.int .i64 l.kd, .int .u8 l.hs.x0, .int .u8 l.hs.x1, .int .u8 l.hs.x2, .int .u8 l.hs.x3, .int .u8 l.hs.x4, .int .u8 l.hs.x5, .int .u8 l.hs.x6, .int .u8 l.hs.x7, .slice A n c, .int .i64 l.st, .int .i64 l.cp, .int .i64 l.un] 40))) := below_one _ _
 have Hr := Lib.hid h
 have Hl := Lib.hid h.dlenD
 clear h
 obtain ⟨hk1, hk2⟩ := hk; obtain ⟨hs1, hs2⟩ := hs; obtain ⟨hc1, hc2⟩ := hc; obtain ⟨hu1, hu2⟩ := hu
 have hni : (n : Int) ≤ 8 := by omega
 go_enter Tryz.func58, Tryz.ntmps58
 go_wp2_with fail
 generalize w.alloc (.cells #[.int .i64 l.kd, .int .u8 l.hs.x0, .int .u8 l.hs.x1, .int .u8 l.hs.x2, .int .u8 l.hs.x3, .int .u8 l.hs.x4, .int .u8 l.hs.x5, .int .u8 l.hs.x6, .int .u8 l.hs.x7, .slice A n c, .int .i64 l.st, .int .i64 l.cp, .int .i64 l.un] 40) = w0 at *
 refine (putNum_at none 0 0 l.kd [] w0 Rd.empty (by omega) hk1 (by omega)).mono ?_
 rintro e w1 ⟨A1, n1, c1, rfl, ho1, hn1, hb1⟩
 have HR1 := Lib.hid (Rd.of_own ho1); have HN1 := Lib.hid hn1; have HX1 := Lib.hid (block_below HX0.out hb1 (block_lt HX0.out)); have HO1 := Lib.hid (own_weak ho1 Hb0.out.size); have Hb1 := Lib.hid (Hb0.out.trans (hb1.mono Hb0.out.size))
 clear ho1 hn1 hb1
 have hl1 : n1 ≤ 11 := by rw [HN1.out, List.nil_append]; exact encN_len _
 have r := block_cell HX1.out
 have r0 := r 0; have r1 := r 1; have r2 := r 2; have r3 := r 3; have r4 := r 4; have r5 := r 5; have r6 := r 6; have r7 := r 7; have r8 := r 8; have r9 := r 9; have r10 := r 10; have r11 := r 11; have r12 := r 12
 simp at r0 r1 r2 r3 r4 r5 r6 r7 r8 r9 r10 r11 r12
 clear r
 have Hrn1 := Lib.hid (rd_bytes (o := 1) l.hs HX1.out rfl)
 go_wp2_with fail
 refine (putBytes_any A1 (some ⟨w.heap.size, 1, none⟩) n1 c1 8 8 _ l.hs.bytes w1 HR1.out (by omega) Hrn1.out (by omega)).mono ?_
 rintro e w2 ⟨A2, n2, c2, rfl, ho2, hn2, hb2⟩
 have HR2 := Lib.hid (Rd.of_own ho2); have HN2 := Lib.hid hn2; have HX2 := Lib.hid (block_below HX1.out hb2 (block_lt HX1.out)); have HO2 := Lib.hid (own_weak ho2 Hb1.out.size); have Hb2 := Lib.hid (Hb1.out.trans (hb2.mono Hb1.out.size))
 clear ho2 hn2 hb2
 have hl2 : n2 ≤ 30 := by rw [HN2.out, List.length_append, ← HN1.out]; have := encB8 l.hs; omega
 clear r0 r1 r2 r3 r4 r5 r6 r7 r8 r9 r10 r11 r12 Hrn1
 have r := block_cell HX2.out
 have r0 := r 0; have r1 := r 1; have r2 := r 2; have r3 := r 3; have r4 := r 4; have r5 := r 5; have r6 := r 6; have r7 := r 7; have r8 := r 8; have r9 := r 9; have r10 := r 10; have r11 := r 11; have r12 := r 12
 simp at r0 r1 r2 r3 r4 r5 r6 r7 r8 r9 r10 r11 r12
 clear r
 go_wp2_with fail
 refine (putNum_at A2 n2 c2 (n : Int) _ w2 HR2.out (by omega) (by omega) (by omega)).mono ?_
 rintro e w3 ⟨A3, n3, c3, rfl, ho3, hn3, hb3⟩
 have HR3 := Lib.hid (Rd.of_own ho3); have HN3 := Lib.hid hn3; have HX3 := Lib.hid (block_below HX2.out hb3 (block_lt HX2.out)); have HO3 := Lib.hid (own_weak ho3 Hb2.out.size); have Hb3 := Lib.hid (Hb2.out.trans (hb3.mono Hb2.out.size))
 clear ho3 hn3 hb3
 have hl3 : n3 ≤ 41 := by rw [HN3.out, List.length_append, ← HN2.out]; have := encN_len (n : Int).toNat; omega
 have Hhead : Hid ([] ++ encN l.kd.toNat ++ encB l.hs.bytes ++ encN (n : Int).toNat = l.head ++ encDs (l.ks.take 0)) := Lib.hid (by unfold Lk.head encDs; rw [Hl.out]; simp)
 rw [Hhead.out] at HR3 HN3 HO3
 clear r0 r1 r2 r3 r4 r5 r6 r7 r8 r9 r10 r11 r12
 have r := block_cell HX3.out
 have r0 := r 0; have r1 := r 1; have r2 := r 2; have r3 := r 3; have r4 := r 4; have r5 := r 5; have r6 := r 6; have r7 := r 7; have r8 := r 8; have r9 := r 9; have r10 := r 10; have r11 := r 11; have r12 := r 12
 simp at r0 r1 r2 r3 r4 r5 r6 r7 r8 r9 r10 r11 r12
 clear r
 go_wp2
 go_loopw [3, 25] (fun v i wr => ∃ (k m : Nat) (A' : Option Addr) (c' : Nat), k ≤ n ∧ i = .int .i64 k ∧ v = .slice A' m c' ∧ Hid (m ≤ 41 + 19 * k) ∧ Hid (Rd wr wr.heap.size 1 A' m (bv (l.head ++ encDs (l.ks.take k)))) ∧ Hid (m = (l.head ++ encDs (l.ks.take k)).length) ∧ Hid (wr.ownsRow w.heap.size 5 1 (.slice A' m c') m (bv (l.head ++ encDs (l.ks.take k)))) ∧ Hid (Below w.heap.size w wr) ∧ Hid (wr.heap[w.heap.size]? = some (.cells #[.int .i64 l.kd, .int .u8 l.hs.x0, .int .u8 l.hs.x1, .int .u8 l.hs.x2, .int .u8 l.hs.x3, .int .u8 l.hs.x4, .int .u8 l.hs.x5, .int .u8 l.hs.x6, .int .u8 l.hs.x7, .slice A n c, .int .i64 l.st, .int .i64 l.cp, .int .i64 l.un] 40 (0, 0)))) (fun _ i _ => n - (RowKit.intOf i).toNat)
 case atStart => exact ⟨0, n3, A3, c3, by omega, rfl, rfl, Lib.hid (by omega), HR3, HN3, HO3, Hb3, HX3⟩
 case round =>
  obtain ⟨k, m, A', c', hk, rfl, rfl, Hm, HRk, HNk, HOk, Hbk, HXk⟩ := hrel
  by_cases hlt : k < n
  ·obtain ⟨b, o, rfl, hbB, x0, x1, x2, x3, x4, x5, x6, x7⟩ := (Hr.out.below Hbk.out (Nat.le_refl _)).di8v hlt
   have hd1 : decide ((k : Int) < (n : Int)) = true := decide_eq_true (by omega)
   have hki : (k : Int) < (n : Int) := by omega
   have Htk := Lib.hid (encDs_take (l := l.ks) (k := k) (by rw [Hl.out]; exact hlt))
   generalize l.ks.getD k dz8 = h at *
   have hbk := Hbk.out.size
   have hm900 : m ≤ 300 := by have := Hm.out; omega
   have HY6 : Hid ((wr.alloc (.cells #[.int .u8 h.x0, .int .u8 h.x1, .int .u8 h.x2, .int .u8 h.x3, .int .u8 h.x4, .int .u8 h.x5, .int .u8 h.x6, .int .u8 h.x7] 27)).heap[wr.heap.size]? = some (.cells #[.int .u8 h.x0, .int .u8 h.x1, .int .u8 h.x2, .int .u8 h.x3, .int .u8 h.x4, .int .u8 h.x5, .int .u8 h.x6, .int .u8 h.x7] 27 (0, 0))) := Lib.hid (heap_alloc_new wr (.cells #[.int .u8 h.x0, .int .u8 h.x1, .int .u8 h.x2, .int .u8 h.x3, .int .u8 h.x4, .int .u8 h.x5, .int .u8 h.x6, .int .u8 h.x7] 27))
   have Hrn6 := Lib.hid (rd_bytes (o := 0) h HY6.out rfl)
   have HX6 := Lib.hid (block_alloc HXk.out (.cells #[.int .u8 h.x0, .int .u8 h.x1, .int .u8 h.x2, .int .u8 h.x3, .int .u8 h.x4, .int .u8 h.x5, .int .u8 h.x6, .int .u8 h.x7] 27))
   have Hb6 := Lib.hid (Hbk.out.alloc hbk (.cells #[.int .u8 h.x0, .int .u8 h.x1, .int .u8 h.x2, .int .u8 h.x3, .int .u8 h.x4, .int .u8 h.x5, .int .u8 h.x6, .int .u8 h.x7] 27))
   have HR6 := Lib.hid ((HRk.out.alloc (Nat.le_refl _) (.cells #[.int .u8 h.x0, .int .u8 h.x1, .int .u8 h.x2, .int .u8 h.x3, .int .u8 h.x4, .int .u8 h.x5, .int .u8 h.x6, .int .u8 h.x7] 27)).more (show wr.heap.size ≤ (wr.alloc (.cells #[.int .u8 h.x0, .int .u8 h.x1, .int .u8 h.x2, .int .u8 h.x3, .int .u8 h.x4, .int .u8 h.x5, .int .u8 h.x6, .int .u8 h.x7] 27)).heap.size by simp))
   go_wp2_with fail
   refine (putBytes_any A' (some ⟨wr.heap.size, 0, none⟩) m c' 8 8 _ h.bytes _ HR6.out (by omega) Hrn6.out (by omega)).mono ?_
   rintro e w7 ⟨A7, n7, c7, rfl, ho7, hn7, hb7⟩
   have HR7 := Lib.hid (Rd.of_own ho7); have HN7 := Lib.hid hn7; have HX7 := Lib.hid (block_below HX6.out hb7 (block_lt HX6.out)); have HO7 := Lib.hid (own_weak ho7 Hb6.out.size); have Hb7 := Lib.hid (Hb6.out.trans (hb7.mono Hb6.out.size))
   clear ho7 hn7 hb7
   have Hm7 : Hid (n7 ≤ 41 + 19 * (k + 1)) := Lib.hid (by rw [HN7.out, List.length_append, ← HNk.out]; have := encB8 h; have := Hm.out; omega)
   have Hfin : Hid (l.head ++ encDs (l.ks.take k) ++ encB h.bytes = l.head ++ encDs (l.ks.take (k + 1))) := Lib.hid (by rw [Htk.out]; simp only [List.append_assoc])
   rw [Hfin.out] at HR7 HN7 HO7
   go_wp2
   go_roundw
   case rel => exact ⟨k + 1, n7, A7, c7, hlt, by go_num, rfl, Hm7, HR7, HN7, HO7, Hb7, HX7⟩
   case measure => simp [RowKit.intOf]; omega
  ·have hkn : k = n := by omega
   subst hkn
   have hd1 : decide ((k : Int) < (k : Int)) = false := decide_eq_false (by omega)
   have hm9 : m ≤ 200 := by have := Hm.out; omega
   clear r0 r1 r2 r3 r4 r5 r6 r7 r8 r9 r10 r11 r12
   have r := block_cell HXk.out
   have r0 := r 0; have r1 := r 1; have r2 := r 2; have r3 := r 3; have r4 := r 4; have r5 := r 5; have r6 := r 6; have r7 := r 7; have r8 := r 8; have r9 := r 9; have r10 := r 10; have r11 := r 11; have r12 := r 12
   simp at r0 r1 r2 r3 r4 r5 r6 r7 r8 r9 r10 r11 r12
   clear r
   have j0 : ∀ w, (Instr.index 177 (.agg #[.int .i64 l.st, .int .i64 l.cp, .int .i64 l.un]) (.int .i64 0)).run Tryz.prog w = .ok (.int .i64 l.st) w := fun _ => by kernel_rfl
   have j1 : ∀ w, (Instr.index 177 (.agg #[.int .i64 l.st, .int .i64 l.cp, .int .i64 l.un]) (.int .i64 1)).run Tryz.prog w = .ok (.int .i64 l.cp) w := fun _ => by kernel_rfl
   have j2 : ∀ w, (Instr.index 177 (.agg #[.int .i64 l.st, .int .i64 l.cp, .int .i64 l.un]) (.int .i64 2)).run Tryz.prog w = .ok (.int .i64 l.un) w := fun _ => by kernel_rfl
   go_wp2
   refine wp_loop_rounds 4 ?_
   rw [rounds_succ]
   go_wp2_with fail
   refine (putNum_at A' m c' l.st _ wr HRk.out (by omega) hs1 (by omega)).mono ?_
   rintro e w8 ⟨A8, n8, c8, rfl, ho8, hn8, hb8⟩
   have HR8 := Lib.hid (Rd.of_own ho8); have HN8 := Lib.hid hn8; have HX8 := Lib.hid (block_below HXk.out hb8 (block_lt HXk.out)); have HO8 := Lib.hid (own_weak ho8 Hbk.out.size); have Hb8 := Lib.hid (Hbk.out.trans (hb8.mono Hbk.out.size))
   clear ho8 hn8 hb8
   have hl8 : n8 ≤ 211 := by rw [HN8.out, List.length_append, ← HNk.out]; have := encN_len l.st.toNat; omega
   go_wp2
   rw [rounds_succ]
   go_wp2_with fail
   refine (putNum_at A8 n8 c8 l.cp _ w8 HR8.out (by omega) hc1 (by omega)).mono ?_
   rintro e w9 ⟨A9, n9, c9, rfl, ho9, hn9, hb9⟩
   have HR9 := Lib.hid (Rd.of_own ho9); have HN9 := Lib.hid hn9; have HX9 := Lib.hid (block_below HX8.out hb9 (block_lt HX8.out)); have HO9 := Lib.hid (own_weak ho9 Hb8.out.size); have Hb9 := Lib.hid (Hb8.out.trans (hb9.mono Hb8.out.size))
   clear ho9 hn9 hb9
   have hl9 : n9 ≤ 222 := by rw [HN9.out, List.length_append, ← HN8.out]; have := encN_len l.cp.toNat; omega
   go_wp2
   rw [rounds_succ]
   go_wp2_with fail
   refine (putNum_at A9 n9 c9 l.un _ w9 HR9.out (by omega) hu1 (by omega)).mono ?_
   rintro e w10 ⟨A10, n10, c10, rfl, ho10, hn10, hb10⟩
   have HR10 := Lib.hid (Rd.of_own ho10); have HN10 := Lib.hid hn10; have HX10 := Lib.hid (block_below HX9.out hb10 (block_lt HX9.out)); have HO10 := Lib.hid (own_weak ho10 Hb9.out.size); have Hb10 := Lib.hid (Hb9.out.trans (hb10.mono Hb9.out.size))
   clear ho10 hn10 hb10
   have Hend : Hid (l.head ++ encDs (l.ks.take k) ++ encN l.st.toNat ++ encN l.cp.toNat ++ encN l.un.toNat = l.bytes) := Lib.hid (by rw [List.take_of_length_le (by rw [Hl.out]; omega)]; unfold Lk.bytes Lk.head; simp only [List.append_assoc])
   rw [Hend.out] at HR10 HN10 HO10
   go_wp2
   rw [rounds_succ]
   go_wp2
   go_ret
   exact ⟨A10, n10, c10, rfl, HO10.out, HN10.out, Hb10.out⟩
end Go.Proofs.YthhiookcknnmdaaGreat
