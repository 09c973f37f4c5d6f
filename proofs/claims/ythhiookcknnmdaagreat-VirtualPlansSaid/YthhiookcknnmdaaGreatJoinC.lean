/- One read of an entry as one step of a drawn region's head. Nothing of the program stands in it but its tables, so there is no condition. The walk of sign: a book's signature of an entry, which is there then. Condition: room in the book. The walk of a signer's Sign. Condition: room in the book. A signer's methods by its interface. Nothing of the program stands in it but its tables, so there is no condition. -/
import Derived.Test.YthhiookcknnmdaaGreatJoinN
import Derived.Test.YthhiookcknnmdaaGreatTail
import Derived.StillTailTactics
import Derived.Test.YthhiookcknnmdaaGreatStepApp
import Derived.Deep.RegionLaw
import Derived.Lib.SmallJoins
import Derived.Test.YthhiookcknnmdaaGreatJoinM
namespace Go.Proofs.YthhiookcknnmdaaGreat
open Go.RowKit Go.Lib

theorem still_load {P : Program} {ops : Array Oper} {rest : List Oper} {o : Oper} {a : Act} {w : World} {Q : Act → Prop} (hg : o.guard = none) (x : Operand) (t : TypeId) (hop : o.op = Op.load t x)
  (X v : Value) (hx : a.eval x = X) (hrun : (Instr.loadAt t X).run P w = .ok v w) (h : wpStill P ops w Q rest (a.put o.dst v)) : wpStill P ops w Q (o :: rest) a := by
 have hw : Region.wanted o (yielded ops a.tmps) = true := by simp [Region.wanted, hg]
 refine wpStill_step (fun K hK => ?_)
 rw [if_pos hw]
 unfold Oper.still
 simp [execOp, hop, hx, hrun, Result.andThen, Oper.stillUpon]
 exact hK _ h
set_option maxRecDepth 100000 in
theorem load_en (w : World) (b : Nat) (e : En) (h : w.heap[b]? = some (.cells #[.int .u8 e.key.x0, .int .u8 e.key.x1, .int .u8 e.key.x2, .int .u8 e.key.x3, .int .u8 e.key.x4, .int .u8 e.key.x5, .int .u8 e.key.x6, .int .u8 e.key.x7, .int .u8 e.msg.x0, .int .u8 e.msg.x1, .int .u8 e.msg.x2, .int .u8 e.msg.x3, .int .u8 e.msg.x4, .int .u8 e.msg.x5, .int .u8 e.msg.x6, .int .u8 e.msg.x7] 243 (0, 0))) : (Instr.loadAt 243 (.pointer (some ⟨b, 0, none⟩))).run Tryz.prog w = .ok (.agg #[.int .u8 e.key.x0, .int .u8 e.key.x1, .int .u8 e.key.x2, .int .u8 e.key.x3, .int .u8 e.key.x4, .int .u8 e.key.x5, .int .u8 e.key.x6, .int .u8 e.key.x7, .int .u8 e.msg.x0, .int .u8 e.msg.x1, .int .u8 e.msg.x2, .int .u8 e.msg.x3, .int .u8 e.msg.x4, .int .u8 e.msg.x5, .int .u8 e.msg.x6, .int .u8 e.msg.x7]) w := by
 have x := block_cell h
 have x0 := x 0; have x1 := x 1; have x2 := x 2; have x3 := x 3; have x4 := x 4; have x5 := x 5; have x6 := x 6; have x7 := x 7; have x8 := x 8; have x9 := x 9; have x10 := x 10; have x11 := x 11; have x12 := x 12; have x13 := x 13; have x14 := x 14; have x15 := x 15
 simp at x0 x1 x2 x3 x4 x5 x6 x7 x8 x9 x10 x11 x12 x13 x14 x15
 clear x
 go_simp
end Go.Proofs.YthhiookcknnmdaaGreat
namespace Go.Proofs.YthhiookcknnmdaaGreat
open Go.RowKit Go.Lib

theorem grown_setN {w : World} (b i : Nat) (v : Value) : w.grownBy (w.setCell ⟨b, i, none⟩ v) (some b) :=
 ⟨rfl, rfl, rfl, by simp, fun k _ hne => Below.heap_setCell w ⟨b, i, none⟩ v k (fun e => hne (by rw [e]))⟩
theorem wpList_put {P : Program} {ops : Array Oper} {rest : List Oper} {o : Oper} {a : Act} {Q : Exit → Act → World → Prop} (w w' : World) (hg : o.guard = none) (m x v : Operand) (t : TypeId) (hop : o.op = Op.mapUpdate t m x v)
  (M X V : Value) (hm : a.eval m = M) (hx : a.eval x = X) (hv : a.eval v = V) (hrun : (Instr.mapUpdate t M X V).run P w = .ok () w') (hK : wpList P ops Q rest (a.put o.dst undef) w') : wpList P ops Q (o :: rest) a w := by
 refine wpList_plain hg fun K' hK' => ?_
 unfold Oper.wp
 simp [execOp, hop, hm, hx, hv, hrun, Result.andThen]
 exact hK' _ _ hK
structure Kept (w w' : World) (bk mb : Nat) : Prop where
 os : w'.os = w.os
 tape : w'.tape = w.tape
 output : w'.output = w.output
 size : w.heap.size ≤ w'.heap.size
 low : ∀ k, k < bk → k < mb → w'.heap[k]? = w.heap[k]?
 typed : ∀ k cs t fz, w.heap[k]? = some (.cells cs t fz) → t ≠ 243 → k ≠ bk → w'.heap[k]? = some (.cells cs t fz)
 maps : ∀ k es cl, w.heap[k]? = some (.map es cl) → k ≠ mb → k ≠ bk → w'.heap[k]? = some (.map es cl)
theorem Kept.below {w w' : World} {bk mb B : Nat} (h : Kept w w' bk mb) (h1 : B ≤ bk) (h2 : B ≤ mb) : Below B w w' :=
 ⟨h.os, h.tape, h.output, h.size, fun k hk => h.low k (by omega) (by omega)⟩
theorem Kept.of_below {w w' : World} {bk mb : Nat} (h : Below w.heap.size w w') (h1 : bk < w.heap.size) (_h2 : mb < w.heap.size) : Kept w w' bk mb :=
 ⟨h.os, h.tape, h.output, h.size, fun k hk _ => h.block k (by omega), fun k cs t fz hk _ _ => block_below hk h (block_lt hk), fun k es cl hk _ _ => block_below hk h (block_lt hk)⟩
theorem own_ne_map {w : World} {base : Nat} {e : TypeId} {sz n g cl : Nat} {v : Value} {xs : List Value} {es : Array MapEntry} (h : w.ownsRow base e sz v n xs) (hg : w.heap[g]? = some (.map es cl)) : some g ≠ v.ownBlock := by
 rcases h.2 with ⟨rfl, _⟩ | ⟨g', cap, cur, rfl, _, hgg, _⟩
 ·simp [Value.ownBlock]
 ·simp only [Value.ownBlock, ne_eq, Option.some.injEq]
  rintro rfl
  rw [hg] at hgg
  injection hgg with h1
  cases h1
theorem kept_sign {w w3 w4 w5 w6 : World} {B bk mb n : Nat} {v : Value} {xs : List Value} {L : List En} (h3 : Below w.heap.size w w3) (hO : w3.ownsRow B 243 16 v n xs) (h4 : Below B w3 w4) (hg4 : w3.grownBy w4 v.ownBlock)
  (hg5 : w4.grownBy w5 (some bk)) (hg6 : w5.drew.grownBy w6 (some mb)) (hm : PlacesAt w mb L) (hB : B ≤ w.heap.size) (lb : bk < B) (lm : mb < B) (o : Obj) : Kept w (w6.alloc o) bk mb := by
 have s4 := h4.size
 have s5 := hg5.size
 have s6 : w5.heap.size ≤ w6.heap.size := hg6.size
 have s3 := h3.size
 have e6 : ∀ k, k < w5.heap.size → k ≠ mb → w6.heap[k]? = w5.heap[k]? := fun k hk hne => hg6.block k hk (by intro e; injection e with e; exact hne e)
 have e5 : ∀ k, k < w4.heap.size → k ≠ bk → w5.heap[k]? = w4.heap[k]? := fun k hk hne => hg5.block k hk (by intro e; injection e with e; exact hne e)
 refine ⟨(hg6.os.trans hg5.os).trans (hg4.os.trans h3.os), (hg6.tape.trans hg5.tape).trans (hg4.tape.trans h3.tape), (hg6.output.trans hg5.output).trans (hg4.output.trans h3.output), by rw [World.size_alloc]; omega, fun k h1 h2 => ?_, fun k cs t fz hk ht hne => ?_, fun k es cl hk hmk hne => ?_⟩
 ·rw [Below.heap_alloc w6 o k (by omega), e6 k (by omega) (by omega), e5 k (by omega) (by omega), h4.block k (by omega), h3.block k (by omega)]
 ·have hkl := block_lt hk
  have hk3 : w3.heap[k]? = some (.cells cs t fz) := (h3.block k hkl).trans hk
  have hk4 : w4.heap[k]? = some (.cells cs t fz) := (hg4.block k (by omega) (own_ne hO hk3 (fun e => ht e.symm))).trans hk3
  have hmk : k ≠ mb := by
   rintro rfl
   obtain ⟨es, cl, h1, _⟩ := hm
   rw [hk] at h1
   simp at h1
  rw [Below.heap_alloc w6 o k (by omega), e6 k (by omega) hmk, e5 k (by omega) hne]
  exact hk4
 ·have hkl := block_lt hk
  have hk3 : w3.heap[k]? = some (.map es cl) := (h3.block k hkl).trans hk
  have hk4 : w4.heap[k]? = some (.map es cl) := (hg4.block k (by omega) (own_ne_map hO hk3)).trans hk3
  rw [Below.heap_alloc w6 o k (by omega), e6 k (by omega) hmk, e5 k (by omega) hne]
  exact hk4
def SigAt (w : World) (g i : Nat) : Prop := w.heap[g]? = some (.cells #[.int .u8 ((i % 256 : Nat) : Int), .int .u8 ((i / 256 % 256 : Nat) : Int)] 5 (0, 0))
set_option maxRecDepth 100000 in
set_option maxHeartbeats 2000000 in
theorem sign_some (B bk mb : Nat) (L : List En) (e : En) (w : World) (h : BookAt w B bk mb L) (he : e.ok) (i : Nat) (hp : posE L e = some i) (_hlen : L.length < 60000) :
  Calls Tryz.prog 202 #[.pointer (some ⟨bk, 0, none⟩), .agg #[.int .u8 e.key.x0, .int .u8 e.key.x1, .int .u8 e.key.x2, .int .u8 e.key.x3, .int .u8 e.key.x4, .int .u8 e.key.x5, .int .u8 e.key.x6, .int .u8 e.key.x7, .int .u8 e.msg.x0, .int .u8 e.msg.x1, .int .u8 e.msg.x2, .int .u8 e.msg.x3, .int .u8 e.msg.x4, .int .u8 e.msg.x5, .int .u8 e.msg.x6, .int .u8 e.msg.x7]] w fun r w' => ∃ g, r = .returned (.tuple #[.slice (some ⟨g, 0, none⟩) 2 2, .int .i64 0]) ∧ w.heap.size ≤ g ∧ SigAt w' g (signE L e).2 ∧ BookAt w' B bk mb (signE L e).1 ∧ Kept w w' bk mb := by
 obtain ⟨A, n, c, hbk, hown⟩ := h.book
 obtain ⟨i0, hi, hz0, hz1, hz2⟩ := info_parts info_En
 have HI := Lib.hid (And.intro hi (And.intro hz0 (And.intro hz1 hz2))); clear hi hz0 hz1 hz2
 have hlook := look_places (w := (w.alloc (.cells #[.int .u8 e.key.x0, .int .u8 e.key.x1, .int .u8 e.key.x2, .int .u8 e.key.x3, .int .u8 e.key.x4, .int .u8 e.key.x5, .int .u8 e.key.x6, .int .u8 e.key.x7, .int .u8 e.msg.x0, .int .u8 e.msg.x1, .int .u8 e.msg.x2, .int .u8 e.msg.x3, .int .u8 e.msg.x4, .int .u8 e.msg.x5, .int .u8 e.msg.x6, .int .u8 e.msg.x7] 243)).drew) (h.places.same (Below.heap_alloc w _ _ h.places.lt)) h.nodup h.ok e he
 simp only [En.V] at hlook
 have q0 := block_cell hbk 0
 have q1 := block_cell hbk 1
 have qf := block_free hbk
 have hlt := block_lt hbk
 simp at q0 q1
 rw [hp] at hlook
 go_enter Tryz.func202, Tryz.ntmps202
 go_wp2
 go_region
 all_goals
  go_wp2
  go_ret2
  have hs : signE L e = (L, i) := by unfold signE; rw [hp]
  have hb : Below w.heap.size w ((w.alloc (.cells #[.int .u8 e.key.x0, .int .u8 e.key.x1, .int .u8 e.key.x2, .int .u8 e.key.x3, .int .u8 e.key.x4, .int .u8 e.key.x5, .int .u8 e.key.x6, .int .u8 e.key.x7, .int .u8 e.msg.x0, .int .u8 e.msg.x1, .int .u8 e.msg.x2, .int .u8 e.msg.x3, .int .u8 e.msg.x4, .int .u8 e.msg.x5, .int .u8 e.msg.x6, .int .u8 e.msg.x7] 243)).alloc (.cells #[.int .u8 ((i : Int) % 256), .int .u8 ((i : Int) / 256 % 256)] 5)).drew := (((Below.refl _ _).alloc (Nat.le_refl _) _).alloc (by simp) _).drew
  have hg := heap_alloc_new (w.alloc (.cells #[.int .u8 e.key.x0, .int .u8 e.key.x1, .int .u8 e.key.x2, .int .u8 e.key.x3, .int .u8 e.key.x4, .int .u8 e.key.x5, .int .u8 e.key.x6, .int .u8 e.key.x7, .int .u8 e.msg.x0, .int .u8 e.msg.x1, .int .u8 e.msg.x2, .int .u8 e.msg.x3, .int .u8 e.msg.x4, .int .u8 e.msg.x5, .int .u8 e.msg.x6, .int .u8 e.msg.x7] 243)) (.cells #[.int .u8 ((i : Int) % 256), .int .u8 ((i : Int) / 256 % 256)] 5)
  refine ⟨w.heap.size + 1, rfl, by omega, ?_, ?_, ?_⟩
  ·rw [hs]
   unfold SigAt
   simp only
   rw [Int.natCast_emod, Int.natCast_emod, Int.natCast_ediv]
   rw [World.size_alloc] at hg
   exact hg
  ·rw [hs]; exact h.below hb
  ·exact Kept.of_below hb hlt h.places.lt
set_option maxRecDepth 100000 in
set_option maxHeartbeats 2000000 in
theorem sign_none (B bk mb : Nat) (L : List En) (e : En) (w : World) (h : BookAt w B bk mb L) (he : e.ok) (hp : posE L e = none) (hlen : L.length < 60000) :
  Calls Tryz.prog 202 #[.pointer (some ⟨bk, 0, none⟩), .agg #[.int .u8 e.key.x0, .int .u8 e.key.x1, .int .u8 e.key.x2, .int .u8 e.key.x3, .int .u8 e.key.x4, .int .u8 e.key.x5, .int .u8 e.key.x6, .int .u8 e.key.x7, .int .u8 e.msg.x0, .int .u8 e.msg.x1, .int .u8 e.msg.x2, .int .u8 e.msg.x3, .int .u8 e.msg.x4, .int .u8 e.msg.x5, .int .u8 e.msg.x6, .int .u8 e.msg.x7]] w fun r w' => ∃ g, r = .returned (.tuple #[.slice (some ⟨g, 0, none⟩) 2 2, .int .i64 0]) ∧ w.heap.size ≤ g ∧ SigAt w' g (signE L e).2 ∧ BookAt w' B bk mb (signE L e).1 ∧ Kept w w' bk mb := by
 obtain ⟨A, n, c, hbk, hown⟩ := h.book
 obtain ⟨i0, hi, hz0, hz1, hz2⟩ := info_parts info_En
 have HI := Lib.hid (And.intro hi (And.intro hz0 (And.intro hz1 hz2))); clear hi hz0 hz1 hz2
 have hlook := look_places (w := (w.alloc (.cells #[.int .u8 e.key.x0, .int .u8 e.key.x1, .int .u8 e.key.x2, .int .u8 e.key.x3, .int .u8 e.key.x4, .int .u8 e.key.x5, .int .u8 e.key.x6, .int .u8 e.key.x7, .int .u8 e.msg.x0, .int .u8 e.msg.x1, .int .u8 e.msg.x2, .int .u8 e.msg.x3, .int .u8 e.msg.x4, .int .u8 e.msg.x5, .int .u8 e.msg.x6, .int .u8 e.msg.x7] 243)).drew) (h.places.same (Below.heap_alloc w _ _ h.places.lt)) h.nodup h.ok e he
 simp only [En.V] at hlook
 have q0 := block_cell hbk 0
 have q1 := block_cell hbk 1
 have qf := block_free hbk
 have hlt := block_lt hbk
 simp at q0 q1
 rw [hp] at hlook
 have hln : L.length = n := by have := hown.1; rw [flatE_len] at this; omega
 have d1 : decide ((65536 : Int) ≤ (n : Int)) = false := decide_eq_false (by omega)
 have hB := h.hB
 have Hp := Lib.hid hp; have Hln := Lib.hid hln; have Hown := Lib.hid hown; have Hbk := Lib.hid hbk; have H := Lib.hid h; have Hlen := Lib.hid hlen
 have He := Lib.hid he
 clear hp hln hown hbk h hlen he
 go_enter Tryz.func202, Tryz.ntmps202
 go_wp2
 go_region
 all_goals
  clear hlook
  go_wp2
  have hsz2 : ((w.alloc (.cells #[.int .u8 e.key.x0, .int .u8 e.key.x1, .int .u8 e.key.x2, .int .u8 e.key.x3, .int .u8 e.key.x4, .int .u8 e.key.x5, .int .u8 e.key.x6, .int .u8 e.key.x7, .int .u8 e.msg.x0, .int .u8 e.msg.x1, .int .u8 e.msg.x2, .int .u8 e.msg.x3, .int .u8 e.msg.x4, .int .u8 e.msg.x5, .int .u8 e.msg.x6, .int .u8 e.msg.x7] 243)).drew).heap.size = w.heap.size + 1 := by
   show (w.alloc _).heap.size = _
   simp
  have HX2 : Hid (((w.alloc (.cells #[.int .u8 e.key.x0, .int .u8 e.key.x1, .int .u8 e.key.x2, .int .u8 e.key.x3, .int .u8 e.key.x4, .int .u8 e.key.x5, .int .u8 e.key.x6, .int .u8 e.key.x7, .int .u8 e.msg.x0, .int .u8 e.msg.x1, .int .u8 e.msg.x2, .int .u8 e.msg.x3, .int .u8 e.msg.x4, .int .u8 e.msg.x5, .int .u8 e.msg.x6, .int .u8 e.msg.x7] 243)).drew).heap[w.heap.size]? = some (.cells #[.int .u8 e.key.x0, .int .u8 e.key.x1, .int .u8 e.key.x2, .int .u8 e.key.x3, .int .u8 e.key.x4, .int .u8 e.key.x5, .int .u8 e.key.x6, .int .u8 e.key.x7, .int .u8 e.msg.x0, .int .u8 e.msg.x1, .int .u8 e.msg.x2, .int .u8 e.msg.x3, .int .u8 e.msg.x4, .int .u8 e.msg.x5, .int .u8 e.msg.x6, .int .u8 e.msg.x7] 243 (0, 0))) := Lib.hid (heap_alloc_new w _)
  have HB2 : Hid (((w.alloc (.cells #[.int .u8 e.key.x0, .int .u8 e.key.x1, .int .u8 e.key.x2, .int .u8 e.key.x3, .int .u8 e.key.x4, .int .u8 e.key.x5, .int .u8 e.key.x6, .int .u8 e.key.x7, .int .u8 e.msg.x0, .int .u8 e.msg.x1, .int .u8 e.msg.x2, .int .u8 e.msg.x3, .int .u8 e.msg.x4, .int .u8 e.msg.x5, .int .u8 e.msg.x6, .int .u8 e.msg.x7] 243)).drew).heap[bk]? = some (.cells #[.slice A n c, .map (some mb)] 181 (0, 0))) := Lib.hid (block_alloc Hbk.out _)
  have HP2 : Hid (PlacesAt (w.alloc (.cells #[.int .u8 e.key.x0, .int .u8 e.key.x1, .int .u8 e.key.x2, .int .u8 e.key.x3, .int .u8 e.key.x4, .int .u8 e.key.x5, .int .u8 e.key.x6, .int .u8 e.key.x7, .int .u8 e.msg.x0, .int .u8 e.msg.x1, .int .u8 e.msg.x2, .int .u8 e.msg.x3, .int .u8 e.msg.x4, .int .u8 e.msg.x5, .int .u8 e.msg.x6, .int .u8 e.msg.x7] 243)).drew mb L) := Lib.hid (H.out.places.same (Below.heap_alloc w _ _ H.out.places.lt))
  have HO2 : Hid (World.ownsRow (w.alloc (.cells #[.int .u8 e.key.x0, .int .u8 e.key.x1, .int .u8 e.key.x2, .int .u8 e.key.x3, .int .u8 e.key.x4, .int .u8 e.key.x5, .int .u8 e.key.x6, .int .u8 e.key.x7, .int .u8 e.msg.x0, .int .u8 e.msg.x1, .int .u8 e.msg.x2, .int .u8 e.msg.x3, .int .u8 e.msg.x4, .int .u8 e.msg.x5, .int .u8 e.msg.x6, .int .u8 e.msg.x7] 243)).drew B 243 16 (.slice A n c) n (flatE L)) := Lib.hid (own_below (Hown.out.alloc _) (Below.refl _ _).drew)
  have HK2 : Hid (Below w.heap.size w (w.alloc (.cells #[.int .u8 e.key.x0, .int .u8 e.key.x1, .int .u8 e.key.x2, .int .u8 e.key.x3, .int .u8 e.key.x4, .int .u8 e.key.x5, .int .u8 e.key.x6, .int .u8 e.key.x7, .int .u8 e.msg.x0, .int .u8 e.msg.x1, .int .u8 e.msg.x2, .int .u8 e.msg.x3, .int .u8 e.msg.x4, .int .u8 e.msg.x5, .int .u8 e.msg.x6, .int .u8 e.msg.x7] 243)).drew) := Lib.hid (below_one w _).drew
  have HSz := Lib.hid hsz2
  have hs2 : w.heap.size < (w.alloc (.cells #[.int .u8 e.key.x0, .int .u8 e.key.x1, .int .u8 e.key.x2, .int .u8 e.key.x3, .int .u8 e.key.x4, .int .u8 e.key.x5, .int .u8 e.key.x6, .int .u8 e.key.x7, .int .u8 e.msg.x0, .int .u8 e.msg.x1, .int .u8 e.msg.x2, .int .u8 e.msg.x3, .int .u8 e.msg.x4, .int .u8 e.msg.x5, .int .u8 e.msg.x6, .int .u8 e.msg.x7] 243)).drew.heap.size := by rw [hsz2]; omega
  clear hsz2 q0 q1 qf
  generalize (w.alloc (.cells #[.int .u8 e.key.x0, .int .u8 e.key.x1, .int .u8 e.key.x2, .int .u8 e.key.x3, .int .u8 e.key.x4, .int .u8 e.key.x5, .int .u8 e.key.x6, .int .u8 e.key.x7, .int .u8 e.msg.x0, .int .u8 e.msg.x1, .int .u8 e.msg.x2, .int .u8 e.msg.x3, .int .u8 e.msg.x4, .int .u8 e.msg.x5, .int .u8 e.msg.x6, .int .u8 e.msg.x7] 243)).drew = w2 at *
  have q0 := block_cell HB2.out 0
  have q1 := block_cell HB2.out 1
  have qf := block_free HB2.out
  simp at q0 q1
  have x := block_cell HX2.out
  have x0 := x 0; have x1 := x 1; have x2 := x 2; have x3 := x 3; have x4 := x 4; have x5 := x 5; have x6 := x 6; have x7 := x 7; have x8 := x 8; have x9 := x 9; have x10 := x 10; have x11 := x 11; have x12 := x 12; have x13 := x 13; have x14 := x 14; have x15 := x 15
  simp at x0 x1 x2 x3 x4 x5 x6 x7 x8 x9 x10 x11 x12 x13 x14 x15
  clear x
  have hbk2 := block_lt HB2.out
  have HO3 : Hid ((w2.drew.alloc (.cells #[.int .u8 e.key.x0, .int .u8 e.key.x1, .int .u8 e.key.x2, .int .u8 e.key.x3, .int .u8 e.key.x4, .int .u8 e.key.x5, .int .u8 e.key.x6, .int .u8 e.key.x7, .int .u8 e.msg.x0, .int .u8 e.msg.x1, .int .u8 e.msg.x2, .int .u8 e.msg.x3, .int .u8 e.msg.x4, .int .u8 e.msg.x5, .int .u8 e.msg.x6, .int .u8 e.msg.x7] 243)).ownsRow B 243 16 (.slice A n c) n (flatE L)) := Lib.hid ((own_below HO2.out (Below.refl _ _).drew).alloc _)
  have HRl : Hid (Rd (w2.drew.alloc (.cells #[.int .u8 e.key.x0, .int .u8 e.key.x1, .int .u8 e.key.x2, .int .u8 e.key.x3, .int .u8 e.key.x4, .int .u8 e.key.x5, .int .u8 e.key.x6, .int .u8 e.key.x7, .int .u8 e.msg.x0, .int .u8 e.msg.x1, .int .u8 e.msg.x2, .int .u8 e.msg.x3, .int .u8 e.msg.x4, .int .u8 e.msg.x5, .int .u8 e.msg.x6, .int .u8 e.msg.x7] 243)) (w2.heap.size + 1) 16 (some ⟨w2.heap.size, 0, none⟩) 1 (flatE [e])) := by
   show Rd _ _ _ _ _ _
   have := Rd.newA (n := 1) (sz := 16) (xs := flatE [e]) w2.drew 243 #[.int .u8 e.key.x0, .int .u8 e.key.x1, .int .u8 e.key.x2, .int .u8 e.key.x3, .int .u8 e.key.x4, .int .u8 e.key.x5, .int .u8 e.key.x6, .int .u8 e.key.x7, .int .u8 e.msg.x0, .int .u8 e.msg.x1, .int .u8 e.msg.x2, .int .u8 e.msg.x3, .int .u8 e.msg.x4, .int .u8 e.msg.x5, .int .u8 e.msg.x6, .int .u8 e.msg.x7] rfl rfl
   simp at this
   exact this
  have HB3 : Hid ((w2.drew.alloc (.cells #[.int .u8 e.key.x0, .int .u8 e.key.x1, .int .u8 e.key.x2, .int .u8 e.key.x3, .int .u8 e.key.x4, .int .u8 e.key.x5, .int .u8 e.key.x6, .int .u8 e.key.x7, .int .u8 e.msg.x0, .int .u8 e.msg.x1, .int .u8 e.msg.x2, .int .u8 e.msg.x3, .int .u8 e.msg.x4, .int .u8 e.msg.x5, .int .u8 e.msg.x6, .int .u8 e.msg.x7] 243)).heap[bk]? = some (.cells #[.slice A n c, .map (some mb)] 181 (0, 0))) := Lib.hid (block_alloc (w := w2.drew) HB2.out _)
  have HX3 : Hid ((w2.drew.alloc (.cells #[.int .u8 e.key.x0, .int .u8 e.key.x1, .int .u8 e.key.x2, .int .u8 e.key.x3, .int .u8 e.key.x4, .int .u8 e.key.x5, .int .u8 e.key.x6, .int .u8 e.key.x7, .int .u8 e.msg.x0, .int .u8 e.msg.x1, .int .u8 e.msg.x2, .int .u8 e.msg.x3, .int .u8 e.msg.x4, .int .u8 e.msg.x5, .int .u8 e.msg.x6, .int .u8 e.msg.x7] 243)).heap[w.heap.size]? = some (.cells #[.int .u8 e.key.x0, .int .u8 e.key.x1, .int .u8 e.key.x2, .int .u8 e.key.x3, .int .u8 e.key.x4, .int .u8 e.key.x5, .int .u8 e.key.x6, .int .u8 e.key.x7, .int .u8 e.msg.x0, .int .u8 e.msg.x1, .int .u8 e.msg.x2, .int .u8 e.msg.x3, .int .u8 e.msg.x4, .int .u8 e.msg.x5, .int .u8 e.msg.x6, .int .u8 e.msg.x7] 243 (0, 0))) := Lib.hid (block_alloc (w := w2.drew) HX2.out _)
  have HP3 : Hid (PlacesAt (w2.drew.alloc (.cells #[.int .u8 e.key.x0, .int .u8 e.key.x1, .int .u8 e.key.x2, .int .u8 e.key.x3, .int .u8 e.key.x4, .int .u8 e.key.x5, .int .u8 e.key.x6, .int .u8 e.key.x7, .int .u8 e.msg.x0, .int .u8 e.msg.x1, .int .u8 e.msg.x2, .int .u8 e.msg.x3, .int .u8 e.msg.x4, .int .u8 e.msg.x5, .int .u8 e.msg.x6, .int .u8 e.msg.x7] 243)) mb L) := Lib.hid (HP2.out.same (Below.heap_alloc w2.drew _ _ HP2.out.lt))
  have HK3 : Hid (Below w.heap.size w (w2.drew.alloc (.cells #[.int .u8 e.key.x0, .int .u8 e.key.x1, .int .u8 e.key.x2, .int .u8 e.key.x3, .int .u8 e.key.x4, .int .u8 e.key.x5, .int .u8 e.key.x6, .int .u8 e.key.x7, .int .u8 e.msg.x0, .int .u8 e.msg.x1, .int .u8 e.msg.x2, .int .u8 e.msg.x3, .int .u8 e.msg.x4, .int .u8 e.msg.x5, .int .u8 e.msg.x6, .int .u8 e.msg.x7] 243))) := Lib.hid (HK2.out.drew.alloc (by exact Nat.le_of_lt hs2) _)
  have HNe : Hid (∀ g, (Value.slice A n c).ownBlock = some g → g < w.heap.size) := Lib.hid fun g hg => (Hown.out.lt g hg).2
  go_region_law (refine step_append_rdg (w2.drew.alloc (.cells #[.int .u8 e.key.x0, .int .u8 e.key.x1, .int .u8 e.key.x2, .int .u8 e.key.x3, .int .u8 e.key.x4, .int .u8 e.key.x5, .int .u8 e.key.x6, .int .u8 e.key.x7, .int .u8 e.msg.x0, .int .u8 e.msg.x1, .int .u8 e.msg.x2, .int .u8 e.msg.x3, .int .u8 e.msg.x4, .int .u8 e.msg.x5, .int .u8 e.msg.x6, .int .u8 e.msg.x7] 243)) (by rfl) _ _ 179 (by rfl) B 243 i0 (.agg #[.int .u8 0, .int .u8 0, .int .u8 0, .int .u8 0, .int .u8 0, .int .u8 0, .int .u8 0, .int .u8 0, .int .u8 0, .int .u8 0, .int .u8 0, .int .u8 0, .int .u8 0, .int .u8 0, .int .u8 0, .int .u8 0]) 16 16 Tryz.underlying179 HI.out rfl (by decide) _ _ _ (by rfl) HO3.out (w2.heap.size + 1) (some ⟨w2.heap.size, 0, none⟩) 1 1 _ (by simp [Act.eval]) HRl.out (by simp [flatE, En.cells, Value.oneCell']) (by have := Hlen.out; have := Hln.out; omega) (by have := Hlen.out; have := Hln.out; omega) (by simp; omega) ?_; go_must (intro v4 w4 ho4 hb4 hg4; obtain ⟨A4, c4, rfl⟩ := own_form ho4; have HB4 := Lib.hid (block_below HB3.out hb4 H.out.lb); have q40 := block_cell HB4.out 0; have q4f := block_free HB4.out; simp at q40; have HO4 := Lib.hid ho4; have Hb4 := Lib.hid hb4; have HP4 := Lib.hid (HP3.out.same (hb4.block _ H.out.lm)); have HG4 := Lib.hid hg4; have HX4 := Lib.hid (block_grown HX3.out hg4 (fun e => by have := HNe.out _ e.symm; omega)); clear ho4 hb4 hg4))
  all_goals
   go_wp2
   have hbm : mb ≠ bk := by
    intro e2
    obtain ⟨es, clock, h1, _⟩ := HP4.out
    rw [e2, HB4.out] at h1
    simp at h1
   have hg5 := grown_setN (w := w4) bk 0 (.slice A4 (n + 1) c4)
   have HB5 : Hid ((w4.setCell ⟨bk, 0, none⟩ (.slice A4 (n + 1) c4)).heap[bk]? = some (.cells #[.slice A4 (n + 1) c4, .map (some mb)] 181 (0, 0))) := by
    show _ = _
    have := Joins.block_setCell (i := 0) HB4.out (.slice A4 (n + 1) c4)
    simpa using this
   have HO5 := Lib.hid (World.ownsRow.kept HO4.out hg5 (.inr (fun e2 => own_ne HO4.out HB4.out (by decide) e2.symm)))
   have HP5 := Lib.hid (HP4.out.same (hg5.block mb HP4.out.lt (by intro e2; injection e2 with e2; exact hbm e2)))
   have HX5 := Lib.hid (block_grown HX4.out hg5 (by intro e2; injection e2 with e2; omega))
   have Hg5 := Lib.hid hg5
   clear hg5 q40 q4f q0 q1 qf x0 x1 x2 x3 x4 x5 x6 x7 x8 x9 x10 x11 x12 x13 x14 x15
   generalize w4.setCell ⟨bk, 0, none⟩ (.slice A4 (n + 1) c4) = w5 at *
   obtain ⟨w6, hrun, hp6, hg6⟩ := put_places (w := w5.drew) (b := mb) (L := L) (HP5.out.same rfl) H.out.ok e He.out Hp.out
   rw [Hln.out] at hrun
   simp only [En.V] at hrun
   have HP6 := Lib.hid hp6; have Hg6 := Lib.hid hg6
   clear hp6 hg6
   have q1 := block_cell HB5.out 1
   simp at q1
   refine wp_region_tail 6 (by kernel_rfl) (by kernel_rfl) ?_
   simp only [List.take_succ_cons, List.take_zero, List.drop_succ_cons, List.drop_zero]
   iterate 4 still_step
   refine still_load (by rfl) _ _ (by rfl) _ _ (by rfl) (load_en w5.drew w.heap.size e HX5.out) ?_
   still_step
   refine wpStill_nil ?_
   refine wpList_put w5.drew w6 (by rfl) _ _ _ 178 (by rfl) _ _ _ (by rfl) (by rfl) (by rfl) hrun ?_
   go_wp2
   go_ret2
   have hs : signE L e = (L ++ [e], L.length) := by unfold signE; rw [Hp.out]
   have hs4 := Hb4.out.size
   have hs5 := Hg5.out.size
   have hs6 : w5.heap.size ≤ w6.heap.size := Hg6.out.size
   have hs3 := HK3.out.size
   have hg := heap_alloc_new w6 (.cells #[.int .u8 ((n : Int) % 256), .int .u8 ((n : Int) / 256 % 256)] 5)
   refine ⟨w6.heap.size, rfl, by omega, ?_, ?_, kept_sign HK3.out HO3.out Hb4.out HG4.out Hg5.out Hg6.out H.out.places hB H.out.lb H.out.lm _⟩
   ·rw [hs]
    unfold SigAt
    simp only
    rw [Int.natCast_emod, Int.natCast_emod, Int.natCast_ediv, Hln.out]
    exact hg
   ·rw [hs]
    have hbl := block_lt HB5.out
    refine ⟨⟨A4, n + 1, c4, block_alloc (block_grown (w := w5.drew) HB5.out Hg6.out (by intro e2; injection e2 with e2; exact hbm e2.symm)) _, ?_⟩, HP6.out.same (Below.heap_alloc _ _ _ HP6.out.lt), H.out.lb, H.out.lm, by rw [World.size_alloc]; omega, ?_, ?_⟩
    ·rw [flatE_append]
     obtain ⟨es5, cl5, hm5, _⟩ := HP5.out
     exact (World.ownsRow.kept (w := w5.drew) (own_below HO5.out (Below.refl _ _).drew) Hg6.out (.inr (fun e2 => own_ne_map HO5.out hm5 e2.symm))).alloc _
    ·have := signE_nodup (e := e) H.out.nodup
     rw [hs] at this
     exact this
    ·have := signE_ok H.out.ok He.out
     rw [hs] at this
     exact this
set_option maxRecDepth 100000 in
set_option maxHeartbeats 2000000 in
theorem sign_any (B bk mb : Nat) (L : List En) (e : En) (w : World) (h : BookAt w B bk mb L) (he : e.ok) (hlen : L.length < 60000) :
  Calls Tryz.prog 202 #[.pointer (some ⟨bk, 0, none⟩), .agg #[.int .u8 e.key.x0, .int .u8 e.key.x1, .int .u8 e.key.x2, .int .u8 e.key.x3, .int .u8 e.key.x4, .int .u8 e.key.x5, .int .u8 e.key.x6, .int .u8 e.key.x7, .int .u8 e.msg.x0, .int .u8 e.msg.x1, .int .u8 e.msg.x2, .int .u8 e.msg.x3, .int .u8 e.msg.x4, .int .u8 e.msg.x5, .int .u8 e.msg.x6, .int .u8 e.msg.x7]] w fun r w' => ∃ g, r = .returned (.tuple #[.slice (some ⟨g, 0, none⟩) 2 2, .int .i64 0]) ∧ w.heap.size ≤ g ∧ SigAt w' g (signE L e).2 ∧ BookAt w' B bk mb (signE L e).1 ∧ Kept w w' bk mb := by
 cases hp : posE L e with
 | some i => exact sign_some B bk mb L e w h he i hp hlen
 | none => exact sign_none B bk mb L e w h he hp hlen
end Go.Proofs.YthhiookcknnmdaaGreat
namespace Go.Proofs.YthhiookcknnmdaaGreat
open Go.RowKit Go.Lib

theorem Kept.trans {w w' w'' : World} {bk mb : Nat} (h : Kept w w' bk mb) (h2 : Kept w' w'' bk mb) : Kept w w'' bk mb :=
 ⟨h2.os.trans h.os, h2.tape.trans h.tape, h2.output.trans h.output, Nat.le_trans h.size h2.size, fun k a b => (h2.low k a b).trans (h.low k a b), fun k cs t fz a b c => h2.typed k cs t fz (h.typed k cs t fz a b c) b c, fun k es cl a b c => h2.maps k es cl (h.maps k es cl a b c) b c⟩
theorem Kept.own {w w' : World} {bk mb base sz n : Nat} {e : TypeId} {v : Value} {xs : List Value} (h : Kept w w' bk mb) (ho : w.ownsRow base e sz v n xs) (he : e ≠ 243) (hb : ∀ cs, w.heap[bk]? ≠ some (.cells cs e (0, 0))) : w'.ownsRow base e sz v n xs := by
 refine ⟨ho.1, ?_⟩
 rcases ho.2 with h1 | ⟨g, cap, cur, rfl, h1, h2, h3⟩
 ·exact .inl h1
 ·exact .inr ⟨g, cap, cur, rfl, h1, h.typed g cur e (0, 0) h2 he (by rintro rfl; exact hb _ h2), h3⟩
set_option maxRecDepth 100000 in
set_option maxHeartbeats 2000000 in
theorem wsign_any (B bk mb : Nat) (L : List En) (k m : D8) (w : World) (h : BookAt w B bk mb L) (hk : k.ok) (hm : m.ok) (hlen : L.length < 60000) :
  Calls Tryz.prog 201 #[.agg #[.pointer (some ⟨bk, 0, none⟩), .int .u8 k.x0, .int .u8 k.x1, .int .u8 k.x2, .int .u8 k.x3, .int .u8 k.x4, .int .u8 k.x5, .int .u8 k.x6, .int .u8 k.x7], .agg #[.int .u8 m.x0, .int .u8 m.x1, .int .u8 m.x2, .int .u8 m.x3, .int .u8 m.x4, .int .u8 m.x5, .int .u8 m.x6, .int .u8 m.x7]] w fun r w' => ∃ g, r = .returned (.tuple #[.slice (some ⟨g, 0, none⟩) 2 2, .int .i64 0]) ∧ w.heap.size ≤ g ∧ SigAt w' g (signE L ⟨k, m⟩).2 ∧ BookAt w' B bk mb (signE L ⟨k, m⟩).1 ∧ Kept w w' bk mb := by
 have hlt : bk < w.heap.size := Nat.lt_of_lt_of_le h.lb h.hB
 have hlm := h.places.lt
 have H := Lib.hid h
 clear h
 have hb2 : Below w.heap.size w ((w.alloc (.cells #[.pointer (some ⟨bk, 0, none⟩), .int .u8 k.x0, .int .u8 k.x1, .int .u8 k.x2, .int .u8 k.x3, .int .u8 k.x4, .int .u8 k.x5, .int .u8 k.x6, .int .u8 k.x7] 186)).alloc (.cells #[.int .u8 m.x0, .int .u8 m.x1, .int .u8 m.x2, .int .u8 m.x3, .int .u8 m.x4, .int .u8 m.x5, .int .u8 m.x6, .int .u8 m.x7] 27)) := ((Below.refl _ _).alloc (Nat.le_refl _) _).alloc (by simp) _
 have HS := sign_any B bk mb L ⟨k, m⟩ ((w.alloc (.cells #[.pointer (some ⟨bk, 0, none⟩), .int .u8 k.x0, .int .u8 k.x1, .int .u8 k.x2, .int .u8 k.x3, .int .u8 k.x4, .int .u8 k.x5, .int .u8 k.x6, .int .u8 k.x7] 186)).alloc (.cells #[.int .u8 m.x0, .int .u8 m.x1, .int .u8 m.x2, .int .u8 m.x3, .int .u8 m.x4, .int .u8 m.x5, .int .u8 m.x6, .int .u8 m.x7] 27)) (H.out.below hb2) ⟨hk, hm⟩ hlen
 have Hb2 := Lib.hid hb2
 clear hb2
 go_enter Tryz.func201, Tryz.ntmps201
 go_wp2_with fail
 refine HS.mono ?_
 rintro r w' ⟨g, rfl, h1, h2, h3, h4⟩
 have H1 := Lib.hid h1; have H2 := Lib.hid h2; have H3 := Lib.hid h3; have H4 := Lib.hid h4
 clear h1 h2 h3 h4
 go_wp2
 go_ret2
 exact ⟨g, rfl, Nat.le_trans Hb2.out.size H1.out, H2.out, H3.out, (Kept.of_below Hb2.out hlt hlm).trans H4.out⟩
end Go.Proofs.YthhiookcknnmdaaGreat
namespace Go.Proofs.YthhiookcknnmdaaGreat
open Go.RowKit Go.Lib

theorem nil_sign (b : Nat) (k : D8) (w : World) : (nilAhead (Tryz.prog.types.size + Made.depth) 186 (.agg #[.pointer (some ⟨b, 0, none⟩), .int .u8 k.x0, .int .u8 k.x1, .int .u8 k.x2, .int .u8 k.x3, .int .u8 k.x4, .int .u8 k.x5, .int .u8 k.x6, .int .u8 k.x7]) "Sign").run Tryz.prog w = .ok (some false) w := by kernel_rfl
theorem meth_sign (b : Nat) (k : D8) (w : World) : (method (Tryz.prog.types.size + Made.depth) 186 (.agg #[.pointer (some ⟨b, 0, none⟩), .int .u8 k.x0, .int .u8 k.x1, .int .u8 k.x2, .int .u8 k.x3, .int .u8 k.x4, .int .u8 k.x5, .int .u8 k.x6, .int .u8 k.x7]) "Sign").run Tryz.prog w = .ok (201, .agg #[.pointer (some ⟨b, 0, none⟩), .int .u8 k.x0, .int .u8 k.x1, .int .u8 k.x2, .int .u8 k.x3, .int .u8 k.x4, .int .u8 k.x5, .int .u8 k.x6, .int .u8 k.x7]) w := by kernel_rfl
theorem meth_key (b : Nat) (k : D8) (w : World) : (method (Tryz.prog.types.size + Made.depth) 186 (.agg #[.pointer (some ⟨b, 0, none⟩), .int .u8 k.x0, .int .u8 k.x1, .int .u8 k.x2, .int .u8 k.x3, .int .u8 k.x4, .int .u8 k.x5, .int .u8 k.x6, .int .u8 k.x7]) "Key").run Tryz.prog w = .ok (200, .agg #[.pointer (some ⟨b, 0, none⟩), .int .u8 k.x0, .int .u8 k.x1, .int .u8 k.x2, .int .u8 k.x3, .int .u8 k.x4, .int .u8 k.x5, .int .u8 k.x6, .int .u8 k.x7]) w := by kernel_rfl
end Go.Proofs.YthhiookcknnmdaaGreat
