/- Open: what its questions answer, one behind the other. Conditions: the way, the book and the outcome lie in memory; room in the book. The walk of Open. Conditions: the way, the book and the outcome lie in memory; room in the book. The walk of Worth. Conditions: the way lies in memory; its purses may be. The law's own world in memory; its keys, its table, its last party. Conditions: bounds. -/
import Derived.Test.YthhiookcknnmdaaGreatJoinUag
import Derived.Test.YthhiookcknnmdaaGreatJoinC
namespace Go.Proofs.YthhiookcknnmdaaGreat
open Go.RowKit Go.Lib
theorem ent_rdy : Ent 23 := fun _ _ => by kernel_rfl
theorem LkIn.below {l : Lk} {c : Nat} {w w' : World} (h : LkIn l c w) (hb : Below w.heap.size w w') : LkIn l c w' := by
 obtain ⟨A, n, h1, h2⟩ := h
 exact ⟨A, n, (h1.below hb (Nat.le_refl _)).more hb.size, block_below h2 hb (block_lt h2)⟩
theorem LkIn.grown {l : Lk} {c d : Nat} {w w' : World} (h : LkIn l c w) (hg : w.grownBy w' (some d)) (hne : c ≠ d) {cs : Array Value} {T : TypeId} {fz : Nat × Nat} (hd : w.heap[d]? = some (.cells cs T fz)) (hs : cs.size < 16) : LkIn l c w' := by
 obtain ⟨A, n, h1, h2⟩ := h
 exact ⟨A, n, (rd_grownB h1 hg (Nat.le_refl _) (h1.big (Nat.le_refl _) hd hs)).more hg.size, block_grown h2 hg (by simpa using hne)⟩
def Wy.opn (y : Wy) (L : List En) (hop wh now : Int) (o : Ou) : Int × Int := (y.pl.lock hop.toNat wh).open_ L now o
def Wy.fre (y : Wy) (L : List En) (hop wh now : Int) (o : Ou) : Int × Pu := (y.pu.getD hop.toNat default).free (y.pl.lock hop.toNat wh).name (y.opn L hop wh now o).1
def Wy.bck (y : Wy) (hop wh now : Int) : Int × Pu := (y.pu.getD hop.toNat default).back (y.pl.lock hop.toNat wh).name now
def Wy.openL (y : Wy) (L : List En) (hop wh now : Int) (o : Ou) : List Int :=
 [if y.isSpot hop wh = true then 0 else 9, if far now = true then 0 else 2, if decide (y.atI hop wh = 1) = true then 0 else 10, if y.ready = true then 0 else 20, 0, (y.opn L hop wh now o).2, (y.fre L hop wh now o).1]
def Wy.backL (y : Wy) (hop wh now : Int) : List Int :=
 [if y.isSpot hop wh = true then 0 else 9, if far now = true then 0 else 2, if decide (y.atI hop wh = 1) = true then 0 else 10, 0, (y.bck hop wh now).1]
theorem Wy.openI_first (y : Wy) (L : List En) (hop wh now : Int) (o : Ou) : (y.openI L hop wh now o).1 = firstE (y.openL L hop wh now o) := by
 unfold Wy.openL
 rw [firstE_if (by decide), firstE_if (by decide), firstE_if (by decide), firstE_if (by decide)]
 unfold Wy.openI
 have e1 : (y.pl.lock hop.toNat wh).open_ L now o = y.opn L hop wh now o := rfl
 have e2 : (y.pu.getD hop.toNat default).free (y.pl.lock hop.toNat wh).name (y.opn L hop wh now o).1 = y.fre L hop wh now o := rfl
 rw [e1, e2]
 generalize y.opn L hop wh now o = h0
 generalize y.fre L hop wh now o = h1
 simp only [decide_eq_true_eq, firstE]
 cases y.isSpot hop wh <;> cases far now <;> cases y.ready <;> simp only [if_true, if_false, Bool.false_eq_true] <;> (repeat' split) <;> simp_all
theorem Wy.openI_yes {y : Wy} {L : List En} {hop wh now : Int} {o : Ou} (h : (y.openI L hop wh now o).1 = 0) : y.openI L hop wh now o = y.fre L hop wh now o := by
 revert h
 unfold Wy.openI
 have e1 : (y.pl.lock hop.toNat wh).open_ L now o = y.opn L hop wh now o := rfl
 have e2 : (y.pu.getD hop.toNat default).free (y.pl.lock hop.toNat wh).name (y.opn L hop wh now o).1 = y.fre L hop wh now o := rfl
 rw [e1, e2]
 generalize y.opn L hop wh now o = h0
 generalize y.fre L hop wh now o = h1
 (repeat' split) <;> simp_all
theorem Wy.backI_first (y : Wy) (hop wh now : Int) : (y.backI hop wh now).1 = firstE (y.backL hop wh now) := by
 unfold Wy.backL
 rw [firstE_if (by decide), firstE_if (by decide), firstE_if (by decide)]
 unfold Wy.backI
 have e2 : (y.pu.getD hop.toNat default).back (y.pl.lock hop.toNat wh).name now = y.bck hop wh now := rfl
 rw [e2]
 generalize y.bck hop wh now = h1
 simp only [decide_eq_true_eq, firstE]
 cases y.isSpot hop wh <;> cases far now <;> simp only [if_true, if_false, Bool.false_eq_true] <;> (repeat' split) <;> simp_all
theorem Wy.backI_yes {y : Wy} {hop wh now : Int} (h : (y.backI hop wh now).1 = 0) : y.backI hop wh now = y.bck hop wh now := by
 revert h
 unfold Wy.backI
 have e2 : (y.pu.getD hop.toNat default).back (y.pl.lock hop.toNat wh).name now = y.bck hop wh now := rfl
 rw [e2]
 generalize y.bck hop wh now = h1
 (repeat' split) <;> simp_all
def openObjs (w : World) (wb : Nat) (hop wh now : Int) (V0 V1 : Value) : List Obj :=
 [.cells #[.pointer (some ⟨wb, 0, none⟩)] 50, .cells #[.int .i64 hop] 3, .cells #[.int .i64 wh] 3, .cells #[.int .i64 now] 3, .cells #[V0, V1] 59, .cells #[.int .i64 0, .int .u8 0, .int .u8 0, .int .u8 0, .int .u8 0, .int .u8 0, .int .u8 0, .int .u8 0, .int .u8 0, .slice none 0 0, .int .i64 0, .int .i64 0, .int .i64 0] 40, .cells #[.int .u8 0, .int .u8 0, .int .u8 0, .int .u8 0, .int .u8 0, .int .u8 0, .int .u8 0, .int .u8 0, .int .i64 0, .int .i64 0, .int .i64 0, .slice none 0 0] 85, .cells #[.int .i64 0] 3,
  .cells #[.func (.func 76) #[] #[.pointer (some ⟨w.heap.size + 0, 0, none⟩), .pointer (some ⟨w.heap.size + 1, 0, none⟩), .pointer (some ⟨w.heap.size + 2, 0, none⟩)]] 37, .cells #[.int .i64 9] 33, .cells #[.func (.func 78) #[] #[.pointer (some ⟨w.heap.size + 3, 0, none⟩)]] 37, .cells #[.int .i64 2] 33,
  .cells #[.func (.func 79) #[] #[.pointer (some ⟨w.heap.size + 0, 0, none⟩), .pointer (some ⟨w.heap.size + 1, 0, none⟩), .pointer (some ⟨w.heap.size + 2, 0, none⟩)]] 37, .cells #[.int .i64 10] 33, .cells #[.func (.func 23) #[.pointer (some ⟨wb, 0, none⟩)] #[]] 37, .cells #[.int .i64 20] 33,
  .cells #[.func (.func 131) #[] #[.pointer (some ⟨w.heap.size + 8, 0, none⟩), .pointer (some ⟨w.heap.size + 8 + 1, 0, none⟩)], .func (.func 131) #[] #[.pointer (some ⟨w.heap.size + 10, 0, none⟩), .pointer (some ⟨w.heap.size + 10 + 1, 0, none⟩)], .func (.func 131) #[] #[.pointer (some ⟨w.heap.size + 12, 0, none⟩), .pointer (some ⟨w.heap.size + 12 + 1, 0, none⟩)], .func (.func 131) #[] #[.pointer (some ⟨w.heap.size + 14, 0, none⟩), .pointer (some ⟨w.heap.size + 14 + 1, 0, none⟩)], .func (.func 80) #[] #[.pointer (some ⟨w.heap.size + 0, 0, none⟩), .pointer (some ⟨w.heap.size + 1, 0, none⟩), .pointer (some ⟨w.heap.size + 2, 0, none⟩), .pointer (some ⟨w.heap.size + 5, 0, none⟩)], .func (.func 81) #[] #[.pointer (some ⟨w.heap.size + 5, 0, none⟩), .pointer (some ⟨w.heap.size + 0, 0, none⟩), .pointer (some ⟨w.heap.size + 3, 0, none⟩), .pointer (some ⟨w.heap.size + 4, 0, none⟩), .pointer (some ⟨w.heap.size + 7, 0, none⟩)], .func (.func 83) #[] #[.pointer (some ⟨w.heap.size + 0, 0, none⟩), .pointer (some ⟨w.heap.size + 1, 0, none⟩), .pointer (some ⟨w.heap.size + 5, 0, none⟩), .pointer (some ⟨w.heap.size + 7, 0, none⟩), .pointer (some ⟨w.heap.size + 6, 0, none⟩)]] 43]
def openFs (w : World) : Nat → FuncId × Array Value
 | 0 => (131, #[.pointer (some ⟨w.heap.size + 8, 0, none⟩), .pointer (some ⟨w.heap.size + 8 + 1, 0, none⟩)])
 | 1 => (131, #[.pointer (some ⟨w.heap.size + 10, 0, none⟩), .pointer (some ⟨w.heap.size + 10 + 1, 0, none⟩)])
 | 2 => (131, #[.pointer (some ⟨w.heap.size + 12, 0, none⟩), .pointer (some ⟨w.heap.size + 12 + 1, 0, none⟩)])
 | 3 => (131, #[.pointer (some ⟨w.heap.size + 14, 0, none⟩), .pointer (some ⟨w.heap.size + 14 + 1, 0, none⟩)])
 | 4 => (80, #[.pointer (some ⟨w.heap.size + 0, 0, none⟩), .pointer (some ⟨w.heap.size + 1, 0, none⟩), .pointer (some ⟨w.heap.size + 2, 0, none⟩), .pointer (some ⟨w.heap.size + 5, 0, none⟩)])
 | 5 => (81, #[.pointer (some ⟨w.heap.size + 5, 0, none⟩), .pointer (some ⟨w.heap.size + 0, 0, none⟩), .pointer (some ⟨w.heap.size + 3, 0, none⟩), .pointer (some ⟨w.heap.size + 4, 0, none⟩), .pointer (some ⟨w.heap.size + 7, 0, none⟩)])
 | _ => (83, #[.pointer (some ⟨w.heap.size + 0, 0, none⟩), .pointer (some ⟨w.heap.size + 1, 0, none⟩), .pointer (some ⟨w.heap.size + 5, 0, none⟩), .pointer (some ⟨w.heap.size + 7, 0, none⟩), .pointer (some ⟨w.heap.size + 6, 0, none⟩)])
def backObjs (w : World) (wb : Nat) (hop wh now : Int) : List Obj :=
 [.cells #[.pointer (some ⟨wb, 0, none⟩)] 50, .cells #[.int .i64 hop] 3, .cells #[.int .i64 wh] 3, .cells #[.int .i64 now] 3, .cells #[.int .i64 0, .int .u8 0, .int .u8 0, .int .u8 0, .int .u8 0, .int .u8 0, .int .u8 0, .int .u8 0, .int .u8 0, .slice none 0 0, .int .i64 0, .int .i64 0, .int .i64 0] 40, .cells #[.int .u8 0, .int .u8 0, .int .u8 0, .int .u8 0, .int .u8 0, .int .u8 0, .int .u8 0, .int .u8 0, .int .i64 0, .int .i64 0, .int .i64 0, .slice none 0 0] 85,
  .cells #[.func (.func 98) #[] #[.pointer (some ⟨w.heap.size + 0, 0, none⟩), .pointer (some ⟨w.heap.size + 1, 0, none⟩), .pointer (some ⟨w.heap.size + 2, 0, none⟩)]] 37, .cells #[.int .i64 9] 33, .cells #[.func (.func 99) #[] #[.pointer (some ⟨w.heap.size + 3, 0, none⟩)]] 37, .cells #[.int .i64 2] 33,
  .cells #[.func (.func 100) #[] #[.pointer (some ⟨w.heap.size + 0, 0, none⟩), .pointer (some ⟨w.heap.size + 1, 0, none⟩), .pointer (some ⟨w.heap.size + 2, 0, none⟩)]] 37, .cells #[.int .i64 10] 33,
  .cells #[.func (.func 131) #[] #[.pointer (some ⟨w.heap.size + 6, 0, none⟩), .pointer (some ⟨w.heap.size + 6 + 1, 0, none⟩)], .func (.func 131) #[] #[.pointer (some ⟨w.heap.size + 8, 0, none⟩), .pointer (some ⟨w.heap.size + 8 + 1, 0, none⟩)], .func (.func 131) #[] #[.pointer (some ⟨w.heap.size + 10, 0, none⟩), .pointer (some ⟨w.heap.size + 10 + 1, 0, none⟩)], .func (.func 101) #[] #[.pointer (some ⟨w.heap.size + 0, 0, none⟩), .pointer (some ⟨w.heap.size + 1, 0, none⟩), .pointer (some ⟨w.heap.size + 2, 0, none⟩), .pointer (some ⟨w.heap.size + 4, 0, none⟩)], .func (.func 102) #[] #[.pointer (some ⟨w.heap.size + 0, 0, none⟩), .pointer (some ⟨w.heap.size + 1, 0, none⟩), .pointer (some ⟨w.heap.size + 4, 0, none⟩), .pointer (some ⟨w.heap.size + 3, 0, none⟩), .pointer (some ⟨w.heap.size + 5, 0, none⟩)]] 43]
def backFs (w : World) : Nat → FuncId × Array Value
 | 0 => (131, #[.pointer (some ⟨w.heap.size + 6, 0, none⟩), .pointer (some ⟨w.heap.size + 6 + 1, 0, none⟩)])
 | 1 => (131, #[.pointer (some ⟨w.heap.size + 8, 0, none⟩), .pointer (some ⟨w.heap.size + 8 + 1, 0, none⟩)])
 | 2 => (131, #[.pointer (some ⟨w.heap.size + 10, 0, none⟩), .pointer (some ⟨w.heap.size + 10 + 1, 0, none⟩)])
 | 3 => (101, #[.pointer (some ⟨w.heap.size + 0, 0, none⟩), .pointer (some ⟨w.heap.size + 1, 0, none⟩), .pointer (some ⟨w.heap.size + 2, 0, none⟩), .pointer (some ⟨w.heap.size + 4, 0, none⟩)])
 | _ => (102, #[.pointer (some ⟨w.heap.size + 0, 0, none⟩), .pointer (some ⟨w.heap.size + 1, 0, none⟩), .pointer (some ⟨w.heap.size + 4, 0, none⟩), .pointer (some ⟨w.heap.size + 3, 0, none⟩), .pointer (some ⟨w.heap.size + 5, 0, none⟩)])
structure OpenI (w : World) (wb : Nat) (y : Wy) (L : List En) (hop wh now : Int) (o : Ou) (V0 V1 : Value) (k : Nat) (w' : World) : Prop where
 c : ClS w (fun j => j = 5 ∨ j = 6 ∨ j = 7) (openObjs w wb hop wh now V0 V1) w'
 l0 : k ≤ 4 → w'.heap[w.heap.size + 5]? = some (.cells #[.int .i64 0, .int .u8 0, .int .u8 0, .int .u8 0, .int .u8 0, .int .u8 0, .int .u8 0, .int .u8 0, .int .u8 0, .slice none 0 0, .int .i64 0, .int .i64 0, .int .i64 0] 40 (0, 0))
 l1 : 4 < k → LkIn (y.pl.lock hop.toNat wh) (w.heap.size + 5) w'
 o0 : k ≤ 5 → w'.heap[w.heap.size + 7]? = some (.cells #[.int .i64 0] 3 (0, 0))
 o1 : 5 < k → w'.heap[w.heap.size + 7]? = some (.cells #[.int .i64 (y.opn L hop wh now o).1] 3 (0, 0))
 z : k ≤ 6 → w'.heap[w.heap.size + 6]? = some (.cells #[.int .u8 0, .int .u8 0, .int .u8 0, .int .u8 0, .int .u8 0, .int .u8 0, .int .u8 0, .int .u8 0, .int .i64 0, .int .i64 0, .int .i64 0, .slice none 0 0] 85 (0, 0))
 x : 6 < k → ∃ x : PuA, x.p = (y.fre L hop wh now o).2 ∧ x.Own w.heap.size w' ∧ w'.heap[w.heap.size + 6]? = some (.cells x.cells.toArray 85 (0, 0))
structure BackI (w : World) (wb : Nat) (y : Wy) (hop wh now : Int) (k : Nat) (w' : World) : Prop where
 c : ClS w (fun j => j = 4 ∨ j = 5) (backObjs w wb hop wh now) w'
 l0 : k ≤ 3 → w'.heap[w.heap.size + 4]? = some (.cells #[.int .i64 0, .int .u8 0, .int .u8 0, .int .u8 0, .int .u8 0, .int .u8 0, .int .u8 0, .int .u8 0, .int .u8 0, .slice none 0 0, .int .i64 0, .int .i64 0, .int .i64 0] 40 (0, 0))
 l1 : 3 < k → LkIn (y.pl.lock hop.toNat wh) (w.heap.size + 4) w'
 z : k ≤ 4 → w'.heap[w.heap.size + 5]? = some (.cells #[.int .u8 0, .int .u8 0, .int .u8 0, .int .u8 0, .int .u8 0, .int .u8 0, .int .u8 0, .int .u8 0, .int .i64 0, .int .i64 0, .int .i64 0, .slice none 0 0] 85 (0, 0))
 x : 4 < k → ∃ x : PuA, x.p = (y.bck hop wh now).2 ∧ x.Own w.heap.size w' ∧ w'.heap[w.heap.size + 5]? = some (.cells x.cells.toArray 85 (0, 0))
section
variable {w : World} {B wb bk : Nat} {y : Wy} {a : WyA}
theorem spot_in {hop wh : Int} (hok : y.Ok) (h : y.isSpot hop wh = true) : ∃ k : Nat, hop = k ∧ k + 1 < y.pl.ks.length ∧ k < y.pu.length ∧ (wh = 0 ∨ wh = 1) := by
 simp only [Wy.isSpot, Bool.and_eq_true, decide_eq_true_eq] at h
 obtain ⟨k, h1, h2, h3⟩ := hop_in hok h.1.1
 exact ⟨k, h1, h2, h3, by omega⟩
theorem OpenI.low {L : List En} {hop wh now : Int} {o : Ou} {V0 V1 : Value} {k : Nat} {w1 w2 : World} (h : OpenI w wb y L hop wh now o V0 V1 k w1) (hk : k < 4) (hb : Below w1.heap.size w1 w2) : OpenI w wb y L hop wh now o V0 V1 (k + 1) w2 :=
 ⟨h.c.below hb, fun _ => block_below (h.l0 (by omega)) hb (block_lt (h.l0 (by omega))), fun h => absurd h (by omega), fun _ => block_below (h.o0 (by omega)) hb (block_lt (h.o0 (by omega))), fun h => absurd h (by omega), fun _ => block_below (h.z (by omega)) hb (block_lt (h.z (by omega))), fun h => absurd h (by omega)⟩
theorem open_calls {Bb mb : Nat} {L : List En} (h : WyAt w B wb bk y a) (hok : y.Ok) (hbk : BookAt w Bb bk mb L) (hlen : L.length < 60000) (hop wh now : Int) (o : Ou) (Ap : Option Addr) (np cp : Nat) (As : Option Addr) (ns cs : Nat) (ho : o.At Ap np As ns w) :
  ∀ k, k < 7 → (∀ j, j < k → (y.openL L hop wh now o).getD j 0 = 0) → ∀ w', OpenI w wb y L hop wh now o (.slice Ap np cp) (.slice As ns cs) k w' → Calls Tryz.prog (openFs w k).1 (openFs w k).2 w' fun e w'' => e = .returned (.int .i64 ((y.openL L hop wh now o).getD k 0)) ∧ OpenI w wb y L hop wh now o (.slice Ap np cp) (.slice As ns cs) (k + 1) w'' := by
 intro k hk hc w' hI
 have hW := block_cell (hI.c.blk 0 _ rfl (by decide)) 0
 have hH := block_cell (hI.c.blk 1 _ rfl (by decide)) 0
 have hK := block_cell (hI.c.blk 2 _ rfl (by decide)) 0
 have hN := block_cell (hI.c.blk 3 _ rfl (by decide)) 0
 have hw := h.below hI.c.b
 have hz := hI.c.z
 simp only [openObjs, List.length_cons, List.length_nil] at hz
 have h8 := hok.pl.k8
 have hpl := h.plen
 have hin : 0 < k → ∃ n : Nat, hop = n ∧ n + 1 < y.pl.ks.length ∧ n < y.pu.length ∧ (wh = 0 ∨ wh = 1) := fun h0 => by
  have h1 := hc 0 h0
  refine spot_in hok ?_
  cases hq : y.isSpot hop wh with
  | true => rfl
  | false => rw [show (y.openL L hop wh now o).getD 0 0 = if y.isSpot hop wh = true then 0 else 9 from rfl, hq] at h1; simp at h1
 obtain rfl | rfl | rfl | rfl | rfl | rfl | rfl : k = 0 ∨ k = 1 ∨ k = 2 ∨ k = 3 ∨ k = 4 ∨ k = 5 ∨ k = 6 := by omega
 ·refine unless1_any 76 #[] #[.pointer (some ⟨w.heap.size + 0, 0, none⟩), .pointer (some ⟨w.heap.size + 1, 0, none⟩), .pointer (some ⟨w.heap.size + 2, 0, none⟩)] ent_o1 (w.heap.size + 8) (w.heap.size + (8 + 1)) 9 (y.isSpot hop wh) (OpenI w wb y L hop wh now o (.slice Ap np cp) (.slice As ns cs) 1) w' (block_cell (hI.c.blk 8 _ rfl (by decide)) 0) ?_ (fun w3 h3 => block_cell (h3.c.blk 9 _ rfl (by decide)) 0)
  refine (o1_any hw hW hH hK).mono ?_
  rintro e w2 ⟨rfl, rfl⟩
  exact ⟨rfl, hI.low (by omega) (Below.refl _ _)⟩
 ·refine unless1_any 78 #[] #[.pointer (some ⟨w.heap.size + 3, 0, none⟩)] ent_o2 (w.heap.size + 10) (w.heap.size + (10 + 1)) 2 (far now) (OpenI w wb y L hop wh now o (.slice Ap np cp) (.slice As ns cs) 2) w' (block_cell (hI.c.blk 10 _ rfl (by decide)) 0) ?_ (fun w3 h3 => block_cell (h3.c.blk 11 _ rfl (by decide)) 0)
  refine (o2_any hN).mono ?_
  rintro e w2 ⟨rfl, rfl⟩
  exact ⟨rfl, hI.low (by omega) (Below.refl _ _)⟩
 ·obtain ⟨n, rfl, hn1, hn2, hwh⟩ := hin (by omega)
  refine unless1_any 79 #[] #[.pointer (some ⟨w.heap.size + 0, 0, none⟩), .pointer (some ⟨w.heap.size + 1, 0, none⟩), .pointer (some ⟨w.heap.size + 2, 0, none⟩)] ent_o3 (w.heap.size + 12) (w.heap.size + (12 + 1)) 10 (decide (y.atI n wh = 1)) (OpenI w wb y L n wh now o (.slice Ap np cp) (.slice As ns cs) 3) w' (block_cell (hI.c.blk 12 _ rfl (by decide)) 0) ?_ (fun w3 h3 => block_cell (h3.c.blk 13 _ rfl (by decide)) 0)
  refine (o3_any hw hW hH hK ⟨⟨by show (0 : Int) ≤ (n : Int); omega, by show (n : Int) ≤ 100; omega⟩, by show 0 ≤ wh; omega, by show wh ≤ 100; omega⟩).mono ?_
  rintro e w2 ⟨rfl, hb⟩
  exact ⟨rfl, hI.low (by omega) hb⟩
 ·refine unless1_any 23 #[.pointer (some ⟨wb, 0, none⟩)] #[] ent_rdy (w.heap.size + 14) (w.heap.size + (14 + 1)) 20 y.ready (OpenI w wb y L hop wh now o (.slice Ap np cp) (.slice As ns cs) 4) w' (block_cell (hI.c.blk 14 _ rfl (by decide)) 0) ?_ (fun w3 h3 => block_cell (h3.c.blk 15 _ rfl (by decide)) 0)
  refine (ready_any hw (by have := hok.na; omega)).mono ?_
  rintro e w2 ⟨rfl, rfl⟩
  exact ⟨rfl, hI.low (by omega) (Below.refl _ _)⟩
 ·obtain ⟨n, rfl, hn1, hn2, hwh⟩ := hin (by omega)
  refine (o4_any h hok hI.c.b n hn1 hwh hW hH hK _ rfl (hI.l0 (by omega)) (by omega) (by omega) (by omega) (by omega) (by omega) (by omega) (by omega)).mono ?_
  rintro e w2 ⟨rfl, hg, hlk⟩
  exact ⟨rfl, hI.c.grown (.inl rfl) hg, fun h => absurd h (by omega), fun _ => hlk, fun _ => block_grown (hI.o0 (by omega)) hg (by simp), fun h => absurd h (by omega), fun _ => block_grown (hI.z (by omega)) hg (by simp), fun h => absurd h (by omega)⟩
 ·obtain ⟨n, rfl, hn1, hn2, hwh⟩ := hin (by omega)
  refine (o5_any h hI.c.b (hbk.below hI.c.b) hlen _ (hok.pl.good hn1 hwh) (hok.pl.keys n wh) hok.pl.tb (hI.l1 (by omega)) hW hN o Ap np cp As ns cs (hI.c.blk 4 _ rfl (by decide)) (ho.up hI.c.b) _ (hI.o0 (by omega)) (by omega) (by omega) (by omega) (by omega) (by omega)).mono ?_
  rintro e w2 ⟨rfl, hg, hc2⟩
  exact ⟨rfl, hI.c.grown (.inr (.inr rfl)) hg, fun h => absurd h (by omega), fun _ => (hI.l1 (by omega)).grown hg (by omega) (hI.o0 (by omega)) (by decide), fun h => absurd h (by omega), fun _ => hc2, fun _ => block_grown (hI.z (by omega)) hg (by simp), fun h => absurd h (by omega)⟩
 ·obtain ⟨n, rfl, hn1, hn2, hwh⟩ := hin (by omega)
  have hO := block_cell (hI.o1 (by omega)) 0
  refine (o6_any h hI.c.b n (by omega) _ (hI.l1 (by omega)) (hok.pl.fit hn1 hwh) (y.opn L n wh now o).1 hW hH hO _ rfl (hI.z (by omega)) (by omega) (by omega) (by omega) (by omega) (by omega) (by omega) (by omega)).mono ?_
  rintro e w2 ⟨x, hx, rfl, hxo, hxc, hg⟩
  exact ⟨rfl, hI.c.grown (.inr (.inl rfl)) hg, fun h => absurd h (by omega), fun _ => (hI.l1 (by omega)).grown hg (by omega) (hI.z (by omega)) (by decide), fun h => absurd h (by omega), fun _ => block_grown (hI.o1 (by omega)) hg (by simp), fun h => absurd h (by omega), fun _ => ⟨x, hx, hxo.weak hI.c.b.size, hxc⟩⟩
end
theorem cell_new0 (w : World) (v : Value) (T : TypeId) : (w.alloc (.cells #[v] T)).cell? ⟨w.heap.size, 0, none⟩ = some v := block_cell (heap_alloc_new w _) 0
theorem cell_more0 {w : World} {k : Nat} {v : Value} {o : Obj} (h : w.cell? ⟨k, 0, none⟩ = some v) : (w.alloc o).cell? ⟨k, 0, none⟩ = some v := by
 have hk : k < w.heap.size := by
  rcases Nat.lt_or_ge k w.heap.size with h1 | h1
  ·exact h1
  ·simp [World.cell?, Array.getElem?_eq_none h1] at h
 exact ((below_one w o).cell (p := ⟨k, 0, none⟩) hk).trans h
theorem cell_drew0 {w : World} {p : Addr} {v : Value} (h : w.cell? p = some v) : w.drew.cell? p = some v := h
section
variable {w : World} {B wb bk : Nat} {y : Wy} {a : WyA}
set_option maxRecDepth 100000 in
set_option maxHeartbeats 4000000 in
theorem wopen_any {Bb mb : Nat} {L : List En} (h : WyAt w B wb bk y a) (hok : y.Ok) (hbk : BookAt w Bb bk mb L) (hlen : L.length < 60000) (hop wh now : Int) (o : Ou) (Ap : Option Addr) (np cp : Nat) (As : Option Addr) (ns cs : Nat) {C : Nat} (ho : o.Own C Ap np cp As ns cs w) :
  Calls Tryz.prog 26 #[.pointer (some ⟨wb, 0, none⟩), .int .i64 hop, .int .i64 wh, .int .i64 now, .agg #[.slice Ap np cp, .slice As ns cs]] w fun e w' =>
  e = .returned (.int .i64 (y.openI L hop wh now o).1) ∧ ∃ a', WyAt w' B wb bk (y.open_ L hop wh now o).2 a' ∧ a.sameF a' ∧ WChg a.F w w' := by
 have H := Lib.hid h; have HOk := Lib.hid hok; have HBk := Lib.hid hbk; have HOu := Lib.hid ho.at_; have HOo := Lib.hid ho
 clear h hok hbk ho
 go_enter Tryz.func26, Tryz.ntmps26
 go_upto_region 6 with fail
 refine wp_region_held_drew (S := fun w' => w'.cell? ⟨w.heap.size, 0, none⟩ = some (.pointer (some ⟨wb, 0, none⟩))) (by kernel_rfl) (by repeat' (first | with_reducible exact cell_new0 _ _ _ | with_reducible refine cell_drew0 ?_ | with_reducible refine cell_more0 ?_)) (fun hHeld => ?_)
 have q1 : ∀ w' : World, (w'.cell? ⟨w.heap.size, 0, none⟩ = some (.pointer (some ⟨wb, 0, none⟩))) → w'.cell? ⟨w.heap.size, 0, none⟩ = some (.pointer (some ⟨wb, 0, none⟩)) := fun _ h => h
 refine takP 0 17 ?_ rfl (by kernel_rfl) (fun _ _ _ => id) ?hy (by assumption) ?_
 case hy => intro w' h; clear h; go_simp; try with_reducible rfl
 simp only [Act.put, sT]
 refine takP 2 19 ?_ rfl (by kernel_rfl) (fun _ _ _ => id) ?hy (by assumption) ?_
 case hy => intro w' h; clear h; go_simp; try with_reducible rfl
 simp only [Act.put, sT]
 refine takP 4 21 ?_ rfl (by kernel_rfl) (fun _ _ _ => id) ?hy (by assumption) ?_
 case hy => intro w' h; clear h; go_simp; try with_reducible rfl
 simp only [Act.put, sT]
 refine takP 6 23 ?_ rfl (by kernel_rfl) (fun _ _ _ => id) ?hy (by assumption) ?_
 case hy => intro w' h; have hx := q1 w' h; clear h; go_simp; try with_reducible rfl
 simp only [Act.put, sT]
 refine takP 7 24 ?_ rfl (by kernel_rfl) (fun _ _ _ => id) ?hy (by assumption) ?_
 case hy => intro w' h; clear h; go_simp; try with_reducible rfl
 simp only [Act.put, sT]
 refine takP 9 26 ?_ rfl (by kernel_rfl) (fun _ _ _ => id) ?hy (by assumption) ?_
 case hy => intro w' h; clear h; go_simp; try with_reducible rfl
 simp only [Act.put, sT]
 refine takP 10 27 ?_ rfl (by kernel_rfl) (fun _ _ _ => id) ?hy (by assumption) ?_
 case hy => intro w' h; clear h; go_simp; try with_reducible rfl
 simp only [Act.put, sT]
 refine takP 11 28 ?_ rfl (by kernel_rfl) (fun _ _ _ => id) ?hy (by assumption) ?_
 case hy => intro w' h; clear h; go_simp; try with_reducible rfl
 simp only [Act.put, sT]
 refine wpAnyH_ready (rs := [1]) (by kernel_rfl) (by simp) ?_
 refine AllReadyH.cons rfl (fun K hK => ?_) AllReadyH.nil
 rw [if_pos (by kernel_rfl)]
 try simp only [List.getElem_toArray, List.getElem_cons_zero, List.getElem_cons_succ]
 go_simp
 go_at_call 63
 refine (unless_at 76 #[] #[.pointer (some ⟨w.heap.size + 0, 0, none⟩), .pointer (some ⟨w.heap.size + 1, 0, none⟩), .pointer (some ⟨w.heap.size + 2, 0, none⟩)] 9 _ (w.heap.size + 8) (by simp)).mono ?_
 rintro e w1 ⟨rfl, rfl⟩
 refine hK.out _ _ (by repeat' (first | with_reducible exact cell_new0 _ _ _ | with_reducible refine cell_drew0 ?_ | with_reducible refine cell_more0 ?_)) (fun _ => ?_)
 clear hK K
 try simp only [Act.put, sT]
 refine wpAnyH_ready (rs := [3]) (by kernel_rfl) (by simp) ?_
 refine AllReadyH.cons rfl (fun K hK => ?_) AllReadyH.nil
 rw [if_pos (by kernel_rfl)]
 try simp only [List.getElem_toArray, List.getElem_cons_zero, List.getElem_cons_succ]
 go_simp
 go_at_call 63
 refine (unless_at 78 #[] #[.pointer (some ⟨w.heap.size + 3, 0, none⟩)] 2 _ (w.heap.size + 10) (by simp)).mono ?_
 rintro e w1 ⟨rfl, rfl⟩
 refine hK.out _ _ (by repeat' (first | with_reducible exact cell_new0 _ _ _ | with_reducible refine cell_drew0 ?_ | with_reducible refine cell_more0 ?_)) (fun _ => ?_)
 clear hK K
 try simp only [Act.put, sT]
 refine wpAnyH_ready (rs := [5]) (by kernel_rfl) (by simp) ?_
 refine AllReadyH.cons rfl (fun K hK => ?_) AllReadyH.nil
 rw [if_pos (by kernel_rfl)]
 try simp only [List.getElem_toArray, List.getElem_cons_zero, List.getElem_cons_succ]
 go_simp
 go_at_call 63
 refine (unless_at 79 #[] #[.pointer (some ⟨w.heap.size + 0, 0, none⟩), .pointer (some ⟨w.heap.size + 1, 0, none⟩), .pointer (some ⟨w.heap.size + 2, 0, none⟩)] 10 _ (w.heap.size + 12) (by simp)).mono ?_
 rintro e w1 ⟨rfl, rfl⟩
 refine hK.out _ _ (by repeat' (first | with_reducible exact cell_new0 _ _ _ | with_reducible refine cell_drew0 ?_ | with_reducible refine cell_more0 ?_)) (fun _ => ?_)
 clear hK K
 try simp only [Act.put, sT]
 refine wpAnyH_ready (rs := [8]) (by kernel_rfl) (by simp) ?_
 refine AllReadyH.cons rfl (fun K hK => ?_) AllReadyH.nil
 rw [if_pos (by kernel_rfl)]
 try simp only [List.getElem_toArray, List.getElem_cons_zero, List.getElem_cons_succ]
 go_simp
 go_at_call 63
 refine (unless_at 23 #[.pointer (some ⟨wb, 0, none⟩)] #[] 20 _ (w.heap.size + 14) (by simp)).mono ?_
 rintro e w1 ⟨rfl, rfl⟩
 refine hK.out _ _ (by repeat' (first | with_reducible exact cell_new0 _ _ _ | with_reducible refine cell_drew0 ?_ | with_reducible refine cell_more0 ?_)) (fun _ => ?_)
 clear hK K
 try simp only [Act.put, sT]
 refine wpAnyH_ready (rs := [12]) (by kernel_rfl) (by simp) ?_
 refine AllReadyH.cons rfl (fun K hK => ?_) AllReadyH.nil
 rw [if_pos (by kernel_rfl)]
 try simp only [List.getElem_toArray, List.getElem_cons_zero, List.getElem_cons_succ]
 go_simp
 have HI : Hid (OpenI w wb y L hop wh now o (.slice Ap np cp) (.slice As ns cs) 0 (allocs w (openObjs w wb hop wh now (.slice Ap np cp) (.slice As ns cs))).drew) := Lib.hid ⟨(ClS.start _ _ _).below (Below.refl _ _).drew, fun _ => allocs_at _ _ 5 _ rfl, fun h => absurd h (by omega), fun _ => allocs_at _ _ 7 _ rfl, fun h => absurd h (by omega), fun _ => allocs_at _ _ 6 _ rfl, fun h => absurd h (by omega)⟩
 change K _ (allocs w (openObjs w wb hop wh now (.slice Ap np cp) (.slice As ns cs))).drew
 generalize (allocs w (openObjs w wb hop wh now (.slice Ap np cp) (.slice As ns cs))).drew = w0 at *
 have hW0 : w0.cell? ⟨w.heap.size, 0, none⟩ = some (.pointer (some ⟨wb, 0, none⟩)) := block_cell (HI.out.c.blk 0 _ rfl (by decide)) 0
 refine hK.out _ _ hW0 (fun _ => ?_)
 clear hK K hW0
 refine wpAnyH_ready (rs := [13]) (by kernel_rfl) (by simp) ?_
 refine AllReadyH.cons rfl (fun K hK => ?_) AllReadyH.nil
 rw [if_pos (by kernel_rfl)]
 try simp only [List.getElem_toArray, List.getElem_cons_zero, List.getElem_cons_succ]
 go_simp
 go_at_call 62
 refine (first_any 7 (by omega) (openFs w) (w.heap.size + 16) 0 (OpenI w wb y L hop wh now o (.slice Ap np cp) (.slice As ns cs)) (fun k => (y.openL L hop wh now o).getD k 0) w0 HI.out ?_ ?_ (fun k hk hc w' hI => open_calls H.out HOk.out HBk.out hlen hop wh now o Ap np cp As ns cs HOu.out k hk hc w' hI)).mono ?_
 ·intro k w' hk hI
  have h14 := hI.c.blk 16 _ rfl (by decide)
  obtain rfl | rfl | rfl | rfl | rfl | rfl | rfl : k = 0 ∨ k = 1 ∨ k = 2 ∨ k = 3 ∨ k = 4 ∨ k = 5 ∨ k = 6 := by omega
  all_goals exact block_cell h14 _
 ·intro k hk
  obtain rfl | rfl | rfl | rfl | rfl | rfl | rfl : k = 0 ∨ k = 1 ∨ k = 2 ∨ k = 3 ∨ k = 4 ∨ k = 5 ∨ k = 6 := by omega
  ·exact ent_un1
  ·exact ent_un1
  ·exact ent_un1
  ·exact ent_un1
  ·exact ent_o4
  ·exact ent_o5
  ·exact ent_o6
 rintro e w1 (⟨rfl, hall, hI⟩ | ⟨k, hk, hc, hn, rfl, hI⟩)
 ·have hr : (y.openI L hop wh now o).1 = 0 := by rw [y.openI_first]; exact firstE_all hall
  have h1 : y.openI L hop wh now o = y.fre L hop wh now o := Wy.openI_yes hr
  have hl : (y.open_ L hop wh now o).2 = { y with pu := y.pu.set hop.toNat (y.fre L hop wh now o).2, at_ := alSet y.at_ (hop, wh) 2, by_ := alSet y.by_ (hop, wh) o } := by unfold Wy.open_; rw [if_pos hr, h1]
  have hhop : y.isSpot hop wh = true := by
   have := hall 0 (by omega)
   cases hq : y.isSpot hop wh with
   | true => rfl
   | false => rw [show (y.openL L hop wh now o).getD 0 0 = if y.isSpot hop wh = true then 0 else 9 from rfl, hq] at this; simp at this
  obtain ⟨n, rfl, hn1, hn2, hwh⟩ := spot_in HOk.out hhop
  obtain ⟨x, hx, hxo, hxc⟩ := hI.x (by omega)
  rw [← hx] at hl
  have hW : w1.cell? ⟨w.heap.size, 0, none⟩ = some (.pointer (some ⟨wb, 0, none⟩)) := block_cell (hI.c.blk 0 _ rfl (by decide)) 0
  have hH : w1.cell? ⟨w.heap.size + 1, 0, none⟩ = some (.int .i64 n) := block_cell (hI.c.blk 1 _ rfl (by decide)) 0
  have hK2 : w1.cell? ⟨w.heap.size + 2, 0, none⟩ = some (.int .i64 wh) := block_cell (hI.c.blk 2 _ rfl (by decide)) 0
  have hU := hI.c.blk 4 _ rfl (by decide)
  have hHs := hI.c.z
  simp only [openObjs, List.length_cons, List.length_nil] at hHs
  have hb := hI.c.b
  have HU := Lib.hid hU
  have HR := Lib.hid hr; have HL := Lib.hid hl; have HB := Lib.hid hb; have HXO := Lib.hid hxo; have HXC := Lib.hid hxc
  have h8 := HOk.out.pl.k8
  have hpl := H.out.plen
  clear HI hall hI hr h1 hl hhop hb hxo hxc hx hU
  refine hK.out _ _ hW (fun _ => ?_)
  clear hK K
  try simp only [Act.put, sT]
  refine takP 14 14 ?_ rfl (by kernel_rfl) (fun _ _ _ => id) ?hy (by assumption) ?_
  case hy => intro w' h; clear h; go_simp; try with_reducible rfl
  simp only [Act.put, sT]
  refine wpAnyH_done (by kernel_rfl) ?_ _
  clear hHeld q1
  go_upto_region 9 with fail
  have hnl : n < a.l.length := by omega
  have hli : (n : Int) < (a.l.length : Int) := by omega
  have h1 : WyAt w1.drew B wb bk y a := H.out.below HB.out.drew
  obtain ⟨g, hA, hBg, hg1, _⟩ := h1.prange hnl
  have hgw : g < w.heap.size := H.out.F_lt (.inr (.inr (.inl (by rw [hA]; rfl))))
  have hxb : x.Own B w1.drew := ⟨own_weak HXO.out.h.drew (Nat.le_trans hBg (Nat.le_of_lt hgw)), HXO.out.s⟩
  obtain ⟨hth, hgr, h2⟩ := h1.setp hA hnl x hxb
  have hwb := block_lt H.out.box
  have hgb : g ≠ wb := fun e => by
   obtain ⟨_, cs, e2⟩ := own_block h1.pu (g := g) (by rw [hA]; rfl)
   have e3 := h1.box
   rw [e, e3] at e2; injection e2 with e2; injection e2 with _ e2; exact absurd e2 (by decide)
  have c14 : w1.drew.cell? ⟨wb, 14, none⟩ = some (.slice a.Ap a.l.length a.cp) := h1.c.2.1
  rw [hA] at c14
  have HTH := Lib.hid hth; have HGR := Lib.hid hgr; have H2 := Lib.hid h2
  clear h1 hth hgr h2 hxb
  refine wp_region_held_drew (S := fun w' => w'.cell? ⟨w.heap.size, 0, none⟩ = some (.pointer (some ⟨wb, 0, none⟩)) ∧ w'.cell? ⟨w.heap.size + 1, 0, none⟩ = some (.int .i64 n) ∧ w'.cell? ⟨wb, 14, none⟩ = some (.slice (some ⟨g, 0, none⟩) a.l.length a.cp) ∧ w'.rangeAt (w.heap.size + 6) 0 x.cells) (by kernel_rfl) ⟨hW, hH, c14, range_front HXC.out 12 rfl⟩ (fun hHeld => ?_)
  have q1 : ∀ w' : World, (w'.cell? ⟨w.heap.size, 0, none⟩ = some (.pointer (some ⟨wb, 0, none⟩)) ∧ w'.cell? ⟨w.heap.size + 1, 0, none⟩ = some (.int .i64 n) ∧ w'.cell? ⟨wb, 14, none⟩ = some (.slice (some ⟨g, 0, none⟩) a.l.length a.cp) ∧ w'.rangeAt (w.heap.size + 6) 0 x.cells) → w'.cell? ⟨w.heap.size, 0, none⟩ = some (.pointer (some ⟨wb, 0, none⟩)) := fun _ h => h.1
  have q2 : ∀ w' : World, (w'.cell? ⟨w.heap.size, 0, none⟩ = some (.pointer (some ⟨wb, 0, none⟩)) ∧ w'.cell? ⟨w.heap.size + 1, 0, none⟩ = some (.int .i64 n) ∧ w'.cell? ⟨wb, 14, none⟩ = some (.slice (some ⟨g, 0, none⟩) a.l.length a.cp) ∧ w'.rangeAt (w.heap.size + 6) 0 x.cells) → w'.cell? ⟨w.heap.size + 1, 0, none⟩ = some (.int .i64 n) := fun _ h => h.2.1
  have q3 : ∀ w' : World, (w'.cell? ⟨w.heap.size, 0, none⟩ = some (.pointer (some ⟨wb, 0, none⟩)) ∧ w'.cell? ⟨w.heap.size + 1, 0, none⟩ = some (.int .i64 n) ∧ w'.cell? ⟨wb, 14, none⟩ = some (.slice (some ⟨g, 0, none⟩) a.l.length a.cp) ∧ w'.rangeAt (w.heap.size + 6) 0 x.cells) → w'.cell? ⟨wb, 14, none⟩ = some (.slice (some ⟨g, 0, none⟩) a.l.length a.cp) := fun _ h => h.2.2.1
  refine takP 0 34 ?_ rfl (by kernel_rfl) (fun _ _ _ => id) ?hy (by assumption) ?_
  case hy => intro w' h; have hx := q1 w' h; clear h; go_simp; try with_reducible rfl
  simp only [Act.put, sT]
  refine takP 1 35 ?_ rfl (by kernel_rfl) (fun _ _ _ => id) ?hy (by assumption) ?_
  case hy => intro w' h; clear h; go_simp; try with_reducible rfl
  simp only [Act.put, sT]
  refine takP 2 36 ?_ rfl (by kernel_rfl) (fun _ _ _ => id) ?hy (by assumption) ?_
  case hy => intro w' h; clear h; go_simp; try with_reducible rfl
  simp only [Act.put, sT]
  refine takP 3 37 ?_ rfl (by kernel_rfl) (fun _ _ _ => id) ?hy (by assumption) ?_
  case hy => intro w' h; have hx := q3 w' h; clear h; go_simp; try with_reducible rfl
  simp only [Act.put, sT]
  refine takP 4 38 ?_ rfl (by kernel_rfl) (fun _ _ _ => id) ?hy (by assumption) ?_
  case hy => intro w' h; have hx := q2 w' h; clear h; go_simp; try with_reducible rfl
  simp only [Act.put, sT]
  refine takeK 5 (some 39) (v := .agg ([.int .u8 x.p.nm.x0, .int .u8 x.p.nm.x1, .int .u8 x.p.nm.x2, .int .u8 x.p.nm.x3, .int .u8 x.p.nm.x4, .int .u8 x.p.nm.x5, .int .u8 x.p.nm.x6, .int .u8 x.p.nm.x7, .int .i64 x.p.no, .int .i64 x.p.h0, .int .i64 x.p.h1, .slice x.A x.n x.c] : List Value).toArray) rfl (by kernel_rfl) (by kernel_rfl) (fun _ _ _ => id) (yieldsIf_load_mid (by kernel_rfl) 85 _ (by rfl) (w.heap.size + 1 + 1 + 1 + 1 + 1 + 1) (0) (by rfl) [.int .u8 x.p.nm.x0, .int .u8 x.p.nm.x1, .int .u8 x.p.nm.x2, .int .u8 x.p.nm.x3, .int .u8 x.p.nm.x4, .int .u8 x.p.nm.x5, .int .u8 x.p.nm.x6, .int .u8 x.p.nm.x7, .int .i64 x.p.no, .int .i64 x.p.h0, .int .i64 x.p.h1, .slice x.A x.n x.c] _ (fun w' hw' => hw'.2.2.2) Tryz.underlying85 rfl (by kernel_rfl)) (by assumption) ?_
  simp only [Act.put, sT]
  refine takP 6 40 ?_ rfl (by kernel_rfl) (fun _ _ _ => id) ?hy (by assumption) ?_
  case hy => intro w' h; clear h; go_simp; try with_reducible rfl
  simp only [Act.put, sT]
  refine wpAnyH_ready (rs := [7]) (by kernel_rfl) (by simp) ?_
  refine AllReadyH.cons rfl (fun K hK => ?_) AllReadyH.nil
  rw [if_pos (by kernel_rfl)]
  try simp only [List.getElem_toArray, List.getElem_cons_zero, List.getElem_cons_succ]
  refine wp_store_mid 85 _ _ (by rfl) (g) (n * 12) #[.int .u8 x.p.nm.x0, .int .u8 x.p.nm.x1, .int .u8 x.p.nm.x2, .int .u8 x.p.nm.x3, .int .u8 x.p.nm.x4, .int .u8 x.p.nm.x5, .int .u8 x.p.nm.x6, .int .u8 x.p.nm.x7, .int .i64 x.p.no, .int .i64 x.p.h0, .int .i64 x.p.h1, .slice x.A x.n x.c] (by rfl) (by rfl) HTH.out (by kernel_rfl) (by kernel_rfl) ?_
  have HSq : Hid (∃ q, q = w1.drew.setCells g (n * 12) x.cells ∧ q.cell? ⟨w.heap.size, 0, none⟩ = some (.pointer (some ⟨wb, 0, none⟩)) ∧ q.cell? ⟨w.heap.size + 1, 0, none⟩ = some (.int .i64 n) ∧ q.cell? ⟨wb, 14, none⟩ = some (.slice (some ⟨g, 0, none⟩) a.l.length a.cp) ∧ q.rangeAt (w.heap.size + 6) 0 x.cells) :=
   Lib.hid ⟨_, rfl, HGR.out.cell (by exact hW) (by simp; omega), HGR.out.cell (by exact hH) (by simp; omega), HGR.out.cell c14 (by simpa using hgb.symm), range_grown (range_front (show w1.drew.heap[_]? = _ from HXC.out) 12 rfl) HGR.out (show w.heap.size + 6 < w1.heap.size by omega) (by simp; omega)⟩
  have HC2 : Hid ((w1.drew.setCells g (n * 12) x.cells).cell? ⟨w.heap.size, 0, none⟩ = some (.pointer (some ⟨wb, 0, none⟩)) ∧ (w1.drew.setCells g (n * 12) x.cells).cell? ⟨w.heap.size + 1, 0, none⟩ = some (.int .i64 n) ∧ (w1.drew.setCells g (n * 12) x.cells).cell? ⟨w.heap.size + 2, 0, none⟩ = some (.int .i64 wh)) :=
   Lib.hid ⟨HGR.out.cell (by exact hW) (by simp; omega), HGR.out.cell (by exact hH) (by simp; omega), HGR.out.cell (by exact hK2) (by simp; omega)⟩
  refine hK.out _ _ (by obtain ⟨q, rfl, h⟩ := HSq.out; exact h) (fun _ => ?_)
  clear hK K
  simp only [Act.put]
  refine wpAnyH_done (by kernel_rfl) ?_ _
  have HG2 : Hid (w1.grownBy (w1.drew.setCells g (n * 12) x.cells) (some g)) := Lib.hid (grown_below (Below.refl w1.heap.size w1).drew HGR.out)
  clear HSq hHeld q1 q2 q3 c14 HTH HGR
  go_upto_region 10 with fail
  change Code.wp _ _ _ _ (w1.drew.setCells g (n * 12) x.cells)
  generalize w1.drew.setCells g (n * 12) x.cells = w2 at *
  have habw := H.out.at_.lt
  have hab : a.ab ≠ wb := fun e => by
   obtain ⟨_, _, e2, _⟩ := H.out.at_
   rw [e, H.out.box] at e2; cases e2
  have h1 := H2.out.below (Below.refl (w2).heap.size w2).drew
  obtain ⟨w3, hrun, hg, h2⟩ := h1.setat (s := ((n : Int), wh)) ⟨⟨by show (0 : Int) ≤ (n : Int); omega, by show (n : Int) ≤ 100; omega⟩, by show (0 : Int) ≤ wh; omega, by show wh ≤ (100 : Int); omega⟩ 2
  have c15 : (w2).drew.cell? ⟨wb, 15, none⟩ = some (.map (some a.ab)) := h1.c.2.2.1
  have hrun2 : (Instr.mapUpdate 114 (.map (some a.ab)) (.agg #[.int .i64 n, .int .i64 wh]) (.int .i64 2)).run Tryz.prog (w2).drew = .ok () w3 := hrun
  have hcells := HC2.out
  have hSn : w3.cell? ⟨w.heap.size, 0, none⟩ = some (.pointer (some ⟨wb, 0, none⟩)) ∧ w3.cell? ⟨w.heap.size + 1, 0, none⟩ = some (.int .i64 n) ∧ w3.cell? ⟨w.heap.size + 2, 0, none⟩ = some (.int .i64 wh) ∧ w3.cell? ⟨wb, 15, none⟩ = some (.map (some a.ab)) := ⟨hg.cell (by exact hcells.1) (by simp; omega), hg.cell (by exact hcells.2.1) (by simp; omega), hg.cell (by exact hcells.2.2) (by simp; omega), hg.cell c15 (by simpa using hab.symm)⟩
  have HG3 : Hid ((w2).grownBy w3 (some a.ab)) := Lib.hid (grown_below (Below.refl (w2).heap.size w2).drew hg)
  have H3 := Lib.hid h2; have HRun := Lib.hid hrun2; have HSn := Lib.hid hSn
  have HC3 := Lib.hid (And.intro hSn.1 (And.intro hSn.2.1 hSn.2.2.1))
  refine wp_region_held_drew (S := fun w' => w'.cell? ⟨w.heap.size, 0, none⟩ = some (.pointer (some ⟨wb, 0, none⟩)) ∧ w'.cell? ⟨w.heap.size + 1, 0, none⟩ = some (.int .i64 n) ∧ w'.cell? ⟨w.heap.size + 2, 0, none⟩ = some (.int .i64 wh) ∧ w'.cell? ⟨wb, 15, none⟩ = some (.map (some a.ab))) (by kernel_rfl) ⟨hcells.1, hcells.2.1, hcells.2.2, c15⟩ (fun hHeld => ?_)
  have q1 : ∀ w' : World, (w'.cell? ⟨w.heap.size, 0, none⟩ = some (.pointer (some ⟨wb, 0, none⟩)) ∧ w'.cell? ⟨w.heap.size + 1, 0, none⟩ = some (.int .i64 n) ∧ w'.cell? ⟨w.heap.size + 2, 0, none⟩ = some (.int .i64 wh) ∧ w'.cell? ⟨wb, 15, none⟩ = some (.map (some a.ab))) → w'.cell? ⟨w.heap.size, 0, none⟩ = some (.pointer (some ⟨wb, 0, none⟩)) := fun _ h => h.1
  have q2 : ∀ w' : World, (w'.cell? ⟨w.heap.size, 0, none⟩ = some (.pointer (some ⟨wb, 0, none⟩)) ∧ w'.cell? ⟨w.heap.size + 1, 0, none⟩ = some (.int .i64 n) ∧ w'.cell? ⟨w.heap.size + 2, 0, none⟩ = some (.int .i64 wh) ∧ w'.cell? ⟨wb, 15, none⟩ = some (.map (some a.ab))) → w'.cell? ⟨w.heap.size + 1, 0, none⟩ = some (.int .i64 n) := fun _ h => h.2.1
  have q3 : ∀ w' : World, (w'.cell? ⟨w.heap.size, 0, none⟩ = some (.pointer (some ⟨wb, 0, none⟩)) ∧ w'.cell? ⟨w.heap.size + 1, 0, none⟩ = some (.int .i64 n) ∧ w'.cell? ⟨w.heap.size + 2, 0, none⟩ = some (.int .i64 wh) ∧ w'.cell? ⟨wb, 15, none⟩ = some (.map (some a.ab))) → w'.cell? ⟨w.heap.size + 2, 0, none⟩ = some (.int .i64 wh) := fun _ h => h.2.2.1
  have q4 : ∀ w' : World, (w'.cell? ⟨w.heap.size, 0, none⟩ = some (.pointer (some ⟨wb, 0, none⟩)) ∧ w'.cell? ⟨w.heap.size + 1, 0, none⟩ = some (.int .i64 n) ∧ w'.cell? ⟨w.heap.size + 2, 0, none⟩ = some (.int .i64 wh) ∧ w'.cell? ⟨wb, 15, none⟩ = some (.map (some a.ab))) → w'.cell? ⟨wb, 15, none⟩ = some (.map (some a.ab)) := fun _ h => h.2.2.2
  clear h1 h2 hrun hrun2 hg hSn c15 hcells
  refine takP 0 41 ?_ rfl (by kernel_rfl) (fun _ _ _ => id) ?hy (by assumption) ?_
  case hy => intro w' h; have hx := q1 w' h; clear h; go_simp; try with_reducible rfl
  simp only [Act.put, sT]
  refine takP 1 42 ?_ rfl (by kernel_rfl) (fun _ _ _ => id) ?hy (by assumption) ?_
  case hy => intro w' h; clear h; go_simp; try with_reducible rfl
  simp only [Act.put, sT]
  refine takP 2 43 ?_ rfl (by kernel_rfl) (fun _ _ _ => id) ?hy (by assumption) ?_
  case hy => intro w' h; clear h; go_simp; try with_reducible rfl
  simp only [Act.put, sT]
  refine takP 3 44 ?_ rfl (by kernel_rfl) (fun _ _ _ => id) ?hy (by assumption) ?_
  case hy => intro w' h; have hx := q4 w' h; clear h; go_simp; try with_reducible rfl
  simp only [Act.put, sT]
  refine takP 4 45 ?_ rfl (by kernel_rfl) (fun _ _ _ => id) ?hy (by assumption) ?_
  case hy => intro w' h; have hx := q2 w' h; clear h; go_simp; try with_reducible rfl
  simp only [Act.put, sT]
  refine takP 5 46 ?_ rfl (by kernel_rfl) (fun _ _ _ => id) ?hy (by assumption) ?_
  case hy => intro w' h; have hx := q3 w' h; clear h; go_simp; try with_reducible rfl
  simp only [Act.put, sT]
  refine takP 6 47 ?_ rfl (by kernel_rfl) (fun _ _ _ => id) ?hy (by assumption) ?_
  case hy => intro w' h; clear h; go_simp; try with_reducible rfl
  simp only [Act.put, sT]
  have hrun2 := HRun.out
  refine wpAnyH_ready (rs := [7]) (by kernel_rfl) (by simp) ?_
  refine AllReadyH.cons rfl (fun K hK => ?_) AllReadyH.nil
  rw [if_pos (by kernel_rfl)]
  try simp only [List.getElem_toArray, List.getElem_cons_zero, List.getElem_cons_succ]
  go_simp
  refine hK.out _ _ HSn.out (fun _ => ?_)
  clear hK K hrun2 HRun
  try simp only [Act.put]
  refine wpAnyH_done (by kernel_rfl) ?_ _
  clear hHeld q1 q2 q3 q4 HSn
  go_upto_region 11 with fail
  have HU2 := Lib.hid (block_grown HU.out HG2.out (by simp; omega))
  have HU3 := Lib.hid (block_grown HU2.out HG3.out (by simp; omega))
  have hobw := H.out.by_.lt
  have hob : a.ob ≠ wb := fun e => by
   obtain ⟨_, _, e2, _⟩ := H.out.by_
   rw [e, H.out.box] at e2; cases e2
  have hU3 := block_lt HU3.out
  have hz3 : w1.heap.size ≤ w3.heap.size := Nat.le_trans HG2.out.size HG3.out.size
  have hS : ∀ w', Below w3.heap.size w3 w' → (w'.cell? ⟨w.heap.size, 0, none⟩ = some (.pointer (some ⟨wb, 0, none⟩)) ∧ w'.cell? ⟨w.heap.size + 1, 0, none⟩ = some (.int .i64 n) ∧ w'.cell? ⟨w.heap.size + 2, 0, none⟩ = some (.int .i64 wh) ∧ w'.cell? ⟨wb, 16, none⟩ = some (.map (some a.ob)) ∧ w'.rangeAt (w.heap.size + 4) 0 [.slice Ap np cp, .slice As ns cs]) := fun w' hw' => ⟨(hw'.cell (p := ⟨w.heap.size, 0, none⟩) (show w.heap.size < w3.heap.size by omega)).trans HC3.out.1, (hw'.cell (p := ⟨w.heap.size + 1, 0, none⟩) (show w.heap.size + 1 < w3.heap.size by omega)).trans HC3.out.2.1, (hw'.cell (p := ⟨w.heap.size + 2, 0, none⟩) (show w.heap.size + 2 < w3.heap.size by omega)).trans HC3.out.2.2, (H3.out.below hw').c.2.2.2.1, range_all (block_below HU3.out hw' hU3)⟩
  have HS := Lib.hid hS
  clear hS
  refine wp_region_held_drew (S := fun w' => w'.cell? ⟨w.heap.size, 0, none⟩ = some (.pointer (some ⟨wb, 0, none⟩)) ∧ w'.cell? ⟨w.heap.size + 1, 0, none⟩ = some (.int .i64 n) ∧ w'.cell? ⟨w.heap.size + 2, 0, none⟩ = some (.int .i64 wh) ∧ w'.cell? ⟨wb, 16, none⟩ = some (.map (some a.ob)) ∧ w'.rangeAt (w.heap.size + 4) 0 [.slice Ap np cp, .slice As ns cs]) (by kernel_rfl) (HS.out _ (Below.refl _ _).drew) (fun hHeld => ?_)
  have q1 : ∀ w' : World, (w'.cell? ⟨w.heap.size, 0, none⟩ = some (.pointer (some ⟨wb, 0, none⟩)) ∧ w'.cell? ⟨w.heap.size + 1, 0, none⟩ = some (.int .i64 n) ∧ w'.cell? ⟨w.heap.size + 2, 0, none⟩ = some (.int .i64 wh) ∧ w'.cell? ⟨wb, 16, none⟩ = some (.map (some a.ob)) ∧ w'.rangeAt (w.heap.size + 4) 0 [.slice Ap np cp, .slice As ns cs]) → w'.cell? ⟨w.heap.size, 0, none⟩ = some (.pointer (some ⟨wb, 0, none⟩)) := fun _ h => h.1
  have q2 : ∀ w' : World, (w'.cell? ⟨w.heap.size, 0, none⟩ = some (.pointer (some ⟨wb, 0, none⟩)) ∧ w'.cell? ⟨w.heap.size + 1, 0, none⟩ = some (.int .i64 n) ∧ w'.cell? ⟨w.heap.size + 2, 0, none⟩ = some (.int .i64 wh) ∧ w'.cell? ⟨wb, 16, none⟩ = some (.map (some a.ob)) ∧ w'.rangeAt (w.heap.size + 4) 0 [.slice Ap np cp, .slice As ns cs]) → w'.cell? ⟨w.heap.size + 1, 0, none⟩ = some (.int .i64 n) := fun _ h => h.2.1
  have q3 : ∀ w' : World, (w'.cell? ⟨w.heap.size, 0, none⟩ = some (.pointer (some ⟨wb, 0, none⟩)) ∧ w'.cell? ⟨w.heap.size + 1, 0, none⟩ = some (.int .i64 n) ∧ w'.cell? ⟨w.heap.size + 2, 0, none⟩ = some (.int .i64 wh) ∧ w'.cell? ⟨wb, 16, none⟩ = some (.map (some a.ob)) ∧ w'.rangeAt (w.heap.size + 4) 0 [.slice Ap np cp, .slice As ns cs]) → w'.cell? ⟨w.heap.size + 2, 0, none⟩ = some (.int .i64 wh) := fun _ h => h.2.2.1
  have q4 : ∀ w' : World, (w'.cell? ⟨w.heap.size, 0, none⟩ = some (.pointer (some ⟨wb, 0, none⟩)) ∧ w'.cell? ⟨w.heap.size + 1, 0, none⟩ = some (.int .i64 n) ∧ w'.cell? ⟨w.heap.size + 2, 0, none⟩ = some (.int .i64 wh) ∧ w'.cell? ⟨wb, 16, none⟩ = some (.map (some a.ob)) ∧ w'.rangeAt (w.heap.size + 4) 0 [.slice Ap np cp, .slice As ns cs]) → w'.cell? ⟨wb, 16, none⟩ = some (.map (some a.ob)) := fun _ h => h.2.2.2.1
  refine takP 0 48 ?_ rfl (by kernel_rfl) (fun _ _ _ => id) ?hy (by assumption) ?_
  case hy => intro w' h; have hx := q1 w' h; clear h; go_simp; try with_reducible rfl
  simp only [Act.put, sT]
  refine takP 1 49 ?_ rfl (by kernel_rfl) (fun _ _ _ => id) ?hy (by assumption) ?_
  case hy => intro w' h; clear h; go_simp; try with_reducible rfl
  simp only [Act.put, sT]
  refine takP 2 50 ?_ rfl (by kernel_rfl) (fun _ _ _ => id) ?hy (by assumption) ?_
  case hy => intro w' h; clear h; go_simp; try with_reducible rfl
  simp only [Act.put, sT]
  refine takP 3 51 ?_ rfl (by kernel_rfl) (fun _ _ _ => id) ?hy (by assumption) ?_
  case hy => intro w' h; have hx := q4 w' h; clear h; go_simp; try with_reducible rfl
  simp only [Act.put, sT]
  refine takP 4 52 ?_ rfl (by kernel_rfl) (fun _ _ _ => id) ?hy (by assumption) ?_
  case hy => intro w' h; have hx := q2 w' h; clear h; go_simp; try with_reducible rfl
  simp only [Act.put, sT]
  refine takP 5 53 ?_ rfl (by kernel_rfl) (fun _ _ _ => id) ?hy (by assumption) ?_
  case hy => intro w' h; have hx := q3 w' h; clear h; go_simp; try with_reducible rfl
  simp only [Act.put, sT]
  refine takP 6 54 ?_ rfl (by kernel_rfl) (fun _ _ _ => id) ?hy (by assumption) ?_
  case hy => intro w' h; clear h; go_simp; try with_reducible rfl
  simp only [Act.put, sT]
  refine takeK 7 (some 55) (v := .agg ([.slice Ap np cp, .slice As ns cs] : List Value).toArray) rfl (by kernel_rfl) (by kernel_rfl) (fun _ _ _ => id) (yieldsIf_load_mid (by kernel_rfl) 59 _ (by rfl) (w.heap.size + 1 + 1 + 1 + 1) (0) (by rfl) [.slice Ap np cp, .slice As ns cs] _ (fun w' hw' => hw'.2.2.2.2) Tryz.underlying59 rfl (by kernel_rfl)) (by assumption) ?_
  simp only [Act.put, sT]
  refine wpAnyH_ready (rs := [8]) (by kernel_rfl) (by simp) ?_
  refine AllReadyH.cons rfl (fun K hK => ?_) AllReadyH.nil
  rw [if_pos (by kernel_rfl)]
  try simp only [List.getElem_toArray, List.getElem_cons_zero, List.getElem_cons_succ]
  go_simp
  go_at_call 85
  have hFg : a.F g := .inr (.inr (.inl (by rw [hA]; rfl)))
  have hch : WChg a.F w w3 := ((WChg.of_below HB.out).trans (WChg.of_grown HG2.out hFg)).trans (WChg.of_grown HG3.out (.inl rfl))
  have ho3 : Ou.Own o C Ap np cp As ns cs w3 := OuA.Own.keepV (a := ⟨o, Ap, np, cp, As, ns, cs⟩) HOo.out (H.out.cells hch)
  refine (ouclone_any o Ap np cp As ns cs w3.drew (ho3.at_.up (Below.refl _ _).drew)).mono ?_
  clear hch ho3
  rintro e w4 ⟨A1, c1, A2, c2, rfl, how, hb4⟩
  have HB4 := Lib.hid ((Below.refl w3.heap.size w3).drew.trans hb4)
  have hbw : B ≤ w3.drew.heap.size := Nat.le_trans H3.out.hb (Nat.le_of_lt (block_lt H3.out.box))
  have ho4 : OuA.Own ⟨o, A1, np, c1, A2, ns, c2⟩ B w4 := ⟨own_weak how.p hbw, SigOw.weak how.s hbw, how.bp, how.bs, how.so⟩
  have h4 := H3.out.below HB4.out
  obtain ⟨w5, hrun, hg5, h5⟩ := h4.setby (s := ((n : Int), wh)) ⟨⟨by show (0 : Int) ≤ (n : Int); omega, by show (n : Int) ≤ 100; omega⟩, by show (0 : Int) ≤ wh; omega, by show wh ≤ (100 : Int); omega⟩ ⟨o, A1, np, c1, A2, ns, c2⟩ ho4
  have hrun2 : (Instr.mapUpdate 115 (.map (some a.ob)) (.agg #[.int .i64 n, .int .i64 wh]) (.agg #[.slice A1 np c1, .slice A2 ns c2])).run Tryz.prog w4 = .ok () w5 := hrun
  have hs4 := HS.out _ HB4.out
  have hz4 := HB4.out.size
  have hSn : ∃ q, q = w5 ∧ q.cell? ⟨w.heap.size, 0, none⟩ = some (.pointer (some ⟨wb, 0, none⟩)) ∧ q.cell? ⟨w.heap.size + 1, 0, none⟩ = some (.int .i64 n) ∧ q.cell? ⟨w.heap.size + 2, 0, none⟩ = some (.int .i64 wh) ∧ q.cell? ⟨wb, 16, none⟩ = some (.map (some a.ob)) ∧ q.rangeAt (w.heap.size + 4) 0 [.slice Ap np cp, .slice As ns cs] :=
   ⟨_, rfl, hg5.cell hs4.1 (by simp; omega), hg5.cell hs4.2.1 (by simp; omega), hg5.cell hs4.2.2.1 (by simp; omega), hg5.cell hs4.2.2.2.1 (by simpa using hob.symm), range_grown hs4.2.2.2.2 hg5 (by omega) (by simp; omega)⟩
  have H5 := Lib.hid h5; have HRun := Lib.hid hrun2; have HSn := Lib.hid hSn
  have HG5 : Hid (w3.grownBy w5 (some a.ob)) := Lib.hid (grown_below HB4.out hg5)
  clear how hb4 hbw ho4 h4 hrun hrun2 hg5 h5 hs4 hSn
  refine hK.out _ _ (HS.out _ HB4.out) (fun _ => ?_)
  clear hK K
  try simp only [Act.put, sT]
  have hrun2 := HRun.out
  refine wpAnyH_ready (rs := [9]) (by kernel_rfl) (by simp) ?_
  refine AllReadyH.cons rfl (fun K hK => ?_) AllReadyH.nil
  rw [if_pos (by kernel_rfl)]
  try simp only [List.getElem_toArray, List.getElem_cons_zero, List.getElem_cons_succ]
  go_simp
  refine hK.out _ _ (by obtain ⟨q, rfl, h⟩ := HSn.out; exact h) (fun _ => ?_)
  clear hK K hrun2 HRun
  try simp only [Act.put]
  refine wpAnyH_done (by kernel_rfl) ?_ _
  clear hHeld q1 q2 q3 q4 HSn
  go_wp2
  go_ret
  rw [HR.out, HL.out]
  refine ⟨rfl, { a with l := a.l.set n x, lo := alSet a.lo ((n : Int), wh) ⟨o, A1, np, c1, A2, ns, c2⟩ }, H5.out, ⟨rfl, rfl, rfl, rfl, by simp⟩, ?_⟩
  exact (((WChg.of_below HB.out).trans (WChg.of_grown HG2.out hFg)).trans (WChg.of_grown HG3.out (.inl rfl))).trans (WChg.of_grown HG5.out (.inr (.inl rfl)))
 ·have hr : (y.openI L hop wh now o).1 = (y.openL L hop wh now o).getD k 0 := by rw [y.openI_first, firstE_no (by simpa [Wy.openL] using hk) hc hn]
  have hl : (y.open_ L hop wh now o).2 = y := by unfold Wy.open_; rw [if_neg (by rw [hr]; exact hn)]
  have hb := hI.c.b
  have hW : w1.cell? ⟨w.heap.size, 0, none⟩ = some (.pointer (some ⟨wb, 0, none⟩)) := block_cell (hI.c.blk 0 _ rfl (by decide)) 0
  clear HI hc hk hI
  generalize (y.openL L hop wh now o).getD k 0 = v at *
  have HR := Lib.hid hr; have HL := Lib.hid hl; have HB := Lib.hid hb
  have b1 : (v != 0) = true := by simpa using hn
  clear hr hl hn hb
  refine hK.out _ _ hW (fun _ => ?_)
  clear hK K
  try simp only [Act.put, sT]
  refine takP 14 14 ?_ rfl (by kernel_rfl) (fun _ _ _ => id) ?hy (by assumption) ?_
  case hy => intro w' h; clear h; go_simp; try with_reducible rfl
  simp only [Act.put, sT]
  refine wpAnyH_done (by kernel_rfl) ?_ _
  go_wp2
  go_ret
  rw [HR.out, HL.out]
  exact ⟨rfl, a, H.out.below HB.out, WyA.sameF.refl a, WChg.of_below HB.out⟩
end
def sumF (side : Int) (l : List Hd) : Int := sumL (l.filter fun h => h.fr == side)
theorem sumF_nil (side : Int) : sumF side [] = 0 := rfl
theorem sumF_take {side : Int} {l : List Hd} {k : Nat} (h : k < l.length) : sumF side (l.take (k + 1)) = sumF side (l.take k) + (if (l.getD k default).fr == side then (l.getD k default).am else 0) := by
 unfold sumF
 rw [take_hd h, List.filter_append, sumL_append]
 congr 1
 cases hq : (l.getD k default).fr == side
 ·rw [List.filter_cons_of_neg (by rw [hq]; simp)]; rfl
 ·rw [List.filter_cons_of_pos (by rw [hq])]; exact sumL_one _
theorem sumF_bound {side : Int} {l : List Hd} (hok : ∀ j, j < l.length → 0 ≤ (l.getD j default).am ∧ (l.getD j default).am ≤ 1125899906842624) (k : Nat) (hk : k ≤ l.length) : 0 ≤ sumF side (l.take k) ∧ sumF side (l.take k) ≤ k * 1125899906842624 := by
 induction k with
 | zero => simp [sumF, sumL]
 | succ k ih =>
  have h1 := ih (by omega)
  have h2 := hok k (by omega)
  rw [sumF_take (by omega)]
  split <;> omega
def Wy.term (y : Wy) (hop side : Int) : Int := if y.isHop hop = true then (y.pu.getD hop.toNat default).have_ side + sumF side (y.pu.getD hop.toNat default).held else 0
theorem Wy.worth_eq (y : Wy) (party : Int) : y.worth party = if party < 0 ∨ (y.pu.length : Int) < party then 0 else y.term party 0 + y.term (party - 1) 1 := rfl
theorem cell_of_range {w : World} {b o : Nat} {vs : List Value} (h : w.rangeAt b o vs) (j : Nat) (v : Value) (hj : vs[j]? = some v) : w.cell? ⟨b, o + j, none⟩ = some v := h j v hj
section
variable {w : World} {B wb bk : Nat} {y : Wy} {a : WyA}
theorem term_bound (hf : ∀ p ∈ y.pu, p.check = 0) (hop side : Int) : 0 ≤ y.term hop side ∧ y.term hop side ≤ 19140298416324608 := by
 unfold Wy.term
 cases hq : y.isHop hop with
 | false => rw [if_neg (by simp)]; exact ⟨Int.le_refl _, by omega⟩
 | true =>
  rw [if_pos rfl]
  simp only [Wy.isHop, Bool.and_eq_true, decide_eq_true_eq] at hq
  have hm : y.pu.getD hop.toNat default ∈ y.pu := by
   have h1 : hop.toNat < y.pu.length := by omega
   rw [List.getD_eq_getElem?_getD, List.getElem?_eq_getElem h1]; exact List.getElem_mem h1
  have hc := check_iff.1 (hf _ hm)
  obtain ⟨_, h1, h2, h3, ⟨h4, _⟩, _⟩ := hc
  have h5 := sumF_bound (side := side) (l := (y.pu.getD hop.toNat default).held) (fun j hj => by
   have := h4 _ (mem_getD hj)
   exact ⟨by have := this.1.1; omega, this.1.2⟩) (y.pu.getD hop.toNat default).held.length (Nat.le_refl _)
  rw [List.take_length] at h5
  unfold Pu.have_
  split <;> omega
set_option maxRecDepth 100000 in
set_option maxHeartbeats 4000000 in
theorem worth_any (h : WyAt w B wb bk y a) (hok : y.Ok) (hf : ∀ p ∈ y.pu, p.check = 0) (party : Int) : Calls Tryz.prog 21 #[.pointer (some ⟨wb, 0, none⟩), .int .i64 party] w fun e w' =>
  e = .returned (.int .i64 (y.worth party)) ∧ Below w.heap.size w w' := by
 obtain ⟨_, c14, _⟩ := h.c
 have hpl := h.plen
 have HW : Hid (y.worth party = if party < 0 ∨ (a.l.length : Int) < party then 0 else y.term party 0 + y.term (party - 1) 1) := by rw [hpl]; exact Lib.hid rfl
 have H := Lib.hid h; have HF := Lib.hid hf
 have t0 := term_bound hf party 0
 have t1 := term_bound hf (party - 1) 1
 have HPL := Lib.hid hpl
 have HC14 := Lib.hid c14
 clear h hf hpl
 by_cases q0 : party < 0
 ·have b0 : decide (party < 0) = true := decide_eq_true q0
  have HR : Hid (y.worth party = 0) := Lib.hid (by rw [HW.out, if_pos (.inl q0)])
  clear q0 t0 t1
  go_enter Tryz.func21, Tryz.ntmps21
  go_wp2
  go_ret
  exact ⟨ret_int (by rw [HR.out]), Below.refl _ _⟩
 ·by_cases q1 : (a.l.length : Int) < party
  ·have b0 : decide (party < 0) = false := decide_eq_false q0
   have b1 : decide ((a.l.length : Int) < party) = true := decide_eq_true q1
   have HR : Hid (y.worth party = 0) := Lib.hid (by rw [HW.out, if_pos (.inr q1)])
   clear t0 t1
   generalize a.l.length = nl at *
   clear q0 q1
   go_enter Tryz.func21, Tryz.ntmps21
   go_wp2
   go_ret
   exact ⟨ret_int (by rw [HR.out]), Below.refl _ _⟩
  ·have b0 : decide (party < 0) = false := decide_eq_false q0
   have b1 : decide ((a.l.length : Int) < party) = false := decide_eq_false q1
   have HR : Hid (y.worth party = y.term party 0 + y.term (party - 1) 1) := Lib.hid (by rw [HW.out, if_neg (by omega)])
   have hp0 : 0 ≤ party := by omega
   have HP1 : Hid (party ≤ (a.l.length : Int)) := Lib.hid (by omega)
   have hn8 : a.l.length ≤ 7 := by have := hok.np; have := hok.pl.k8; have := HPL.out; omega
   clear q0 q1
   have hp8 : party ≤ 7 := by have := HP1.out; omega
   obtain ⟨t00, t01⟩ := t0
   obtain ⟨t10, t11⟩ := t1
   generalize ht0 : y.term party 0 = v0 at *
   generalize ht1 : y.term (party - 1) 1 = v1 at *
   have HT0 := Lib.hid ht0; have HT1 := Lib.hid ht1
   clear ht0 ht1
   generalize hnl : a.l.length = nl at *
   have HNL := Lib.hid hnl
   clear hnl
   go_enter Tryz.func21, Tryz.ntmps21
   go_wp2
   generalize hq1 : party - 1 = q1 at *
   have HQ1 := Lib.hid hq1
   clear hq1
   go_loopw [5, 29] (fun s i wr => ∃ k : Nat, k ≤ 2 ∧ i = .int .i64 k ∧ s = .int .i64 (if k = 0 then 0 else if k = 1 then v0 else v0 + v1) ∧ Below w.heap.size w wr) (fun _ i _ => 2 - (RowKit.intOf i).toNat)
   case atStart => exact ⟨0, by omega, rfl, rfl, Below.refl _ _⟩
   case round =>
    obtain ⟨k, hk, rfl, rfl, hbel⟩ := hrel
    have Hbel := Lib.hid hbel
    clear hbel
    obtain rfl | rfl | rfl : k = 0 ∨ k = 1 ∨ k = 2 := by omega
    ·
     cases hq : y.isHop party with
     | false =>
      have HT : Hid (v0 = 0) := Lib.hid (by rw [← HT0.out]; unfold Wy.term; rw [hq]; rfl)
      have Hq := Lib.hid hq
      have ix : ∀ w, (Instr.index 29 (.agg #[.int .i64 party, .int .i64 q1]) (.int .i64 0)).run Tryz.prog w = .ok (.int .i64 party) w := fun _ => by kernel_rfl
      clear hq
      go_wp2_with (go_at_call 61; refine (ishop_any (H.out.below Hbel.out) party).mono ?_; rintro e w1 ⟨he, rfl⟩; rw [Hq.out] at he; subst he)
      go_roundw
      case rel => exact ⟨0 + 1, by omega, by go_num, by rw [HT.out]; simp, Hbel.out⟩
      case measure => simp [RowKit.intOf]
     | true =>
      have Hq := Lib.hid hq
      have hqq : 0 ≤ party ∧ party < (y.pu.length : Int) := by simpa only [Wy.isHop, Bool.and_eq_true, decide_eq_true_eq] using hq
      obtain ⟨m, hm⟩ := Int.eq_ofNat_of_zero_le hqq.1
      subst hm
      have hml : m < a.l.length := by have := HNL.out; have := HPL.out; omega
      have hwr := H.out.below Hbel.out
      obtain ⟨g, hA, _, hgw, hr⟩ := hwr.prange hml
      obtain ⟨hxp, hxo⟩ := hwr.pget hml
      have hmi : (m : Int) < (nl : Int) := by have := HNL.out; omega
      have c9 := hr 9 (.int .i64 ((a.l.getD m default).p.h0)) rfl
      have c11 := hr 11 (.slice (a.l.getD m default).A (a.l.getD m default).n (a.l.getD m default).c) rfl
      have c14 := hwr.c.2.1
      rw [hA, HNL.out] at c14
      have hck : (a.l.getD m default).p.check = 0 := by
       rw [hxp]
       refine HF.out _ ?_
       have h1 : m < y.pu.length := by have := HPL.out; have := HNL.out; omega
       rw [List.getD_eq_getElem?_getD, List.getElem?_eq_getElem h1]; exact List.getElem_mem h1
      have HT : Hid (v0 = (a.l.getD m default).p.h0 + sumF 0 (a.l.getD m default).p.held) := by
       show _ = _
       rw [← HT0.out]; unfold Wy.term; rw [hq, hxp]; rfl
      generalize a.l.getD m default = x at *
      obtain ⟨_, ⟨u0, u1⟩, ⟨u2, u3⟩, u4, ⟨hoks, _⟩, _⟩ := check_iff.1 hck
      have hokh : ∀ j, j < x.p.held.length → 0 ≤ (x.p.held.getD j default).am ∧ (x.p.held.getD j default).am ≤ 1125899906842624 := fun j hj => by
       have := hoks _ (mem_getD hj)
       exact ⟨by have := this.1.1; omega, this.1.2⟩
      have hhl := (Rd.of_own hxo.h).hlen
      have Hokh := Lib.hid hokh; have HXO := Lib.hid hxo; have HHL := Lib.hid hhl
      have hn16 : x.n ≤ 16 := by omega
      have ix : ∀ w, (Instr.index 29 (.agg #[.int .i64 m, .int .i64 q1]) (.int .i64 0)).run Tryz.prog w = .ok (.int .i64 ((m : Nat) : Int)) w := fun _ => by kernel_rfl
      clear hq hqq hwr hA hr hxp hxo hck hoks hokh hhl
      go_wp2_with (go_at_call 61; refine (ishop_any (H.out.below Hbel.out) (m : Int)).mono ?_; rintro e w1 ⟨he, rfl⟩; rw [Hq.out] at he; subst he)
      obtain ⟨wo, rfl⟩ : ∃ wo : World, wo = wr := ⟨_, rfl⟩
      go_loopw [5, 58] (fun s i wr => ∃ j : Nat, j ≤ x.n ∧ i = .int .i64 j ∧ s = .int .i64 (0 + x.p.h0 + sumF 0 (x.p.held.take j)) ∧ Below wo.heap.size wo wr) (fun _ i _ => x.n - (RowKit.intOf i).toNat)
      case atStart => exact ⟨0, by omega, rfl, by simp [sumF_nil], Below.refl _ _⟩
      case round =>
       obtain ⟨j, hj, rfl, rfl, hbel2⟩ := hrel
       have Hbel2 := Lib.hid hbel2
       have hsb := sumF_bound (side := 0) Hokh.out j (by have := HHL.out; omega)
       obtain ⟨s0, s1⟩ := hsb
       by_cases hlt : j < x.n
       ·obtain ⟨b, o, hAx, hbB, x0, x1, x2, x3, x4, x5, x6, x7, x8, x9, x10⟩ := (Rd.of_own (HXO.out.below hbel2).h).hd hlt
        have hok := Hokh.out j (by have := HHL.out; omega)
        have Hst := Lib.hid (sumF_take (side := 0) (l := x.p.held) (k := j) (by have := HHL.out; omega))
        obtain ⟨k0, k1⟩ := hok
        rw [hAx] at c11
        generalize x.p.held.getD j default = h at *
        generalize sumF 0 (x.p.held.take j) = s at *
        have hsz := hbel2.size
        clear hbel2
        have hi0 : (0 : Int) ≤ (j : Int) := by omega
        have hi1 : (j : Int) < (x.n : Int) := by omega
        have hki : (j : Int) ≤ 15 := by omega
        cases hfr : (h.fr == 0) with
        | true =>
         rw [hfr, if_pos rfl] at Hst
         rw [hAx]
         go_wp2
         go_roundw
         case rel => exact ⟨j + 1, by omega, by go_num, by rw [Hst.out]; first | rfl | (congr 1; omega), Hbel2.out.alloc hsz _⟩
         case measure => simp [RowKit.intOf]; omega
        | false =>
         rw [hfr, if_neg (by simp)] at Hst
         rw [hAx]
         go_wp2
         go_roundw
         case rel => exact ⟨j + 1, by omega, by go_num, by rw [Hst.out]; first | rfl | (congr 1; omega), Hbel2.out.alloc hsz _⟩
         case measure => simp [RowKit.intOf]; omega
       ·have hjn : j = x.n := by omega
        have Hk := Lib.hid hjn
        clear hbel2 hjn
        go_wp2
        go_roundw
        case rel =>
         have e : x.p.held.take j = x.p.held := List.take_of_length_le (by have := HHL.out; have := Hk.out; omega)
         exact ⟨0 + 1, by omega, by go_num, by rw [e, HT.out]; first | (simp; done) | (simp; omega), Hbel.out.trans (Hbel2.out.mono Hbel.out.size)⟩
        case measure => simp [RowKit.intOf]
    ·
     cases hq : y.isHop q1 with
     | false =>
      have HT : Hid (v1 = 0) := Lib.hid (by rw [← HT1.out]; unfold Wy.term; rw [hq]; rfl)
      have Hq := Lib.hid hq
      have ix : ∀ w, (Instr.index 29 (.agg #[.int .i64 party, .int .i64 q1]) (.int .i64 1)).run Tryz.prog w = .ok (.int .i64 q1) w := fun _ => by kernel_rfl
      clear hq
      go_wp2_with (go_at_call 61; refine (ishop_any (H.out.below Hbel.out) q1).mono ?_; rintro e w1 ⟨he, rfl⟩; rw [Hq.out] at he; subst he)
      go_roundw
      case rel => exact ⟨1 + 1, by omega, by go_num, by rw [HT.out]; simp, Hbel.out⟩
      case measure => simp [RowKit.intOf]
     | true =>
      have Hq := Lib.hid hq
      have hqq : 0 ≤ q1 ∧ q1 < (y.pu.length : Int) := by simpa only [Wy.isHop, Bool.and_eq_true, decide_eq_true_eq] using hq
      obtain ⟨m, hm⟩ := Int.eq_ofNat_of_zero_le hqq.1
      subst hm
      have hml : m < a.l.length := by have := HNL.out; have := HPL.out; omega
      have hwr := H.out.below Hbel.out
      obtain ⟨g, hA, _, hgw, hr⟩ := hwr.prange hml
      obtain ⟨hxp, hxo⟩ := hwr.pget hml
      have hmi : (m : Int) < (nl : Int) := by have := HNL.out; omega
      have c9 := hr 10 (.int .i64 ((a.l.getD m default).p.h1)) rfl
      have c11 := hr 11 (.slice (a.l.getD m default).A (a.l.getD m default).n (a.l.getD m default).c) rfl
      have c14 := hwr.c.2.1
      rw [hA, HNL.out] at c14
      have hck : (a.l.getD m default).p.check = 0 := by
       rw [hxp]
       refine HF.out _ ?_
       have h1 : m < y.pu.length := by have := HPL.out; have := HNL.out; omega
       rw [List.getD_eq_getElem?_getD, List.getElem?_eq_getElem h1]; exact List.getElem_mem h1
      have HT : Hid (v1 = (a.l.getD m default).p.h1 + sumF 1 (a.l.getD m default).p.held) := by
       show _ = _
       rw [← HT1.out]; unfold Wy.term; rw [hq, hxp]; rfl
      generalize a.l.getD m default = x at *
      obtain ⟨_, ⟨u0, u1⟩, ⟨u2, u3⟩, u4, ⟨hoks, _⟩, _⟩ := check_iff.1 hck
      have hokh : ∀ j, j < x.p.held.length → 0 ≤ (x.p.held.getD j default).am ∧ (x.p.held.getD j default).am ≤ 1125899906842624 := fun j hj => by
       have := hoks _ (mem_getD hj)
       exact ⟨by have := this.1.1; omega, this.1.2⟩
      have hhl := (Rd.of_own hxo.h).hlen
      have Hokh := Lib.hid hokh; have HXO := Lib.hid hxo; have HHL := Lib.hid hhl
      have hn16 : x.n ≤ 16 := by omega
      have ix : ∀ w, (Instr.index 29 (.agg #[.int .i64 party, .int .i64 m]) (.int .i64 1)).run Tryz.prog w = .ok (.int .i64 ((m : Nat) : Int)) w := fun _ => by kernel_rfl
      clear hq hqq hwr hA hr hxp hxo hck hoks hokh hhl
      go_wp2_with (go_at_call 61; refine (ishop_any (H.out.below Hbel.out) (m : Int)).mono ?_; rintro e w1 ⟨he, rfl⟩; rw [Hq.out] at he; subst he)
      obtain ⟨wo, rfl⟩ : ∃ wo : World, wo = wr := ⟨_, rfl⟩
      go_loopw [5, 58] (fun s i wr => ∃ j : Nat, j ≤ x.n ∧ i = .int .i64 j ∧ s = .int .i64 (v0 + x.p.h1 + sumF 1 (x.p.held.take j)) ∧ Below wo.heap.size wo wr) (fun _ i _ => x.n - (RowKit.intOf i).toNat)
      case atStart => exact ⟨0, by omega, rfl, by simp [sumF_nil], Below.refl _ _⟩
      case round =>
       obtain ⟨j, hj, rfl, rfl, hbel2⟩ := hrel
       have Hbel2 := Lib.hid hbel2
       have hsb := sumF_bound (side := 1) Hokh.out j (by have := HHL.out; omega)
       obtain ⟨s0, s1⟩ := hsb
       by_cases hlt : j < x.n
       ·obtain ⟨b, o, hAx, hbB, x0, x1, x2, x3, x4, x5, x6, x7, x8, x9, x10⟩ := (Rd.of_own (HXO.out.below hbel2).h).hd hlt
        have hok := Hokh.out j (by have := HHL.out; omega)
        have Hst := Lib.hid (sumF_take (side := 1) (l := x.p.held) (k := j) (by have := HHL.out; omega))
        obtain ⟨k0, k1⟩ := hok
        rw [hAx] at c11
        generalize x.p.held.getD j default = h at *
        generalize sumF 1 (x.p.held.take j) = s at *
        have hsz := hbel2.size
        clear hbel2
        have hi0 : (0 : Int) ≤ (j : Int) := by omega
        have hi1 : (j : Int) < (x.n : Int) := by omega
        have hki : (j : Int) ≤ 15 := by omega
        cases hfr : (h.fr == 1) with
        | true =>
         rw [hfr, if_pos rfl] at Hst
         rw [hAx]
         go_wp2
         go_roundw
         case rel => exact ⟨j + 1, by omega, by go_num, by rw [Hst.out]; first | rfl | (congr 1; omega), Hbel2.out.alloc hsz _⟩
         case measure => simp [RowKit.intOf]; omega
        | false =>
         rw [hfr, if_neg (by simp)] at Hst
         rw [hAx]
         go_wp2
         go_roundw
         case rel => exact ⟨j + 1, by omega, by go_num, by rw [Hst.out]; first | rfl | (congr 1; omega), Hbel2.out.alloc hsz _⟩
         case measure => simp [RowKit.intOf]; omega
       ·have hjn : j = x.n := by omega
        have Hk := Lib.hid hjn
        clear hbel2 hjn
        go_wp2
        go_roundw
        case rel =>
         have e : x.p.held.take j = x.p.held := List.take_of_length_le (by have := HHL.out; have := Hk.out; omega)
         exact ⟨1 + 1, by omega, by go_num, by rw [e, HT.out]; first | (simp; done) | (simp; omega), Hbel.out.trans (Hbel2.out.mono Hbel.out.size)⟩
        case measure => simp [RowKit.intOf]
    ·go_wp2
     go_ret
     exact ⟨ret_int (by rw [HR.out]), Hbel.out⟩
end
def byD (n : Nat) : D8 := ⟨n, 0, 0, 0, 0, 0, 0, 0⟩
def keyD (n : Nat) : D8 := byD (30 + n)
def tabD : D8 := byD 77
theorem byD_ok {n : Nat} (h : n < 256) : (byD n).ok := ⟨h, (by decide : 0 < 256), (by decide : 0 < 256), (by decide : 0 < 256), (by decide : 0 < 256), (by decide : 0 < 256), (by decide : 0 < 256), (by decide : 0 < 256)⟩
set_option maxRecDepth 100000 in
theorem key_any (n : Nat) (hn : n ≤ 200) (w : World) : Calls Tryz.prog 11 #[.int .i64 n] w fun e w' => e = .returned (.agg #[.int .u8 (keyD n).x0, .int .u8 (keyD n).x1, .int .u8 (keyD n).x2, .int .u8 (keyD n).x3, .int .u8 (keyD n).x4, .int .u8 (keyD n).x5, .int .u8 (keyD n).x6, .int .u8 (keyD n).x7]) ∧ Below w.heap.size w w' := by
 have hw : IntKind.u8.wrap (30 + (n : Int)) = 30 + (n : Int) := by rw [IntKind.wrap_u8]; omega
 have h0 : (30 : Int) + (n : Int) < 9223372036854775808 := by omega
 have H : Hid ((30 : Int) + (n : Int) = ((30 + n : Nat) : Int)) := Lib.hid (by omega)
 go_enter Tryz.func11, Tryz.ntmps11
 go_wp2
 refine bodyPost_ret (results_cell 2 27 w.heap.size #[.int .u8 (30 + (n : Int)), .int .u8 0, .int .u8 0, .int .u8 0, .int .u8 0, .int .u8 0, .int .u8 0, .int .u8 0] _ _ _ rfl rfl (heap_alloc_new w _) Tryz.underlying27 rfl (by kernel_rfl)) rfl ?_
 rw [H.out]
 exact ⟨rfl, below_one _ _⟩
set_option maxRecDepth 100000 in
theorem table_any (w : World) : Calls Tryz.prog 13 #[] w fun e w' => e = .returned (.agg #[.int .u8 tabD.x0, .int .u8 tabD.x1, .int .u8 tabD.x2, .int .u8 tabD.x3, .int .u8 tabD.x4, .int .u8 tabD.x5, .int .u8 tabD.x6, .int .u8 tabD.x7]) ∧ Below w.heap.size w w' := by
 go_enter Tryz.func13, Tryz.ntmps13
 go_wp2
 refine bodyPost_ret (results_cell 0 27 w.heap.size #[.int .u8 77, .int .u8 0, .int .u8 0, .int .u8 0, .int .u8 0, .int .u8 0, .int .u8 0, .int .u8 0] _ _ _ rfl rfl (heap_alloc_new w _) Tryz.underlying27 rfl (by kernel_rfl)) rfl ?_
 exact ⟨rfl, below_one _ _⟩
structure LChg (a : WyA) (bk mb : Nat) (w w' : World) : Prop where
 os : w'.os = w.os
 tape : w'.tape = w.tape
 output : w'.output = w.output
 size : w.heap.size ≤ w'.heap.size
 low : ∀ k, k < w.heap.size → k < bk → k < mb → ¬ a.F k → w'.heap[k]? = w.heap[k]?
 typed : ∀ (k : Nat) (cs : Array Value) (t : TypeId) (fz : Nat × Nat), w.heap[k]? = some (Obj.cells cs t fz) → ¬ a.F k → t ≠ 243 → k ≠ bk → w'.heap[k]? = w.heap[k]?
 maps : ∀ (k : Nat) (es : Array MapEntry) (cl : Nat), w.heap[k]? = some (Obj.map es cl) → ¬ a.F k → k ≠ mb → k ≠ bk → w'.heap[k]? = w.heap[k]?
theorem LChg.of_wchg {a : WyA} {bk mb : Nat} {w w' : World} (h : WChg a.F w w') : LChg a bk mb w w' := ⟨h.os, h.tape, h.output, h.size, fun k hk _ _ hf => h.block k hk hf, fun k _ _ _ e hf _ _ => h.block k (block_lt e) hf, fun k _ _ e hf _ _ => h.block k (block_lt e) hf⟩
theorem LChg.of_below {a : WyA} {bk mb : Nat} {w w' : World} (h : Below w.heap.size w w') : LChg a bk mb w w' := .of_wchg (.of_below h)
theorem LChg.of_kept {a : WyA} {bk mb : Nat} {w w' : World} (h : Kept w w' bk mb) : LChg a bk mb w w' := ⟨h.os, h.tape, h.output, h.size, fun k _ h1 h2 _ => h.low k h1 h2, fun k cs t fz e _ ht hk => (h.typed k cs t fz e ht hk).trans e.symm, fun k es cl e _ hm hk => (h.maps k es cl e hm hk).trans e.symm⟩
theorem LChg.refl (a : WyA) (bk mb : Nat) (w : World) : LChg a bk mb w w := .of_below (Below.refl _ _)
theorem LChg.trans {a : WyA} {bk mb : Nat} {w w1 w2 : World} (h : LChg a bk mb w w1) (h2 : LChg a bk mb w1 w2) : LChg a bk mb w w2 :=
 ⟨h2.os.trans h.os, h2.tape.trans h.tape, h2.output.trans h.output, Nat.le_trans h.size h2.size, fun k hk h3 h4 hf => (h2.low k (Nat.lt_of_lt_of_le hk h.size) h3 h4 hf).trans (h.low k hk h3 h4 hf), fun k cs t fz e hf ht hk => by
   have e1 := h.typed k cs t fz e hf ht hk
   exact (h2.typed k cs t fz (e1.trans e) hf ht hk).trans e1, fun k es cl e hf hm hk => by
   have e1 := h.maps k es cl e hf hm hk
   exact (h2.maps k es cl (e1.trans e) hf hm hk).trans e1⟩
theorem LChg.same {a a' : WyA} {bk mb : Nat} {w w' : World} (h : LChg a' bk mb w w') (hF : a.sameF a') : LChg a bk mb w w' := by
 have e := hF.F
 exact ⟨h.os, h.tape, h.output, h.size, fun k hk h3 h4 hf => h.low k hk h3 h4 (by rw [e]; exact hf), fun k cs t fz x hf => h.typed k cs t fz x (by rw [e]; exact hf), fun k es cl x hf => h.maps k es cl x (by rw [e]; exact hf)⟩
theorem LChg.under {a : WyA} {bk mb : Nat} {w0 w w' : World} (h : LChg a bk mb w w') (h0 : Below w0.heap.size w0 w) (h1 : w0.heap.size ≤ bk) (h2 : w0.heap.size ≤ mb) (hF : ∀ k, a.F k → w0.heap.size ≤ k) : Below w0.heap.size w0 w' :=
 ⟨h.os.trans h0.os, h.tape.trans h0.tape, h.output.trans h0.output, Nat.le_trans h0.size h.size, fun k hk => (h.low k (Nat.lt_of_lt_of_le hk h0.size) (by omega) (by omega) (fun hf => by have := hF k hf; omega)).trans (h0.block k hk)⟩
structure LwAt (w : World) (B Bb wob wb bk mb : Nat) (y : Wy) (a : WyA) (L : List En) (Ak : Option Addr) (nk ck : Nat) (An : Option Addr) (nn cn : Nat) (Af : Option Addr) (nf cf : Nat) (vp : Value) : Prop where
 box : w.heap[wob]? = some (.cells #[.pointer (some ⟨wb, 0, none⟩), .int .u8 y.pl.tb.x0, .int .u8 y.pl.tb.x1, .int .u8 y.pl.tb.x2, .int .u8 y.pl.tb.x3, .int .u8 y.pl.tb.x4, .int .u8 y.pl.tb.x5, .int .u8 y.pl.tb.x6, .int .u8 y.pl.tb.x7, .slice Ak nk ck, .int .i64 y.pl.s0, .int .i64 y.pl.s1, .slice An nn cn, .slice Af nf cf, .pointer (some ⟨bk, 0, none⟩), .int .i64 10, vp] 54 (0, 0))
 pl : y.pl.Own 0 Ak nk ck An nn cn Af nf cf w
 way : WyAt w B wb bk y a
 ok : y.Ok
 fit : ∀ p ∈ y.pu, p.check = 0
 book : BookAt w Bb bk mb L
 hB : Bb ≤ B
section
variable {w w' : World} {B Bb wob wb bk mb : Nat} {y : Wy} {a : WyA} {L : List En} {Ak : Option Addr} {nk ck : Nat} {An : Option Addr} {nn cn : Nat} {Af : Option Addr} {nf cf : Nat} {vp : Value}
theorem LwAt.ne_bk (h : LwAt w B Bb wob wb bk mb y a L Ak nk ck An nn cn Af nf cf vp) {k : Nat} {cs : Array Value} {t : TypeId} {fz : Nat × Nat} (hk : w.heap[k]? = some (.cells cs t fz)) (ht : t ≠ 181) : k ≠ bk := fun e => by
 obtain ⟨_, _, _, h1, _⟩ := h.book.book
 rw [e, h1] at hk; injection hk with hk; injection hk with _ hk; exact ht hk.symm
theorem LwAt.chg (h : LwAt w B Bb wob wb bk mb y a L Ak nk ck An nn cn Af nf cf vp) (hc : LChg a bk mb w w') {y' : Wy} {a' : WyA} {L' : List En} (hw : WyAt w' B wb bk y' a') (hpl : y'.pl = y.pl) (hok : y'.Ok) (hf : ∀ p ∈ y'.pu, p.check = 0) (hb : BookAt w' Bb bk mb L') : LwAt w' B Bb wob wb bk mb y' a' L' Ak nk ck An nn cn Af nf cf vp := by
 have hk : ∀ (k : Nat) (cs : Array Value) (t : TypeId) (fz : Nat × Nat), w.heap[k]? = some (Obj.cells cs t fz) → t ≠ 85 → t ≠ 4 → t ≠ 243 → t ≠ 181 → w'.heap[k]? = w.heap[k]? := fun k cs t fz e h1 h2 h3 h4 => hc.typed k cs t fz e (h.way.notF e h1 h2) h3 (h.ne_bk e h4)
 refine ⟨?_, ?_, hw, hok, hf, hb, h.hB⟩
 ·rw [hpl]; exact (hk _ _ 54 _ h.box (by decide) (by decide) (by decide) (by decide)).trans h.box
 ·rw [hpl]
  exact ⟨own_keepV h.pl.k fun g hg => by obtain ⟨_, cs, e⟩ := own_block h.pl.k hg; exact hk _ _ 27 _ e (by decide) (by decide) (by decide) (by decide), own_keepV h.pl.n fun g hg => by obtain ⟨_, cs, e⟩ := own_block h.pl.n hg; exact hk _ _ 3 _ e (by decide) (by decide) (by decide) (by decide), own_keepV h.pl.f fun g hg => by obtain ⟨_, cs, e⟩ := own_block h.pl.f hg; exact hk _ _ 3 _ e (by decide) (by decide) (by decide) (by decide), h.pl.bk, h.pl.bn, h.pl.bf⟩
theorem WyAt.kept (h : WyAt w B wb bk y a) (hb : BookAt w Bb bk mb L) (hB : Bb ≤ B) (hk : Kept w w' bk mb) : WyAt w' B wb bk y a := by
 have hbk := hb.lb; have hmb := hb.lm
 have h1 := h.hab; have h2 := h.hob
 refine h.tk (T := fun t => t = 243 ∨ t = 181) (TK.of_kept hk fun k cs t fz e ek => ?_) (fun t ht => ?_) ?_ ?_
 ·obtain ⟨_, _, _, h3, _⟩ := hb.book
  rw [ek, h3] at e; injection e with e; injection e with _ e; exact e.symm
 ·rcases ht with rfl | rfl <;> unfold wyT <;> decide
 ·obtain ⟨es, cl, e, _⟩ := h.at_
  exact (hk.maps _ es cl e (by omega) (by omega)).trans e.symm
 ·obtain ⟨es, cl, e, _⟩ := h.by_
  exact (hk.maps _ es cl e (by omega) (by omega)).trans e.symm
theorem LwAt.below (h : LwAt w B Bb wob wb bk mb y a L Ak nk ck An nn cn Af nf cf vp) (hb : Below w.heap.size w w') : LwAt w' B Bb wob wb bk mb y a L Ak nk ck An nn cn Af nf cf vp :=
 h.chg (.of_below hb) (h.way.below hb) rfl h.ok h.fit (h.book.below hb)
theorem LwAt.kept (h : LwAt w B Bb wob wb bk mb y a L Ak nk ck An nn cn Af nf cf vp) {L' : List En} (hk : Kept w w' bk mb) (hb : BookAt w' Bb bk mb L') : LwAt w' B Bb wob wb bk mb y a L' Ak nk ck An nn cn Af nf cf vp :=
 h.chg (.of_kept hk) (h.way.kept h.book h.hB hk) rfl h.ok h.fit hb
set_option maxRecDepth 100000 in
theorem last_any (h : LwAt w B Bb wob wb bk mb y a L Ak nk ck An nn cn Af nf cf vp) : Calls Tryz.prog 20 #[.pointer (some ⟨wob, 0, none⟩)] w fun e w' => e = .returned (.int .i64 ((nk : Int) - 1)) ∧ w = w' := by
 have c9 := block_cell h.box 9
 simp at c9
 have hb := h.pl.bk
 clear h
 go_enter Tryz.func20, Tryz.ntmps20
 go_wp2
 go_ret
 exact ⟨rfl, rfl⟩
end
end Go.Proofs.YthhiookcknnmdaaGreat
