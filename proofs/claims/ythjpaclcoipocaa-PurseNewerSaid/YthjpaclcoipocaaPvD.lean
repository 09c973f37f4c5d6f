/- Two sides' signatures beside a book: the state of the loop of PurseNewer. Nothing of the program stands in it but its tables, so there is no condition. -/
import Derived.Test.YthjpaclcoipocaaPvC
namespace Go.Proofs.Ythjpaclcoipocaa
open Go.RowKit Go.Lib

/-- A signature as a value: none, or two bytes of its own. -/
def SigV (w : World) (v : Value) : Option Nat → Prop
  | none => v = .slice none 0 0
  | some i => ∃ g, v = .slice (some ⟨g, 0, none⟩) 2 2 ∧ SigAt w g i
theorem SigV.below {w w' : World} {v : Value} {o : Option Nat} (h : SigV w v o) (hb : Below w.heap.size w w') : SigV w' v o := by
  cases o with
  | none => exact h
  | some i => obtain ⟨g, h1, h2⟩ := h; exact ⟨g, h1, block_below h2 hb (block_lt h2)⟩
theorem SigV.kept {w w' : World} {v : Value} {o : Option Nat} {B bk mb : Nat} {L : List En} (h : SigV w v o) (hk : Kept w w' bk mb) (hB : BookAt w B bk mb L) : SigV w' v o := by
  cases o with
  | none => exact h
  | some i =>
    obtain ⟨g, h1, h2⟩ := h
    obtain ⟨A, m, c, h3, _⟩ := hB.book
    refine ⟨g, h1, hk.typed g _ _ _ h2 (by decide) ?_⟩
    rintro rfl
    unfold SigAt at h2
    rw [h2] at h3
    injection h3 with e
    injection e with _ e
    exact absurd e (by decide)
theorem SigV.set {w w' : World} {v : Value} {o : Option Nat} {g : Nat} {cs : Array Value} (h : SigV w v o) (hg : w.grownBy w' (some g)) (hG : w.heap[g]? = some (.cells cs 41 (0, 0))) : SigV w' v o := by
  cases o with
  | none => exact h
  | some i =>
    obtain ⟨k, h1, h2⟩ := h
    refine ⟨k, h1, (hg.block k (block_lt h2) ?_).trans h2⟩
    intro e
    injection e with e
    subst e
    unfold SigAt at h2
    rw [h2] at hG
    injection hG with e
    injection e with _ e
    exact absurd e (by decide)
theorem SigV.rd {w : World} {v : Value} {o : Option Nat} (h : SigV w v o) : ∃ A n c, v = .slice A n c ∧ Rd w w.heap.size 1 A n (bvN (qS o)) := by
  cases o with
  | none => exact ⟨none, 0, 0, h, ⟨rfl, fun h => absurd h (by omega)⟩⟩
  | some i => obtain ⟨g, h1, h2⟩ := h; exact ⟨_, _, _, h1, sig_rd h2⟩
theorem qS_ok (o : Option Nat) : (qS o).length ≤ 1000 ∧ ∀ x ∈ qS o, x < 256 := by
  cases o with
  | none => exact ⟨by simp [qS], by simp [qS]⟩
  | some i => exact ⟨by simp [qS, sigL], sigL_lt i⟩
structure PvS (x0 : World) (g10 g11 : Nat) (wr : World) (L : List En) (V : Nat → Value) (q : Nat → Option Nat) : Prop where
  low : Below x0.heap.size x0 wr
  book : BookAt wr (x0.heap.size + 2) (x0.heap.size + 1) x0.heap.size L
  keys : wr.heap[g10]? = some (.cells #[.int .u8 ((kS 0).x0 : Int), .int .u8 ((kS 0).x1 : Int), .int .u8 ((kS 0).x2 : Int), .int .u8 ((kS 0).x3 : Int), .int .u8 ((kS 0).x4 : Int), .int .u8 ((kS 0).x5 : Int), .int .u8 ((kS 0).x6 : Int), .int .u8 ((kS 0).x7 : Int), .int .u8 ((kS 1).x0 : Int), .int .u8 ((kS 1).x1 : Int), .int .u8 ((kS 1).x2 : Int), .int .u8 ((kS 1).x3 : Int), .int .u8 ((kS 1).x4 : Int), .int .u8 ((kS 1).x5 : Int), .int .u8 ((kS 1).x6 : Int), .int .u8 ((kS 1).x7 : Int)] 39 (0, 0))
  sigs : wr.heap[g11]? = some (.cells #[V 0, V 1] 41 (0, 0))
  val : ∀ j, j < 2 → SigV wr (V j) (q j)
section
variable {x0 wr w' : World} {g10 g11 : Nat} {L L' : List En} {V : Nat → Value} {q : Nat → Option Nat}
theorem PvS.below (h : PvS x0 g10 g11 wr L V q) (hb : Below wr.heap.size wr w') : PvS x0 g10 g11 w' L V q :=
  ⟨h.low.trans (hb.mono h.low.size), h.book.below hb, block_below h.keys hb (block_lt h.keys), block_below h.sigs hb (block_lt h.sigs), fun j hj => (h.val j hj).below hb⟩
theorem PvS.kept (h : PvS x0 g10 g11 wr L V q) (hk : Kept wr w' (x0.heap.size + 1) x0.heap.size) (hB : BookAt w' (x0.heap.size + 2) (x0.heap.size + 1) x0.heap.size L') : PvS x0 g10 g11 w' L' V q := by
  obtain ⟨A, m, c, h3, _⟩ := h.book.book
  have ne : ∀ {k : Nat} {cs : Array Value} {T : TypeId}, wr.heap[k]? = some (.cells cs T (0, 0)) → T ≠ 64 → k ≠ x0.heap.size + 1 := fun hk2 hT e => by
    subst e
    rw [hk2] at h3
    injection h3 with e
    injection e with _ e
    exact hT e
  exact ⟨h.low.trans (hk.below (by omega) (Nat.le_refl _)), hB, hk.typed _ _ _ _ h.keys (by decide) (ne h.keys (by decide)), hk.typed _ _ _ _ h.sigs (by decide) (ne h.sigs (by decide)), fun j hj => (h.val j hj).kept hk h.book⟩
theorem PvS.set (h : PvS x0 g10 g11 wr L V q) {k : Nat} (hk : k < 2) {v : Value} {o : Option Nat} (hv : SigV wr v o) (hg : x0.heap.size ≤ g11) :
    PvS x0 g10 g11 (wr.setCell ⟨g11, k, none⟩ v) L (fun j => if j = k then v else V j) (putQ q k o) := by
  have hgr := grown_set1 wr g11 k v
  have hs := Joins.block_setCell (i := k) h.sigs v
  obtain ⟨A, m, c, h3, h4⟩ := h.book.book
  obtain ⟨es, cl, h5, _⟩ := h.book.places
  refine ⟨h.low.trans ((((Below.refl wr.heap.size wr).mono h.low.size)).grown hgr h.low.size (fun b hb => by cases hb; exact hg)), ?_, ?_, ?_, fun j hj => ?_⟩
  · have hne : g11 ≠ x0.heap.size + 1 := by
      rintro rfl
      have h6 := h.sigs
      rw [h3] at h6
      injection h6 with e
      injection e with _ e
      exact absurd e (by decide)
    have hnm : g11 ≠ x0.heap.size := by
      rintro rfl
      have h6 := h.sigs
      rw [h5] at h6
      simp at h6
    exact ⟨⟨A, m, c, block_grown h3 hgr (by intro e; injection e with e; exact hne e.symm), h4.kept hgr (.inr (fun e => own_ne h4 h.sigs (by decide) e.symm))⟩, h.book.places.same (hgr.block _ h.book.places.lt (by intro e; injection e with e; exact hnm e.symm)), h.book.lb, h.book.lm, Nat.le_trans h.book.hB hgr.size, h.book.nodup, h.book.ok⟩
  · refine block_grown h.keys hgr ?_
    intro e
    injection e with e
    have h6 := h.sigs
    rw [← e, h.keys] at h6
    injection h6 with e
    injection e with _ e
    exact absurd e (by decide)
  · rw [hs]
    match k, hk with
    | 0, _ => rfl
    | 1, _ => rfl
  · unfold putQ
    by_cases e : j = k
    · subst e
      simp only [if_true]
      exact hv.set hgr h.sigs
    · simp only [if_neg e]
      exact (h.val j hj).set hgr h.sigs
end
/-- Did all the sides ahead of the k-th one sign the new one? -/
def sgAll (N O : Nat → Bool) (dX dY : D8) (k : Nat) : Bool := (List.range k).all (sgnd N O dX dY)
theorem sgAll_succ (N O : Nat → Bool) (dX dY : D8) (k : Nat) : sgAll N O dX dY (k + 1) = (sgAll N O dX dY k && sgnd N O dX dY k) := by simp [sgAll, List.range_succ]
theorem sgAll_two (N O : Nat → Bool) (dX dY : D8) : sgAll N O dX dY 2 = (sgnd N O dX dY 0 && sgnd N O dX dY 1) := by simp [sgAll, List.range_succ]
/-- What All says of the signatures, as they are, and swapped. -/
theorem all_is {N O : Nat → Bool} {dX dY : D8} {L : List En} {q : Nat → Option Nat} (h : SgI N O dX dY 2 L q) (hn : L.Nodup) : allI 2 2 (missTo (lacksE L dY [kS 0, kS 1] [qS (q 0), qS (q 1)] []) 2) = if sgAll N O dX dY 2 then 0 else 16 := by
  rw [all_two, h.ver hn (by decide) (by decide), h.ver hn (by decide) (by decide), sgAll_two]
theorem all_swap {N O : Nat → Bool} {dX dY : D8} {L : List En} {q : Nat → Option Nat} (h : SgI N O dX dY 2 L q) : allI 2 2 (missTo (lacksE L dY [kS 0, kS 1] [qS (q 1), qS (q 0)] []) 2) = 16 := by
  rw [all_two, h.other (by decide) (i := 1) (j := 0) (by decide) (by decide) (by decide)]
  simp
end Go.Proofs.Ythjpaclcoipocaa
