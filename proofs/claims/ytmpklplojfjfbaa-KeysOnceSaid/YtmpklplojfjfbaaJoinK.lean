/- What a ring has signed, plainly: no key signs two messages. Nothing of the program stands in it, so there is no condition. What a ring signed, kept in rows beside it. Nothing of the program stands in it but its tables, so there is no condition. Three rows, of unlike types, each grown by one in any order. Nothing of the program stands in it but its tables, so there is no condition. Three rows, each grown by one: what stands between. Nothing of the program stands in it but its tables, so there is no condition. One more signature is kept: what a ring, its bytes, and all that it signed, are then. Nothing of the program stands in it but its tables, so there is no condition. -/
import Derived.Test.YtmpklplojfjfbaaKgQ
import Derived.Test.YtmpklplojfjfbaaKgW
import Derived.Test.YtmpklplojfjfbaaInv
namespace Go.Proofs.Ytmpklplojfjfbaa
open Go.RowKit Go.Lib
theorem reserve_err (r : RingM) (m : D8) : (r.reserve m).2.2 = 0 ∨ ((r.reserve m).2.2 = 17 ∧ (r.reserve m).1 = r) := by
  unfold RingM.reserve
  cases posD r.led m with
  | some i => exact .inl rfl
  | none =>
    simp only
    split
    · exact .inr ⟨rfl, rfl⟩
    · exact .inl rfl
theorem sign_err (r : RingM) (m : D8) : (r.sign m).2.2 = (r.reserve m).2.2 := by
  unfold RingM.sign
  simp only
  split
  · rename_i h; exact h.symm
  · rfl
theorem sign_spent {r : RingM} {m : D8} (h : (r.sign m).2.2 ≠ 0) : (r.sign m).2.2 = 17 ∧ (r.sign m).1 = r := by
  rw [sign_err, sign_ring] at *
  rcases reserve_err r m with h1 | h1
  · exact absurd h1 h
  · exact h1
theorem reserve_at {r : RingM} {m : D8} (h : (r.reserve m).2.2 = 0) : (r.reserve m).1.led[(r.reserve m).2.1]? = some m := by
  revert h
  unfold RingM.reserve
  cases hp : posD r.led m with
  | some i => intro _; exact posD_some hp
  | none =>
    simp only
    split
    · intro h; cases h
    · intro _
      show (r.led ++ [m])[r.led.length]? = some m
      simp
theorem sign_bytes {r : RingM} {m : D8} (h : (r.sign m).2.2 = 0) : (r.sign m).2.1 = r.sigB (r.reserve m).2.1 m := by
  have he : (r.reserve m).2.2 = 0 := by rw [← sign_err]; exact h
  have hs := RingM.reserve_secret r m
  unfold RingM.sign
  simp only
  rw [if_pos he]
  show (r.reserve m).1.sigB _ m = _
  unfold RingM.sigB
  rw [hs.1, hs.2]
theorem sign_ok {r : RingM} (h : r.ok) {m : D8} (hm : m.ok) : (r.sign m).1.ok := by rw [sign_ring]; exact RingM.reserve_ok h hm
/-- What was signed: each signature's key, bytes and message. -/
structure RecN (r : RingM) (n : Nat) (bs : List Nat) (ss : List (List Nat)) (ms : List D8) : Prop where
  lb : bs.length = n
  ls : ss.length = n
  lm : ms.length = n
  at_ : ∀ j, j < n → r.led[bs.getD j 0]? = some (ms.getD j D8.zero) ∧ ss.getD j [] = r.sigB (bs.getD j 0) (ms.getD j D8.zero)
theorem RecN.nil (r : RingM) : RecN r 0 [] [] [] := ⟨rfl, rfl, rfl, fun j h => absurd h (by omega)⟩
theorem RecN.later {r : RingM} {n : Nat} {bs : List Nat} {ss : List (List Nat)} {ms : List D8} (h : RecN r n bs ss ms) (m : D8) : RecN (r.sign m).1 n bs ss ms := by
  refine ⟨h.lb, h.ls, h.lm, fun j hj => ?_⟩
  obtain ⟨h1, h2⟩ := h.at_ j hj
  have hs := RingM.reserve_secret r m
  rw [sign_ring]
  obtain ⟨t, ht⟩ := reserve_pre r m
  refine ⟨?_, ?_⟩
  · rw [← ht, List.getElem?_append_left (List.getElem?_eq_some_iff.1 h1).1]; exact h1
  · rw [h2]; unfold RingM.sigB; rw [hs.1, hs.2]
theorem getD_last {α : Type _} {l : List α} {n j : Nat} {x d : α} (hl : l.length = n) (hj : j < n + 1) : (l ++ [x]).getD j d = if j = n then x else l.getD j d := by
  subst hl
  rw [List.getD_eq_getElem?_getD, List.getD_eq_getElem?_getD]
  by_cases h : j = l.length
  · subst h; simp
  · rw [if_neg h, List.getElem?_append_left (by omega)]
theorem RecN.sign {r : RingM} {n : Nat} {bs : List Nat} {ss : List (List Nat)} {ms : List D8} (h : RecN r n bs ss ms) {m : D8} (he : (r.sign m).2.2 = 0) : RecN (r.sign m).1 (n + 1) (bs ++ [(r.reserve m).2.1]) (ss ++ [(r.sign m).2.1]) (ms ++ [m]) := by
  have hl := h.later m
  refine ⟨by simp [h.lb], by simp [h.ls], by simp [h.lm], fun j hj => ?_⟩
  rw [getD_last h.lb hj, getD_last h.ls hj, getD_last h.lm hj]
  by_cases hn : j = n
  · rw [if_pos hn, if_pos hn, if_pos hn]
    refine ⟨?_, ?_⟩
    · rw [sign_ring]; exact reserve_at (by rw [← sign_err]; exact he)
    · have hs := RingM.reserve_secret r m
      rw [sign_bytes he, sign_ring]
      unfold RingM.sigB
      rw [hs.1, hs.2]
  · rw [if_neg hn, if_neg hn, if_neg hn]
    exact hl.at_ j (by omega)
/-- Two signatures of one key are of one message, and the same bytes. -/
theorem RecN.once {r : RingM} {n : Nat} {bs : List Nat} {ss : List (List Nat)} {ms : List D8} (h : RecN r n bs ss ms) (hr : r.ok) {m : D8} (hm : m.ok) (he : (r.sign m).2.2 = 0) {j : Nat} (hj : j < n) :
    (bs.getD j 0 = (r.reserve m).2.1 → ms.getD j D8.zero = m ∧ ss.getD j [] = (r.sign m).2.1) ∧ (ms.getD j D8.zero = m → bs.getD j 0 = (r.reserve m).2.1) := by
  obtain ⟨h1, h2⟩ := (h.later m).at_ j hj
  have h3 : (r.sign m).1.led[(r.reserve m).2.1]? = some m := by rw [sign_ring]; exact reserve_at (by rw [← sign_err]; exact he)
  have hs := RingM.reserve_secret r m
  refine ⟨fun e => ?_, fun e => ?_⟩
  · rw [e, h3] at h1
    injection h1 with h1
    refine ⟨h1.symm, ?_⟩
    rw [h2, e, ← h1, sign_bytes he, sign_ring]
    unfold RingM.sigB
    rw [hs.1, hs.2]
  · rw [e] at h1
    have hn := (sign_ok hr hm).2.2.1
    exact Option.some.inj ((posD_at hn h1).symm.trans (posD_at hn h3))
end Go.Proofs.Ytmpklplojfjfbaa
namespace Go.Proofs.Ytmpklplojfjfbaa
open Go.RowKit Go.Lib
def intsV (l : List Nat) : List Value := l.map fun (k : Nat) => .int .i64 (k : Int)
theorem intsV_len (l : List Nat) : (intsV l).length = l.length := by simp [intsV]
/-- Where a row lies. -/
def InG (G : Nat → Prop) (v : Value) : Prop := ∀ g, v.ownBlock = some g → G g
theorem InG.wide {G H : Nat → Prop} {v : Value} (h : InG G v) (hH : ∀ k, G k → H k) : InG H v := fun g hg => hH g (h g hg)
/-- Bytes of one's own. -/
def BytG (w : World) (C : Nat) (G : Nat → Prop) (v : Value) (s : List Nat) : Prop := w.ownsRow C 5 1 v s.length (bv s) ∧ InG G v
theorem BytG.kept {w w' : World} {C : Nat} {G : Nat → Prop} {v : Value} {s : List Nat} (h : BytG w C G v s) (hk : ∀ k, G k → w'.heap[k]? = w.heap[k]?) : BytG w' C G v s := ⟨own_keep h.1 (fun g hg => hk g (h.2 g hg)), h.2⟩
theorem BytG.wide {w : World} {C : Nat} {G H : Nat → Prop} {v : Value} {s : List Nat} (h : BytG w C G v s) (hH : ∀ k, G k → H k) : BytG w C H v s := ⟨h.1, h.2.wide hH⟩
/-- The rows of keys, signatures, messages. -/
structure RowsG (w : World) (C : Nat) (G : Nat → Prop) (vb vs vm : Value) (n : Nat) (us : List Value) (bs : List Nat) (ss : List (List Nat)) (ms : List D8) : Prop where
  b : w.ownsRow C 3 1 vb n (intsV bs)
  s : w.ownsRow C 32 1 vs n us
  m : w.ownsRow C 22 8 vm n (flatD ms)
  ls : ss.length = n
  each : ∀ k, k < n → BytG w C G (us.getD k undef) (ss.getD k [])
  ib : InG G vb
  is_ : InG G vs
  im : InG G vm
section
variable {w w' : World} {C : Nat} {G H : Nat → Prop} {vb vs vm : Value} {n : Nat} {us : List Value} {bs : List Nat} {ss : List (List Nat)} {ms : List D8}
theorem RowsG.nil (w : World) (C : Nat) (G : Nat → Prop) : RowsG w C G (.slice none 0 0) (.slice none 0 0) (.slice none 0 0) 0 [] [] [] [] :=
  ⟨World.ownsRow_nil _ _ _ _, World.ownsRow_nil _ _ _ _, World.ownsRow_nil _ _ _ _, rfl, fun k h => absurd h (by omega), fun g h => by simp [Value.ownBlock] at h, fun g h => by simp [Value.ownBlock] at h, fun g h => by simp [Value.ownBlock] at h⟩
theorem RowsG.kept (h : RowsG w C G vb vs vm n us bs ss ms) (hk : ∀ k, G k → w'.heap[k]? = w.heap[k]?) : RowsG w' C G vb vs vm n us bs ss ms :=
  ⟨own_keep h.b (fun g hg => hk g (h.ib g hg)), own_keep h.s (fun g hg => hk g (h.is_ g hg)), own_keep h.m (fun g hg => hk g (h.im g hg)), h.ls, fun k hk2 => (h.each k hk2).kept hk, h.ib, h.is_, h.im⟩
theorem RowsG.wide (h : RowsG w C G vb vs vm n us bs ss ms) (hH : ∀ k, G k → H k) : RowsG w C H vb vs vm n us bs ss ms :=
  ⟨h.b, h.s, h.m, h.ls, fun k hk => (h.each k hk).wide hH, h.ib.wide hH, h.is_.wide hH, h.im.wide hH⟩
theorem RowsG.lb (h : RowsG w C G vb vs vm n us bs ss ms) : bs.length = n := by have := h.b.1; rw [intsV_len] at this; omega
theorem RowsG.lu (h : RowsG w C G vb vs vm n us bs ss ms) : us.length = n := by have := h.s.1; omega
theorem RowsG.lm (h : RowsG w C G vb vs vm n us bs ss ms) : ms.length = n := by have := h.m.1; rw [flatD_len] at this; omega
end
/-- A ring, what was saved of it, and what it signed. -/
structure OnceAt (w : World) (C : Nat) (F G : Nat → Prop) (T0 T1 br : Nat) (r : RingM) (vv vb vs vm : Value) (n : Nat) (us : List Value) (bs : List Nat) (ss : List (List Nat)) (ms : List D8) : Prop where
  ring : Held w C F T0 T1 br r
  saved : BytG w C G vv (saveB r)
  rows : RowsG w C G vb vs vm n us bs ss ms
  rec_ : RecN r n bs ss ms
  apart : ∀ k, G k → ¬ foot F T0 T1 k
  lt : ∀ k, G k → C ≤ k ∧ k < w.heap.size
section
variable {w w' : World} {C : Nat} {F G : Nat → Prop} {T0 T1 br : Nat} {r : RingM} {vv vb vs vm : Value} {n : Nat} {us : List Value} {bs : List Nat} {ss : List (List Nat)} {ms : List D8}
theorem OnceAt.below (h : OnceAt w C F G T0 T1 br r vv vb vs vm n us bs ss ms) (hb : Below w.heap.size w w') : OnceAt w' C F G T0 T1 br r vv vb vs vm n us bs ss ms :=
  ⟨h.ring.below hb, h.saved.kept (fun k hk => hb.block k (h.lt k hk).2), h.rows.kept (fun k hk => hb.block k (h.lt k hk).2), h.rec_, h.apart, fun k hk => ⟨(h.lt k hk).1, Nat.lt_of_lt_of_le (h.lt k hk).2 hb.size⟩⟩
/-- Another ring of the same keys and ledger, made now. -/
theorem OnceAt.opened (h : OnceAt w C F G T0 T1 br r vv vb vs vm n us bs ss ms) (hb : Below w.heap.size w w') (hC : C ≤ w.heap.size) {F' : Nat → Prop} {S0 S1 bo : Nat} (ho : RingAt w' w.heap.size F' S0 S1 bo r) : OnceAt w' C F' G S0 S1 bo r vv vb vs vm n us bs ss ms := by
  obtain ⟨_, h2, h3, h4, _, h6⟩ := h.below hb
  exact ⟨held_new ho hC, h2, h3, h4, fun k hk hf => by have := (ho.foot_lt k hf).1; have := (h.lt k hk).2; omega, h6⟩
/-- The ring has signed, or has not: what else there is stays. -/
theorem OnceAt.signed (h : OnceAt w C F G T0 T1 br r vv vb vs vm n us bs ss ms) {M : Nat} (hc : Chg F w w') : RowsG w' C G vb vs vm n us bs ss ms ∧ BytG w' C G vv (saveB r) ∧ (∀ k, G k → ¬ foot (upto F w.heap.size M) T0 T1 k) ∧ (∀ k, G k → C ≤ k ∧ k < w'.heap.size) := by
  have hk : ∀ k, G k → w'.heap[k]? = w.heap[k]? := fun k hk => hc.block k (h.lt k hk).2 (fun hf => h.apart k hk (.inl hf))
  refine ⟨h.rows.kept hk, h.saved.kept hk, fun k hk2 => ?_, fun k hk2 => ⟨(h.lt k hk2).1, Nat.lt_of_lt_of_le (h.lt k hk2).2 hc.size⟩⟩
  rintro ((h1 | h1) | h1)
  · exact h.apart k hk2 (.inl h1)
  · have := (h.lt k hk2).2; omega
  · exact h.apart k hk2 (.inr h1)
end
end Go.Proofs.Ytmpklplojfjfbaa
namespace Go.Proofs.Ytmpklplojfjfbaa
open Go.RowKit Go.Lib
/-- What is of another type stays. -/
def Oth (e : TypeId) (x x' : World) : Prop := ∀ (g : Nat) (cs : Array Value) (e2 : TypeId) (fz : Nat × Nat), x.heap[g]? = some (.cells cs e2 fz) → e2 ≠ e → x'.heap[g]? = some (.cells cs e2 fz)
section
variable {x x' W : World} {C : Nat} {e e2 : TypeId} {sz n : Nat} {v s t : Value} {xs zs : List Value} {l0 l1 : Bool}
theorem Oth.of_below (hb : Below x.heap.size x x') : Oth e x x' := fun _ _ _ _ h _ => block_below h hb (block_lt h)
theorem Oth.of_grown (ho : x.ownsRow C e sz v n xs) (hg : x.grownBy x' v.ownBlock) : Oth e x x' := fun _ _ _ _ h hne => block_grown h hg (own_ne ho h (fun q => hne q.symm))
theorem Oth.own (h : Oth e x x') (ho : x.ownsRow C e2 sz v n xs) (hne : e2 ≠ e) : x'.ownsRow C e2 sz v n xs := by
  refine ⟨ho.1, ?_⟩
  rcases ho.2 with h1 | ⟨g, cap, cur, rfl, h1, h2, h3⟩
  · exact .inl h1
  · exact .inr ⟨g, cap, cur, rfl, h1, h _ _ _ _ h2 hne, h3⟩
/-- A row that is to grow by what is boxed first. -/
structure Trk (W x : World) (C : Nat) (e : TypeId) (sz : Nat) (v : Value) (n : Nat) (xs zs : List Value) (s t : Value) (l0 l1 : Bool) : Prop where
  box : l0 = true → l1 = false → ∃ g, s = .slice (some ⟨g, 0, none⟩) 1 1 ∧ x.heap[g]? = some (.cells zs.toArray e (0, 0))
  old : l1 = false → x.ownsRow C e sz v n xs
  new : l1 = true → x.ownsRow C e sz t (n + 1) (xs ++ zs) ∧ (t.ownBlock = v.ownBlock ∨ ∃ g, t.ownBlock = some g ∧ W.heap.size ≤ g)
theorem Trk.start (h : x.ownsRow C e sz v n xs) (hl0 : l0 = false) (hl1 : l1 = false) : Trk W x C e sz v n xs zs s t l0 l1 :=
  ⟨fun h0 => absurd (hl0.symm.trans h0) (by decide), fun _ => h, fun h1 => absurd (hl1.symm.trans h1) (by decide)⟩
theorem Trk.other {l0' l1' : Bool} (h : Trk W x C e sz v n xs zs s t l0 l1) (ho : Oth e2 x x') (hne : e ≠ e2) (h0 : l0' = l0) (h1 : l1' = l1) : Trk W x' C e sz v n xs zs s t l0' l1' := by
  subst h0; subst h1
  exact ⟨fun a b => by obtain ⟨g, h1, h2⟩ := h.box a b; exact ⟨g, h1, ho _ _ _ _ h2 hne⟩, fun a => ho.own (h.old a) hne, fun a => ⟨ho.own (h.new a).1 hne, (h.new a).2⟩⟩
theorem Trk.below {l0' l1' : Bool} (h : Trk W x C e sz v n xs zs s t l0 l1) (hb : Below x.heap.size x x') (h0 : l0' = l0) (h1 : l1' = l1) : Trk W x' C e sz v n xs zs s t l0' l1' := by
  subst h0; subst h1
  exact ⟨fun a b => by obtain ⟨g, h1, h2⟩ := h.box a b; exact ⟨g, h1, block_below h2 hb (block_lt h2)⟩, fun a => own_below (h.old a) hb, fun a => ⟨own_below (h.new a).1 hb, (h.new a).2⟩⟩
theorem Trk.boxed {l0' l1' : Bool} (h : Trk W x C e sz v n xs zs s t l0 l1) (h1 : l1' = l1) : Trk W (x.alloc (.cells zs.toArray e)) C e sz v n xs zs (.slice (some ⟨x.heap.size, 0, none⟩) 1 1) t l0' l1' := by
  subst h1
  have hb : Below x.heap.size x (x.alloc (.cells zs.toArray e)) := (Below.refl _ _).alloc (Nat.le_refl _) _
  exact ⟨fun _ _ => ⟨_, rfl, heap_alloc_new x _⟩, fun a => own_below (h.old a) hb, fun a => ⟨own_below (h.new a).1 hb, (h.new a).2⟩⟩
theorem Trk.grown {l0' l1' : Bool} {t' : Value} (ho : x'.ownsRow C e sz t' (n + 1) (xs ++ zs)) (hw : t'.ownBlock = v.ownBlock ∨ t'.ownBlock = some x.heap.size) (hW : W.heap.size ≤ x.heap.size) (h1 : l1' = true) : Trk W x' C e sz v n xs zs s t' l0' l1' := by
  subst h1
  exact ⟨fun _ b => absurd b (by decide), fun b => absurd b (by decide), fun _ => ⟨ho, hw.imp id (fun h => ⟨_, h, hW⟩)⟩⟩
theorem Trk.ask (h : Trk W x C e sz v n xs zs s t l0 l1) (h0 : l0 = true) (h1 : l1 = false) (hz : zs.length = sz) : ∃ g, s = .slice (some ⟨g, 0, none⟩) 1 1 ∧ Rd x x.heap.size sz (some ⟨g, 0, none⟩) 1 zs ∧ x.ownsRow C e sz v n xs := by
  obtain ⟨g, h2, h3⟩ := h.box h0 h1
  refine ⟨g, h2, ⟨by omega, fun _ => ⟨g, 0, rfl, block_lt h3, fun j u hu => ?_⟩⟩, h.old h1⟩
  rw [block_cell h3]
  simpa using hu
end
theorem set_ne {L : Array Bool} {i k : Nat} (h : i ≠ k) : (L.setIfInBounds i true).getD k false = L.getD k false := getD_set_ne false h
theorem set_at {L : Array Bool} {i : Nat} (h : L.getD i true = false) : (L.setIfInBounds i true).getD i false = true := by
  have hlt : i < L.size := by
    rcases Nat.lt_or_ge i L.size with h' | h'
    · exact h'
    · rw [Array.getD_eq_getD_getElem?, Array.getElem?_eq_none h'] at h; simp at h
  simp [hlt]
theorem yet {L : Array Bool} {i : Nat} (h : L.getD i true = false) : L.getD i false = false := by
  have hlt : i < L.size := by
    rcases Nat.lt_or_ge i L.size with h' | h'
    · exact h'
    · rw [Array.getD_eq_getD_getElem?, Array.getElem?_eq_none h'] at h; simp at h
  rw [← h]; exact getD_in hlt _ _
end Go.Proofs.Ytmpklplojfjfbaa
namespace Go.Proofs.Ytmpklplojfjfbaa
open Go.RowKit Go.Lib



/-- A name that is written last: what it holds. -/
def Rs (l0 l3 l12 : Bool) (v q q' : Value) : Prop := (l12 = true → l0 = true ∧ l3 = true ∧ q' = q) ∧ (l12 = false → q' = v)
section
variable {l0 l3 l12 l0' l3' l12' : Bool} {v q q' qn : Value}
theorem Rs.same (h : Rs l0 l3 l12 v q q') (h0 : l0' = l0) (h3 : l3' = l3) (h12 : l12' = l12) : Rs l0' l3' l12' v q q' := by subst h0; subst h3; subst h12; exact h
theorem Rs.old (h : Rs l0 l3 l12 v q q') (h0 : l0 = false) : q' = v := h.2 (by cases l12 with | false => rfl | true => have := (h.1 rfl).1; rw [h0] at this; cases this)
theorem Rs.first (h : Rs l0 l3 l12 v q q') (h0 : l0 = false) (h3 : l3' = l3) (h12 : l12' = l12) : Rs l0' l3' l12' v q q' := by
  subst h3; subst h12
  exact ⟨fun a => absurd ((h.1 a).1.symm.trans h0) (by decide), h.2⟩
theorem Rs.third (h : Rs l0 l3 l12 v q q') (h3 : l3 = false) (h0 : l0' = l0) (h12 : l12' = l12) : Rs l0' l3' l12' v qn q' := by
  subst h0; subst h12
  exact ⟨fun a => absurd ((h.1 a).2.1.symm.trans h3) (by decide), h.2⟩
theorem Rs.last (h0 : l0' = true) (h3 : l3' = true) (h12 : l12' = true) : Rs l0' l3' l12' v q q := by
  subst h0; subst h3; subst h12
  exact ⟨fun _ => ⟨rfl, rfl, rfl⟩, fun a => absurd a (by decide)⟩
theorem Rs.start (h12 : l12 = false) (h : q' = v) : Rs l0 l3 l12 v q q' := by
  subst h12
  exact ⟨fun a => absurd a (by decide), fun _ => h⟩
end
theorem chg_own {G : Nat → Prop} {x x' : World} {v : Value} (hg : x.grownBy x' v.ownBlock) (h : ∀ g, v.ownBlock = some g → G g) : Chg G x x' :=
  ⟨hg.os, hg.tape, hg.output, hg.size, fun k hk hf => hg.block k hk (fun e => hf (h k e.symm))⟩
theorem Trk.same {W x : World} {C : Nat} {e : TypeId} {sz n : Nat} {v s t : Value} {xs zs : List Value} {l0 l1 l0' l1' : Bool} (h : Trk W x C e sz v n xs zs s t l0 l1) (h0 : l0' = l0) (h1 : l1' = l1) : Trk W x C e sz v n xs zs s t l0' l1' := by subst h0; subst h1; exact h
def OnceI (W : World) (C : Nat) (G0 : Nat → Prop) (vb vs vm : Value) (n2 : Nat) (xb us xm : List Value) (kk : Nat) (sv : Value) (m : D8) (a0 : Act) (L : Array Bool) (a : Act) (x : World) : Prop :=
  ∃ q0 q1 q2 q3 q4 q5 q6 q7 q8 q9 q10 q11 q12 q13 q14 : Value, a = (((((((((((((((a0.put (some 143) q0).put (some 144) q1).put (some 145) q2).put (some 146) q3).put (some 147) q4).put (some 148) q5).put (some 149) q6).put (some 150) q7).put (some 151) q8).put (some 152) q9).put (some 153) q10).put (some 154) q11).put (some 12) q12).put (some 13) q13).put (some 14) q14) ∧ Chg G0 W x ∧
    (L.getD 0 false = true → q0 = vb) ∧
    (L.getD 1 false = true → q1 = .int .i64 (kk : Int)) ∧
    (L.getD 4 false = true → q4 = vs) ∧
    (L.getD 5 false = true → q5 = sv) ∧
    (L.getD 8 false = true → q8 = vm) ∧
    (L.getD 9 false = true → q9 = .agg #[.int .u8 (m.x0 : Int), .int .u8 (m.x1 : Int), .int .u8 (m.x2 : Int), .int .u8 (m.x3 : Int), .int .u8 (m.x4 : Int), .int .u8 (m.x5 : Int), .int .u8 (m.x6 : Int), .int .u8 (m.x7 : Int)]) ∧
    (Trk W x C 3 1 vb n2 xb [.int .i64 (kk : Int)] q2 q3 (L.getD 2 false) (L.getD 3 false)) ∧
    (Trk W x C 32 1 vs n2 us [sv] q6 q7 (L.getD 6 false) (L.getD 7 false)) ∧
    (Trk W x C 22 8 vm n2 xm m.cells q10 q11 (L.getD 10 false) (L.getD 11 false)) ∧
    (Rs (L.getD 0 false) (L.getD 3 false) (L.getD 12 false) vb q3 q12) ∧
    (Rs (L.getD 4 false) (L.getD 7 false) (L.getD 13 false) vs q7 q13) ∧
    (Rs (L.getD 8 false) (L.getD 11 false) (L.getD 14 false) vm q11 q14)
theorem onceI_mk {W : World} {C : Nat} {G0 : Nat → Prop} {vb vs vm : Value} {n2 : Nat} {xb us xm : List Value} {kk : Nat} {sv : Value} {m : D8} {a0 : Act} {L : Array Bool} {a : Act} {x : World} (q0 q1 q2 q3 q4 q5 q6 q7 q8 q9 q10 q11 q12 q13 q14 : Value) (h : a = (((((((((((((((a0.put (some 143) q0).put (some 144) q1).put (some 145) q2).put (some 146) q3).put (some 147) q4).put (some 148) q5).put (some 149) q6).put (some 150) q7).put (some 151) q8).put (some 152) q9).put (some 153) q10).put (some 154) q11).put (some 12) q12).put (some 13) q13).put (some 14) q14)) (hc : Chg G0 W x) (c0 : L.getD 0 false = true → q0 = vb) (c1 : L.getD 1 false = true → q1 = .int .i64 (kk : Int)) (c4 : L.getD 4 false = true → q4 = vs) (c5 : L.getD 5 false = true → q5 = sv) (c8 : L.getD 8 false = true → q8 = vm) (c9 : L.getD 9 false = true → q9 = .agg #[.int .u8 (m.x0 : Int), .int .u8 (m.x1 : Int), .int .u8 (m.x2 : Int), .int .u8 (m.x3 : Int), .int .u8 (m.x4 : Int), .int .u8 (m.x5 : Int), .int .u8 (m.x6 : Int), .int .u8 (m.x7 : Int)]) (d0 : Trk W x C 3 1 vb n2 xb [.int .i64 (kk : Int)] q2 q3 (L.getD 2 false) (L.getD 3 false)) (d1 : Trk W x C 32 1 vs n2 us [sv] q6 q7 (L.getD 6 false) (L.getD 7 false)) (d2 : Trk W x C 22 8 vm n2 xm m.cells q10 q11 (L.getD 10 false) (L.getD 11 false)) (r0 : Rs (L.getD 0 false) (L.getD 3 false) (L.getD 12 false) vb q3 q12) (r1 : Rs (L.getD 4 false) (L.getD 7 false) (L.getD 13 false) vs q7 q13) (r2 : Rs (L.getD 8 false) (L.getD 11 false) (L.getD 14 false) vm q11 q14) : OnceI W C G0 vb vs vm n2 xb us xm kk sv m a0 L a x :=
  ⟨q0, q1, q2, q3, q4, q5, q6, q7, q8, q9, q10, q11, q12, q13, q14, h, hc, c0, c1, c4, c5, c8, c9, d0, d1, d2, r0, r1, r2⟩
theorem info_I : (Try.prog.info? 3).map (fun i => (i.zero, i.size, i.bytes)) = some (some (.int .i64 0), 1, 8) := by kernel_rfl
theorem info_SB : (Try.prog.info? 32).map (fun i => (i.zero, i.size, i.bytes)) = some (some (.slice none 0 0), 1, 24) := by kernel_rfl
theorem info_8 : (Try.prog.info? 22).map (fun i => (i.zero, i.size, i.bytes)) = some (some (.agg #[.int .u8 0, .int .u8 0, .int .u8 0, .int .u8 0, .int .u8 0, .int .u8 0, .int .u8 0, .int .u8 0]), 8, 8) := by kernel_rfl
end Go.Proofs.Ytmpklplojfjfbaa
namespace Go.Proofs.Ytmpklplojfjfbaa
open Go.RowKit Go.Lib
theorem own_from {w : World} {B C sz n : Nat} {e : TypeId} {v : Value} {xs : List Value} (h : w.ownsRow B e sz v n xs) (hC : C ≤ B) : w.ownsRow C e sz v n xs := by
  refine ⟨h.1, ?_⟩
  rcases h.2 with h5 | ⟨g, cap, cur, e1, hb, hg, hr⟩
  · exact .inl h5
  · exact .inr ⟨g, cap, cur, e1, Nat.le_trans hC hb, hg, hr⟩
/-- The blocks of the three rows. -/
def Three (vb vs vm : Value) : Nat → Prop := fun g => vb.ownBlock = some g ∨ vs.ownBlock = some g ∨ vm.ownBlock = some g
theorem once_start {w w' : World} {C B : Nat} {F : Nat → Prop} {T0 T1 br ns : Nat} {r : RingM} {v : Value} (ha : RingAt w B F T0 T1 br r) (hCB : C ≤ B) (hC : C ≤ w.heap.size) (ho : w'.ownsRow w.heap.size 5 1 v ns (bv (saveB r))) (hn : ns = (saveB r).length) (hb : Below w.heap.size w w') :
    OnceAt w' C F (fun k => w.heap.size ≤ k ∧ k < w'.heap.size) T0 T1 br r v (.slice none 0 0) (.slice none 0 0) (.slice none 0 0) 0 [] [] [] [] := by
  subst hn
  refine ⟨⟨B, hCB, ha.below hb⟩, ⟨own_from ho hC, fun g hg => ho.lt g hg⟩, RowsG.nil _ _ _, RecN.nil r, fun k hk hf => ?_, fun k hk => ⟨Nat.le_trans hC hk.1, hk.2⟩⟩
  have := (ha.foot_lt k hf).2
  omega
theorem once_next {u5 u6 W x : World} {C M : Nat} {F2 G : Nat → Prop} {T0 T1 br : Nat} {r2 : RingM} {vv2 vb vs vm vsig t0 t1 t2 : Value} {n nv ng : Nat} {us : List Value} {bs : List Nat} {ss : List (List Nat)} {ms : List D8} {k : Nat} {sg : List Nat} {m : D8}
    (rows : RowsG u6 C G vb vs vm n us bs ss ms) (hap : ∀ k, G k → ¬ foot F2 T0 T1 k) (lt5 : ∀ k, G k → C ≤ k ∧ k < u5.heap.size) (h56 : u5.heap.size ≤ M) (hM : M ≤ u6.heap.size) (hC : C ≤ M)
    (ring : Held u6 C F2 T0 T1 br r2) (hfoot : ∀ k, foot F2 T0 T1 k → k < M)
    (osig : u6.ownsRow M 5 1 vsig ng (bv sg)) (hng : ng = sg.length) (hb : Below u6.heap.size u6 W) (osav : W.ownsRow u6.heap.size 5 1 vv2 nv (bv (saveB r2))) (hnv : nv = (saveB r2).length)
    (hc : Chg (Three vb vs vm) W x)
    (o0 : x.ownsRow C 3 1 t0 (n + 1) (intsV bs ++ [.int .i64 (k : Int)])) (w0 : t0.ownBlock = vb.ownBlock ∨ ∃ g, t0.ownBlock = some g ∧ W.heap.size ≤ g)
    (o1 : x.ownsRow C 32 1 t1 (n + 1) (us ++ [vsig])) (w1 : t1.ownBlock = vs.ownBlock ∨ ∃ g, t1.ownBlock = some g ∧ W.heap.size ≤ g)
    (o2 : x.ownsRow C 22 8 t2 (n + 1) (flatD ms ++ m.cells)) (w2 : t2.ownBlock = vm.ownBlock ∨ ∃ g, t2.ownBlock = some g ∧ W.heap.size ≤ g)
    (hrec : RecN r2 (n + 1) (bs ++ [k]) (ss ++ [sg]) (ms ++ [m])) :
    OnceAt x C F2 (fun g => G g ∨ (M ≤ g ∧ g < x.heap.size)) T0 T1 br r2 vv2 t0 t1 t2 (n + 1) (us ++ [vsig]) (bs ++ [k]) (ss ++ [sg]) (ms ++ [m]) := by
  subst hng; subst hnv
  have hs6 := hb.size; have hsx := hc.size
  have h3G : ∀ g, Three vb vs vm g → G g := by
    rintro g (h | h | h)
    · exact rows.ib g h
    · exact rows.is_ g h
    · exact rows.im g h
  have h3M : ∀ g, Three vb vs vm g → g < M := fun g h => by have := (lt5 g (h3G g h)).2; omega
  have rowsW : RowsG W C G vb vs vm n us bs ss ms := rows.kept (fun k hk => hb.block k (by have := (lt5 k hk).2; omega))
  have h3u : ∀ {C2 n2 : Nat} {v : Value} {xs : List Value} (g : Nat), W.ownsRow C2 5 1 v n2 xs → v.ownBlock = some g → ¬ Three vb vs vm g := by
    intro C2 n2 v xs g ho hg h3
    rcases ho.2 with ⟨rfl, _⟩ | ⟨g', cap, cur, rfl, _, hgg, _⟩
    · simp [Value.ownBlock] at hg
    · simp only [Value.ownBlock, Option.some.injEq] at hg
      subst hg
      rcases h3 with h | h | h
      · exact own_ne rowsW.b hgg (by decide) h.symm
      · exact own_ne rowsW.s hgg (by decide) h.symm
      · exact own_ne rowsW.m hgg (by decide) h.symm
  have keepU : ∀ {C2 n2 : Nat} {v : Value} {xs : List Value}, W.ownsRow C2 5 1 v n2 xs → x.ownsRow C2 5 1 v n2 xs := fun {C2 n2 v xs} ho => own_keep ho (fun g hg => hc.block g (ho.lt g hg).2 (h3u g ho hg))
  have osigW : W.ownsRow M 5 1 vsig sg.length (bv sg) := own_below osig hb
  have newG : ∀ {C2 n2 sz : Nat} {e : TypeId} {v v2 : Value} {xs : List Value}, x.ownsRow C2 e sz v2 n2 xs → (v2.ownBlock = v.ownBlock ∨ ∃ g, v2.ownBlock = some g ∧ W.heap.size ≤ g) → InG G v → InG (fun g => G g ∨ (M ≤ g ∧ g < x.heap.size)) v2 := by
    intro C2 n2 sz e v v2 xs ho hw hv g hg
    rcases hw with hw | ⟨g2, hw, hl⟩
    · exact .inl (hv g (hw ▸ hg))
    · obtain rfl : g2 = g := by rw [hw] at hg; exact Option.some.inj hg
      exact .inr ⟨by omega, (ho.lt g2 hg).2⟩
  refine ⟨(ring.below hb).other hc (fun g hg => hap g (h3G g hg)), ⟨own_from (keepU osav) (by omega), fun g hg => .inr ⟨by have := (osav.lt g hg).1; omega, by have := (osav.lt g hg).2; omega⟩⟩, ?_, hrec, ?_, ?_⟩
  · refine ⟨by rw [show intsV (bs ++ [k]) = intsV bs ++ [.int .i64 (k : Int)] from by simp [intsV]]; exact o0, o1, by rw [flatD_append, show flatD [m] = m.cells from by simp [flatD]]; exact o2, by simp [rows.ls], fun j hj => ?_, newG o0 w0 rows.ib, newG o1 w1 rows.is_, newG o2 w2 rows.im⟩
    rw [getD_last rowsW.lu hj, getD_last rows.ls hj]
    by_cases hjn : j = n
    · rw [if_pos hjn, if_pos hjn]
      exact ⟨own_from (keepU osigW) hC, fun g hg => .inr ⟨(osig.lt g hg).1, by have := (osigW.lt g hg).2; omega⟩⟩
    · rw [if_neg hjn, if_neg hjn]
      obtain ⟨h1, h2⟩ := rowsW.each j (by omega)
      exact ⟨keepU h1, h2.wide (fun g hg => .inl hg)⟩
  · rintro g (hg | hg) hf
    · exact hap g hg hf
    · have := hfoot g hf; omega
  · rintro g (hg | hg)
    · have := lt5 g hg; omega
    · omega
end Go.Proofs.Ytmpklplojfjfbaa
