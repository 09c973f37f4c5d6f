/- Plain laws of what is gathered; a signature taken out of a row, a mark set in a row. Nothing of the program stands in it but its tables, so there is no condition. -/
import Derived.Test.YtepdinfopcohiaaNpD
namespace Go.Proofs.Ytepdinfopcohiaa
open Go.RowKit Go.Lib
theorem signE_pos (L : List En) (e : En) : posE (signE L e).1 e = some (signE L e).2 := by
  unfold signE
  cases h : posE L e with
  | some i => exact h
  | none =>
    simp only
    have h' : List.findIdx? (fun x => sameEn x e) L = none := h
    have hs : sameEn e e = true := sameEn_iff.2 rfl
    unfold posE
    rw [List.findIdx?_append, h']
    simp [List.findIdx?_cons, hs]
theorem signE_keeps (L : List En) (e x : En) {i : Nat} (h : posE L x = some i) : posE (signE L e).1 x = some i := by
  unfold signE
  cases hp : posE L e with
  | some j => exact h
  | none =>
    simp only
    unfold posE at h ⊢
    rw [List.findIdx?_append, h]
    rfl
theorem gatB_keeps (L : List En) (m : D8) (ks : List D8) (x : En) {i : Nat} : ∀ d j, j + d ≤ ks.length → posE (gatB L m (ks.take j)) x = some i → posE (gatB L m (ks.take (j + d))) x = some i := by
  intro d
  induction d with
  | zero => intro j _ h; exact h
  | succ d ih =>
    intro j hj h
    have := ih j (by omega) h
    rw [show j + (d + 1) = (j + d) + 1 from by omega, gatB_snoc L m ks (by omega)]
    exact signE_keeps _ _ _ this
theorem gat_ver (L : List En) (m : D8) (ks : List D8) {i : Nat} (hi : i < ks.length) : verS (gatB L m ks) ⟨ks.getD i ⟨0, 0, 0, 0, 0, 0, 0, 0⟩, m⟩ (gatS L m ks i) = true := by
  have h1 := signE_pos (gatB L m (ks.take i)) ⟨ks.getD i ⟨0, 0, 0, 0, 0, 0, 0, 0⟩, m⟩
  rw [← gatB_snoc L m ks hi] at h1
  have h2 := gatB_keeps L m ks ⟨ks.getD i ⟨0, 0, 0, 0, 0, 0, 0, 0⟩, m⟩ (ks.length - (i + 1)) (i + 1) (by omega) h1
  rw [show i + 1 + (ks.length - (i + 1)) = ks.length from by omega, List.take_length] at h2
  unfold verS
  rw [h2]
  simp [gatS]
theorem gatSs_len (L : List En) (m : D8) (ks : List D8) (k : Nat) : (gatSs L m ks k).length = k := by simp [gatSs]
theorem gatSs_at (L : List En) (m : D8) (ks : List D8) {k i : Nat} (h : i < k) : (gatSs L m ks k).getD i [] = gatS L m ks i := by
  simp [gatSs, List.getD_eq_getElem?_getD, h]
theorem gatS_ok (L : List En) (m : D8) (ks : List D8) (k : Nat) : ∀ s ∈ gatSs L m ks k, s.length ≤ 1000 ∧ ∀ x ∈ s, x < 256 := by
  intro s hs
  obtain ⟨i, _, rfl⟩ := List.mem_map.1 hs
  exact ⟨by simp [gatS, sigL], sigL_lt _⟩
theorem miss_none {p : Nat → Bool} {k : Nat} (h : ∀ i, i < k → p i = false) : missTo p k = [] := by
  unfold missTo
  rw [List.filter_eq_nil_iff]
  intro i hi
  have := h i (List.mem_range.1 hi)
  simp [this]
theorem miss_some {p : Nat → Bool} {k i : Nat} (hi : i < k) (h : p i = true) : (missTo p k).length ≠ 0 := by
  unfold missTo
  intro h0
  have h1 := List.eq_nil_of_length_eq_zero h0
  rw [List.filter_eq_nil_iff] at h1
  exact absurd h (h1 i (List.mem_range.2 hi))
/-- All gathered: none lacks. -/
theorem gat_all (m : D8) (ks : List D8) (fs : List Bool) (n : Nat) (hn : ks.length = n) : missTo (lacksE (gatB [] m ks) m ks (gatSs [] m ks n) fs) n = [] := by
  refine miss_none fun i hi => ?_
  unfold lacksE
  rw [gatSs_len, gatSs_at _ _ _ hi, gat_ver _ _ _ (by omega), decide_eq_false (by omega)]
  simp
/-- One taken out lacks, unless it is free. -/
theorem gat_out (m : D8) (ks : List D8) (fs : List Bool) (n k : Nat) (hn : ks.length = n) (hk : k < n) (hf : fs.getD k false = false) : (missTo (lacksE (gatB [] m ks) m ks ((gatSs [] m ks n).set k []) fs) n).length ≠ 0 := by
  refine miss_some hk ?_
  unfold lacksE
  have h1 : ((gatSs [] m ks n).set k []).getD k [] = [] := by
    simp [List.getD_eq_getElem?_getD, gatSs_len, hk]
  rw [h1, verS_bad (by simp), hf]
  simp
theorem gat_free (m : D8) (ks : List D8) (n k : Nat) (hn : ks.length = n) (hk : k < n) : missTo (lacksE (gatB [] m ks) m ks ((gatSs [] m ks n).set k []) ((List.replicate n false).set k true)) n = [] := by
  refine miss_none fun i hi => ?_
  unfold lacksE
  by_cases hik : i = k
  · subst hik
    have : ((List.replicate n false).set i true).getD i false = true := by simp [List.getD_eq_getElem?_getD, hk]
    rw [this]; rfl
  · have h1 : ((gatSs [] m ks n).set k []).getD i [] = gatS [] m ks i := by
      rw [← gatSs_at [] m ks hi]
      simp [List.getD_eq_getElem?_getD, Ne.symm hik]
    rw [h1, gat_ver _ _ _ (by omega), List.length_set, gatSs_len, decide_eq_false (by omega)]
    simp
theorem SigOwn.set {w : World} {C n c : Nat} {A : Option Addr} {ss : List (List Nat)} (h : SigOwn w C (.slice A n c) n ss) {k : Nat} (hk : k < n) :
    ∃ g u, A = some ⟨g, 0, none⟩ ∧ C ≤ g ∧ g < w.heap.size ∧ w.cell? ⟨g, k, none⟩ = some u ∧ (∀ j, w.frozen? ⟨g, j, none⟩ = false) ∧ SigRd (w.setCell ⟨g, k, none⟩ (.slice none 0 0)) (w.setCell ⟨g, k, none⟩ (.slice none 0 0)).heap.size A n (ss.set k []) ∧ GT C 37 w (w.setCell ⟨g, k, none⟩ (.slice none 0 0)) := by
  obtain ⟨vs, ho, hl, hv⟩ := h
  have hvl : vs.length = n := by have := ho.1; omega
  rcases ho.2 with ⟨_, h1⟩ | ⟨g, cap, cur, h0, h1, h2, h3, h4, h5, h6⟩
  · omega
  · injection h0 with h0 _ _
    subst h0
    have hc : w.cell? ⟨g, k, none⟩ = some (vs.getD k undef) := by
      rw [block_cell h2]
      have hkv : k < vs.length := by omega
      have : (cur.toList.take (n * 1))[k]? = vs[k]? := by rw [h6]
      rw [List.getElem?_take, if_pos (by omega)] at this
      rw [← Array.getElem?_toList, this, List.getElem?_eq_getElem hkv, List.getD_eq_getElem?_getD, List.getElem?_eq_getElem hkv]; rfl
    have hg : GT C 37 w (w.setCell ⟨g, k, none⟩ (.slice none 0 0)) := ⟨some g, grown_set g k _, fun q hq => by injection hq with hq; subst hq; exact ⟨h1, cur, (0, 0), h2⟩⟩
    have hsz : w.heap.size ≤ (w.setCell ⟨g, k, none⟩ (.slice none 0 0)).heap.size := by obtain ⟨_, a, _⟩ := hg; exact a.size
    refine ⟨g, _, rfl, h1, block_lt h2, hc, fun j => block_free h2 j, ?_, hg⟩
    refine ⟨by simp [hl], fun hn => ⟨g, 0, rfl, Nat.lt_of_lt_of_le (block_lt h2) hsz, fun j hj => ?_⟩⟩
    by_cases hjk : j = k
    · subst hjk
      refine ⟨none, 0, 0, ?_, ?_⟩
      · rw [Nat.zero_add, block_cell (Joins.block_setCell (i := j) h2 (.slice none 0 0))]
        have hjs : j < cur.size := by
          have := block_cell h2 j
          rw [hc] at this
          exact (Array.getElem?_eq_some_iff.1 this.symm).1
        simp [hjs]
      · have : (ss.set j []).getD j [] = [] := by simp [List.getD_eq_getElem?_getD, hl, hk]
        rw [this]
        exact Rd.empty
    · obtain ⟨g2, c2, cs2, fz2, e1, e2, e3, e4⟩ := (hv j hj).kept hg (by decide)
      have e5 : (ss.set k []).getD j [] = ss.getD j [] := by simp [List.getD_eq_getElem?_getD, Ne.symm hjk]
      rw [e5]
      refine ⟨some ⟨g2, 0, none⟩, (ss.getD j []).length, c2, ?_, ⟨by simp [bvN_len], fun _ => ⟨g2, 0, rfl, block_lt e3, fun i u hu => ?_⟩⟩⟩
      · rw [Nat.zero_add, World.cell?_setCell_other w ⟨g, k, none⟩ ⟨g, j, none⟩ _ (by intro e; injection e with _ e; first | exact hjk e | exact hjk e.symm), block_cell h2]
        have hjv : j < vs.length := by omega
        have : (cur.toList.take (n * 1))[j]? = vs[j]? := by rw [h6]
        rw [List.getElem?_take, if_pos (by omega)] at this
        rw [← Array.getElem?_toList, this, List.getElem?_eq_getElem hjv, ← e1, List.getD_eq_getElem?_getD, List.getElem?_eq_getElem hjv]; rfl
      · rw [block_cell e3]
        simpa using e4 i u hu
theorem boolOwn_set {w : World} {C n c : Nat} {A : Option Addr} {fs : List Bool} (ho : w.ownsRow C 4 1 (.slice A n c) n (bvB fs)) {k : Nat} (hk : k < n) :
    ∃ g u, A = some ⟨g, 0, none⟩ ∧ C ≤ g ∧ g < w.heap.size ∧ w.cell? ⟨g, k, none⟩ = some u ∧ (∀ j, w.frozen? ⟨g, j, none⟩ = false) ∧ Rd (w.setCell ⟨g, k, none⟩ (.bool true)) (w.setCell ⟨g, k, none⟩ (.bool true)).heap.size 1 A n (bvB (fs.set k true)) ∧ GT C 4 w (w.setCell ⟨g, k, none⟩ (.bool true)) := by
  have hvl : fs.length = n := by have := ho.1; simp [bvB] at this; omega
  rcases ho.2 with ⟨_, h1⟩ | ⟨g, cap, cur, h0, h1, h2, h3, h4, h5, h6⟩
  · omega
  · injection h0 with h0 _ _
    subst h0
    have hcj : ∀ j, j < n → w.cell? ⟨g, j, none⟩ = some (.bool (fs.getD j false)) := by
      intro j hj
      rw [block_cell h2]
      have : (cur.toList.take (n * 1))[j]? = (bvB fs)[j]? := by rw [h6]
      rw [List.getElem?_take, if_pos (by omega)] at this
      have hjl : j < fs.length := by omega
      rw [← Array.getElem?_toList, this]
      simp [bvB, hjl, List.getD_eq_getElem?_getD]
    have hg : GT C 4 w (w.setCell ⟨g, k, none⟩ (.bool true)) := ⟨some g, grown_set g k _, fun q hq => by injection hq with hq; subst hq; exact ⟨h1, cur, (0, 0), h2⟩⟩
    have hsz : w.heap.size ≤ (w.setCell ⟨g, k, none⟩ (.bool true)).heap.size := by obtain ⟨_, a, _⟩ := hg; exact a.size
    refine ⟨g, _, rfl, h1, block_lt h2, hcj k hk, fun j => block_free h2 j, ⟨by simp [bvB, hvl], fun hn => ⟨g, 0, rfl, Nat.lt_of_lt_of_le (block_lt h2) hsz, fun j u hu => ?_⟩⟩, hg⟩
    have hj : j < n := by
      have := (List.getElem?_eq_some_iff.1 hu).1
      simp [bvB] at this; omega
    have hjl : j < fs.length := by omega
    by_cases hjk : j = k
    · subst hjk
      rw [Nat.zero_add, block_cell (Joins.block_setCell (i := j) h2 (.bool true))]
      have hjs : j < cur.size := by
        have := block_cell h2 j
        rw [hcj j hj] at this
        exact (Array.getElem?_eq_some_iff.1 this.symm).1
      simp [bvB, hjl] at hu
      simp [hjs, hu]
    · rw [Nat.zero_add, World.cell?_setCell_other w ⟨g, k, none⟩ ⟨g, j, none⟩ _ (by intro e; injection e with _ e; exact hjk e.symm), hcj j hj]
      simp [bvB, hjl, Ne.symm hjk] at hu
      simp [← hu, hjl, List.getD_eq_getElem?_getD]
end Go.Proofs.Ytepdinfopcohiaa
