/- Bytes, opened. Condition: the row's own. Books that go on from others, outcomes that both players signed, the example's heights, plainly. No program in it, so there is no condition. The names of a way's near and far locks differ, for all stakes and numbers of hops that the law asks of: looked through one by one. No condition. A way that all agree on and all show, plainly. No program in it, so there is no condition. An outcome that both players sign, shown at all locks, plainly; what all have then. No program in it, so there is no condition. What all have in the end, of what they had, plainly. No program in it, so there is no condition. -/
import Derived.Test.YthhiookcknnmdaaGreatJoinUaa
import Derived.Test.YthhiookcknnmdaaGreatJoinUaj
import Derived.Test.YthhiookcknnmdaaGreatJoinUai
namespace Go.Proofs.YthhiookcknnmdaaGreat
open Go.ChangeShapes Go.WideShapes Go.ChangeAt Go.RowKit Go.Joins Go.Deep
set_option maxRecDepth 100000 in
theorem open_octetsW {H : Type} {enc : TypeId × Value → H} {W : World} {base : Nat} {v : Value} {d : DataW H} {p : List MemPlace} (a0 : Value.okWide Tryz.prog W .any base 46 v) (h0 : DataW.Trod enc Tryz.prog W 0 (fun _ => true) true 46 v d p) :
  ∃ (L : Option Addr) (m c : Nat) (l : List Nat), v = .slice L m c ∧ Rd W W.heap.size 1 L m (bv l) ∧ ∀ x ∈ l, x < 256 := by
 obtain ⟨A, n, c, rfl⟩ := okWide_slice Tryz.underlying46 a0
 obtain ⟨fuel, hf⟩ := h0
 obtain ⟨A', m, c', l, e, hr, hc, hm, hg⟩ := bytes_of_cells Tryz.underlying46 hf
 simp [Value.cells] at e
 obtain ⟨rfl, rfl, rfl⟩ := e
 exact ⟨_, _, _, l, rfl, hr, hg⟩
end Go.Proofs.YthhiookcknnmdaaGreat
namespace Go.Proofs.YthhiookcknnmdaaGreat
def Ext (L L' : List En) : Prop := ∀ x i, posE L x = some i → posE L' x = some i
theorem Ext.refl (L : List En) : Ext L L := fun _ _ h => h
theorem Ext.trans {A B C : List En} (h : Ext A B) (g : Ext B C) : Ext A C := fun x i e => g x i (h x i e)
theorem signE_ext (L : List En) (e : En) : Ext L (signE L e).1 := fun x i h => by
 unfold signE
 cases hp : posE L e with
 | some j => exact h
 | none =>
  simp only
  unfold posE at h ⊢
  rw [List.findIdx?_append, h]
  rfl
theorem verS_ext {L L' : List En} (h : Ext L L') {e : En} {s : List Nat} (hv : verS L e s = true) : verS L' e s = true := by
 unfold verS at hv ⊢
 cases hp : posE L e with
 | none => rw [hp] at hv; cases hv
 | some i => rw [hp] at hv; rw [h _ _ hp]; exact hv
def Good (L : List En) (p : Pl) (o : Ou) : Prop :=
 o.pays.length = (p.lock 0 0).ks.length ∧ o.pays.all rgt = true ∧ (o.sigs.length = (p.lock 0 0).ks.length ∧ allE L (payD (p.lock 0 0).hs o.pays) (p.lock 0 0).ks o.sigs = true)
theorem pays_nn {l : List Int} (h : l.all rgt = true) (i : Nat) : 0 ≤ l.getD i 0 := by
 rw [List.getD_eq_getElem?_getD]
 cases e : l[i]? with
 | none => exact Int.le_refl 0
 | some v =>
  have hv := List.mem_of_getElem? e
  rw [List.all_eq_true] at h
  have := h v hv
  unfold rgt at this
  simp only [Bool.and_eq_true, decide_eq_true_eq] at this
  exact this.1
theorem bgPl_nr {n a b i : Nat} (hi : i < n) : (bgPl n a b).un i 0 = (100 : Int) + ((n : Int) - (i : Int)) * 10 := by
 show ((List.range ((bgKs n).length - 1)).map _).getD i 0 = _
 rw [bgKs_len, Nat.add_sub_cancel, List.getD_eq_getElem?_getD, List.getElem?_map, List.getElem?_range hi]
 rfl
theorem bgPl_fr {n a b i : Nat} (hi : i < n) : (bgPl n a b).un i 1 = (100 : Int) + ((i : Int) + 1) * 10 := by
 show ((List.range ((bgKs n).length - 1)).map _).getD i 0 = _
 rw [bgKs_len, Nat.add_sub_cancel, List.getD_eq_getElem?_getD, List.getElem?_map, List.getElem?_range hi]
 rfl
section
variable {y : Wy}
theorem agree_is {L : List En} {party : Int} {s : List Nat} (h : y.agreeI L party s = 0) : (y.agree L party s).2 = { y with ag := y.ag.set party.toNat true } := by unfold Wy.agree; rw [if_pos h]
theorem agree_no {L : List En} {party : Int} {s : List Nat} (h : y.agreeI L party s ≠ 0) : (y.agree L party s).2 = y := by unfold Wy.agree; rw [if_neg h]
end
theorem ag_len_agree (y : Wy) (M : List En) (q : Int) (s : List Nat) : (y.agree M q s).2.ag.length = y.ag.length := by
 by_cases e : y.agreeI M q s = 0
 ·rw [agree_is e]; show (y.ag.set _ _).length = _; rw [List.length_set]
 ·rw [agree_no e]
theorem bgPs_no {a b : Nat} {hv : List Nat} {n i : Nat} (hi : i < n) : ((bgPs a b hv n).getD i default).no ≤ 1000 := by
 rw [bgPs_getD hi]
 show (0 : Int) ≤ 1000
 decide
def nmF (n : Nat) (k cp : Int) : D8 := (Lk.mk 1 tabD [keyD 0, keyD n] k cp 0).name
def num3 (d : D8) : Nat := d.x0 + 256 * (d.x1 + 256 * d.x2)
def nmC (n : Nat) (k : Int) (c : Nat) : List Nat := (List.range 64).map fun (a : Nat) => num3 (nmF n k (1 + ((c * 64 + a : Nat) : Int)))
def apart (A B : List Nat) : Bool := A.all fun a => B.all fun b => !(Nat.beq a b)
theorem nm_mem {n : Nat} {k : Int} {l0 l1 l2 l3 : List Nat} (h0 : nmC n k 0 = l0) (h1 : nmC n k 1 = l1) (h2 : nmC n k 2 = l2) (h3 : nmC n k 3 = l3) {a : Nat} (ha : a < 256) : num3 (nmF n k (1 + (a : Int))) ∈ l0 ++ l1 ++ l2 ++ l3 := by
 have hm : ∀ c, c * 64 ≤ a → a < c * 64 + 64 → num3 (nmF n k (1 + (a : Int))) ∈ nmC n k c := fun c g1 g2 =>
  List.mem_map.2 ⟨a - c * 64, by rw [List.mem_range]; omega, by rw [show c * 64 + (a - c * 64) = a by omega]⟩
 simp only [List.mem_append]
 rcases (show a < 64 ∨ (64 ≤ a ∧ a < 128) ∨ (128 ≤ a ∧ a < 192) ∨ 192 ≤ a by omega) with g | g | g | g
 ·exact .inl (.inl (.inl (h0 ▸ hm 0 (by omega) (by omega))))
 ·exact .inl (.inl (.inr (h1 ▸ hm 1 (by omega) (by omega))))
 ·exact .inl (.inr (h2 ▸ hm 2 (by omega) (by omega)))
 ·exact .inr (h3 ▸ hm 3 (by omega) (by omega))
theorem nm_apart {A B : List Nat} (h : apart A B = true) {d e : D8} (hd : num3 d ∈ A) (he : num3 e ∈ B) : d ≠ e := fun c => by
 unfold apart at h
 rw [List.all_eq_true] at h
 have h1 := h _ hd
 rw [List.all_eq_true] at h1
 have h2 := h1 _ he
 rw [c] at h2
 simp at h2
theorem bgPl_nm {n a b : Nat} : (bgPl n a b).nm 0 = nmF n 0 (1 + (a : Int)) ∧ (bgPl n a b).nm 1 = nmF n 1 (1 + (b : Int)) := by
 have e0 : (bgPl n a b).ks.getD 0 dz8 = keyD 0 := bgKs_getD (by omega)
 have e1 : (bgPl n a b).ks.getD ((bgPl n a b).ks.length - 1) dz8 = keyD n := by
  have : (bgPl n a b).ks.length - 1 = n := by show (bgKs n).length - 1 = n; rw [bgKs_len]; omega
  rw [this]
  exact bgKs_getD (Nat.le_refl _)
 have h : ∀ k : Int, (bgPl n a b).nm k = nmF n k ((bgPl n a b).st k) := fun k => by
  unfold Pl.nm Pl.lock
  rw [e0, e1]
  rfl
 exact ⟨h 0, h 1⟩
theorem signE_posU (L : List En) (e : En) : posE (signE L e).1 e = some (signE L e).2 := by
 unfold signE
 cases h : posE L e with
 | some i => exact h
 | none =>
  simp only
  have h' : List.findIdx? (fun x => sameEn x e) L = none := h
  have hs : sameEn e e = true := sameEn_iff.2 rfl
  unfold posE
  rw [List.findIdx?_append, h']
  simp [List.findIdx?_cons, hs]
theorem ver_own (L : List En) (e : En) : verS (signE L e).1 e (sigL (signE L e).2) = true := by
 unfold verS
 rw [signE_posU]
 simp
structure EndP (p : Pl) (Ps : List Pu) (n : Nat) : Prop where
 n1 : 1 ≤ n
 n4 : n ≤ 4
 len : Ps.length = n
 kl : p.ks.length = n + 1
 ks : ∀ i, i ≤ n → p.ks.getD i dz8 = keyD i
 ne : p.nm 0 ≠ p.nm 1
 tb : p.tb = tabD
 u0 : ∀ i, i < n → p.un i 0 = (100 : Int) + ((n : Int) - (i : Int)) * 10
 u1 : ∀ i, i < n → p.un i 1 = (100 : Int) + ((i : Int) + 1) * 10
 ck : ∀ i k, i < n → k = 0 ∨ k = 1 → (p.lock i k).check = 0
 no : ∀ i, i < n → (Ps.getD i default).no ≤ 1000
 s0 : 1 ≤ p.s0 ∧ p.s0 ≤ 256
 s1 : 1 ≤ p.s1 ∧ p.s1 ≤ 256
 h0 : ∀ i, i < n → p.s0 ≤ (Ps.getD i default).h0 ∧ (Ps.getD i default).h0 ≤ 1000
 h1 : ∀ i, i < n → p.s1 ≤ (Ps.getD i default).h1 ∧ (Ps.getD i default).h1 ≤ 1000
structure LckI (p : Pl) (Ps : List Pu) (n h : Nat) (y : Wy) : Prop where
 inv : WInv p Ps y
 at_ : ∀ (i : Nat) (k : Int), k = 0 ∨ k = 1 → i < n → y.atI i k = if i < h then 1 else 0
 ag : y.ag = List.replicate (n + 1) false
section
variable {p : Pl} {Ps : List Pu} {n h : Nat} {y : Wy} {L : List En}
theorem LckI.begin (hp : EndP p Ps n) (hi : WInv p Ps (Wy.begin p Ps)) : LckI p Ps n 0 (Wy.begin p Ps) :=
 ⟨hi, fun i k _ _ => by simp [Wy.begin, Wy.atI, alGet], by show List.replicate p.ks.length false = _; rw [hp.kl]⟩
theorem LckI.step (hy : LckI p Ps n h y) (hp : EndP p Ps n) (hh : h < n) : (y.lockI h (1 + (h : Int))).1 = 0 ∧ LckI p Ps n (h + 1) (y.lock h (1 + (h : Int))).2 := by
 have hl : h < Ps.length := by rw [hp.len]; exact hh
 have h4 := hp.n4
 have z0 := hy.at_ h 0 (.inl rfl) hh
 have z1 := hy.at_ h 1 (.inr rfl) hh
 rw [if_neg (by omega)] at z0 z1
 have hih : y.isHop (h : Int) = true := by rw [hy.inv.isHop]; simp; omega
 have hx := hy.inv.hop h hl
 rw [z0, z1] at hx
 have hun0 := hp.u0 h hh; have hun1 := hp.u1 h hh
 have hA := hp.h0 h hh; have hB := hp.h1 h hh
 have hs0 := hp.s0; have hs1 := hp.s1
 have hho := hx.holds (hp.no h hh) hp.ne ⟨hs0.1, hA.1⟩ ⟨hs1.1, hB.1⟩ (by rw [hun0]; unfold far; simp; omega) (by rw [hun1]; unfold far; simp; omega) ⟨by omega, by omega⟩
 have hbe : y.behind (h : Int) = false := by
  unfold Wy.behind
  rw [Int.toNat_natCast, List.any_eq_false]
  intro i hi
  rw [List.mem_range] at hi
  have := hy.at_ i 0 (.inl rfl) (by omega)
  rw [if_pos hi] at this
  rw [this]; decide
 have e : (y.lockI h (1 + (h : Int))).1 = 0 := by
  refine Wy.lockI_iff.2 ⟨hih, by unfold far; simp; omega, ⟨z0, z1⟩, hbe, ⟨?_, ?_⟩, ?_, ?_⟩
  ·rw [hy.inv.pl, Int.toNat_natCast]
   have : p.un h 0 = p.nr.getD h 0 := rfl
   omega
  ·rw [hy.inv.pl, Int.toNat_natCast]
   have : p.un h 1 = p.fr.getD h 0 := rfl
   omega
  ·unfold Wy.hold0
   rw [hy.inv.pl, Int.toNat_natCast]; exact hho.1
  ·unfold Wy.hold1 Wy.hold0
   rw [hy.inv.pl, Int.toNat_natCast]; exact hho.2
 refine ⟨e, hy.inv.lock _ _, fun i k hk hi => ?_, by rw [ag_lock]; exact hy.ag⟩
 rw [atI_lock e]
 by_cases c : i = h
 ·subst c
  rw [if_pos ⟨rfl, hk⟩, if_pos (by omega)]
 ·rw [if_neg (fun d => c (by omega)), hy.at_ i k hk hi]
  by_cases d : i < h
  ·rw [if_pos d, if_pos (by omega)]
  ·rw [if_neg d, if_neg (by omega)]
end
structure AgrI (p : Pl) (Ps : List Pu) (n q : Nat) (y : Wy) : Prop where
 inv : WInv p Ps y
 at_ : ∀ (i : Nat) (k : Int), k = 0 ∨ k = 1 → i < n → y.atI i k = 1
 al : y.ag.length = n + 1
 ag : ∀ i, i ≤ n → y.ag.getD i false = decide (i < q)
section
variable {p : Pl} {Ps : List Pu} {n q : Nat} {y : Wy} {L : List En}
theorem AgrI.of (hy : LckI p Ps n n y) : AgrI p Ps n 0 y :=
 ⟨hy.inv, fun i k hk hi => by rw [hy.at_ i k hk hi, if_pos hi], by rw [hy.ag]; simp, fun i hi => by
  rw [hy.ag, List.getD_eq_getElem?_getD, List.getElem?_replicate, decide_eq_false (by omega), if_pos (by omega)]; rfl⟩
theorem AgrI.ready (hy : AgrI p Ps n q y) : y.ready = decide (n < q) := by
 unfold Wy.ready
 by_cases c : n < q
 ·rw [decide_eq_true c, List.all_eq_true]
  intro x hx
  obtain ⟨i, hi, rfl⟩ := List.mem_iff_getElem.1 hx
  have hal := hy.al
  have := hy.ag i (by omega)
  rw [decide_eq_true (by omega), List.getD_eq_getElem?_getD, List.getElem?_eq_getElem hi] at this
  exact this
 ·rw [decide_eq_false c, List.all_eq_false]
  have hal := hy.al
  refine ⟨y.ag.getD n false, ?_, ?_⟩
  ·rw [List.getD_eq_getElem?_getD, List.getElem?_eq_getElem (by omega)]
   exact List.getElem_mem _
  ·rw [hy.ag n (Nat.le_refl _), decide_eq_false c]; simp
theorem AgrI.step (hy : AgrI p Ps n q y) (hp : EndP p Ps n) (hq : q ≤ n) : (lawAgree y L q).1 = 0 ∧ AgrI p Ps n (q + 1) (lawAgree y L q).2.1 := by
 have hal := hy.al
 have e : y.agreeI (signE L ⟨keyD q, y.pl.digest⟩).1 q (sigL (signE L ⟨keyD q, y.pl.digest⟩).2) = 0 := by
  unfold Wy.agreeI
  rw [if_pos ⟨by omega, by omega⟩, Int.toNat_natCast, hy.ag q hq, decide_eq_false (by omega), if_neg (by decide), hy.inv.pl, hp.ks q hq, if_pos (ver_own _ _)]
 refine ⟨?_, ?_⟩
 ·show (y.agree _ _ _).1 = 0
  rw [agree_one]; exact e
 ·show AgrI p Ps n (q + 1) (y.agree _ _ _).2
  refine ⟨hy.inv.agree _ _ _, fun i k hk hi => by rw [atI_agree]; exact hy.at_ i k hk hi, by rw [ag_len_agree]; exact hal, fun i hi => ?_⟩
  rw [agree_is e]
  show (y.ag.set (q : Int).toNat true).getD i false = _
  rw [Int.toNat_natCast, List.getD_eq_getElem?_getD, List.getElem?_set]
  by_cases c : q = i
  ·subst c
   rw [if_pos rfl, if_pos (by omega), decide_eq_true (by omega)]; rfl
  ·rw [if_neg c, ← List.getD_eq_getElem?_getD, hy.ag i hi]
   by_cases d : i < q
   ·rw [decide_eq_true d, decide_eq_true (by omega)]
   ·rw [decide_eq_false d, decide_eq_false (by omega)]
end
theorem open_ok {p : Pl} {Ps : List Pu} {y : Wy} {L : List En} {o : Ou} {u : Nat} {k now : Int} (hinv : WInv p Ps y) (hk : k = 0 ∨ k = 1) (hu : u < Ps.length) (hck : (p.lock u k).check = 0) (hf : far now = true) (hn : now ≤ p.un u k) (hno : (Ps.getD u default).no ≤ 1000) (hs0 : 0 ≤ p.s0) (hs1 : 0 ≤ p.s1) (hU : y.atI u k = 1) (hr : y.ready = true) (hg : Good L p o) :
  (y.openI L u k now o).1 = 0 := by
 have hih : y.isHop (u : Int) = true := by rw [hinv.isHop]; simp; omega
 have his : y.isSpot (u : Int) k = true := by unfold Wy.isSpot; rw [hih]; rcases hk with rfl | rfl <;> rfl
 have hop := open_if (L := L) (l := p.lock u k) (now := now) (o := o) hck hn hg.1 hg.2.1 hg.2.2
 have hopn : y.opn L u k now o = (max 0 (p.st k - o.pays.getD k.toNat 0), 0) := by
  unfold Wy.opn
  rw [hinv.pl, Int.toNat_natCast, hop]
  rfl
 have hnn := pays_nn hg.2.1 k.toNat
 have hfre : (y.fre L u k now o).1 = 0 := by
  unfold Wy.fre
  rw [hopn, hinv.pl, Int.toNat_natCast, Pl.lock_nm]
  have hx := hinv.hop u hu
  rcases hk with rfl | rfl
  ·rw [hU] at hx
   have e0 : p.st 0 = p.s0 := rfl
   exact hx.frees0 hno (by simp only; omega) (by simp only; omega)
  ·rw [hU] at hx
   have e0 : p.st 1 = p.s1 := rfl
   exact hx.frees1 hno (by simp only; omega) (by simp only; omega)
 exact Wy.openI_iff.2 ⟨his, hf, hU, hr, by rw [hopn], hfre⟩
theorem outD_good {p : Pl} {Ps : List Pu} {n : Nat} (hp : EndP p Ps n) (L : List En) {a b : Int} (ha : 0 ≤ a ∧ a ≤ 1000) (hb : 0 ≤ b ∧ b ≤ 1000) : Good (outD L (n + 1) a b).2 p (outD L (n + 1) a b).1 := by
 have hks : (p.lock 0 0).ks = [keyD 0, keyD n] := by
  unfold Pl.lock
  rw [hp.kl, Nat.add_sub_cancel, hp.ks 0 (by omega), hp.ks n (Nat.le_refl _)]
 have hhs : (p.lock 0 0).hs = tabD := hp.tb
 have hn1 := hp.n1
 unfold Good
 rw [hks, hhs]
 refine ⟨rfl, ?_, rfl, ?_⟩
 ·show [a, b].all rgt = true
  simp [rgt]; omega
 ·show allE (outS L (payD tabD [a, b]) (n + 1) 2).1 (payD tabD [a, b]) [keyD 0, keyD n] (outS L (payD tabD [a, b]) (n + 1) 2).2 = true
  generalize payD tabD [a, b] = d
  have v0 := ver_own L ⟨keyD 0, d⟩
  have v1 := ver_own (signE L ⟨keyD 0, d⟩).1 ⟨keyD n, d⟩
  have v2 := verS_ext (signE_ext (signE L ⟨keyD 0, d⟩).1 ⟨keyD n, d⟩) v0
  have e : outS L d (n + 1) 2 = ((signE (signE L ⟨keyD 0, d⟩).1 ⟨keyD n, d⟩).1, [sigL (signE L ⟨keyD 0, d⟩).2, sigL (signE (signE L ⟨keyD 0, d⟩).1 ⟨keyD n, d⟩).2]) := rfl
  rw [e]
  unfold allE
  rw [List.all_eq_true]
  intro i hi
  have hi2 : i = 0 ∨ i = 1 := by simp at hi; omega
  rcases hi2 with rfl | rfl
  ·unfold lacksE
   simp [v2]
  ·unfold lacksE
   simp [v1]
def opd (n turn i idx : Nat) : Bool := (List.range i).any fun m => (m + turn) % (2 * n) == idx
theorem opd_iff {n turn i idx : Nat} : opd n turn i idx = true ↔ ∃ m, m < i ∧ (m + turn) % (2 * n) = idx := by
 unfold opd
 rw [List.any_eq_true]
 constructor
 ·rintro ⟨m, h1, h2⟩; exact ⟨m, List.mem_range.1 h1, by simpa using h2⟩
 ·rintro ⟨m, h1, h2⟩; exact ⟨m, List.mem_range.2 h1, by simpa using h2⟩
theorem opd_new {n turn i : Nat} (h1 : 1 ≤ n) (h4 : n ≤ 4) (hi : i < 2 * n) : opd n turn i ((i + turn) % (2 * n)) = false := by
 cases e : opd n turn i ((i + turn) % (2 * n)) with
 | false => rfl
 | true =>
  obtain ⟨m, hm, hx⟩ := opd_iff.1 e
  rcases (show n = 1 ∨ n = 2 ∨ n = 3 ∨ n = 4 by omega) with rfl | rfl | rfl | rfl <;> omega
theorem opd_all {n turn idx : Nat} (h1 : 1 ≤ n) (h4 : n ≤ 4) (hi : idx < 2 * n) : opd n turn (2 * n) idx = true := by
 refine opd_iff.2 ⟨(idx + 2 * n - turn % (2 * n)) % (2 * n), Nat.mod_lt _ (by omega), ?_⟩
 rcases (show n = 1 ∨ n = 2 ∨ n = 3 ∨ n = 4 by omega) with rfl | rfl | rfl | rfl <;> omega
theorem opd_succ {n turn i idx : Nat} : opd n turn (i + 1) idx = (opd n turn i idx || (i + turn) % (2 * n) == idx) := by
 unfold opd; rw [List.range_succ, List.any_append]; simp
structure OpnI (p : Pl) (Ps : List Pu) (n : Nat) (o : Ou) (turn i : Nat) (y : Wy) : Prop where
 inv : WInv p Ps y
 rdy : y.ready = true
 at_ : ∀ (j k : Nat), j < n → k < 2 → y.atI j k = if opd n turn i (2 * j + k) = true then 2 else 1
 by_ : ∀ (j k : Nat), j < n → k < 2 → opd n turn i (2 * j + k) = true → y.byI j k = o
section
variable {p : Pl} {Ps : List Pu} {n : Nat} {o : Ou} {turn i : Nat} {y : Wy} {L : List En}
theorem OpnI.of (hy : AgrI p Ps n (n + 1) y) : OpnI p Ps n o turn 0 y :=
 ⟨hy.inv, by rw [hy.ready]; simp, fun j k hj hk => by
  have := hy.at_ j k (by omega) hj
  rw [this, if_neg (by simp [opd])], fun j k _ _ h => by simp [opd] at h⟩
theorem OpnI.step (hy : OpnI p Ps n o turn i y) (hp : EndP p Ps n) (hi : i < 2 * n) (hg : Good L p o) :
  (y.openI L (((i + turn) % (2 * n) / 2 : Nat) : Int) (((i + turn) % (2 * n) % 2 : Nat) : Int) 100 o).1 = 0 ∧ OpnI p Ps n o turn (i + 1) (y.open_ L (((i + turn) % (2 * n) / 2 : Nat) : Int) (((i + turn) % (2 * n) % 2 : Nat) : Int) 100 o).2 := by
 have h1 := hp.n1; have h4 := hp.n4
 have hnew := opd_new (turn := turn) h1 h4 hi
 have hlt := Nat.mod_lt (i + turn) (show 0 < 2 * n by omega)
 have hsu : ∀ idx, opd n turn (i + 1) idx = (opd n turn i idx || (i + turn) % (2 * n) == idx) := fun idx => opd_succ
 generalize (i + turn) % (2 * n) = idx at *
 obtain ⟨j, hj⟩ : ∃ j, idx / 2 = j := ⟨_, rfl⟩
 obtain ⟨k, hk⟩ : ∃ k, idx % 2 = k := ⟨_, rfl⟩
 have hjn : j < n := by omega
 have hk2 : k < 2 := by omega
 have hid : idx = 2 * j + k := by omega
 rw [hj, hk]
 have hU := hy.at_ j k hjn hk2
 rw [← hid, hnew, if_neg (by decide)] at hU
 have hkk : (k : Int) = 0 ∨ (k : Int) = 1 := by omega
 have hun : (100 : Int) ≤ p.un j k := by
  rcases hkk with e | e
  ·rw [e, hp.u0 j hjn]; omega
  ·rw [e, hp.u1 j hjn]; omega
 have e := open_ok hy.inv hkk (by rw [hp.len]; exact hjn) (hp.ck j k hjn hkk) (by decide) hun (hp.no j hjn) (by have := hp.s0; omega) (by have := hp.s1; omega) hU hy.rdy hg
 refine ⟨e, hy.inv.open_ _ _ _ _ _, by unfold Wy.ready; rw [ag_open]; exact hy.rdy, fun j' k' hj' hk' => ?_, fun j' k' hj' hk' h => ?_⟩
 ·rw [atI_open e, hsu]
  by_cases c : idx = 2 * j' + k'
  ·have c1 : j' = j := by omega
   have c2 : k' = k := by omega
   subst c1 c2
   rw [if_pos ⟨rfl, rfl⟩, if_pos (by simp [c])]
  ·rw [if_neg (fun d => c (by omega)), hy.at_ j' k' hj' hk']
   have : (idx == 2 * j' + k') = false := by simpa using c
   rw [this, Bool.or_false]
 ·rw [hsu] at h
  rw [byI_open e]
  by_cases c : idx = 2 * j' + k'
  ·have c1 : j' = j := by omega
   have c2 : k' = k := by omega
   subst c1 c2
   rw [if_pos ⟨rfl, rfl⟩]
  ·rw [if_neg (fun d => c (by omega))]
   have : (idx == 2 * j' + k') = false := by simpa using c
   rw [this, Bool.or_false] at h
   exact hy.by_ j' k' hj' hk' h
theorem OpnI.worth (hy : OpnI p Ps n o turn (2 * n) y) (hp : EndP p Ps n) {j : Nat} (hj : j ≤ n) : y.worth (j : Int) =
  (if j < n then (Ps.getD j default).h0 - max 0 (p.s0 - o.pays.getD 0 0) + max 0 (p.s1 - o.pays.getD 1 0) else 0) + (if 0 < j then (Ps.getD (j - 1) default).h1 + max 0 (p.s0 - o.pays.getD 0 0) - max 0 (p.s1 - o.pays.getD 1 0) else 0) := by
 have h1 := hp.n1; have h4 := hp.n4
 have hd : ∀ i, i < n → y.d0 i = max 0 (p.s0 - o.pays.getD 0 0) ∧ y.d1 i = max 0 (p.s1 - o.pays.getD 1 0) := fun i hi => by
  have a0 := hy.at_ i 0 hi (by omega)
  have a1 := hy.at_ i 1 hi (by omega)
  rw [opd_all h1 h4 (by omega), if_pos rfl] at a0 a1
  have b0 := hy.by_ i 0 hi (by omega) (opd_all h1 h4 (by omega))
  have b1 := hy.by_ i 1 hi (by omega) (opd_all h1 h4 (by omega))
  constructor
  ·unfold Wy.d0 dlt
   rw [hy.inv.pl]
   rw [show y.atI i 0 = 2 from a0, if_pos rfl, show y.byI i 0 = o from b0]
  ·unfold Wy.d1 dlt
   rw [hy.inv.pl]
   rw [show y.atI i 1 = 2 from a1, if_pos rfl, show y.byI i 1 = o from b1]
 rw [hy.inv.worth (by rw [hp.len]; exact hj), hp.len]
 congr 1
 ·by_cases c : j < n
  ·rw [if_pos c, if_pos c, (hd j c).1, (hd j c).2]
  ·rw [if_neg c, if_neg c]
 ·by_cases c : 0 < j
  ·rw [if_pos c, if_pos c, (hd (j - 1) (by omega)).1, (hd (j - 1) (by omega)).2]
  ·rw [if_neg c, if_neg c]
end
section
variable {p : Pl} {Ps : List Pu} {n : Nat} {o : Ou} {turn : Nat} {y y0 : Wy}
theorem LckI.worth0 (hy : LckI p Ps n 0 y) (hp : EndP p Ps n) {j : Nat} (hj : j ≤ n) : y.worth (j : Int) = (if j < n then (Ps.getD j default).h0 else 0) + (if 0 < j then (Ps.getD (j - 1) default).h1 else 0) := by
 have hd : ∀ i : Nat, i < n → y.d0 i = 0 ∧ y.d1 i = 0 := fun i hi => by
  have a0 := hy.at_ i 0 (Or.inl rfl) hi
  have a1 := hy.at_ i 1 (Or.inr rfl) hi
  rw [if_neg (by omega)] at a0 a1
  constructor
  ·unfold Wy.d0 dlt
   rw [a0, if_neg (by decide)]
  ·unfold Wy.d1 dlt
   rw [a1, if_neg (by decide)]
 rw [hy.inv.worth (by rw [hp.len]; exact hj), hp.len]
 congr 1
 ·by_cases c : j < n
  ·rw [if_pos c, if_pos c, (hd j c).1, (hd j c).2]; omega
  ·rw [if_neg c, if_neg c]
 ·by_cases c : 0 < j
  ·rw [if_pos c, if_pos c, (hd (j - 1) (by omega)).1, (hd (j - 1) (by omega)).2]; omega
  ·rw [if_neg c, if_neg c]
theorem LckI.worth0_in (hy : LckI p Ps n 0 y) (hp : EndP p Ps n) {j : Nat} (hj : j ≤ n) : 0 ≤ y.worth (j : Int) ∧ y.worth (j : Int) ≤ 2000 := by
 rw [hy.worth0 hp hj]
 have h1 := hp.s0; have h2 := hp.s1
 have e0 : 0 ≤ (if j < n then (Ps.getD j default).h0 else 0) ∧ (if j < n then (Ps.getD j default).h0 else 0) ≤ 1000 := by
  by_cases c : j < n
  ·rw [if_pos c]; have := hp.h0 j c; omega
  ·rw [if_neg c]; omega
 have e1 : 0 ≤ (if 0 < j then (Ps.getD (j - 1) default).h1 else 0) ∧ (if 0 < j then (Ps.getD (j - 1) default).h1 else 0) ≤ 1000 := by
  by_cases c : 0 < j
  ·rw [if_pos c]; have := hp.h1 (j - 1) (by omega); omega
  ·rw [if_neg c]; omega
 omega
theorem OpnI.end_worth (hy : OpnI p Ps n o turn (2 * n) y) (hp : EndP p Ps n) (h0 : LckI p Ps n 0 y0) {am : Int} (hpay : o.pays = [am, p.s0 + p.s1 - am]) {j : Nat} (hj : j ≤ n) :
  y.worth (j : Int) = y0.worth (j : Int) + (if j = 0 then am - p.s0 else if j = n then p.s0 + p.s1 - am - p.s1 else 0) := by
 rw [hy.worth hp hj, h0.worth0 hp hj, hpay]
 have e0 : [am, p.s0 + p.s1 - am].getD 0 0 = am := rfl
 have e1 : [am, p.s0 + p.s1 - am].getD 1 0 = p.s0 + p.s1 - am := rfl
 rw [e0, e1]
 have h1 := hp.n1
 by_cases c : j = 0
 ·subst c
  have c1 : (0 : Nat) < n := h1
  have c2 : ¬ ((0 : Nat) < 0) := by omega
  rw [if_pos c1, if_pos c1, if_neg c2, if_neg c2, if_pos rfl]; omega
 ·have c2 : 0 < j := by omega
  by_cases d : j = n
  ·have c1 : ¬ (j < n) := by omega
   rw [if_neg c1, if_neg c1, if_pos c2, if_pos c2, if_neg c, if_pos d]; omega
  ·have c1 : j < n := by omega
   rw [if_pos c1, if_pos c1, if_pos c2, if_pos c2, if_neg c, if_neg d]; omega
end
end Go.Proofs.YthhiookcknnmdaaGreat
