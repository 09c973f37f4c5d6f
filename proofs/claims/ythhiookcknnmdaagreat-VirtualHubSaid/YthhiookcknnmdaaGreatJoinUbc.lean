/- What holds as long as one party does not agree, plainly. No program in it, so there is no condition. -/
import Derived.Test.YthhiookcknnmdaaGreatJoinUbb
namespace Go.Proofs.YthhiookcknnmdaaGreat
theorem signE_atB (L : List En) (e : En) : (signE L e).1[(signE L e).2]? = some e := by
 unfold signE
 split
 ·rename_i i h; exact posE_some h
 ·simp
theorem ver_key {L : List En} {K K' m : D8} (hl : L.length < 60000) (h : verS (signE L ⟨K, m⟩).1 ⟨K', m⟩ (sigL (signE L ⟨K, m⟩).2) = true) : K' = K := by
 unfold verS at h
 have h2 := signE_atB L ⟨K, m⟩
 have hb := signE_len L ⟨K, m⟩
 have hn := (List.getElem?_eq_some_iff.1 h2).1
 cases hp : posE (signE L ⟨K, m⟩).1 ⟨K', m⟩ with
 | none => rw [hp] at h; simp at h
 | some i =>
  rw [hp] at h
  have h3 := of_decide_eq_true h
  have h1 := posE_some hp
  have hi := (List.getElem?_eq_some_iff.1 h1).1
  have e := (sigL_inj (by omega) (by omega)).1 h3
  rw [e, h1] at h2
  injection h2 with h2
  exact congrArg En.key h2
theorem keyD_inj {i j : Nat} (h : keyD i = byD j) : 30 + i = j := congrArg D8.x0 h
structure ShyI (p : Pl) (Ps : List Pu) (shy : Nat) (y : Wy) : Prop where
 inv : WInv p Ps y
 ag : y.ag.getD shy false = false
 al : shy < y.ag.length
 no2 : ∀ i k, y.atI i k ≠ 2
section
variable {p : Pl} {Ps : List Pu} {shy : Nat} {y : Wy}
theorem ShyI.ready (h : ShyI p Ps shy y) : y.ready = false := by
 unfold Wy.ready
 rw [List.all_eq_false]
 refine ⟨y.ag.getD shy false, ?_, by rw [h.ag]; simp⟩
 rw [List.getD_eq_getElem?_getD, List.getElem?_eq_getElem h.al]
 exact List.getElem_mem h.al
theorem ShyI.begin (h : WInv p Ps (Wy.begin p Ps)) (hs : shy < p.ks.length) : ShyI p Ps shy (Wy.begin p Ps) :=
 ⟨h, by simp [Wy.begin, List.getD_eq_getElem?_getD, hs], by simp [Wy.begin, hs], fun i k => by simp [Wy.begin, Wy.atI, alGet]⟩
theorem agree_is {L : List En} {party : Int} {s : List Nat} (h : y.agreeI L party s = 0) : (y.agree L party s).2 = { y with ag := y.ag.set party.toNat true } := by unfold Wy.agree; rw [if_pos h]
theorem agree_no {L : List En} {party : Int} {s : List Nat} (h : y.agreeI L party s ≠ 0) : (y.agree L party s).2 = y := by unfold Wy.agree; rw [if_neg h]
theorem agreeI_yes {L : List En} {party : Int} {s : List Nat} (h : y.agreeI L party s = 0) : 0 ≤ party ∧ verS L ⟨y.pl.ks.getD party.toNat dz8, y.pl.digest⟩ s = true := by
 unfold Wy.agreeI at h
 split at h
 ·rename_i h1
  split at h
  ·exact absurd h (by decide)
  ·split at h
   ·rename_i h3; exact ⟨h1.1, h3⟩
   ·exact absurd h (by decide)
 ·exact absurd h (by decide)
theorem ShyI.act (h : ShyI p Ps shy y) (hks : p.ks.getD shy dz8 = keyD shy) (hshy : shy ≤ 4) {L : List En} (hL : L.length < 50000) (x : Ac) (now : Int) :
  ((x.w % 4 = 1 ∧ x.party = (shy : Int) ∧ (lawDo y L x now).1 = 0) ∧ x.bad = false) ∨
  (¬ (x.w % 4 = 1 ∧ x.party = (shy : Int) ∧ (lawDo y L x now).1 = 0) ∧ ¬ (x.w % 4 = 2 ∧ (lawDo y L x now).1 = 0) ∧ ShyI p Ps shy (lawDo y L x now).2.1) := by
 have hinv := h.inv.act L x now
 unfold lawDo at hinv ⊢
 by_cases h0 : x.w % 4 = 0
 ·rw [if_pos h0] at hinv ⊢
  refine .inr ⟨fun c => by omega, fun c => by omega, hinv, ?_, ?_, ?_⟩
  ·show (y.lock x.hop now).2.ag.getD shy false = false
   rw [ag_lock]; exact h.ag
  ·show shy < (y.lock x.hop now).2.ag.length
   rw [ag_lock]; exact h.al
  ·intro i k
   show (y.lock x.hop now).2.atI i k ≠ 2
   by_cases e : (y.lockI x.hop now).1 = 0
   ·rw [atI_lock e]
    split
    ·decide
    ·exact h.no2 i k
   ·rw [lock_no e]; exact h.no2 i k
 ·rw [if_neg h0] at hinv ⊢
  by_cases h1 : x.w % 4 = 1
  ·rw [if_pos h1] at hinv ⊢
   by_cases e : y.agreeI (sgA y L x).1 x.party (sigL (sgA y L x).2) = 0
   ·obtain ⟨g0, g1⟩ := agreeI_yes e
    by_cases hp : x.party = (shy : Int)
    ·refine .inl ⟨⟨h1, hp, e⟩, ?_⟩
     have hk := ver_key (by omega) g1
     rw [hp, h.inv.pl] at hk
     have hk2 := keyD_inj (hks.symm.trans hk)
     have hb := x.kb_in.1
     cases hbad : x.bad with
     | false => rfl
     | true =>
      exfalso
      unfold Ac.who at hb
      rw [hbad, hp, if_pos rfl, wrapI_id (by omega) (by omega)] at hb
      omega
    ·refine .inr ⟨fun c => hp c.2.1, fun c => by omega, hinv, ?_, ?_, ?_⟩
     ·show (y.agree (sgA y L x).1 x.party (sigL (sgA y L x).2)).2.ag.getD shy false = false
      rw [agree_is e]
      show (y.ag.set x.party.toNat true).getD shy false = false
      rw [List.getD_eq_getElem?_getD, List.getElem?_set_ne (by omega), ← List.getD_eq_getElem?_getD]
      exact h.ag
     ·show shy < (y.agree (sgA y L x).1 x.party (sigL (sgA y L x).2)).2.ag.length
      rw [agree_is e]
      show shy < (y.ag.set x.party.toNat true).length
      rw [List.length_set]; exact h.al
     ·intro i k
      show (y.agree (sgA y L x).1 x.party (sigL (sgA y L x).2)).2.atI i k ≠ 2
      rw [atI_agree]; exact h.no2 i k
   ·refine .inr ⟨fun c => e c.2.2, fun c => by omega, ?_⟩
    show ShyI p Ps shy (y.agree (sgA y L x).1 x.party (sigL (sgA y L x).2)).2
    rw [agree_no e]; exact h
  ·rw [if_neg h1] at hinv ⊢
   by_cases h2 : x.w % 4 = 2
   ·rw [if_pos h2] at hinv ⊢
    have e : (y.openI (outA L y.pl.ks.length x).2 x.hop x.wh now (outA L y.pl.ks.length x).1).1 ≠ 0 := fun e => by
     have := (Wy.openI_iff.1 e).2.2.2.1
     rw [h.ready] at this; cases this
    refine .inr ⟨fun c => h1 c.1, fun c => e c.2, ?_⟩
    show ShyI p Ps shy (y.open_ (outA L y.pl.ks.length x).2 x.hop x.wh now (outA L y.pl.ks.length x).1).2
    rw [open_no e]; exact h
   ·rw [if_neg h2] at hinv ⊢
    refine .inr ⟨fun c => h1 c.1, fun c => h2 c.1, hinv, ?_, ?_, ?_⟩
    ·show (y.back x.hop x.wh now).2.ag.getD shy false = false
     rw [ag_back]; exact h.ag
    ·show shy < (y.back x.hop x.wh now).2.ag.length
     rw [ag_back]; exact h.al
    ·intro i k
     show (y.back x.hop x.wh now).2.atI i k ≠ 2
     by_cases e : (y.backI x.hop x.wh now).1 = 0
     ·rw [atI_back e]
      split
      ·decide
      ·exact h.no2 i k
     ·rw [back_no_ e]; exact h.no2 i k
theorem ShyI.backE (h : ShyI p Ps shy y) {i : Nat} (hi : i < Ps.length) {k : Int} (hk : k = 0 ∨ k = 1) (hno : (Ps.getD i default).no ≤ 1000) {now : Int} (hf : far now = true) (hun : p.un i k < now) :
  (y.backI i k now).1 = if y.atI i k = 1 then 0 else 10 := by
 have hih : y.isHop (i : Int) = true := by rw [h.inv.isHop]; simp; omega
 have his : y.isSpot (i : Int) k = true := by unfold Wy.isSpot; rw [hih]; rcases hk with rfl | rfl <;> rfl
 unfold Wy.backI
 rw [if_pos his, if_pos hf]
 by_cases e : y.atI i k = 1
 ·rw [if_pos e, if_pos e, h.inv.pl, Int.toNat_natCast, Pl.lock_nm]
  have hop := h.inv.hop i hi
  rcases hk with rfl | rfl
  ·rw [e] at hop
   rw [hop.backs0 hno, if_neg (by omega)]
  ·rw [e] at hop
   rw [hop.backs1 hno, if_neg (by omega)]
 ·rw [if_neg e, if_neg e]
theorem ShyI.back (h : ShyI p Ps shy y) (hop wh now : Int) : ShyI p Ps shy (y.back hop wh now).2 :=
 ⟨h.inv.back hop wh now, by rw [ag_back]; exact h.ag, by rw [ag_back]; exact h.al, fun i k => by
  by_cases e : (y.backI hop wh now).1 = 0
  ·rw [atI_back e]
   split
   ·decide
   ·exact h.no2 i k
  ·rw [back_no_ e]; exact h.no2 i k⟩
theorem ShyI.backS (h : ShyI p Ps shy y) {i : Nat} (hi : i < Ps.length) {k : Int} (hk : k = 0 ∨ k = 1) (hno : (Ps.getD i default).no ≤ 1000) {now : Int} (hf : far now = true) (hun : p.un i k < now) :
  (y.back i k now).2.atI i k ≠ 1 ∧ ∀ j, (j ≠ k → (y.back i k now).2.atI i j = y.atI i j) := by
 have he := h.backE hi hk hno hf hun
 by_cases e : y.atI i k = 1
 ·rw [if_pos e] at he
  refine ⟨by rw [atI_back he, if_pos ⟨rfl, rfl⟩]; decide, fun j hj => by rw [atI_back he, if_neg (fun c => hj c.2)]⟩
 ·rw [if_neg e] at he
  rw [back_no_ (by rw [he]; decide)]
  exact ⟨e, fun _ _ => rfl⟩
end
theorem bgPl_un {n a b : Nat} (h4 : n ≤ 4) {i : Nat} (hi : i < n) {k : Int} (hk : k = 0 ∨ k = 1) : (bgPl n a b).un i k < 1000 := by
 have e0 : (bgPl n a b).un i 0 = (100 : Int) + ((n : Int) - (i : Int)) * 10 := by
  show ((List.range ((bgKs n).length - 1)).map _).getD i 0 = _
  rw [bgKs_len, Nat.add_sub_cancel, List.getD_eq_getElem?_getD, List.getElem?_map, List.getElem?_range hi]
  rfl
 have e1 : (bgPl n a b).un i 1 = (100 : Int) + ((i : Int) + 1) * 10 := by
  show ((List.range ((bgKs n).length - 1)).map _).getD i 0 = _
  rw [bgKs_len, Nat.add_sub_cancel, List.getD_eq_getElem?_getD, List.getElem?_map, List.getElem?_range hi]
  rfl
 rcases hk with rfl | rfl
 ·rw [e0]; omega
 ·rw [e1]; omega
theorem bgPs_no {a b : Nat} {hv : List Nat} {n i : Nat} (hi : i < n) : ((bgPs a b hv n).getD i default).no ≤ 1000 := by
 rw [bgPs_getD hi]
 show (0 : Int) ≤ 1000
 decide
end Go.Proofs.YthhiookcknnmdaaGreat
