/- An honest hub neither loses nor wins, plainly: what it shows up the way is what was shown down the way. No program in it, so there is no condition. An honest hub's turn keeps both its lanes, plainly; what it has in the end. No program in it, so there is no condition. The example plan's lanes, plainly. No program in it, so there is no condition. -/
import Derived.Test.YthhiookcknnmdaaGreatJoinUbd
import Derived.Test.YthhiookcknnmdaaGreatJoinUbc
namespace Go.Proofs.YthhiookcknnmdaaGreat
def Ext (L L' : List En) : Prop := ∀ x i, posE L x = some i → posE L' x = some i
theorem Ext.refl (L : List En) : Ext L L := fun _ _ h => h
theorem Ext.trans {A B C : List En} (h : Ext A B) (g : Ext B C) : Ext A C := fun x i e => g x i (h x i e)
theorem signE_ext (L : List En) (e : En) : Ext L (signE L e).1 := fun x i h => by
 unfold signE
 cases hp : posE L e with
 | some j => exact h
 | none =>
  simp only
  unfold posE at h ⊢
  rw [List.findIdx?_append, h]
  rfl
theorem outS_ext (L : List En) (d : D8) (n : Nat) : ∀ k, Ext L (outS L d n k).1
 | 0 => .refl _
 | k + 1 => (outS_ext L d n k).trans (signE_ext _ _)
theorem outA_ext (L : List En) (n : Nat) (x : Ac) : Ext L (outA L n x).2 := by
 unfold outA
 split
 ·exact outS_ext _ _ _ _
 ·exact outS_ext _ _ _ _
theorem verS_ext {L L' : List En} (h : Ext L L') {e : En} {s : List Nat} (hv : verS L e s = true) : verS L' e s = true := by
 unfold verS at hv ⊢
 cases hp : posE L e with
 | none => rw [hp] at hv; cases hv
 | some i => rw [hp] at hv; rw [h _ _ hp]; exact hv
theorem allE_ext {L L' : List En} (h : Ext L L') {m : D8} {ks : List D8} {ss : List (List Nat)} (ha : allE L m ks ss = true) : allE L' m ks ss = true := by
 unfold allE at ha ⊢
 rw [List.all_eq_true] at ha ⊢
 intro i hi
 have := ha i hi
 unfold lacksE at this ⊢
 simp only [Bool.not_eq_true', Bool.and_eq_false_iff, Bool.or_eq_false_iff, Bool.not_eq_false'] at this ⊢
 rcases this with e | ⟨e1, e2⟩
 ·exact .inl e
 ·exact .inr ⟨e1, verS_ext h e2⟩
def Good (L : List En) (p : Pl) (o : Ou) : Prop :=
 o.pays.length = (p.lock 0 0).ks.length ∧ o.pays.all rgt = true ∧ (o.sigs.length = (p.lock 0 0).ks.length ∧ allE L (payD (p.lock 0 0).hs o.pays) (p.lock 0 0).ks o.sigs = true)
theorem Good.ext {L L' : List En} {p : Pl} {o : Ou} (h : Good L p o) (he : Ext L L') : Good L' p o := ⟨h.1, h.2.1, h.2.2.1, allE_ext he h.2.2.2⟩
structure Lane (p : Pl) (now : Int) (y : Wy) (L : List En) (d u : Nat) (k : Int) : Prop where
 gone : y.atI u k = 3 → p.un u k < now
 rdy : y.atI d k = 2 → y.ready = true
 up : y.atI u k = 2 → y.atI d k = 2 ∧ (y.byI d k).pays = (y.byI u k).pays
 dn : y.atI d k = 2 → y.atI u k = 2 ∨ (y.atI u k = 1 ∧ now ≤ p.un d k ∧ Good L p (y.byI d k))
def Lane.Strict (y : Wy) (d u : Nat) (k : Int) : Prop := y.atI d k = 2 → y.atI u k = 2
section
variable {p : Pl} {Ps : List Pu} {now : Int} {y : Wy} {L L' : List En} {d u : Nat} {k : Int}
theorem Lane.ext (h : Lane p now y L d u k) (he : Ext L L') : Lane p now y L' d u k :=
 ⟨h.gone, h.rdy, h.up, fun e => (h.dn e).elim .inl fun x => .inr ⟨x.1, x.2.1, x.2.2.ext he⟩⟩
theorem Lane.later (h : Lane p now y L d u k) (hs : Lane.Strict y d u k) {now' : Int} (hn : now ≤ now') : Lane p now' y L d u k :=
 ⟨fun e => by have := h.gone e; omega, h.rdy, h.up, fun e => .inl (hs e)⟩
theorem Lane.lock (h : Lane p now y L d u k) (hk : k = 0 ∨ k = 1) (hop t : Int) : Lane p now (y.lock hop t).2 L d u k := by
 by_cases e : (y.lockI hop t).1 = 0
 ·obtain ⟨_, _, ⟨z0, z1⟩, _⟩ := Wy.lockI_iff.1 e
  have hz : ∀ i : Nat, (i : Int) = hop → y.atI i k = 0 := fun i hi => by rcases hk with rfl | rfl <;> rw [hi] <;> assumption
  have ha : ∀ i : Nat, (y.lock hop t).2.atI i k = if (i : Int) = hop then 1 else y.atI i k := fun i => by
   rw [atI_lock e]
   by_cases hi : (i : Int) = hop
   ·rw [if_pos ⟨hi, hk⟩, if_pos hi]
   ·rw [if_neg (fun c => hi c.1), if_neg hi]
  have hr : (y.lock hop t).2.ready = y.ready := by unfold Wy.ready; rw [ag_lock]
  refine ⟨?_, ?_, ?_, ?_⟩
  ·intro x
   rw [ha] at x
   split at x
   ·cases x
   ·exact h.gone x
  ·intro x
   rw [ha] at x
   rw [hr]
   split at x
   ·cases x
   ·exact h.rdy x
  ·intro x
   rw [ha] at x
   split at x
   ·cases x
   ·obtain ⟨g1, g2⟩ := h.up x
    refine ⟨?_, by rw [byI_lock, byI_lock]; exact g2⟩
    rw [ha, if_neg (fun c => by rw [hz d c] at g1; cases g1)]
    exact g1
  ·intro x
   rw [ha] at x
   split at x
   ·cases x
   ·rw [byI_lock, ha]
    rcases h.dn x with g | g
    ·rw [if_neg (fun c => by rw [hz u c] at g; cases g)]
     exact .inl g
    ·rw [if_neg (fun c => by have := g.1; rw [hz u c] at this; cases this)]
     exact .inr g
 ·rw [lock_no e]; exact h
theorem ready_agree (hr : y.ready = true) (L : List En) (party : Int) (s : List Nat) : (y.agree L party s).2.ready = true := by
 by_cases e : y.agreeI L party s = 0
 ·rw [agree_is e]
  unfold Wy.ready at hr ⊢
  rw [List.all_eq_true] at hr ⊢
  intro x hx
  rcases List.mem_or_eq_of_mem_set hx with h1 | h1
  ·exact hr x h1
  ·rw [h1]; rfl
 ·rw [agree_no e]; exact hr
theorem Lane.agree (h : Lane p now y L d u k) (he : Ext L L') (party : Int) (s : List Nat) (M : List En) : Lane p now (y.agree M party s).2 L' d u k := by
 have h := h.ext he
 refine ⟨?_, ?_, ?_, ?_⟩
 ·rw [atI_agree]; exact h.gone
 ·rw [atI_agree]; exact fun x => ready_agree (h.rdy x) _ _ _
 ·rw [atI_agree, atI_agree, byI_agree, byI_agree]; exact h.up
 ·rw [atI_agree, atI_agree, byI_agree]; exact h.dn
theorem Lane.open_ (h : Lane p now y L d u k) (he : Ext L L') (hinv : WInv p Ps y) (hk : k = 0 ∨ k = 1) (hu : u < Ps.length) (hun : p.un d k ≤ p.un u k) (hlk : y.ready = true → y.atI u k ≠ 0) {hop wh : Int} {o : Ou} (hne : ¬ (hop = (u : Int) ∧ wh = k)) :
  Lane p now (y.open_ L' hop wh now o).2 L' d u k := by
 have h := h.ext he
 by_cases e : (y.openI L' hop wh now o).1 = 0
 ·obtain ⟨i1, i2, i3, i4, i5, _⟩ := Wy.openI_iff.1 e
  have hr : (y.open_ L' hop wh now o).2.ready = y.ready := by unfold Wy.ready; rw [ag_open]
  have hau : (y.open_ L' hop wh now o).2.atI u k = y.atI u k := by rw [atI_open e, if_neg (fun c => hne ⟨c.1.symm, c.2.symm⟩)]
  have hbu : (y.open_ L' hop wh now o).2.byI u k = y.byI u k := by rw [byI_open e, if_neg (fun c => hne ⟨c.1.symm, c.2.symm⟩)]
  by_cases hd : (d : Int) = hop ∧ k = wh
  ·obtain ⟨rfl, rfl⟩ := hd
   have hoy := open_yes i5
   rw [hinv.pl] at hoy
   obtain ⟨_, o2, o3, o4, o5, _⟩ := hoy
   have hud : now ≤ p.un d k := o2
   have hu1 : y.atI u k = 1 := by
    have hx := hinv.hop u hu
    have hrg : 0 ≤ y.atI u k ∧ y.atI u k ≤ 3 := by
     rcases hk with rfl | rfl
     ·exact hx.r0
     ·exact hx.r1
    have n0 := hlk i4
    have n2 : y.atI u k ≠ 2 := fun c => by have := (h.up c).1; rw [i3] at this; cases this
    have n3 : y.atI u k ≠ 3 := fun c => by have := h.gone c; omega
    omega
   refine ⟨?_, fun _ => by rw [hr]; exact i4, ?_, fun _ => .inr ⟨by rw [hau]; exact hu1, hud, ?_⟩⟩
   ·rw [hau]; exact h.gone
   ·rw [hau, hu1]; intro c; cases c
   ·rw [byI_open e, if_pos ⟨rfl, rfl⟩]
    exact ⟨o3, o4, o5⟩
  ·have had : (y.open_ L' hop wh now o).2.atI d k = y.atI d k := by rw [atI_open e, if_neg hd]
   have hbd : (y.open_ L' hop wh now o).2.byI d k = y.byI d k := by rw [byI_open e, if_neg hd]
   refine ⟨?_, ?_, ?_, ?_⟩
   ·rw [hau]; exact h.gone
   ·rw [had, hr]; exact h.rdy
   ·rw [hau, had, hbu, hbd]; exact h.up
   ·rw [hau, had, hbd]; exact h.dn
 ·rw [open_no e]; exact h
theorem un_back (hinv : WInv p Ps y) {hop wh : Int} (e : (y.backI hop wh now).1 = 0) : ∃ i : Nat, hop = i ∧ i < Ps.length ∧ (wh = 0 ∨ wh = 1) ∧ y.atI i wh = 1 ∧ p.un i wh < now := by
 obtain ⟨i1, _, i3, i4⟩ := Wy.backI_iff.1 e
 obtain ⟨i, rfl, hi, hw⟩ := spot_nat i1
 rw [hinv.len] at hi
 refine ⟨i, rfl, hi, hw, i3, ?_⟩
 have hx := hinv.hop i hi
 unfold Wy.bck at i4
 rw [hinv.pl, Int.toNat_natCast, Pl.lock_nm] at i4
 rcases hw with rfl | rfl
 ·rw [i3] at hx; exact (hx.back0 0 i4).2
 ·rw [i3] at hx; exact (hx.back1 0 i4).2
theorem Lane.back (h : Lane p now y L d u k) (hinv : WInv p Ps y) (hun : p.un d k ≤ p.un u k) (hop wh : Int) : Lane p now (y.back hop wh now).2 L d u k := by
 by_cases e : (y.backI hop wh now).1 = 0
 ·obtain ⟨i, rfl, hi, hw, h1, h2⟩ := un_back hinv e
  have hr : (y.back i wh now).2.ready = y.ready := by unfold Wy.ready; rw [ag_back]
  have ha : ∀ j : Nat, (y.back i wh now).2.atI j k = if (j : Int) = i ∧ k = wh then 3 else y.atI j k := fun j => atI_back e j k
  refine ⟨?_, ?_, ?_, ?_⟩
  ·intro x
   rw [ha] at x
   split at x
   ·rename_i c
    have : u = i := by omega
    rw [this, c.2]; exact h2
   ·exact h.gone x
  ·intro x
   rw [ha] at x
   rw [hr]
   split at x
   ·cases x
   ·exact h.rdy x
  ·intro x
   rw [ha] at x
   split at x
   ·cases x
   ·obtain ⟨g1, g2⟩ := h.up x
    rw [byI_back, byI_back, ha, if_neg (fun c => by
     have e1 : d = i := by omega
     rw [e1, c.2, h1] at g1; cases g1)]
    exact ⟨g1, g2⟩
  ·intro x
   rw [ha] at x
   split at x
   ·cases x
   ·rw [byI_back, ha]
    by_cases c : (u : Int) = i ∧ k = wh
    ·have e1 : u = i := by omega
     have e2 := c.2
     subst e1 e2
     rcases h.dn x with g | g
     ·rw [h1] at g; cases g
     ·have := g.2.1; omega
    ·rw [if_neg c]; exact h.dn x
 ·rw [back_no_ e]; exact h
theorem strict_back (hs : Lane.Strict y d u k) (hinv : WInv p Ps y) (hop wh : Int) : Lane.Strict (y.back hop wh now).2 d u k := by
 by_cases e : (y.backI hop wh now).1 = 0
 ·obtain ⟨i, rfl, hi, hw, h1, h2⟩ := un_back hinv e
  intro x
  rw [atI_back e] at x ⊢
  split at x
  ·cases x
  ·have g := hs x
   rw [if_neg (fun c => by
    have e1 : u = i := by omega
    rw [e1, c.2, h1] at g; cases g)]
   exact g
 ·rw [back_no_ e]; exact hs
end
section
variable {p : Pl} {Ps : List Pu} {now : Int} {y : Wy} {L L' : List En} {d u : Nat} {k : Int}
theorem pays_nn {l : List Int} (h : l.all rgt = true) (i : Nat) : 0 ≤ l.getD i 0 := by
 rw [List.getD_eq_getElem?_getD]
 cases e : l[i]? with
 | none => exact Int.le_refl 0
 | some v =>
  have hv := List.mem_of_getElem? e
  rw [List.all_eq_true] at h
  have := h v hv
  unfold rgt at this
  simp only [Bool.and_eq_true, decide_eq_true_eq] at this
  exact this.1
theorem Lane.show_ (h : Lane p now y L d u k) (hinv : WInv p Ps y) (hk : k = 0 ∨ k = 1) (hu : u < Ps.length) (hdu : d ≠ u) (hun : p.un d k ≤ p.un u k) (hck : (p.lock u k).check = 0) (hf : far now = true) (hno : (Ps.getD u default).no ≤ 1000) (hs0 : 0 ≤ p.s0) (hs1 : 0 ≤ p.s1) (hD : y.atI d k = 2) :
  Lane p now (y.open_ L u k now (y.byI d k)).2 L d u k ∧ Lane.Strict (y.open_ L u k now (y.byI d k)).2 d u k := by
 rcases h.dn hD with hU | ⟨hU, hn, hg⟩
 ·have e : (y.openI L u k now (y.byI d k)).1 ≠ 0 := fun e => by
   have := (Wy.openI_iff.1 e).2.2.1
   rw [hU] at this; cases this
  rw [open_no e]
  exact ⟨h, fun _ => hU⟩
 ·have hih : y.isHop (u : Int) = true := by rw [hinv.isHop]; simp; omega
  have his : y.isSpot (u : Int) k = true := by unfold Wy.isSpot; rw [hih]; rcases hk with rfl | rfl <;> rfl
  have hop := open_if (L := L) (l := p.lock u k) (now := now) (o := y.byI d k) hck (show now ≤ p.un u k by omega) hg.1 hg.2.1 hg.2.2
  have hopn : y.opn L u k now (y.byI d k) = (max 0 (p.st k - (y.byI d k).pays.getD k.toNat 0), 0) := by
   unfold Wy.opn
   rw [hinv.pl, Int.toNat_natCast, hop]
   rfl
  have hnn := pays_nn hg.2.1 k.toNat
  have hfre : (y.fre L u k now (y.byI d k)).1 = 0 := by
   unfold Wy.fre
   rw [hopn, hinv.pl, Int.toNat_natCast, Pl.lock_nm]
   have hx := hinv.hop u hu
   rcases hk with rfl | rfl
   ·rw [hU] at hx
    have e0 : p.st 0 = p.s0 := rfl
    exact hx.frees0 hno (by simp only; omega) (by simp only; omega)
   ·rw [hU] at hx
    have e0 : p.st 1 = p.s1 := rfl
    exact hx.frees1 hno (by simp only; omega) (by simp only; omega)
  have e : (y.openI L u k now (y.byI d k)).1 = 0 := Wy.openI_iff.2 ⟨his, hf, hU, h.rdy hD, by rw [hopn], hfre⟩
  have hr : (y.open_ L u k now (y.byI d k)).2.ready = y.ready := by unfold Wy.ready; rw [ag_open]
  have hau : (y.open_ L u k now (y.byI d k)).2.atI u k = 2 := by rw [atI_open e, if_pos ⟨rfl, rfl⟩]
  have had : (y.open_ L u k now (y.byI d k)).2.atI d k = 2 := by rw [atI_open e, if_neg (fun c => hdu (by omega))]; exact hD
  have hbu : (y.open_ L u k now (y.byI d k)).2.byI u k = y.byI d k := by rw [byI_open e, if_pos ⟨rfl, rfl⟩]
  have hbd : (y.open_ L u k now (y.byI d k)).2.byI d k = y.byI d k := by rw [byI_open e, if_neg (fun c => hdu (by omega))]
  exact ⟨⟨(by rw [hau]; intro c; cases c), fun _ => by rw [hr]; exact h.rdy hD, fun _ => ⟨had, by rw [hbu, hbd]⟩, fun _ => .inl hau⟩, fun _ => hau⟩
end
structure HubI (p : Pl) (Ps : List Pu) (party : Nat) (now : Int) (y : Wy) (L : List En) : Prop where
 inv : WInv p Ps y
 al : party < y.ag.length
 st : y.ag.getD party false = true → y.atI ((party - 1 : Nat) : Int) 0 ≠ 0 ∧ y.atI (party : Int) 0 ≠ 0
 l0 : Lane p now y L party (party - 1) 0
 l1 : Lane p now y L (party - 1) party 1
structure HubP (p : Pl) (Ps : List Pu) (party : Nat) : Prop where
 h1 : 1 ≤ party
 h2 : party < Ps.length
 u0 : p.un party 0 ≤ p.un (party - 1) 0
 u1 : p.un (party - 1) 1 ≤ p.un party 1
 ck : ∀ i k, i < Ps.length → k = 0 ∨ k = 1 → (p.lock i k).check = 0
 no : ∀ i, i < Ps.length → (Ps.getD i default).no ≤ 1000
 s0 : 0 ≤ p.s0
 s1 : 0 ≤ p.s1
section
variable {p : Pl} {Ps : List Pu} {party : Nat} {now : Int} {y : Wy} {L L' : List En}
theorem HubI.ag_ready (h : HubI p Ps party now y L) (hr : y.ready = true) : y.ag.getD party false = true := by
 unfold Wy.ready at hr
 rw [List.all_eq_true] at hr
 have := hr (y.ag.getD party false) (by rw [List.getD_eq_getElem?_getD, List.getElem?_eq_getElem h.al]; exact List.getElem_mem h.al)
 exact this
theorem HubI.lk0 (h : HubI p Ps party now y L) (hr : y.ready = true) : y.atI ((party - 1 : Nat) : Int) 0 ≠ 0 := (h.st (h.ag_ready hr)).1
theorem HubI.lk1 (h : HubI p Ps party now y L) (hp : HubP p Ps party) (hr : y.ready = true) : y.atI (party : Int) 1 ≠ 0 := fun c => (h.st (h.ag_ready hr)).2 ((h.inv.hop party hp.h2).both.2 c)
theorem at_open_ne {hop wh : Int} {o : Ou} {i : Int} (h : y.atI i 0 ≠ 0) : (y.open_ L hop wh now o).2.atI i 0 ≠ 0 := by
 by_cases e : (y.openI L hop wh now o).1 = 0
 ·rw [atI_open e]; split
  ·decide
  ·exact h
 ·rw [open_no e]; exact h
theorem at_back_ne {hop wh : Int} {i : Int} (h : y.atI i 0 ≠ 0) : (y.back hop wh now).2.atI i 0 ≠ 0 := by
 by_cases e : (y.backI hop wh now).1 = 0
 ·rw [atI_back e]; split
  ·decide
  ·exact h
 ·rw [back_no_ e]; exact h
theorem at_lock_ne {hop t : Int} {i : Int} (h : y.atI i 0 ≠ 0) : (y.lock hop t).2.atI i 0 ≠ 0 := by
 by_cases e : (y.lockI hop t).1 = 0
 ·rw [atI_lock e]; split
  ·decide
  ·exact h
 ·rw [lock_no e]; exact h
theorem HubI.openD (h : HubI p Ps party now y L) (hp : HubP p Ps party) (he : Ext L L') {hop wh : Int} {o : Ou} (n0 : ¬ (hop = ((party - 1 : Nat) : Int) ∧ wh = 0)) (n1 : ¬ (hop = (party : Int) ∧ wh = 1)) : HubI p Ps party now (y.open_ L' hop wh now o).2 L' :=
 ⟨h.inv.open_ _ _ _ _ _, by rw [ag_open]; exact h.al, by rw [ag_open]; exact fun x => ⟨at_open_ne (h.st x).1, at_open_ne (h.st x).2⟩,
  h.l0.open_ he h.inv (.inl rfl) (by have := hp.h2; omega) hp.u0 h.lk0 n0, h.l1.open_ he h.inv (.inr rfl) hp.h2 hp.u1 (h.lk1 hp) n1⟩
theorem HubI.back (h : HubI p Ps party now y L) (hp : HubP p Ps party) (hop wh : Int) : HubI p Ps party now (y.back hop wh now).2 L :=
 ⟨h.inv.back _ _ _, by rw [ag_back]; exact h.al, by rw [ag_back]; exact fun x => ⟨at_back_ne (h.st x).1, at_back_ne (h.st x).2⟩, h.l0.back h.inv hp.u0 _ _, h.l1.back h.inv hp.u1 _ _⟩
theorem HubI.lock (h : HubI p Ps party now y L) (hop t : Int) : HubI p Ps party now (y.lock hop t).2 L :=
 ⟨h.inv.lock _ _, by rw [ag_lock]; exact h.al, by rw [ag_lock]; exact fun x => ⟨at_lock_ne (h.st x).1, at_lock_ne (h.st x).2⟩, h.l0.lock (.inl rfl) _ _, h.l1.lock (.inr rfl) _ _⟩
theorem ag_len_agree (y : Wy) (M : List En) (q : Int) (s : List Nat) : (y.agree M q s).2.ag.length = y.ag.length := by
 by_cases e : y.agreeI M q s = 0
 ·rw [agree_is e]; show (y.ag.set _ _).length = _; rw [List.length_set]
 ·rw [agree_no e]
theorem HubI.agree (h : HubI p Ps party now y L) (he : Ext L L') (M : List En) (q : Int) (s : List Nat) (hq : q = (party : Int) → y.atI ((party - 1 : Nat) : Int) 0 ≠ 0 ∧ y.atI (party : Int) 0 ≠ 0) : HubI p Ps party now (y.agree M q s).2 L' :=
 ⟨h.inv.agree _ _ _, by rw [ag_len_agree]; exact h.al, by
  rw [atI_agree, atI_agree]
  intro x
  by_cases e : y.agreeI M q s = 0
  ·by_cases c : q = (party : Int)
   ·exact hq c
   ·rw [agree_is e] at x
    have x : (y.ag.set q.toNat true).getD party false = true := x
    rw [List.getD_eq_getElem?_getD, List.getElem?_set_ne (by have := (agreeI_yes e).1; omega), ← List.getD_eq_getElem?_getD] at x
    exact h.st x
  ·rw [agree_no e] at x; exact h.st x, h.l0.agree he _ _ _, h.l1.agree he _ _ _⟩
theorem HubI.act (h : HubI p Ps party now y L) (hp : HubP p Ps party) (x : Ac) (hm : x.mine party = false) : HubI p Ps party now (lawDo y L x now).2.1 (lawDo y L x now).2.2 := by
 unfold Ac.mine at hm
 simp only [Bool.or_eq_false_iff, Bool.and_eq_false_iff, beq_eq_false_iff_ne, ne_eq] at hm
 unfold lawDo
 by_cases h0 : x.w % 4 = 0
 ·rw [if_pos h0]; exact h.lock _ _
 ·rw [if_neg h0]
  by_cases h1 : x.w % 4 = 1
  ·rw [if_pos h1]
   exact h.agree (signE_ext _ _) _ _ _ (fun c => by
    rcases hm.1 with e | e
    ·omega
    ·exact absurd c e)
  ·rw [if_neg h1]
   by_cases h2 : x.w % 4 = 2
   ·rw [if_pos h2]
    have hm2 : (¬ x.hop = (party : Int) - 1 ∨ ¬ x.wh = 0) ∧ (¬ x.hop = (party : Int) ∨ ¬ x.wh = 1) := by
     rcases hm.2 with e | e
     ·omega
     ·exact e
    have hp1 := hp.h1
    exact h.openD hp (outA_ext _ _ _) (fun c => by rcases hm2.1 with e | e <;> omega) (fun c => by rcases hm2.2 with e | e <;> omega)
   ·rw [if_neg h2]; exact h.back hp _ _
theorem stI_at (hinv : WInv p Ps y) {i : Nat} (hi : i < Ps.length) {k : Int} (hk : k = 0 ∨ k = 1) : y.stI i k = y.atI i k ∧ y.stO i k = y.byI i k := by
 have hih : y.isHop (i : Int) = true := by rw [hinv.isHop]; simp; omega
 have his : y.isSpot (i : Int) k = true := by unfold Wy.isSpot; rw [hih]; rcases hk with rfl | rfl <;> rfl
 exact ⟨by unfold Wy.stI; rw [if_pos his], by unfold Wy.stO; rw [if_pos his]⟩
theorem HubI.turn (h : HubI p Ps party now y L) (hp : HubP p Ps party) (hf : far now = true) {now' : Int} (hn : now ≤ now') :
  HubI p Ps party now' (lawHub y L party now).1 (lawHub y L party now).2 ∧ Lane.Strict (lawHub y L party now).1 party (party - 1) 0 ∧ Lane.Strict (lawHub y L party now).1 (party - 1) party 1 := by
 have hp1 := hp.h1; have hp2 := hp.h2
 have hc : ((party : Int) - 1) = ((party - 1 : Nat) : Int) := by omega
 -- it agrees
 have hA : HubI p Ps party now (hubA y L party).1 (hubA y L party).2 := by
  unfold hubA
  split
  ·rename_i c
   rw [hc, (stI_at h.inv (show party - 1 < Ps.length by omega) (.inl rfl)).1, (stI_at h.inv hp2 (.inl rfl)).1] at c
   exact h.agree (signE_ext _ _) _ _ _ (fun _ => ⟨by rw [c.1]; decide, by rw [c.2]; decide⟩)
  ·exact h
 unfold lawHub
 generalize (hubA y L party).1 = y1 at *
 generalize (hubA y L party).2 = L1 at *
 dsimp only
 have hB : HubI p Ps party now (hubB y1 L1 party now) L1 ∧ Lane.Strict (hubB y1 L1 party now) party (party - 1) 0 := by
  unfold hubB
  have e := stI_at hA.inv hp2 (k := 0) (.inl rfl)
  rw [e.1, e.2]
  split
  ·rename_i c
   have g := hA.l0.show_ hA.inv (.inl rfl) (show party - 1 < Ps.length by omega) (by omega) hp.u0 (hp.ck _ _ (by omega) (.inl rfl)) hf (hp.no _ (by omega)) hp.s0 hp.s1 c
   rw [hc]
   exact ⟨⟨hA.inv.open_ _ _ _ _ _, by rw [ag_open]; exact hA.al, by rw [ag_open]; exact fun x => ⟨at_open_ne (hA.st x).1, at_open_ne (hA.st x).2⟩, g.1,
    hA.l1.open_ (.refl _) hA.inv (.inr rfl) hp2 hp.u1 (hA.lk1 hp) (fun c => by have := c.2; cases this)⟩, g.2⟩
  ·rename_i c
   exact ⟨hA, fun x => absurd x c⟩
 generalize hubB y1 L1 party now = y2 at *
 obtain ⟨hB, hs0⟩ := hB
 have hC : HubI p Ps party now (hubC y2 L1 party now) L1 ∧ Lane.Strict (hubC y2 L1 party now) party (party - 1) 0 ∧ Lane.Strict (hubC y2 L1 party now) (party - 1) party 1 := by
  unfold hubC
  have e := stI_at hB.inv (show party - 1 < Ps.length by omega) (k := 1) (.inr rfl)
  rw [hc, e.1, e.2]
  split
  ·rename_i c
   have g := hB.l1.show_ hB.inv (.inr rfl) hp2 (by omega) hp.u1 (hp.ck _ _ hp2 (.inr rfl)) hf (hp.no _ hp2) hp.s0 hp.s1 c
   have o0 : ∀ i : Int, (y2.open_ L1 party 1 now (y2.byI ((party - 1 : Nat) : Int) 1)).2.atI i 0 = y2.atI i 0 := fun i => by
    by_cases e : (y2.openI L1 party 1 now (y2.byI ((party - 1 : Nat) : Int) 1)).1 = 0
    ·rw [atI_open e, if_neg (fun c => by have := c.2; cases this)]
    ·rw [open_no e]
   exact ⟨⟨hB.inv.open_ _ _ _ _ _, by rw [ag_open]; exact hB.al, by rw [ag_open]; exact fun x => ⟨at_open_ne (hB.st x).1, at_open_ne (hB.st x).2⟩,
    hB.l0.open_ (.refl _) hB.inv (.inl rfl) (by omega) hp.u0 hB.lk0 (fun c => by have := c.2; cases this), g.1⟩, fun x => by rw [o0] at x ⊢; exact hs0 x, g.2⟩
  ·rename_i c
   exact ⟨hB, hs0, fun x => absurd x c⟩
 generalize hubC y2 L1 party now = y3 at *
 obtain ⟨hC, hs0, hs1⟩ := hC
 unfold hubD
 have h4 := hC.back hp party 0
 have s40 := strict_back hs0 hC.inv (now := now) party 0
 have s41 := strict_back hs1 hC.inv (now := now) party 0
 have h5 := h4.back hp ((party : Int) - 1) 1
 have s50 := strict_back s40 h4.inv (now := now) ((party : Int) - 1) 1
 have s51 := strict_back s41 h4.inv (now := now) ((party : Int) - 1) 1
 exact ⟨⟨h5.inv, h5.al, h5.st, h5.l0.later s50 hn, h5.l1.later s51 hn⟩, s50, s51⟩
theorem HubI.worth (h : HubI p Ps party now y L) (hp : HubP p Ps party) (s0 : Lane.Strict y party (party - 1) 0) (s1 : Lane.Strict y (party - 1) party 1) : y.worth (party : Int) = (Ps.getD party default).h0 + (Ps.getD (party - 1) default).h1 := by
 have hp1 := hp.h1; have hp2 := hp.h2
 rw [h.inv.worth (by omega), if_pos hp2, if_pos (by omega)]
 have e0 : y.d0 party = y.d0 (party - 1) := by
  unfold Wy.d0 dlt
  by_cases c : y.atI party 0 = 2
  ·have g := s0 c
   rw [if_pos c, if_pos g, (h.l0.up g).2]
  ·rw [if_neg c, if_neg (fun g => c (h.l0.up g).1)]
 have e1 : y.d1 party = y.d1 (party - 1) := by
  unfold Wy.d1 dlt
  by_cases c : y.atI ((party - 1 : Nat) : Int) 1 = 2
  ·have g := s1 c
   rw [if_pos c, if_pos g, (h.l1.up g).2]
  ·rw [if_neg c, if_neg (fun g => c (h.l1.up g).1)]
 rw [e0, e1]
 omega
theorem HubI.begin (h : WInv p Ps (Wy.begin p Ps)) (hs : party < p.ks.length) (now : Int) : HubI p Ps party now (Wy.begin p Ps) [] :=
 have hz : ∀ i k, (Wy.begin p Ps).atI i k = 0 := fun i k => by simp [Wy.begin, Wy.atI, alGet]
 have hl : ∀ d u k, Lane p now (Wy.begin p Ps) [] d u k := fun d u k => ⟨(by rw [hz]; intro c; cases c), (by rw [hz]; intro c; cases c), (by rw [hz]; intro c; cases c), (by rw [hz]; intro c; cases c)⟩
 ⟨h, by simp [Wy.begin, hs], fun x => by simp [Wy.begin, List.getD_eq_getElem?_getD, hs] at x, hl _ _ _, hl _ _ _⟩
end
theorem bgPl_nr {n a b i : Nat} (hi : i < n) : (bgPl n a b).un i 0 = (100 : Int) + ((n : Int) - (i : Int)) * 10 := by
 show ((List.range ((bgKs n).length - 1)).map _).getD i 0 = _
 rw [bgKs_len, Nat.add_sub_cancel, List.getD_eq_getElem?_getD, List.getElem?_map, List.getElem?_range hi]
 rfl
theorem bgPl_fr {n a b i : Nat} (hi : i < n) : (bgPl n a b).un i 1 = (100 : Int) + ((i : Int) + 1) * 10 := by
 show ((List.range ((bgKs n).length - 1)).map _).getD i 0 = _
 rw [bgKs_len, Nat.add_sub_cancel, List.getD_eq_getElem?_getD, List.getElem?_map, List.getElem?_range hi]
 rfl
theorem hub_plan {n a b : Nat} (h1 : 1 ≤ n) (h4 : n ≤ 4) (ha : a < 256) (hb : b < 256) (hv : List Nat) {party : Nat} (hp1 : 1 ≤ party) (hp2 : party < n) : HubP (bgPl n a b) (bgPs a b hv n) party := by
 have hok : (bgPl n a b).Ok := .of (bgPl_check h1 h4 ha hb) (byD_ok (by decide)) (bgKs_ok (by omega))
 refine ⟨hp1, by rw [bgPs_len]; exact hp2, ?_, ?_, ?_, ?_, ?_, ?_⟩
 ·rw [bgPl_nr hp2, bgPl_nr (by omega)]; omega
 ·rw [bgPl_fr hp2, bgPl_fr (by omega)]; omega
 ·intro i k hi hk
  rw [bgPs_len] at hi
  have hkl : (bgPl n a b).ks.length = n + 1 := bgKs_len n
  have := hok.good (hop := i) (by omega) hk
  exact this.check
 ·intro i hi
  rw [bgPs_len] at hi
  exact bgPs_no hi
 ·show (0 : Int) ≤ 1 + (a : Int); omega
 ·show (0 : Int) ≤ 1 + (b : Int); omega
end Go.Proofs.YthhiookcknnmdaaGreat
