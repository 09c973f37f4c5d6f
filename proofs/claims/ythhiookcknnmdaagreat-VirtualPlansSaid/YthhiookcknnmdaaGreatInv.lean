/- A region that draws its order, shown by an invariant over what has come up: one step an operation, whatever the order. Nothing of the program stands in it, so there is no condition. -/
import Derived.Deep.RegionHeld3
namespace Go.Proofs.YthhiookcknnmdaaGreat
section
variable {P : Program} {ops : Array Oper} {Q : Exit → Act → World → Prop} {md : Region.Mode}
def yetN (ops : Array Oper) (listed : Array Bool) : Nat := ((List.range ops.size).filter fun i => !listed.getD i true).length
theorem filter_lt {l : List Nat} {p q : Nat → Bool} (h : ∀ x, q x = true → p x = true) {i : Nat} (hi : i ∈ l) (hp : p i = true) (hq : q i = false) : (l.filter q).length < (l.filter p).length := by
 induction l with
 | nil => cases hi
 | cons x l ih =>
  have hle : ∀ l : List Nat, (l.filter q).length ≤ (l.filter p).length := by
   intro l
   induction l with
   | nil => simp
   | cons y l ih2 =>
    rw [List.filter_cons, List.filter_cons]
    cases hqy : q y with
    | true => rw [h y hqy]; simpa using ih2
    | false => cases p y <;> simp <;> omega
  rw [List.filter_cons, List.filter_cons]
  rcases List.mem_cons.1 hi with rfl | hi'
  ·rw [hp, hq]; simp; have := hle l; omega
  ·have := ih hi'
   cases hqy : q x with
   | true => rw [h x hqy]; simpa using this
   | false => cases p x <;> simp <;> omega
theorem yetN_set {listed : Array Bool} {i : Nat} (hi : i < ops.size) (h : listed.getD i true = false) : yetN ops (listed.setIfInBounds i true) < yetN ops listed := by
 refine filter_lt (i := i) (fun x hx => ?_) (List.mem_range.2 hi) (by rw [h]; rfl) ?_
 ·by_cases e : i = x
  ·subst e; rw [h]; rfl
  ·rw [getD_set_ne true e] at hx; exact hx
 ·have hlt : i < listed.size := by
   rcases Nat.lt_or_ge i listed.size with h' | h'
   ·exact h'
   ·rw [Array.getD_eq_getD_getElem?, Array.getElem?_eq_none h'] at h; simp at h
  have : (listed.setIfInBounds i true).getD i true = true := by simp [hlt]
  rw [this]; rfl
def forwardB (md : Region.Mode) (ops : Array Oper) : Bool := (List.range ops.size).all fun i => ((ops[i]?).map fun o => o.after.all fun e => !Region.binds md e || decide (e.on < i)).getD true
theorem ready_all (hf : forwardB md ops = true) {listed : Array Bool} (hr : Region.ready md ops listed = []) : ∀ i, i < ops.size → listed.getD i true = true := by
 intro i
 induction i using Nat.strongRecOn with
 | ind i ih =>
  intro hi
  cases hl : listed.getD i true with
  | true => rfl
  | false =>
   exfalso
   have ho : ops[i]? = some ops[i] := Array.getElem?_eq_getElem hi
   have hm : i ∈ Region.ready md ops listed := by
    rw [mem_ready]
    refine ⟨hl, ops[i], ho, fun e he hb => ?_⟩
    have h1 := List.all_eq_true.1 hf i (List.mem_range.2 hi)
    rw [ho] at h1
    simp only [Option.map_some, Option.getD_some, Array.all_eq_true_iff_forall_mem, Bool.or_eq_true, Bool.not_eq_true', decide_eq_true_eq] at h1
    have h2 : e.on < i := (h1 e he).resolve_left (by simp [hb])
    have h3 := ih e.on h2 (by omega)
    rcases Nat.lt_or_ge e.on listed.size with h' | h'
    ·rw [Array.getD_eq_getD_getElem?, Array.getElem?_eq_getElem h'] at h3 ⊢
     simpa using h3
    ·exfalso
     have h4 : listed.getD i true = true := by rw [Array.getD_eq_getD_getElem?, Array.getElem?_eq_none (by omega)]; rfl
     rw [h4] at hl; cases hl
   rw [hr] at hm; cases hm
theorem getD_in {listed : Array Bool} {i : Nat} (h : i < listed.size) (d e : Bool) : listed.getD i d = listed.getD i e := by
 rw [Array.getD_eq_getD_getElem?, Array.getD_eq_getD_getElem?, Array.getElem?_eq_getElem h]; rfl
theorem wpAny_inv {I : Array Bool → Act → World → Prop} (hf : forwardB md ops = true)
  (step : ∀ listed i a w, i ∈ Region.ready md ops listed → I listed a w → wpOp P ops Q i (fun a' w' => I (listed.setIfInBounds i true) a' w') a w)
  (fin : ∀ listed a w, (∀ i, i < ops.size → listed.getD i false = true) → I listed a w → Q .normal a w) :
  ∀ fuel listed a w, listed.size = ops.size → yetN ops listed ≤ fuel → I listed a w → wpAny P md ops Q fuel listed a w := by
 intro fuel
 induction fuel with
 | zero =>
  intro listed a w hsz hn hI
  have hr : Region.ready md ops listed = [] := by
   cases h : Region.ready md ops listed with
   | nil => rfl
   | cons i rs =>
    exfalso
    obtain ⟨h0, o, ho, _⟩ := mem_ready.1 (show i ∈ Region.ready md ops listed by rw [h]; exact List.mem_cons_self ..)
    have := yetN_set (ops := ops) (Array.getElem?_eq_some_iff.1 ho).1 h0
    omega
  exact ⟨hr, fin _ _ _ (fun i hi => by rw [getD_in (by omega) false true]; exact ready_all hf hr i hi) hI⟩
 | succ fuel ih =>
  intro listed a w hsz hn hI
  refine ⟨fun hr => fin _ _ _ (fun i hi => by rw [getD_in (by omega) false true]; exact ready_all hf hr i hi) hI, fun i hi => wpOp_mono (fun a' w' h' => ih _ a' w' (by simpa using hsz) ?_ h') (step listed i a w hi hI)⟩
  obtain ⟨h0, o, ho, _⟩ := mem_ready.1 hi
  have := yetN_set (ops := ops) (Array.getElem?_eq_some_iff.1 ho).1 h0
  omega
def StepsI (P : Program) (ops : Array Oper) (Q : Exit → Act → World → Prop) (I : Array Bool → Act → World → Prop) (rs : List Nat) : Prop :=
 ∀ i ∈ rs, ∀ listed a w, i ∈ Region.ready .any ops listed → I listed a w → wpOp P ops Q i (fun a' w' => I (listed.setIfInBounds i true) a' w') a w
theorem StepsI.nil {I : Array Bool → Act → World → Prop} : StepsI P ops Q I [] := fun _ h => by cases h
theorem StepsI.cons {I : Array Bool → Act → World → Prop} {i : Nat} {rs : List Nat} {o : Oper} (ps : List Nat) (ho : ops[i]? = some o) (hps : (o.after.toList.filter (Region.binds .any)).map (·.on) = ps)
  (h : ∀ listed a w, (∀ k ∈ ps, listed.getD k false = true) → listed.getD i true = false → I listed a w → ∀ K' : Act → World → Prop, Shut (∀ a w, I (listed.setIfInBounds i true) a w → K' a w) → if Region.wanted o (yielded ops a.tmps) = true then Oper.wp P o a w K' Q else K' (a.put o.dst undef) w)
  (hs : StepsI P ops Q I rs) : StepsI P ops Q I (i :: rs) := fun j hj => by
 rcases List.mem_cons.1 hj with rfl | hj
 ·intro listed a w hr hI
  obtain ⟨h0, o', ho', hall⟩ := mem_ready.1 hr
  rw [ho] at ho'
  obtain rfl : o = o' := Option.some.inj ho'
  refine wpOp_step ho (fun K' hK => h listed a w (fun k hk => ?_) h0 hI K' hK)
  rw [← hps] at hk
  obtain ⟨e, he, rfl⟩ := List.mem_map.1 hk
  obtain ⟨he1, he2⟩ := List.mem_filter.1 he
  exact hall e (by simpa using he1) he2
 ·exact hs j hj
theorem wp_region_inv {id : Nat} {a : Act} {w : World} (I : Array Bool → Act → World → Prop) (hm : P.follows .mixedOrders = true) (hf : forwardB .any ops = true) (start : I (Array.replicate ops.size false) a w.drew)
  (steps : StepsI P ops Q I (List.range ops.size))
  (fin : ∀ listed a w, (∀ i, i < ops.size → listed.getD i false = true) → I listed a w → Q .normal a w) : (Code.region id ops true).wp P Q a w := by
 refine wp_region_any hm (wpAny_inv hf (fun listed i a w hi hI => steps i ?_ listed a w hi hI) fin _ _ a _ (by simp) ?_ start)
 ·obtain ⟨_, o, ho, _⟩ := mem_ready.1 hi
  exact List.mem_range.2 (Array.getElem?_eq_some_iff.1 ho).1
 ·exact Nat.le_trans (List.length_filter_le _ _) (by simp)
theorem listed_ne {listed : Array Bool} {i k : Nat} (h : (listed.setIfInBounds i true).getD k false = true) (hne : i ≠ k) : listed.getD k false = true := by
 rw [getD_set_ne false hne] at h; exact h
theorem wp_region_inv0 {id : Nat} {a : Act} {w : World} (I : Act → Array Bool → Act → World → Prop) (rs : List Nat) (hm : P.follows .mixedOrders = true) (hf : forwardB .any ops = true) (hrs : List.range ops.size = rs) (start : I a (Array.replicate ops.size false) a w.drew)
  (steps : StepsI P ops Q (I a) rs)
  (fin : ∀ listed b x, (∀ i ∈ rs, listed.getD i false = true) → I a listed b x → Q .normal b x) : (Code.region id ops true).wp P Q a w := by
 refine wp_region_inv (I a) hm hf start (hrs ▸ steps) (fun listed b x hl hI => fin listed b x (fun i hi => ?_) hI)
 rw [← hrs] at hi
 exact hl i (List.mem_range.1 hi)
theorem none_yet {n k : Nat} : (Array.replicate n false).getD k false = false := by
 rw [Array.getD_eq_getD_getElem?]
 rcases Nat.lt_or_ge k n with h | h
 ·simp [h]
 ·rw [Array.getElem?_eq_none (by simpa using h)]; rfl
theorem takeH {S : World → Prop} {fuel : Nat} {listed : Array Bool} {a : Act} {w : World} (i : Nat) (d : Option Tmp) {oi : Oper} {v : Value} (hi : ops[i]? = some oi) (hd : oi.dst = d)
  (hs : Region.noSelect ops = true) (hf : Region.free md ops listed i = true) (hr : (Region.ready md ops listed).contains i = true)
  (hQ : ∀ c a w, Q (.panic c) (a.put d v) w → Q (.panic c) a w) (hy : YieldsIf P ops S oi v a) (hS : S w)
  (h : wpAnyH P md ops Q S fuel (listed.setIfInBounds i true) (a.put d v) w) : wpAnyH P md ops Q S (fuel + 1) listed a w := by
 subst hd
 exact wpAnyH_take hi hs hf hr hQ hy hS h
end
end Go.Proofs.YthhiookcknnmdaaGreat
