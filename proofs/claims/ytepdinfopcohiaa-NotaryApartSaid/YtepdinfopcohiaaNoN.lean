/- What a key signed: the walks of Signed, and of the reference's. Conditions: bounds on how many. -/
import Derived.Test.YtepdinfopcohiaaNoH
import Derived.Test.YtepdinfopcohiaaNoM
namespace Go.Proofs.Ytepdinfopcohiaa
open Go.RowKit Go.Lib

def D8.cells (d : D8) : List Value := [.int .u8 (d.x0 : Int), .int .u8 (d.x1 : Int), .int .u8 (d.x2 : Int), .int .u8 (d.x3 : Int), .int .u8 (d.x4 : Int), .int .u8 (d.x5 : Int), .int .u8 (d.x6 : Int), .int .u8 (d.x7 : Int)]
def flatD (l : List D8) : List Value := l.flatMap D8.cells
theorem flatD_len (l : List D8) : (flatD l).length = l.length * 8 := by
  induction l with
  | nil => rfl
  | cons i l ih =>
    have : flatD (i :: l) = i.cells ++ flatD l := by simp [flatD]
    rw [this, List.length_append, ih]; simp [D8.cells]; omega
theorem flatD_append (l m : List D8) : flatD (l ++ m) = flatD l ++ flatD m := by simp [flatD]
theorem flatD_at : ∀ (l : List D8) (k j : Nat), k < l.length → j < 8 → (flatD l)[k * 8 + j]? = (l.getD k ⟨0, 0, 0, 0, 0, 0, 0, 0⟩).cells[j]?
  | [], k, _, h, _ => by simp at h
  | i :: l, k, j, h, hj => by
    have e : flatD (i :: l) = i.cells ++ flatD l := by simp [flatD]
    have hc : i.cells.length = 8 := rfl
    rw [e]
    cases k with
    | zero => rw [List.getElem?_append_left (by omega)]; simp
    | succ k =>
      rw [List.getElem?_append_right (by omega), hc, show (k + 1) * 8 + j - 8 = k * 8 + j from by omega]
      have := flatD_at l k j (by simpa using h) hj
      simpa using this
theorem flatE_at : ∀ (l : List En) (k j : Nat), k < l.length → j < 16 → (flatE l)[k * 16 + j]? = (l.getD k default).cells[j]?
  | [], k, _, h, _ => by simp at h
  | i :: l, k, j, h, hj => by
    have e : flatE (i :: l) = i.cells ++ flatE l := by simp [flatE]
    have hc : i.cells.length = 16 := rfl
    rw [e]
    cases k with
    | zero => rw [List.getElem?_append_left (by omega)]; simp
    | succ k =>
      rw [List.getElem?_append_right (by omega), hc, show (k + 1) * 16 + j - 16 = k * 16 + j from by omega]
      have := flatE_at l k j (by simpa using h) hj
      simpa using this
theorem Rd.elen {w : World} {B n : Nat} {A : Option Addr} {l : List En} (h : Rd w B 16 A n (flatE l)) : l.length = n := by have := h.1; rw [flatE_len] at this; omega
theorem Rd.en {w : World} {B n : Nat} {A : Option Addr} {l : List En} (h : Rd w B 16 A n (flatE l)) {k : Nat} (hk : k < n) :
    ∃ b o, A = some ⟨b, o, none⟩ ∧ b < B ∧ ∀ j, j < 16 → w.cell? ⟨b, o + k * 16 + j, none⟩ = (l.getD k default).cells[j]? := by
  have hl := h.elen
  obtain ⟨b, o, e, hb, hc⟩ := h.2 (by omega)
  refine ⟨b, o, e, hb, fun j hj => ?_⟩
  have hs : ∃ u, (l.getD k default).cells[j]? = some u := ⟨_, List.getElem?_eq_getElem (by simpa [En.cells] using hj)⟩
  obtain ⟨u, hu⟩ := hs
  rw [hu, Nat.add_assoc]
  exact hc (k * 16 + j) u ((flatE_at l k j (by omega) hj).trans hu)
def isK (key : D8) (e : En) : Bool := eqI e.key.L key.L
def signedE (L : List En) (key : D8) : List D8 := (L.filter (isK key)).map En.msg
def signedN (W : List Nu) (k : Nat) : List Nat := (W.filter (fun e => e.k == k)).map Nu.m
theorem signedE_yes {L : List En} {key : D8} {k : Nat} (hk : k < L.length) (h : isK key (L.getD k default) = true) : signedE (L.take (k + 1)) key = signedE (L.take k) key ++ [(L.getD k default).msg] := by
  have : L.take (k + 1) = L.take k ++ [L.getD k default] := by rw [List.take_add_one, List.getElem?_eq_getElem hk]; simp [List.getD_eq_getElem?_getD, hk]
  unfold signedE
  rw [this, List.filter_append]
  generalize L.getD k default = d at *
  simp [h]
theorem signedE_no {L : List En} {key : D8} {k : Nat} (hk : k < L.length) (h : isK key (L.getD k default) = false) : signedE (L.take (k + 1)) key = signedE (L.take k) key := by
  have : L.take (k + 1) = L.take k ++ [L.getD k default] := by rw [List.take_add_one, List.getElem?_eq_getElem hk]; simp [List.getD_eq_getElem?_getD, hk]
  unfold signedE
  rw [this, List.filter_append]
  generalize L.getD k default = d at *
  simp [h]
theorem signedN_yes {W : List Nu} {q k : Nat} (hk : k < W.length) (h : ((W.getD k default).k == q) = true) : signedN (W.take (k + 1)) q = signedN (W.take k) q ++ [(W.getD k default).m] := by
  unfold signedN
  rw [take_snoc hk, List.filter_append]
  generalize W.getD k default = d at *
  simp [h]
theorem signedN_no {W : List Nu} {q k : Nat} (hk : k < W.length) (h : ((W.getD k default).k == q) = false) : signedN (W.take (k + 1)) q = signedN (W.take k) q := by
  unfold signedN
  rw [take_snoc hk, List.filter_append]
  generalize W.getD k default = d at *
  simp [h]
theorem signed_en {W : List Nu} {k : Nat} (hW : ∀ x ∈ W, x.ok) (hk : k < 18446744073709551616) : signedE (W.map Nu.en) (D8.of k) = (signedN W k).map D8.of := by
  induction W with
  | nil => rfl
  | cons x W ih =>
    have hx := hW x (by simp)
    have ih := ih (fun y hy => hW y (by simp [hy]))
    have e : isK (D8.of k) x.en = (x.k == k) := by
      unfold isK
      rw [Bool.eq_iff_iff, eqN_iff, beq_iff_eq]
      constructor
      · intro h; exact of_inj hx.1 hk h
      · rintro rfl; rfl
    unfold signedE signedN at *
    rw [List.map_cons, List.filter_cons, List.filter_cons, e]
    cases hc : (x.k == k) with
    | true => simp only [if_true, List.map_cons, ih]; rfl
    | false => simpa using ih
theorem signedN_len (W : List Nu) (k : Nat) : (signedN W k).length ≤ W.length := by
  unfold signedN; rw [List.length_map]; exact List.length_filter_le _ _
theorem info_Di : (Try.prog.info? 32).map (fun i => (i.zero, i.size, i.bytes)) = some (some (.agg #[.int .u8 0, .int .u8 0, .int .u8 0, .int .u8 0, .int .u8 0, .int .u8 0, .int .u8 0, .int .u8 0]), 8, 8) := by kernel_rfl
theorem info_u64 : (Try.prog.info? 34).map (fun i => (i.zero, i.size, i.bytes)) = some (some (.int .u64 0), 1, 8) := by kernel_rfl
def bv64 (l : List Nat) : List Value := l.map fun x => .int .u64 ((x : Nat) : Int)
theorem bv64_append (l m : List Nat) : bv64 (l ++ m) = bv64 l ++ bv64 m := by simp [bv64]
set_option maxRecDepth 100000 in
set_option maxHeartbeats 2000000 in
theorem signedr_any (W : List Nu) (q : Nat) (A : Option Addr) (n c : Nat) (w : World) (hr : Rd w w.heap.size 2 A n (flatN W)) (hn : n ≤ 60000) (_hq : q < 18446744073709551616) :
    Calls Try.prog 18 #[.slice A n c, .int .u64 (q : Int)] w fun r w' => ∃ A' n' c', r = .returned (.slice A' n' c') ∧ w'.ownsRow w.heap.size 34 1 (.slice A' n' c') n' (bv64 (signedN W q)) ∧ Below w.heap.size w w' := by
  obtain ⟨i0, hi, hz0, hz1, hz2⟩ := info_parts info_u64
  have HI := Lib.hid (And.intro hi (And.intro hz0 (And.intro hz1 hz2))); clear hi hz0 hz1 hz2
  have Hl := Lib.hid hr.nlen
  have Hr := Lib.hid hr
  clear hr
  go_enter Try.func18, Try.ntmps18
  go_wp2
  go_loopw [5, 6] (fun v5 i wr => ∃ (k n5 : Nat), k ≤ n ∧ i = .int .i64 (k : Int) ∧ n5 ≤ k ∧ wr.ownsRow w.heap.size 34 1 v5 n5 (bv64 (signedN (W.take k) q)) ∧ Below w.heap.size w wr) (fun _ i _ => n - (Lib.intOf i).toNat)
  case atStart => exact ⟨0, 0, Nat.zero_le _, rfl, Nat.le_refl _, World.ownsRow_nil _ _ _ _, Below.refl _ _⟩
  case round =>
    obtain ⟨k, n5, hk, rfl, hn5, hown, hbel⟩ := hrel
    obtain ⟨A', c', rfl⟩ := own_form hown
    by_cases hlt : k < n
    · obtain ⟨b, o, rfl, hbB, x0, x1⟩ := (Hr.out.below hbel (Nat.le_refl _)).nu hlt
      have Hy := Lib.hid (signedN_yes (W := W) (k := k) (q := q) (by have := Hl.out; omega))
      have Hno := Lib.hid (signedN_no (W := W) (k := k) (q := q) (by have := Hl.out; omega))
      generalize W.getD k default = d at *
      have hsz := hbel.size
      have hd1 : decide ((k : Int) < (n : Int)) = true := decide_eq_true (by omega)
      have hi0 : (0 : Int) ≤ (k : Int) := by omega
      have hi1 : (k : Int) < (n : Int) := by omega
      have Hown := Lib.hid hown; have Hb := Lib.hid hbel
      clear hown hbel
      cases hp : (d.k == q) with
      | true =>
        have hpp : ((d.k : Int) == (q : Int)) = true := by have := beq_iff_eq.1 hp; simp [this]
        have Hp := Lib.hid hp
        clear hp
        go_wp2_with (at_builtin; go_must (refine wpList_append_lit wr (by rfl) _ _ 43 (by rfl) w.heap.size 34 i0 (.int .u64 0) 1 8 Try.underlying43 HI.out rfl (by decide) _ _ _ (by rfl) Hown.out 1 1 #[.int .u64 (d.m : Int)] 34 (by rfl) rfl (by simp [Value.oneCell']) (by omega) (by omega) (by omega) ?_); intro v5 w5 hown5 hbel5; have Hown5 := Lib.hid hown5; have Hb5 := Lib.hid (Hb.out.trans hbel5); clear hown5 hbel5)
        go_roundw
        case rel => exact ⟨k + 1, n5 + 1, by omega, by go_num, by omega, by rw [Hy.out Hp.out, bv64_append]; exact Hown5.out, Hb5.out⟩
        case measure => simp [Lib.intOf]; omega
      | false =>
        have hpp : ((d.k : Int) == (q : Int)) = false := by
          have := beq_eq_false_iff_ne.1 hp
          simp only [beq_eq_false_iff_ne, ne_eq]; omega
        have Hp := Lib.hid hp
        clear hp
        go_wp2
        go_roundw
        case rel => exact ⟨k + 1, n5, by omega, by go_num, by omega, by rw [Hno.out Hp.out]; exact Hown.out, Hb.out⟩
        case measure => simp [Lib.intOf]; omega
    · have hkn : k = n := by omega
      subst hkn
      have hd1 : decide ((k : Int) < (k : Int)) = false := by simp
      have Hown := Lib.hid hown; have Hbel := Lib.hid hbel
      clear hown hbel hlt
      go_wp2
      go_ret
      have e : W.take k = W := List.take_of_length_le (by have := Hl.out; omega)
      have ho := Hown.out
      rw [e] at ho
      exact ⟨A', n5, c', rfl, ho, Hbel.out⟩
end Go.Proofs.Ytepdinfopcohiaa
