/- The walks of bytes.Equal and bytes.Clone. Conditions: bounds on how many bytes. -/
import Derived.Test.YtebepgoaofhelaaByt
import Derived.Shelf.Bytes.SlEqualAll
import Derived.Lib.SliceRun
namespace Go.Proofs.Ytebepgoaofhelaa
open Go.RowKit Go.Lib

def intsN (l : List Nat) : List Int := l.map fun (x : Nat) => (x : Int)
def strS (l : List Nat) : ByteArray := strOfNums (intsN l)
theorem strS_eq {a b : List Nat} (ha : ∀ x ∈ a, x < 256) (hb : ∀ x ∈ b, x < 256) : ((strS a).toList == (strS b).toList) = sameB a b := by
  by_cases h : a = b
  · subst h; simp [sameB]
  · rw [sameB_no h]
    simp only [beq_eq_false_iff_ne, ne_eq]
    intro e
    apply h
    rw [ByteArray.toList_eq, ByteArray.toList_eq] at e
    simp only [strS, strOfNums_data, intsN, List.map_map] at e
    have key : ∀ (a b : List Nat), (∀ x ∈ a, x < 256) → (∀ x ∈ b, x < 256) → a.map ((fun n : Int => UInt8.ofNat n.toNat) ∘ fun (x : Nat) => (x : Int)) = b.map ((fun n : Int => UInt8.ofNat n.toNat) ∘ fun (x : Nat) => (x : Int)) → a = b := by
      intro a
      induction a with
      | nil => intro b _ _ h; cases b with | nil => rfl | cons _ _ => simp at h
      | cons x a ih =>
        intro b ha hb h
        cases b with
        | nil => simp at h
        | cons y b =>
          simp only [List.map_cons, List.cons.injEq, Function.comp, Int.toNat_natCast] at h
          have h1 := congrArg UInt8.toNat h.1
          have hx := ha x (by simp)
          have hy := hb y (by simp)
          simp only [UInt8.toNat_ofNat'] at h1
          rw [ih b (fun z hz => ha z (by simp [hz])) (fun z hz => hb z (by simp [hz])) h.2]
          congr 1
          omega
    exact key a b ha hb e
theorem conv_bytes {w : World} {B n : Nat} {A : Option Addr} {l : List Nat} (h : Rd w B 1 A n (bv l)) (c : Nat) (dst : TypeId) (hd : Try.prog.underlying dst = some .string) : (convert 24 dst (.slice A n c)).run Try.prog w = .ok (.string (strS l)) w := by
  have hb : Lib.BytesIn w A n (intsN l) := fun hn => by
    obtain ⟨b, o, e, _, _⟩ := h.byte hn
    refine ⟨b, o, e, fun i hi => ?_⟩
    obtain ⟨b', o', e', _, hc⟩ := h.byte hi
    rw [e] at e'
    simp only [Option.some.injEq, Addr.mk.injEq] at e'
    obtain ⟨rfl, rfl, _⟩ := e'
    rw [hc]
    have hl := h.blen
    simp [intsN, List.getD_eq_getElem?_getD, List.getElem?_eq_getElem (show i < l.length by omega)]
  exact hb.convert (by unfold intsN; rw [List.length_map, h.blen]) c _ _ _ Try.underlying24 Try.underlying5 hd
set_option maxRecDepth 100000 in
theorem equal_any (A A' : Option Addr) (n c n' c' : Nat) (l x : List Nat) (w : World) (hr : Rd w w.heap.size 1 A n (bv l)) (hr' : Rd w w.heap.size 1 A' n' (bv x)) (hb : ∀ y ∈ l, y < 256) (hb' : ∀ y ∈ x, y < 256) :
    Calls Try.prog 45 #[.slice A n c, .slice A' n' c'] w fun e w' => e = .returned (.bool (sameB l x)) ∧ w = w' := by
  have h1 := conv_bytes hr c 9 Try.underlying9
  have h2 := conv_bytes hr' c' 9 Try.underlying9
  have Hs := Lib.hid (strS_eq hb hb')
  clear hr hr' hb hb'
  generalize strS l = s1 at *
  generalize strS x = s2 at *
  go_enter Try.func45, Try.ntmps45
  go_wp2
  go_ret
  exact ⟨ret_bool Hs.out, rfl⟩
set_option maxRecDepth 100000 in
set_option maxHeartbeats 1000000 in
theorem clone_any (A : Option Addr) (n c : Nat) (l : List Nat) (w : World) (hr : Rd w w.heap.size 1 A n (bv l)) (hn : n ≤ 400000000) :
    Calls Try.prog 46 #[.slice A n c] w (GivesB w l) := by
  obtain ⟨i0, hi, hz0, hz1, hz2⟩ := info_parts info_u8
  have HI := Lib.hid (And.intro hi (And.intro hz0 (And.intro hz1 hz2))); clear hi hz0 hz1 hz2
  have Hr := Lib.hid hr
  have Hl := Lib.hid hr.blen
  clear hr
  have hnil := fun (A : Option Addr) (w' : World) => Lib.run_eql_slice_nil (P := Try.prog) w' 24 5 A n c 0 0 Try.underlying24
  cases A with
  | none =>
    have hn0 : n = 0 := by
      rcases Nat.eq_zero_or_pos n with h0 | h0
      · exact h0
      · obtain ⟨_, _, h2, _⟩ := Hr.out.2 h0
        cases h2
    have Hn0 := Lib.hid hn0
    clear hn0
    go_enter Try.func46, Try.ntmps46
    go_wp2
    go_ret
    have hl0 : l = [] := List.eq_nil_of_length_eq_zero (by rw [Hl.out, Hn0.out])
    exact ⟨none, 0, 0, rfl, by rw [hl0]; exact World.ownsRow_nil _ _ _ _, by rw [hl0]; rfl, Below.refl _ _⟩
  | some a =>
    have Hown0 : Hid ((w.alloc (.cells #[] 5)).ownsRow w.heap.size 5 1 (.slice (some ⟨w.heap.size, 0, none⟩) 0 0) 0 (bv [])) :=
      World.ownsRow_made (base := w.heap.size) (e := 5) (size := 1) w #[] 0 (by simp) (by decide) rfl
    have Hr1 := Lib.hid (Hr.out.alloc (Nat.le_refl _) (.cells #[] 5))
    go_enter Try.func46, Try.ntmps46
    go_wp2_with (at_builtin; go_must (refine wpList_append_rd (w.alloc (.cells #[] 5)) (by rfl) _ _ 24 (by rfl) w.heap.size 5 i0 (.int .u8 0) 1 1 Try.underlying24 HI.out rfl (by decide) _ _ _ (by rfl) Hown0.out w.heap.size (some a) n c (bv l) (by rfl) Hr1.out (bv_one l) (by omega) (by omega) (by simp) ?_); intro v3 w3 hown3 hb3; have Hown3 := Lib.hid hown3; have Hb3 := Lib.hid (((Below.refl w.heap.size w).alloc (Nat.le_refl _) _).trans hb3); clear hown3 hb3)
    go_ret
    obtain ⟨A3, c3, rfl⟩ := own_form Hown3.out
    exact ⟨A3, 0 + n, c3, rfl, by have := Hown3.out; simpa [bv] using this, by rw [Hl.out]; omega, Hb3.out⟩
end Go.Proofs.Ytebepgoaofhelaa
