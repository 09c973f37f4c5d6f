/- The text of a plan, plainly; the walk of the reference's Print. Conditions: bounds. -/
import Derived.Test.YtigolkdclacikaaDoorChP
import Derived.Test.YtigolkdclacikaaDoorChD
import Derived.Lib.UnsafeStr
import Derived.Lib.SmallJoins
namespace Go.Proofs.YtigolkdclacikaaDoor
open Go.RowKit Go.Lib

section
variable {P : Program} {ops : Array Oper} {Q : Exit → Act → World → Prop} {md : Region.Mode}
/-- A region is held the better, the more is held. -/
theorem wpAnyH_mono {S S' : World → Prop} (h : ∀ w, S' w → S w) : ∀ (fuel : Nat) (listed : Array Bool) (a : Act) (w : World), wpAnyH P md ops Q S' fuel listed a w → wpAnyH P md ops Q S fuel listed a w
  | 0, _, _, _, hh => hh
  | fuel + 1, _, _, _, hh => ⟨hh.1, fun i hi => wpOp_mono (fun a' w' h' => ⟨h _ h'.1, wpAnyH_mono h fuel _ a' w' h'.2⟩) (hh.2 i hi)⟩
end
/-- What may be printed of a deed. -/
def De.inR (d : De) : Prop := (0 ≤ d.t ∧ d.t ≤ 1048576) ∧ (0 ≤ d.k ∧ d.k ≤ 14) ∧ (0 ≤ d.w ∧ d.w ≤ 15) ∧ (0 ≤ d.a ∧ d.a ≤ 1000) ∧ (0 ≤ d.b ∧ d.b ≤ 1000)
theorem check_inR {l : List De} (h : checkD l 16 = 0) : l.length ≤ 256 ∧ ∀ i, i < l.length → (l.getD i default).inR := by
  unfold checkD at h
  rw [if_neg (by omega)] at h
  by_cases hl : 256 < l.length
  · rw [if_pos hl] at h; omega
  rw [if_neg hl] at h
  refine ⟨by omega, fun i hi => ?_⟩
  have h0 : dErr l 16 i = 0 := by
    cases hf : (List.range l.length).find? (fun i => dErr l 16 i != 0) with
    | some j =>
      rw [hf] at h
      have := List.find?_some hf
      simp only [h] at this
      exact absurd this (by decide)
    | none =>
      have := List.find?_eq_none.1 hf i (List.mem_range.2 hi)
      simpa using this
  unfold dErr at h0
  by_cases h1 : inD (l.getD i default).t 1048576 = false
  · rw [if_pos h1] at h0; omega
  rw [if_neg h1] at h0
  by_cases h2 : 0 < i ∧ (l.getD i default).t < (l.getD (i - 1) default).t
  · rw [if_pos h2] at h0; omega
  rw [if_neg h2] at h0
  by_cases h3 : inD (l.getD i default).k 14 = false
  · rw [if_pos h3] at h0; omega
  rw [if_neg h3] at h0
  by_cases h4 : inD (l.getD i default).w (16 - 1) = false
  · rw [if_pos h4] at h0; omega
  rw [if_neg h4] at h0
  by_cases h5 : inD (l.getD i default).a 1000 = false ∨ inD (l.getD i default).b 1000 = false
  · rw [if_pos h5] at h0; omega
  simp only [not_or, Bool.not_eq_false] at h1 h3 h4 h5
  exact ⟨inD_iff.1 h1, inD_iff.1 h3, by have := inD_iff.1 h4; omega, inD_iff.1 h5.1, inD_iff.1 h5.2⟩
/-- A deed's line, and a plan's text. -/
def lineU (d : De) : List UInt8 := Lib.decDigits d.t.toNat ++ [32] ++ (wordN d.k.toNat).data.toList ++ [32] ++ Lib.decDigits d.w.toNat ++ [32] ++ Lib.decDigits d.a.toNat ++ [32] ++ Lib.decDigits d.b.toNat ++ [10]
def textU (l : List De) : List UInt8 := l.flatMap lineU
def textB (l : List De) : ByteArray := ⟨(textU l).toArray⟩
theorem dig_data (n : Nat) : (digB n).data.toList = Lib.decDigits n := rfl
theorem textU_succ {l : List De} {k : Nat} (hk : k < l.length) : textU (l.take (k + 1)) = textU (l.take k) ++ lineU (l.getD k default) := by
  unfold textU
  rw [take_de hk, List.flatMap_append]
  simp
theorem dataApp (a b : ByteArray) : (a ++ b).data.toList = a.data.toList ++ b.data.toList := by simp [ByteArray.data_append]
theorem textB_succ {l : List De} {k : Nat} (hk : k < l.length) :
    textB (l.take (k + 1)) = ((((((((((textB (l.take k) ++ digB (l.getD k default).t.toNat) ++ ⟨#[32]⟩) ++ wordN (l.getD k default).k.toNat) ++ ⟨#[32]⟩) ++ digB (l.getD k default).w.toNat) ++ ⟨#[32]⟩) ++ digB (l.getD k default).a.toNat) ++ ⟨#[32]⟩) ++ digB (l.getD k default).b.toNat) ++ ⟨#[10]⟩) := by
  have ext : ∀ a b : ByteArray, a.data.toList = b.data.toList → a = b := fun a b h => by
    obtain ⟨⟨a⟩⟩ := a; obtain ⟨⟨b⟩⟩ := b; simp only at h; rw [h]
  apply ext
  simp only [dataApp]
  show textU _ = _
  rw [textU_succ hk]
  unfold lineU
  simp [dig_data, textB, List.append_assoc]
theorem wordN_size (k : Nat) : (wordN k).size ≤ 8 := by
  by_cases h : k < 15
  · match k, h with
    | 0, _ => decide
    | 1, _ => decide
    | 2, _ => decide
    | 3, _ => decide
    | 4, _ => decide
    | 5, _ => decide
    | 6, _ => decide
    | 7, _ => decide
    | 8, _ => decide
    | 9, _ => decide
    | 10, _ => decide
    | 11, _ => decide
    | 12, _ => decide
    | 13, _ => decide
    | 14, _ => decide
  · have : wordL.getD k [] = [] := by rw [List.getD_eq_getElem?_getD, List.getElem?_eq_none (by show 15 ≤ k; omega)]; rfl
    unfold wordN
    rw [this]
    decide
theorem lineU_len {d : De} (h : d.inR) : (lineU d).length ≤ 1100000 := by
  obtain ⟨h1, h2, h3, h4, h5⟩ := h
  have w1 := wordN_size d.k.toNat
  have e : (wordN d.k.toNat).data.toList.length = (wordN d.k.toNat).size := rfl
  have n1 := nDig_le d.t.toNat; have n2 := nDig_le d.w.toNat; have n3 := nDig_le d.a.toNat; have n4 := nDig_le d.b.toNat
  unfold lineU
  simp only [List.length_append, Lib.decDigits_length, List.length_cons, List.length_nil, e]
  omega
theorem textU_len {l : List De} (h : ∀ i, i < l.length → (l.getD i default).inR) : ∀ k, k ≤ l.length → (textU (l.take k)).length ≤ k * 1100000 := by
  intro k
  induction k with
  | zero => intro _; simp [textU]
  | succ k ih =>
    intro hk
    rw [textU_succ (by omega), List.length_append]
    have := ih (by omega); have := lineU_len (h k (by omega))
    omega
theorem add_str {a b c : ByteArray} (h : a.size + b.size ≤ 1000000000000) (hc : c = a ++ b) (w : World) : (binOp .add 9 (.string a) (.string b)).run Tryd.prog w = .ok (.string c) w := by
  subst hc
  have hn : ¬ 9223372036854775807 < a.size + b.size := by omega
  go_simp
theorem exec_binS {P : Program} {o : Oper} {ev : Operand → Value} {op : BinOp} {t t' : TypeId} {x y : Operand} {w : World} {V W R : Value} (ho : o.op = .binOp op t x y t') (hx : ev x = V) (hy : ev y = W) (hg : (eqGuard op t x y V W).run P w = .ok () w) (hb : (binOp op t V W).run P w = .ok R w) : (execOp ev o).run P w = .ok (.value R) w := by
  simp [execOp, ho, hx, hy, hg, hb, Result.andThen]
theorem numrI_any (n : Int) (w : World) (h0 : 0 ≤ n) (h1 : n ≤ 1048576) : Calls Tryd.prog 45 #[.int .i64 n] w fun e w' => e = .returned (.string (digB n.toNat)) ∧ Below w.heap.size w w' := by
  have := numr_any n.toNat w (by omega)
  rwa [show ((n.toNat : Nat) : Int) = n by omega] at this
set_option maxRecDepth 100000 in
set_option maxHeartbeats 4000000 in
theorem printr_any (A : Option Addr) (n c : Nat) (l : List De) (w : World) (hr : Rd w w.heap.size 5 A n (flat l)) (hn : n ≤ 1000000) :
    Calls Tryd.prog 23 #[.slice A n c] w fun e w' => e = .returned (.tuple #[.string (if checkD l 16 = 0 then textB l else ⟨#[]⟩), .int .i64 (checkD l 16)]) ∧ Below w.heap.size w w' := by
  have Hl := Lib.hid hr.dlen
  have Hr := Lib.hid hr
  have HC := Lib.hid (checkr_any A n c l 16 w hr hn)
  have Hin := Lib.hid (fun (h : checkD l 16 = 0) => check_inR h)
  clear hr
  generalize hck : checkD l 16 = ck at *
  clear hck
  go_enter Tryd.func23, Tryd.ntmps23
  go_wp2_with fail
  refine HC.out.mono ?_
  rintro e w1 ⟨rfl, hb⟩
  have Hb1 := Lib.hid hb
  clear hb HC
  by_cases h0 : ck = 0
  · subst h0
    obtain ⟨hl256, hin⟩ := Hin.out rfl
    have Hin2 := Lib.hid hin
    have Htl := Lib.hid (textU_len hin)
    clear Hin hin
    go_wp2
    go_loopw [5, 6] (fun sv iv wr => ∃ k : Nat, k ≤ n ∧ sv = .string (textB (l.take k)) ∧ iv = .int .i64 (k : Int) ∧ Hid (Below w.heap.size w wr)) (fun _ iv _ => n - (RowKit.intOf iv).toNat)
    case atStart => exact ⟨0, Nat.zero_le _, rfl, rfl, Hb1⟩
    case round =>
      obtain ⟨k, hk, rfl, rfl, Hb⟩ := hrel
      by_cases hlt : k < n
      · have hd1 : decide ((k : Int) < (n : Int)) = true := decide_eq_true (by omega)
        have hki : (k : Int) < (n : Int) := by omega
        have hkl : k < l.length := by have := Hl.out; omega
        have Hd := Lib.hid (Hin2.out k hkl)
        have Hts : Hid ((textB (l.take k)).size ≤ 300000000) := Lib.hid (by
          have h1 := Htl.out k (by omega)
          have h2 : (textB (l.take k)).size = (textU (l.take k)).length := by unfold textB; simp [ByteArray.size]
          omega)
        have Hsucc := Lib.hid (textB_succ hkl)
        obtain ⟨bb, o, rfl, hbB, c0, c1, c2, c3, c4⟩ := Hr.out.de hlt
        have HX := Lib.hid (fun (u : World) (hu : Below w.heap.size w u) => show u.cell? ⟨bb, o + k * 5, none⟩ = some (.int .i64 (l.getD k default).t) ∧ u.cell? ⟨bb, o + k * 5 + 1, none⟩ = some (.int .i64 (l.getD k default).k) ∧ u.cell? ⟨bb, o + k * 5 + 2, none⟩ = some (.int .i64 (l.getD k default).w) ∧ u.cell? ⟨bb, o + k * 5 + 3, none⟩ = some (.int .i64 (l.getD k default).a) ∧ u.cell? ⟨bb, o + k * 5 + 4, none⟩ = some (.int .i64 (l.getD k default).b) from by
          obtain ⟨b2, o2, e1, _, hc⟩ := (Hr.out.below hu (Nat.le_refl _)).de hlt
          injection e1 with e1
          injection e1 with e2 e3
          subst e2; subst e3
          exact hc)
        clear c0 c1 c2 c3 c4
        generalize l.getD k default = d at *
        obtain ⟨⟨t0, t1⟩, ⟨k0, k1⟩, ⟨w0', w1'⟩, ⟨a0, a1⟩, ⟨b0, b1⟩⟩ := Hd.out
        have HN := Lib.hid (fun (z : Int) (hz : 0 ≤ z ∧ z ≤ 1048576) (u : World) => numrI_any z u hz.1 hz.2)
        generalize textB (l.take k) = s0 at *
        go_upto_region 8 with fail
        have hkk : d.k = ((d.k.toNat : Nat) : Int) := by omega
        obtain ⟨kk, hkn⟩ : ∃ kk, kk = d.k.toNat := ⟨_, rfl⟩
        rw [← hkn] at hkk
        have hk15 : kk < 15 := by omega
        have hk15i : (kk : Int) < 15 := by omega
        have hxt : ∀ u, Below w.heap.size w u → u.cell? ⟨bb, o + k * 5, none⟩ = some (.int .i64 d.t) := fun u hu => (HX.out u hu).1
        have hxk : ∀ u, Below w.heap.size w u → u.cell? ⟨bb, o + k * 5 + 1, none⟩ = some (.int .i64 (kk : Int)) := fun u hu => by rw [← hkk]; exact (HX.out u hu).2.1
        have hxw : ∀ u, Below w.heap.size w u → u.cell? ⟨bb, o + k * 5 + 2, none⟩ = some (.int .i64 d.w) := fun u hu => (HX.out u hu).2.2.1
        have hxa : ∀ u, Below w.heap.size w u → u.cell? ⟨bb, o + k * 5 + 3, none⟩ = some (.int .i64 d.a) := fun u hu => (HX.out u hu).2.2.2.1
        have hxb : ∀ u, Below w.heap.size w u → u.cell? ⟨bb, o + k * 5 + 4, none⟩ = some (.int .i64 d.b) := fun u hu => (HX.out u hu).2.2.2.2
        have z1 := digB_size d.t.toNat; have z2 := digB_size d.w.toNat; have z3 := digB_size d.a.toNat; have z4 := digB_size d.b.toNat; have z5 := wordN_size kk
        have hs0 := Hts.out
        rw [← hkn] at Hsucc
        obtain ⟨p1, hp1⟩ : ∃ p, p = digB d.t.toNat := ⟨_, rfl⟩
        obtain ⟨p2, hp2⟩ : ∃ p, p = digB d.w.toNat := ⟨_, rfl⟩
        obtain ⟨p3, hp3⟩ : ∃ p, p = digB d.a.toNat := ⟨_, rfl⟩
        obtain ⟨p4, hp4⟩ : ∃ p, p = digB d.b.toNat := ⟨_, rfl⟩
        obtain ⟨pw, hpw⟩ : ∃ p, p = wordN kk := ⟨_, rfl⟩
        have N1 := Lib.hid (fun u => HN.out d.t ⟨t0, t1⟩ u); have N2 := Lib.hid (fun u => HN.out d.w ⟨w0', by omega⟩ u); have N3 := Lib.hid (fun u => HN.out d.a ⟨a0, by omega⟩ u); have N4 := Lib.hid (fun u => HN.out d.b ⟨b0, by omega⟩ u)
        have hwa := words_at kk hk15
        have q1 : d.t.toNat ≤ 1048576 := by omega
        have q2 : d.w.toNat ≤ 1048576 := by omega
        have q3 : d.a.toNat ≤ 1048576 := by omega
        have q4 : d.b.toNat ≤ 1048576 := by omega
        rw [← hp1] at N1 Hsucc z1; rw [← hp2] at N2 Hsucc z2; rw [← hp3] at N3 Hsucc z3; rw [← hp4] at N4 Hsucc z4; rw [← hpw] at hwa Hsucc z5
        have zs : (⟨#[32]⟩ : ByteArray).size = 1 := rfl
        have zn : (⟨#[10]⟩ : ByteArray).size = 1 := rfl
        obtain ⟨s1, hs1⟩ : ∃ s, s = s0 ++ p1 := ⟨_, rfl⟩
        obtain ⟨s2, hs2⟩ : ∃ s, s = s1 ++ (⟨#[32]⟩ : ByteArray) := ⟨_, rfl⟩
        obtain ⟨s3, hs3⟩ : ∃ s, s = s2 ++ pw := ⟨_, rfl⟩
        obtain ⟨s4, hs4⟩ : ∃ s, s = s3 ++ (⟨#[32]⟩ : ByteArray) := ⟨_, rfl⟩
        obtain ⟨s5, hs5⟩ : ∃ s, s = s4 ++ p2 := ⟨_, rfl⟩
        obtain ⟨s6, hs6⟩ : ∃ s, s = s5 ++ (⟨#[32]⟩ : ByteArray) := ⟨_, rfl⟩
        obtain ⟨s7, hs7⟩ : ∃ s, s = s6 ++ p3 := ⟨_, rfl⟩
        obtain ⟨s8, hs8⟩ : ∃ s, s = s7 ++ (⟨#[32]⟩ : ByteArray) := ⟨_, rfl⟩
        obtain ⟨s9, hs9⟩ : ∃ s, s = s8 ++ p4 := ⟨_, rfl⟩
        obtain ⟨s10, hs10⟩ : ∃ s, s = s9 ++ (⟨#[10]⟩ : ByteArray) := ⟨_, rfl⟩
        rw [← hs1, ← hs2, ← hs3, ← hs4, ← hs5, ← hs6, ← hs7, ← hs8, ← hs9, ← hs10] at Hsucc
        have v1 : s1.size = s0.size + p1.size := by rw [hs1, ByteArray.size_append]
        have v2 : s2.size = s1.size + 1 := by rw [hs2, ByteArray.size_append, zs]
        have v3 : s3.size = s2.size + pw.size := by rw [hs3, ByteArray.size_append]
        have v4 : s4.size = s3.size + 1 := by rw [hs4, ByteArray.size_append, zs]
        have v5 : s5.size = s4.size + p2.size := by rw [hs5, ByteArray.size_append]
        have v6 : s6.size = s5.size + 1 := by rw [hs6, ByteArray.size_append, zs]
        have v7 : s7.size = s6.size + p3.size := by rw [hs7, ByteArray.size_append]
        have v8 : s8.size = s7.size + 1 := by rw [hs8, ByteArray.size_append, zs]
        have v9 : s9.size = s8.size + p4.size := by rw [hs9, ByteArray.size_append]
        have A1 := fun u => add_str (by omega) hs1 u
        have A2 := fun u => add_str (by rw [zs]; omega) hs2 u
        have A3 := fun u => add_str (by omega) hs3 u
        have A4 := fun u => add_str (by rw [zs]; omega) hs4 u
        have A5 := fun u => add_str (by omega) hs5 u
        have A6 := fun u => add_str (by rw [zs]; omega) hs6 u
        have A7 := fun u => add_str (by omega) hs7 u
        have A8 := fun u => add_str (by rw [zs]; omega) hs8 u
        have A9 := fun u => add_str (by omega) hs9 u
        have A10 := fun u => add_str (by rw [zn]; omega) hs10 u
        have HA := Lib.hid (And.intro A1 (And.intro A2 (And.intro A3 (And.intro A4 (And.intro A5 (And.intro A6 (And.intro A7 (And.intro A8 (And.intro A9 A10)))))))))
        clear A1 A2 A3 A4 A5 A6 A7 A8 A9 A10 v1 v2 v3 v4 v5 v6 v7 v8 v9 hs0 z1 z2 z3 z4 z5 zs zn hs1 hs2 hs3 hs4 hs5 hs6 hs7 hs8 hs9 hs10 hp1 hp2 hp3 hp4 hpw q1 q2 q3 q4 HN t0 t1 k0 k1 w0' w1' a0 a1 b0 b1 hkk hkn Hd Hts
        have Hwa := Lib.hid hwa
        clear hwa
        have Hb0 := Lib.hid (show Below w.heap.size w wr.drew from Hb.out.drew)
        have hS1 := Hb0.out
        refine wp_region_held_drew (S := fun w' => Below w.heap.size w w') (by kernel_rfl) hS1 (fun hHeld => ?_)
        rw [show Array.replicate _ false = (#[false, false, false, false, false, false, false, false, false, false, false, false, false, false, false, false, false, false, false, false, false, false, false, false, false, false, false, false, false, false, false, false, false, false, false, false, false, false, false, false, false, false, false, false] : Array Bool) from rfl]
        generalize wr.drew = u0 at *
        refine takeH 0 (some 18) (v := ?_) rfl (by kernel_rfl) (by kernel_rfl) (by kernel_rfl) (by kernel_rfl) (fun _ _ _ h => h) (Or.inl ⟨by kernel_rfl, ?hy⟩) (by assumption) ?_
        case hy =>
          intro w' hSw
          clear hSw
          first
            | (go_simp; done)
            | (go_simp; with_reducible rfl)
        simp only [Act.put, List.setIfInBounds_toArray, List.set_cons_zero, List.set_cons_succ]
        refine takeH 1 (some 19) (v := ?_) rfl (by kernel_rfl) (by kernel_rfl) (by kernel_rfl) (by kernel_rfl) (fun _ _ _ h => h) (Or.inl ⟨by kernel_rfl, ?hy⟩) (by assumption) ?_
        case hy =>
          intro w' hSw
          clear hSw
          first
            | (go_simp; done)
            | (go_simp; with_reducible rfl)
        simp only [Act.put, List.setIfInBounds_toArray, List.set_cons_zero, List.set_cons_succ]
        refine takeH 2 (some 20) (v := ?_) rfl (by kernel_rfl) (by kernel_rfl) (by kernel_rfl) (by kernel_rfl) (fun _ _ _ h => h) (Or.inl ⟨by kernel_rfl, ?hy⟩) (by assumption) ?_
        case hy =>
          intro w' hSw
          clear hSw
          first
            | (go_simp; done)
            | (go_simp; with_reducible rfl)
        simp only [Act.put, List.setIfInBounds_toArray, List.set_cons_zero, List.set_cons_succ]
        refine takeH 3 (some 21) (v := ?_) rfl (by kernel_rfl) (by kernel_rfl) (by kernel_rfl) (by kernel_rfl) (fun _ _ _ h => h) (Or.inl ⟨by kernel_rfl, ?hy⟩) (by assumption) ?_
        case hy =>
          intro w' hSw
          clear hSw
          first
            | (go_simp; done)
            | (go_simp; with_reducible rfl)
        simp only [Act.put, List.setIfInBounds_toArray, List.set_cons_zero, List.set_cons_succ]
        refine takeH 4 (some 22) (v := ?_) rfl (by kernel_rfl) (by kernel_rfl) (by kernel_rfl) (by kernel_rfl) (fun _ _ _ h => h) (Or.inl ⟨by kernel_rfl, ?hy⟩) (by assumption) ?_
        case hy =>
          intro w' hSw
          clear hSw
          first
            | (go_simp; done)
            | (go_simp; with_reducible rfl)
        simp only [Act.put, List.setIfInBounds_toArray, List.set_cons_zero, List.set_cons_succ]
        refine takeH 5 (some 23) (v := ?_) rfl (by kernel_rfl) (by kernel_rfl) (by kernel_rfl) (by kernel_rfl) (fun _ _ _ h => h) (Or.inl ⟨by kernel_rfl, ?hy⟩) (by assumption) ?_
        case hy =>
          intro w' hSw
          have hx := hxt w' hSw
          clear hSw
          first
            | (go_simp; done)
            | (go_simp; with_reducible rfl)
        simp only [Act.put, List.setIfInBounds_toArray, List.set_cons_zero, List.set_cons_succ]
        refine takeH 10 (some 28) (v := ?_) rfl (by kernel_rfl) (by kernel_rfl) (by kernel_rfl) (by kernel_rfl) (fun _ _ _ h => h) (Or.inl ⟨by kernel_rfl, ?hy⟩) (by assumption) ?_
        case hy =>
          intro w' hSw
          clear hSw
          first
            | (go_simp; done)
            | (go_simp; with_reducible rfl)
        simp only [Act.put, List.setIfInBounds_toArray, List.set_cons_zero, List.set_cons_succ]
        refine takeH 11 (some 29) (v := ?_) rfl (by kernel_rfl) (by kernel_rfl) (by kernel_rfl) (by kernel_rfl) (fun _ _ _ h => h) (Or.inl ⟨by kernel_rfl, ?hy⟩) (by assumption) ?_
        case hy =>
          intro w' hSw
          clear hSw
          first
            | (go_simp; done)
            | (go_simp; with_reducible rfl)
        simp only [Act.put, List.setIfInBounds_toArray, List.set_cons_zero, List.set_cons_succ]
        refine takeH 12 (some 30) (v := ?_) rfl (by kernel_rfl) (by kernel_rfl) (by kernel_rfl) (by kernel_rfl) (fun _ _ _ h => h) (Or.inl ⟨by kernel_rfl, ?hy⟩) (by assumption) ?_
        case hy =>
          intro w' hSw
          clear hSw
          first
            | (go_simp; done)
            | (go_simp; with_reducible rfl)
        simp only [Act.put, List.setIfInBounds_toArray, List.set_cons_zero, List.set_cons_succ]
        refine takeH 13 (some 31) (v := ?_) rfl (by kernel_rfl) (by kernel_rfl) (by kernel_rfl) (by kernel_rfl) (fun _ _ _ h => h) (Or.inl ⟨by kernel_rfl, ?hy⟩) (by assumption) ?_
        case hy =>
          intro w' hSw
          clear hSw
          first
            | (go_simp; done)
            | (go_simp; with_reducible rfl)
        simp only [Act.put, List.setIfInBounds_toArray, List.set_cons_zero, List.set_cons_succ]
        refine takeH 14 (some 32) (v := ?_) rfl (by kernel_rfl) (by kernel_rfl) (by kernel_rfl) (by kernel_rfl) (fun _ _ _ h => h) (Or.inl ⟨by kernel_rfl, ?hy⟩) (by assumption) ?_
        case hy =>
          intro w' hSw
          have hx := hxk w' hSw
          clear hSw
          first
            | (go_simp; done)
            | (go_simp; with_reducible rfl)
        simp only [Act.put, List.setIfInBounds_toArray, List.set_cons_zero, List.set_cons_succ]
        refine takeH 19 (some 37) (v := ?_) rfl (by kernel_rfl) (by kernel_rfl) (by kernel_rfl) (by kernel_rfl) (fun _ _ _ h => h) (Or.inl ⟨by kernel_rfl, ?hy⟩) (by assumption) ?_
        case hy =>
          intro w' hSw
          clear hSw
          first
            | (go_simp; done)
            | (go_simp; with_reducible rfl)
        simp only [Act.put, List.setIfInBounds_toArray, List.set_cons_zero, List.set_cons_succ]
        refine takeH 20 (some 38) (v := ?_) rfl (by kernel_rfl) (by kernel_rfl) (by kernel_rfl) (by kernel_rfl) (fun _ _ _ h => h) (Or.inl ⟨by kernel_rfl, ?hy⟩) (by assumption) ?_
        case hy =>
          intro w' hSw
          clear hSw
          first
            | (go_simp; done)
            | (go_simp; with_reducible rfl)
        simp only [Act.put, List.setIfInBounds_toArray, List.set_cons_zero, List.set_cons_succ]
        refine takeH 21 (some 39) (v := ?_) rfl (by kernel_rfl) (by kernel_rfl) (by kernel_rfl) (by kernel_rfl) (fun _ _ _ h => h) (Or.inl ⟨by kernel_rfl, ?hy⟩) (by assumption) ?_
        case hy =>
          intro w' hSw
          clear hSw
          first
            | (go_simp; done)
            | (go_simp; with_reducible rfl)
        simp only [Act.put, List.setIfInBounds_toArray, List.set_cons_zero, List.set_cons_succ]
        refine takeH 22 (some 40) (v := ?_) rfl (by kernel_rfl) (by kernel_rfl) (by kernel_rfl) (by kernel_rfl) (fun _ _ _ h => h) (Or.inl ⟨by kernel_rfl, ?hy⟩) (by assumption) ?_
        case hy =>
          intro w' hSw
          clear hSw
          first
            | (go_simp; done)
            | (go_simp; with_reducible rfl)
        simp only [Act.put, List.setIfInBounds_toArray, List.set_cons_zero, List.set_cons_succ]
        refine takeH 23 (some 41) (v := ?_) rfl (by kernel_rfl) (by kernel_rfl) (by kernel_rfl) (by kernel_rfl) (fun _ _ _ h => h) (Or.inl ⟨by kernel_rfl, ?hy⟩) (by assumption) ?_
        case hy =>
          intro w' hSw
          have hx := hxw w' hSw
          clear hSw
          first
            | (go_simp; done)
            | (go_simp; with_reducible rfl)
        simp only [Act.put, List.setIfInBounds_toArray, List.set_cons_zero, List.set_cons_succ]
        refine takeH 27 (some 45) (v := ?_) rfl (by kernel_rfl) (by kernel_rfl) (by kernel_rfl) (by kernel_rfl) (fun _ _ _ h => h) (Or.inl ⟨by kernel_rfl, ?hy⟩) (by assumption) ?_
        case hy =>
          intro w' hSw
          clear hSw
          first
            | (go_simp; done)
            | (go_simp; with_reducible rfl)
        simp only [Act.put, List.setIfInBounds_toArray, List.set_cons_zero, List.set_cons_succ]
        refine takeH 28 (some 46) (v := ?_) rfl (by kernel_rfl) (by kernel_rfl) (by kernel_rfl) (by kernel_rfl) (fun _ _ _ h => h) (Or.inl ⟨by kernel_rfl, ?hy⟩) (by assumption) ?_
        case hy =>
          intro w' hSw
          clear hSw
          first
            | (go_simp; done)
            | (go_simp; with_reducible rfl)
        simp only [Act.put, List.setIfInBounds_toArray, List.set_cons_zero, List.set_cons_succ]
        refine takeH 29 (some 47) (v := ?_) rfl (by kernel_rfl) (by kernel_rfl) (by kernel_rfl) (by kernel_rfl) (fun _ _ _ h => h) (Or.inl ⟨by kernel_rfl, ?hy⟩) (by assumption) ?_
        case hy =>
          intro w' hSw
          clear hSw
          first
            | (go_simp; done)
            | (go_simp; with_reducible rfl)
        simp only [Act.put, List.setIfInBounds_toArray, List.set_cons_zero, List.set_cons_succ]
        refine takeH 30 (some 48) (v := ?_) rfl (by kernel_rfl) (by kernel_rfl) (by kernel_rfl) (by kernel_rfl) (fun _ _ _ h => h) (Or.inl ⟨by kernel_rfl, ?hy⟩) (by assumption) ?_
        case hy =>
          intro w' hSw
          clear hSw
          first
            | (go_simp; done)
            | (go_simp; with_reducible rfl)
        simp only [Act.put, List.setIfInBounds_toArray, List.set_cons_zero, List.set_cons_succ]
        refine takeH 31 (some 49) (v := ?_) rfl (by kernel_rfl) (by kernel_rfl) (by kernel_rfl) (by kernel_rfl) (fun _ _ _ h => h) (Or.inl ⟨by kernel_rfl, ?hy⟩) (by assumption) ?_
        case hy =>
          intro w' hSw
          have hx := hxa w' hSw
          clear hSw
          first
            | (go_simp; done)
            | (go_simp; with_reducible rfl)
        simp only [Act.put, List.setIfInBounds_toArray, List.set_cons_zero, List.set_cons_succ]
        refine takeH 35 (some 53) (v := ?_) rfl (by kernel_rfl) (by kernel_rfl) (by kernel_rfl) (by kernel_rfl) (fun _ _ _ h => h) (Or.inl ⟨by kernel_rfl, ?hy⟩) (by assumption) ?_
        case hy =>
          intro w' hSw
          clear hSw
          first
            | (go_simp; done)
            | (go_simp; with_reducible rfl)
        simp only [Act.put, List.setIfInBounds_toArray, List.set_cons_zero, List.set_cons_succ]
        refine takeH 36 (some 54) (v := ?_) rfl (by kernel_rfl) (by kernel_rfl) (by kernel_rfl) (by kernel_rfl) (fun _ _ _ h => h) (Or.inl ⟨by kernel_rfl, ?hy⟩) (by assumption) ?_
        case hy =>
          intro w' hSw
          clear hSw
          first
            | (go_simp; done)
            | (go_simp; with_reducible rfl)
        simp only [Act.put, List.setIfInBounds_toArray, List.set_cons_zero, List.set_cons_succ]
        refine takeH 37 (some 55) (v := ?_) rfl (by kernel_rfl) (by kernel_rfl) (by kernel_rfl) (by kernel_rfl) (fun _ _ _ h => h) (Or.inl ⟨by kernel_rfl, ?hy⟩) (by assumption) ?_
        case hy =>
          intro w' hSw
          clear hSw
          first
            | (go_simp; done)
            | (go_simp; with_reducible rfl)
        simp only [Act.put, List.setIfInBounds_toArray, List.set_cons_zero, List.set_cons_succ]
        refine takeH 38 (some 56) (v := ?_) rfl (by kernel_rfl) (by kernel_rfl) (by kernel_rfl) (by kernel_rfl) (fun _ _ _ h => h) (Or.inl ⟨by kernel_rfl, ?hy⟩) (by assumption) ?_
        case hy =>
          intro w' hSw
          clear hSw
          first
            | (go_simp; done)
            | (go_simp; with_reducible rfl)
        simp only [Act.put, List.setIfInBounds_toArray, List.set_cons_zero, List.set_cons_succ]
        refine takeH 39 (some 57) (v := ?_) rfl (by kernel_rfl) (by kernel_rfl) (by kernel_rfl) (by kernel_rfl) (fun _ _ _ h => h) (Or.inl ⟨by kernel_rfl, ?hy⟩) (by assumption) ?_
        case hy =>
          intro w' hSw
          have hx := hxb w' hSw
          clear hSw
          first
            | (go_simp; done)
            | (go_simp; with_reducible rfl)
        simp only [Act.put, List.setIfInBounds_toArray, List.set_cons_zero, List.set_cons_succ]
        clear hS1 hxt hxk hxw hxa hxb
        refine wpAnyH_ready (rs := [6]) (by kernel_rfl) (by simp) ?_
        refine AllReadyH.cons rfl (fun K hK => ?_) AllReadyH.nil
        rw [if_pos (by kernel_rfl)]
        go_simp
        refine (N1.out u0).mono ?_
        rintro e u1 ⟨rfl, hb⟩
        have Hc1 := Lib.hid (Hb0.out.trans (hb.mono Hb0.out.size))
        clear hb
        refine hK.out _ _ Hc1.out (fun _ => ?_)
        clear hK K
        simp only [List.setIfInBounds_toArray, List.set_cons_zero, List.set_cons_succ]
        have hS1 := Hc1.out
        refine takeH 7 (some 25) (v := .string s1) rfl (by kernel_rfl) (by kernel_rfl) (by kernel_rfl) (by kernel_rfl) (fun _ _ _ h => h) (Or.inl ⟨by kernel_rfl, fun w' _ => exec_binS (by rfl) (by rfl) (by rfl) (by rfl) (HA.out.1 w')⟩) (by assumption) ?_
        simp only [Act.put, List.setIfInBounds_toArray, List.set_cons_zero, List.set_cons_succ]
        refine takeH 8 (some 26) (v := .string s2) rfl (by kernel_rfl) (by kernel_rfl) (by kernel_rfl) (by kernel_rfl) (fun _ _ _ h => h) (Or.inl ⟨by kernel_rfl, fun w' _ => exec_binS (by rfl) (by rfl) (by rfl) (by rfl) (HA.out.2.1 w')⟩) (by assumption) ?_
        simp only [Act.put, List.setIfInBounds_toArray, List.set_cons_zero, List.set_cons_succ]
        clear hS1
        refine wpAnyH_ready (rs := [9]) (by kernel_rfl) (by simp) ?_
        refine AllReadyH.cons rfl (fun K hK => ?_) AllReadyH.nil
        rw [if_pos (by kernel_rfl)]
        go_simp
        refine (wordsr_any u1).mono ?_
        rintro e u2 ⟨rfl, hu2⟩
        have HW : Hid (u2.heap[u1.heap.size]? = some (.cells #[.string ⟨#[110, 111, 116, 104, 105, 110, 103]⟩, .string ⟨#[108, 111, 115, 101]⟩, .string ⟨#[100, 111, 117, 98, 108, 101]⟩, .string ⟨#[100, 101, 108, 97, 121]⟩, .string ⟨#[113, 117, 105, 101, 116]⟩, .string ⟨#[115, 116, 97, 108, 101]⟩, .string ⟨#[117, 110, 108, 105, 107, 101]⟩, .string ⟨#[97, 115, 115, 101, 114, 116]⟩, .string ⟨#[100, 111, 117, 98, 116]⟩, .string ⟨#[102, 108, 111, 111, 100]⟩, .string ⟨#[108, 101, 97, 118, 101]⟩, .string ⟨#[116, 97, 107, 101]⟩, .string ⟨#[99, 114, 97, 115, 104]⟩, .string ⟨#[115, 108, 101, 101, 112]⟩, .string ⟨#[119, 105, 116, 104, 104, 111, 108, 100]⟩] 9 (0, 0))) := Lib.hid (by rw [hu2]; exact heap_alloc_new u1 _)
        have Hc2 : Hid (Below w.heap.size w u2) := Lib.hid (by rw [hu2]; exact Hc1.out.alloc Hc1.out.size _)
        clear hu2
        generalize u1.heap.size = gw at *
        refine hK.out _ _ Hc2.out (fun _ => ?_)
        clear hK K
        simp only [List.setIfInBounds_toArray, List.set_cons_zero, List.set_cons_succ]
        refine wpAnyH_mono (S' := fun w' => Below u2.heap.size u2 w') (fun w' hw' => Hc2.out.trans (hw'.mono Hc2.out.size)) _ _ _ _ ?_
        have hS1 : Below u2.heap.size u2 u2 := Below.refl _ _
        have hxq : ∀ u, Below u2.heap.size u2 u → u.cell? ⟨gw, kk, none⟩ = some (.string pw) := fun u hu => (block_cell (block_below HW.out hu (block_lt HW.out)) kk).trans Hwa.out
        refine takeH 15 (some 33) (v := ?_) rfl (by kernel_rfl) (by kernel_rfl) (by kernel_rfl) (by kernel_rfl) (fun _ _ _ h => h) (Or.inl ⟨by kernel_rfl, ?hy⟩) (by assumption) ?_
        case hy =>
          intro w' hSw
          clear hSw
          first
            | (go_simp; done)
            | (go_simp; with_reducible rfl)
        simp only [Act.put, List.setIfInBounds_toArray, List.set_cons_zero, List.set_cons_succ]
        refine takeH 16 (some 34) (v := ?_) rfl (by kernel_rfl) (by kernel_rfl) (by kernel_rfl) (by kernel_rfl) (fun _ _ _ h => h) (Or.inl ⟨by kernel_rfl, ?hy⟩) (by assumption) ?_
        case hy =>
          intro w' hSw
          have hx := hxq w' hSw
          clear hSw
          first
            | (go_simp; done)
            | (go_simp; with_reducible rfl)
        simp only [Act.put, List.setIfInBounds_toArray, List.set_cons_zero, List.set_cons_succ]
        refine takeH 17 (some 35) (v := .string s3) rfl (by kernel_rfl) (by kernel_rfl) (by kernel_rfl) (by kernel_rfl) (fun _ _ _ h => h) (Or.inl ⟨by kernel_rfl, fun w' _ => exec_binS (by rfl) (by rfl) (by rfl) (by rfl) (HA.out.2.2.1 w')⟩) (by assumption) ?_
        simp only [Act.put, List.setIfInBounds_toArray, List.set_cons_zero, List.set_cons_succ]
        refine takeH 18 (some 36) (v := .string s4) rfl (by kernel_rfl) (by kernel_rfl) (by kernel_rfl) (by kernel_rfl) (fun _ _ _ h => h) (Or.inl ⟨by kernel_rfl, fun w' _ => exec_binS (by rfl) (by rfl) (by rfl) (by rfl) (HA.out.2.2.2.1 w')⟩) (by assumption) ?_
        simp only [Act.put, List.setIfInBounds_toArray, List.set_cons_zero, List.set_cons_succ]
        clear hxq hS1
        have Hd2 : Hid (Below u2.heap.size u2 u2) := Lib.hid (Below.refl _ _)
        refine wpAnyH_ready (rs := [24]) (by kernel_rfl) (by simp) ?_
        refine AllReadyH.cons rfl (fun K hK => ?_) AllReadyH.nil
        rw [if_pos (by kernel_rfl)]
        go_simp
        refine (N2.out u2).mono ?_
        rintro e u3 ⟨rfl, hb⟩
        have Hd3 := Lib.hid (Hd2.out.trans (hb.mono Hd2.out.size))
        clear hb
        refine hK.out _ _ Hd3.out (fun _ => ?_)
        clear hK K
        simp only [List.setIfInBounds_toArray, List.set_cons_zero, List.set_cons_succ]
        have hS1 := Hd3.out
        refine takeH 25 (some 43) (v := .string s5) rfl (by kernel_rfl) (by kernel_rfl) (by kernel_rfl) (by kernel_rfl) (fun _ _ _ h => h) (Or.inl ⟨by kernel_rfl, fun w' _ => exec_binS (by rfl) (by rfl) (by rfl) (by rfl) (HA.out.2.2.2.2.1 w')⟩) (by assumption) ?_
        simp only [Act.put, List.setIfInBounds_toArray, List.set_cons_zero, List.set_cons_succ]
        refine takeH 26 (some 44) (v := .string s6) rfl (by kernel_rfl) (by kernel_rfl) (by kernel_rfl) (by kernel_rfl) (fun _ _ _ h => h) (Or.inl ⟨by kernel_rfl, fun w' _ => exec_binS (by rfl) (by rfl) (by rfl) (by rfl) (HA.out.2.2.2.2.2.1 w')⟩) (by assumption) ?_
        simp only [Act.put, List.setIfInBounds_toArray, List.set_cons_zero, List.set_cons_succ]
        clear hS1
        refine wpAnyH_ready (rs := [32]) (by kernel_rfl) (by simp) ?_
        refine AllReadyH.cons rfl (fun K hK => ?_) AllReadyH.nil
        rw [if_pos (by kernel_rfl)]
        go_simp
        refine (N3.out u3).mono ?_
        rintro e u4 ⟨rfl, hb⟩
        have Hd4 := Lib.hid (Hd3.out.trans (hb.mono Hd3.out.size))
        clear hb
        refine hK.out _ _ Hd4.out (fun _ => ?_)
        clear hK K
        simp only [List.setIfInBounds_toArray, List.set_cons_zero, List.set_cons_succ]
        have hS1 := Hd4.out
        refine takeH 33 (some 51) (v := .string s7) rfl (by kernel_rfl) (by kernel_rfl) (by kernel_rfl) (by kernel_rfl) (fun _ _ _ h => h) (Or.inl ⟨by kernel_rfl, fun w' _ => exec_binS (by rfl) (by rfl) (by rfl) (by rfl) (HA.out.2.2.2.2.2.2.1 w')⟩) (by assumption) ?_
        simp only [Act.put, List.setIfInBounds_toArray, List.set_cons_zero, List.set_cons_succ]
        refine takeH 34 (some 52) (v := .string s8) rfl (by kernel_rfl) (by kernel_rfl) (by kernel_rfl) (by kernel_rfl) (fun _ _ _ h => h) (Or.inl ⟨by kernel_rfl, fun w' _ => exec_binS (by rfl) (by rfl) (by rfl) (by rfl) (HA.out.2.2.2.2.2.2.2.1 w')⟩) (by assumption) ?_
        simp only [Act.put, List.setIfInBounds_toArray, List.set_cons_zero, List.set_cons_succ]
        clear hS1
        refine wpAnyH_ready (rs := [40]) (by kernel_rfl) (by simp) ?_
        refine AllReadyH.cons rfl (fun K hK => ?_) AllReadyH.nil
        rw [if_pos (by kernel_rfl)]
        go_simp
        refine (N4.out u4).mono ?_
        rintro e u5 ⟨rfl, hb⟩
        have Hd5 := Lib.hid (Hd4.out.trans (hb.mono Hd4.out.size))
        clear hb
        refine hK.out _ _ Hd5.out (fun _ => ?_)
        clear hK K
        simp only [List.setIfInBounds_toArray, List.set_cons_zero, List.set_cons_succ]
        have hS1 := Hd5.out
        refine takeH 41 (some 59) (v := .string s9) rfl (by kernel_rfl) (by kernel_rfl) (by kernel_rfl) (by kernel_rfl) (fun _ _ _ h => h) (Or.inl ⟨by kernel_rfl, fun w' _ => exec_binS (by rfl) (by rfl) (by rfl) (by rfl) (HA.out.2.2.2.2.2.2.2.2.1 w')⟩) (by assumption) ?_
        simp only [Act.put, List.setIfInBounds_toArray, List.set_cons_zero, List.set_cons_succ]
        refine takeH 42 (some 60) (v := .string s10) rfl (by kernel_rfl) (by kernel_rfl) (by kernel_rfl) (by kernel_rfl) (fun _ _ _ h => h) (Or.inl ⟨by kernel_rfl, fun w' _ => exec_binS (by rfl) (by rfl) (by rfl) (by rfl) (HA.out.2.2.2.2.2.2.2.2.2 w')⟩) (by assumption) ?_
        simp only [Act.put, List.setIfInBounds_toArray, List.set_cons_zero, List.set_cons_succ]
        refine takeH 43 (some 5) (v := ?_) rfl (by kernel_rfl) (by kernel_rfl) (by kernel_rfl) (by kernel_rfl) (fun _ _ _ h => h) (Or.inl ⟨by kernel_rfl, ?hy⟩) (by assumption) ?_
        case hy =>
          intro w' hSw
          clear hSw
          first
            | (go_simp; done)
            | (go_simp; with_reducible rfl)
        simp only [Act.put, List.setIfInBounds_toArray, List.set_cons_zero, List.set_cons_succ]
        refine wpAnyH_done (by kernel_rfl) ?_ _
        clear hS1
        go_wp2
        go_roundw
        case rel => exact ⟨k + 1, by omega, by rw [Hsucc.out], by go_num, Lib.hid (Hc2.out.trans (Hd5.out.mono Hc2.out.size))⟩
        case measure => simp [RowKit.intOf]; omega
      · obtain rfl : k = n := by omega
        have hd1 : decide ((k : Int) < (k : Int)) = false := by simp
        have hti : l.take k = l := List.take_of_length_le (by have := Hl.out; omega)
        clear hlt hk
        rw [hti]
        go_wp2
        go_ret2
        exact ⟨rfl, Hb.out⟩
  · have e1 : (ck != 0) = true := by simpa using h0
    go_wp2
    go_ret2
    exact ⟨rfl, Hb1.out⟩
end Go.Proofs.YtigolkdclacikaaDoor
