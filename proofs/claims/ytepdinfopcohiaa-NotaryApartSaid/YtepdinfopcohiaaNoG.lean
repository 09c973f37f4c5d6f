/- Two numbers in a struct compared; the walks of the reference's Find, Bytes. Condition: bounds. -/
import Derived.Test.YtepdinfopcohiaaNoB
import Derived.Laws.StructEq
import Derived.Deep.RegionLaw
import Derived.Lib.SliceRun
namespace Go.Proofs.Ytepdinfopcohiaa
open Go.RowKit Go.Lib
theorem fields_cons {fs : List Field} {n : String} {t : TypeId} {o : Nat} {r : List (String × TypeId × Nat)} (h : fs.map (fun f => (f.name, f.type, f.offset)) = (n, t, o) :: r) :
    ∃ f fs', fs = f :: fs' ∧ f.name = n ∧ f.type = t ∧ f.offset = o ∧ fs'.map (fun f => (f.name, f.type, f.offset)) = r := by
  cases fs with
  | nil => simp at h
  | cons f fs' =>
    simp only [List.map_cons, List.cons.injEq, Prod.mk.injEq] at h
    exact ⟨f, fs', rfl, h.1.1, h.1.2.1, h.1.2.2, h.2⟩
theorem isAgg_u64 : ∀ w, (isAgg 34).run Try.prog w = .ok false w := fun w => by kernel_rfl
theorem flds_nu : (Try.prog.fieldsOf 53).toList.map (fun f => (f.name, f.type, f.offset)) = [("Key", 34, 0), ("Msg", 34, 1)] := by kernel_rfl
theorem und_nu : Try.prog.underlying 53 = some (.struct (Try.prog.fieldsOf 53)) := by kernel_rfl
theorem eqIn_nu (a b c d : Int) (w : World) : (Op.equalIn (9997 + 3) 53 (.agg #[.int .u64 a, .int .u64 b]) (.agg #[.int .u64 c, .int .u64 d])).run Try.prog w = .ok (a == c && b == d) w := by
  rw [show 9997 + 3 = (9997 + 2) + 1 from rfl, run_equalIn_struct w (9997 + 2) 53 _ _ und_nu (by kernel_rfl)]
  obtain ⟨f1, r1, e1, n1, t1, o1, h1⟩ := fields_cons flds_nu
  obtain ⟨f2, r2, rfl, n2, t2, o2, h2⟩ := fields_cons h1
  obtain rfl : r2 = [] := by simpa using h2
  rw [e1]
  have p1 : ∀ (x y : Int) w, (part 34 #[.int .u64 x, .int .u64 y] 0).run Try.prog w = .ok (.int .u64 x) w := fun x y w => run_part_u8 isAgg_u64 _ _ _ w rfl
  have p2 : ∀ (x y : Int) w, (part 34 #[.int .u64 x, .int .u64 y] 1).run Try.prog w = .ok (.int .u64 y) w := fun x y w => run_part_u8 isAgg_u64 _ _ _ w rfl
  have q2 := fun (x y : Int) w => run_equalIn_int (P := Try.prog) w (9997 + 1) 34 .u64 .u64 x y Try.underlying34
  have u1 : ("Key" : String) ≠ "_" := by decide
  have u2 : ("Msg" : String) ≠ "_" := by decide
  simp only [Op.eqFields, n1, n2, t1, t2, o1, o2, if_pos u1, if_pos u2, Sem.run_bind, Result.andThen_ok, p1, p2, q2, Sem.run_ite, Sem.run_pure]
  cases (a == c) <;> cases (b == d) <;> rfl
theorem neq_nu (a b c d : Int) (w : World) : (binOp .neq 53 (.agg #[.int .u64 a, .int .u64 b]) (.agg #[.int .u64 c, .int .u64 d])).run Try.prog w = .ok (.bool (!(a == c && b == d))) w := by
  rw [run_neq_struct, show (10000 : Nat) = 9997 + 3 from rfl, eqIn_nu]; rfl
theorem eql_nu (a b c d : Int) (w : World) : (binOp .eql 53 (.agg #[.int .u64 a, .int .u64 b]) (.agg #[.int .u64 c, .int .u64 d])).run Try.prog w = .ok (.bool (a == c && b == d)) w := by
  rw [run_eql_struct, show (10000 : Nat) = 9997 + 3 from rfl, eqIn_nu]; rfl
theorem flds_le : (Try.prog.fieldsOf 36).toList.map (fun f => (f.name, f.type, f.offset)) = [("Key", 5, 0), ("Msg", 5, 1)] := by kernel_rfl
theorem und_le : Try.prog.underlying 36 = some (.struct (Try.prog.fieldsOf 36)) := by kernel_rfl
theorem eqIn_le (a b c d : Int) (w : World) : (Op.equalIn (9997 + 3) 36 (.agg #[.int .u8 a, .int .u8 b]) (.agg #[.int .u8 c, .int .u8 d])).run Try.prog w = .ok (a == c && b == d) w := by
  rw [show 9997 + 3 = (9997 + 2) + 1 from rfl, run_equalIn_struct w (9997 + 2) 36 _ _ und_le (by kernel_rfl)]
  obtain ⟨f1, r1, e1, n1, t1, o1, h1⟩ := fields_cons flds_le
  obtain ⟨f2, r2, rfl, n2, t2, o2, h2⟩ := fields_cons h1
  obtain rfl : r2 = [] := by simpa using h2
  rw [e1]
  have p1 : ∀ (x y : Int) w, (part 5 #[.int .u8 x, .int .u8 y] 0).run Try.prog w = .ok (.int .u8 x) w := fun x y w => run_part_u8 isAgg_u8 _ _ _ w rfl
  have p2 : ∀ (x y : Int) w, (part 5 #[.int .u8 x, .int .u8 y] 1).run Try.prog w = .ok (.int .u8 y) w := fun x y w => run_part_u8 isAgg_u8 _ _ _ w rfl
  have q2 := fun (x y : Int) w => run_equalIn_int (P := Try.prog) w (9997 + 1) 5 .u8 .u8 x y Try.underlying5
  have u1 : ("Key" : String) ≠ "_" := by decide
  have u2 : ("Msg" : String) ≠ "_" := by decide
  simp only [Op.eqFields, n1, n2, t1, t2, o1, o2, if_pos u1, if_pos u2, Sem.run_bind, Result.andThen_ok, p1, p2, q2, Sem.run_ite, Sem.run_pure]
  cases (a == c) <;> cases (b == d) <;> rfl
theorem neq_le (a b c d : Int) (w : World) : (binOp .neq 36 (.agg #[.int .u8 a, .int .u8 b]) (.agg #[.int .u8 c, .int .u8 d])).run Try.prog w = .ok (.bool (!(a == c && b == d))) w := by
  rw [run_neq_struct, show (10000 : Nat) = 9997 + 3 from rfl, eqIn_le]; rfl
theorem eql_le (a b c d : Int) (w : World) : (binOp .eql 36 (.agg #[.int .u8 a, .int .u8 b]) (.agg #[.int .u8 c, .int .u8 d])).run Try.prog w = .ok (.bool (a == c && b == d)) w := by
  rw [run_eql_struct, show (10000 : Nat) = 9997 + 3 from rfl, eqIn_le]; rfl
def Nu.cells (e : Nu) : List Value := [.int .u64 (e.k : Int), .int .u64 (e.m : Int)]
def flatN (l : List Nu) : List Value := l.flatMap Nu.cells
theorem flatN_len (l : List Nu) : (flatN l).length = l.length * 2 := by
  induction l with
  | nil => rfl
  | cons i l ih =>
    have : flatN (i :: l) = i.cells ++ flatN l := by simp [flatN]
    rw [this, List.length_append, ih]; simp [Nu.cells]; omega
theorem flatN_append (l m : List Nu) : flatN (l ++ m) = flatN l ++ flatN m := by simp [flatN]
theorem flatN_at : ∀ (l : List Nu) (k j : Nat), k < l.length → j < 2 → (flatN l)[k * 2 + j]? = (l.getD k default).cells[j]?
  | [], k, _, h, _ => by simp at h
  | i :: l, k, j, h, hj => by
    have e : flatN (i :: l) = i.cells ++ flatN l := by simp [flatN]
    have hc : i.cells.length = 2 := rfl
    rw [e]
    cases k with
    | zero => rw [List.getElem?_append_left (by omega)]; simp
    | succ k =>
      rw [List.getElem?_append_right (by omega), hc, show (k + 1) * 2 + j - 2 = k * 2 + j from by omega]
      have := flatN_at l k j (by simpa using h) hj
      simpa using this
theorem Rd.nlen {w : World} {B n : Nat} {A : Option Addr} {l : List Nu} (h : Rd w B 2 A n (flatN l)) : l.length = n := by have := h.1; rw [flatN_len] at this; omega
theorem Rd.nu {w : World} {B n : Nat} {A : Option Addr} {l : List Nu} (h : Rd w B 2 A n (flatN l)) {k : Nat} (hk : k < n) :
    ∃ b o, A = some ⟨b, o, none⟩ ∧ b < B ∧ w.cell? ⟨b, o + k * 2, none⟩ = some (.int .u64 ((l.getD k default).k : Int)) ∧ w.cell? ⟨b, o + k * 2 + 1, none⟩ = some (.int .u64 ((l.getD k default).m : Int)) := by
  have hl := h.nlen
  obtain ⟨b, o, e, hb, hc⟩ := h.2 (by omega)
  refine ⟨b, o, e, hb, ?_, ?_⟩
  · exact hc (k * 2 + 0) _ (flatN_at l k 0 (by omega) (by omega))
  · exact hc (k * 2 + 1) _ (flatN_at l k 1 (by omega) (by omega))
def findN (l : List Nu) (e : Nu) : Int := match posN l e with
  | some i => (i : Int)
  | none => -1
theorem find_at {l : List Nu} {e : Nu} {k : Nat} (hk : k < l.length) (h0 : ∀ j, j < k → sameNu (l.getD j default) e = false) (h : sameNu (l.getD k default) e = true) : posN l e = some k := by
  unfold posN
  rw [List.findIdx?_eq_some_iff_getElem]
  have hg : ∀ j (hj : j < l.length), l.getD j default = l[j] := fun j hj => by simp [List.getD_eq_getElem?_getD, hj]
  refine ⟨hk, by rw [← hg k hk]; exact h, fun j hj => ?_⟩
  have := h0 j hj
  rw [hg j (by omega)] at this
  simp [this]
theorem find_no {l : List Nu} {e : Nu} (h0 : ∀ j, j < l.length → sameNu (l.getD j default) e = false) : posN l e = none := by
  unfold posN
  rw [List.findIdx?_eq_none_iff]
  intro x hx
  obtain ⟨j, hj, rfl⟩ := List.mem_iff_getElem.1 hx
  have := h0 j hj
  simpa [List.getD_eq_getElem?_getD, hj] using this
theorem same_int (a e : Nu) : (((a.k : Int) == (e.k : Int)) && ((a.m : Int) == (e.m : Int))) = sameNu a e := by
  unfold sameNu
  rw [Bool.eq_iff_iff]
  simp only [Bool.and_eq_true, beq_iff_eq]
  omega
set_option maxRecDepth 100000 in
set_option maxHeartbeats 2000000 in
theorem findr_any (l : List Nu) (e : Nu) (A : Option Addr) (n c : Nat) (w : World) (hr : Rd w w.heap.size 2 A n (flatN l)) (hn : n ≤ 1000000) :
    Calls Try.prog 22 #[.slice A n c, .agg #[.int .u64 (e.k : Int), .int .u64 (e.m : Int)]] w fun r w' => r = .returned (.int .i64 (findN l e)) ∧ Below w.heap.size w w' := by
  have Hl := Lib.hid hr.nlen
  have Hr := Lib.hid hr
  have heq := eql_nu
  have HE : Hid ((w.alloc (.cells #[.int .u64 (e.k : Int), .int .u64 (e.m : Int)] 53)).heap[w.heap.size]? = some (.cells #[.int .u64 (e.k : Int), .int .u64 (e.m : Int)] 53 (0, 0))) := heap_alloc_new w _
  clear hr
  go_enter Try.func22, Try.ntmps22
  go_wp2
  go_loopw [5] (fun i wr => ∃ k : Nat, k ≤ n ∧ i = .int .i64 (k : Int) ∧ (∀ j, j < k → sameNu (l.getD j default) e = false) ∧ wr.heap[w.heap.size]? = some (.cells #[.int .u64 (e.k : Int), .int .u64 (e.m : Int)] 53 (0, 0)) ∧ Below w.heap.size w wr) (fun i _ => n - (intOf i).toNat)
  case atStart => exact ⟨0, Nat.zero_le _, rfl, fun j hj => absurd hj (by omega), HE.out, below_one w _⟩
  case round =>
    obtain ⟨k, hk, rfl, h0, hE, hbel⟩ := hrel
    have H0 := Lib.hid h0; have HE' := Lib.hid hE; have Hbel := Lib.hid hbel
    have z0 := block_cell hE 0; have z1 := block_cell hE 1
    simp at z0 z1
    clear h0 hE
    by_cases hlt : k < n
    · obtain ⟨b, o, rfl, hbB, x0, x1⟩ := (Hr.out.below hbel (Nat.le_refl _)).nu hlt
      have hs := same_int (l.getD k default) e
      have hd1 : decide ((k : Int) < (n : Int)) = true := decide_eq_true (by omega)
      have hi0 : (0 : Int) ≤ (k : Int) := by omega
      have hki : (k : Int) < (n : Int) := by omega
      have Hat := Lib.hid (find_at (l := l) (e := e) (k := k) (by have := Hl.out; omega) H0.out)
      have Hsame : Hid (∀ j, j < k + 1 → j ≠ k → sameNu (l.getD j default) e = false) := fun j hj hne => H0.out j (by omega)
      generalize hd : l.getD k default = d at *
      have Hd := Lib.hid hd
      clear hd hbel
      cases hc : sameNu d e with
      | true =>
        rw [hc] at hs
        have Hp := Lib.hid (Hat.out hc)
        clear hc
        go_wp2
        go_region
        all_goals
          go_wp2
          go_ret
          exact ⟨by unfold findN; rw [Hp.out]; rfl, Hbel.out.drew⟩
      | false =>
        rw [hc] at hs
        have Hc := Lib.hid hc
        clear hc
        go_wp2
        go_region
        all_goals
          go_wp2
          go_roundw
          case rel =>
            refine ⟨k + 1, hlt, by go_num, fun j hj => ?_, HE'.out, Hbel.out.drew⟩
            rcases Nat.lt_or_ge j k with h1 | h1
            · exact H0.out j h1
            · obtain rfl : j = k := by omega
              rw [Hd.out]; exact Hc.out
          case measure => simp [intOf]; omega
    · have hkn : k = n := by omega
      have Hp : Hid (posN l e = none) := find_no (fun j hj => H0.out j (by have := Hl.out; omega))
      subst hkn
      have hd1 : decide ((k : Int) < (k : Int)) = false := by simp
      clear hbel hlt
      go_wp2
      go_ret
      exact ⟨by unfold findN; rw [Hp.out]; rfl, Hbel.out⟩
end Go.Proofs.Ytepdinfopcohiaa
