/- The walk of a plan's Print. Condition: the table of powers of ten, and bounds. -/
import Derived.Test.YtigolkdclacikaaDoorChR
import Derived.Test.YtigolkdclacikaaDoorChC
import Derived.Test.YtigolkdclacikaaDoorBld
namespace Go.Proofs.YtigolkdclacikaaDoor
open Go.RowKit Go.Lib

theorem bldAt_below {B b : Nat} {p : Value} {bs : List Value} {w w' : World} (h : Lib.BuilderAt 72 5 B b p bs w) (hb : Below w.heap.size w w') : Lib.BuilderAt 72 5 B b p bs w' := by
  obtain ⟨h1, v, h2, h3, h4⟩ := h
  exact ⟨h1, v, block_below h2 hb (block_lt h2), own_below h3 hb, h4⟩
theorem bld_below {B b : Nat} {bs : List Value} {w w' : World} (h : Lib.IsBuilder 72 5 B b bs w) (hb : Below w.heap.size w w') : Lib.IsBuilder 72 5 B b bs w' := h.imp (fun h => bldAt_below h hb) (fun h => bldAt_below h hb)
theorem bld_new (w : World) : Lib.IsBuilder 72 5 w.heap.size w.heap.size [] (w.alloc (.cells #[.pointer none, .slice none 0 0] 72)) :=
  .inl ⟨Nat.le_refl _, .slice none 0 0, heap_alloc_new w _, World.ownsRow_nil _ _ _ _, by simp [Value.ownBlock]⟩
theorem join_line {d : De} : Lib.join [(digB d.t.toNat).data.toList, (wordN d.k.toNat).data.toList, (digB d.w.toNat).data.toList, (digB d.a.toNat).data.toList, (digB d.b.toNat).data.toList] [32] ++ [10] = lineU d := by
  rw [Lib.join_cons]
  unfold Lib.joinTail lineU
  simp [dig_data, List.append_assoc]
theorem wordOf_in {k : Int} (h : 0 ≤ k ∧ k ≤ 14) : wordOf k = wordN k.toNat := by unfold wordOf; rw [inD_yes h.1 h.2]; rfl
set_option maxRecDepth 100000 in
set_option maxHeartbeats 4000000 in
theorem print_any (A : Option Addr) (n c : Nat) (l : List De) (w : World) (hr : Rd w w.heap.size 5 A n (flat l)) (hn : n ≤ 1000000) (hT : TabW w) :
    Calls Tryd.prog 22 #[.slice A n c] w fun e w' => e = .returned (.tuple #[.string (if checkD l 16 = 0 then textB l else ⟨#[]⟩), .int .i64 (checkD l 16)]) ∧ Below w.heap.size w w' := by
  have Hl := Lib.hid hr.dlen
  have Hr := Lib.hid hr
  have HC := Lib.hid (check_any A n c l 16 w hr hn)
  have Hin := Lib.hid (fun (h : checkD l 16 = 0) => check_inR h)
  have HT := Lib.hid (fun (u : World) (hu : Below w.heap.size w u) => hT.below hu hT.1)
  clear hr hT
  generalize hck : checkD l 16 = ck at *
  clear hck
  go_enter Tryd.func22, Tryd.ntmps22
  go_wp2_with fail
  refine HC.out.mono ?_
  rintro e w1 ⟨rfl, hb⟩
  have Hb1 := Lib.hid hb
  clear hb HC
  by_cases h0 : ck = 0
  · subst h0
    obtain ⟨hl256, hin⟩ := Hin.out rfl
    have Hin2 := Lib.hid hin
    have Htl := Lib.hid (textU_len hin)
    clear Hin hin
    have HB2 : Hid (Lib.IsBuilder 72 5 w1.heap.size w1.heap.size (Lib.byteCells (textU (l.take 0))) (w1.alloc (.cells #[.pointer none, .slice none 0 0] 72))) := bld_new w1
    have Hb2 := Lib.hid (Hb1.out.alloc Hb1.out.size (.cells #[.pointer none, .slice none 0 0] 72))
    go_wp2
    have hgB := Hb1.out.size
    generalize w1.alloc (.cells #[.pointer none, .slice none 0 0] 72) = w2 at *
    generalize w1.heap.size = gB at *
    go_loopw [16] (fun iv wr => ∃ k : Nat, k ≤ n ∧ iv = .int .i64 (k : Int) ∧ Hid (Below w.heap.size w wr) ∧ Hid (Lib.IsBuilder 72 5 gB gB (Lib.byteCells (textU (l.take k))) wr)) (fun iv _ => n - (RowKit.intOf iv).toNat)
    case atStart => exact ⟨0, Nat.zero_le _, rfl, Hb2, HB2⟩
    case round =>
      obtain ⟨k, hk, rfl, Hb, HB⟩ := hrel
      by_cases hlt : k < n
      · have hd1 : decide ((k : Int) < (n : Int)) = true := decide_eq_true (by omega)
        have hki : (k : Int) < (n : Int) := by omega
        have hkl : k < l.length := by have := Hl.out; omega
        have Hd := Lib.hid (Hin2.out k hkl)
        have Hts := Lib.hid (Htl.out k (by omega))
        have Hll := Lib.hid (lineU_len (Hin2.out k hkl))
        have Hsucc := Lib.hid (textU_succ hkl)
        obtain ⟨bb, o, rfl, hbB, c0, c1, c2, c3, c4⟩ := (Hr.out.below Hb.out (Nat.le_refl _)).de hlt
        have hbl : bb < wr.heap.size := Nat.lt_of_lt_of_le hbB Hb.out.size
        generalize l.getD k default = d at *
        obtain ⟨⟨t0, t1⟩, ⟨k0, k1⟩, ⟨w0', w1'⟩, ⟨a0, a1⟩, ⟨b0, b1⟩⟩ := Hd.out
        obtain ⟨p1, hp1⟩ : ∃ p, p = digB d.t.toNat := ⟨_, rfl⟩
        obtain ⟨p2, hp2⟩ : ∃ p, p = digB d.w.toNat := ⟨_, rfl⟩
        obtain ⟨p3, hp3⟩ : ∃ p, p = digB d.a.toNat := ⟨_, rfl⟩
        obtain ⟨p4, hp4⟩ : ∃ p, p = digB d.b.toNat := ⟨_, rfl⟩
        obtain ⟨pw, hpw⟩ : ∃ p, p = wordN d.k.toNat := ⟨_, rfl⟩
        have N1 := Lib.hid (fun u hu => itoa_any d.t u t0 t1 (HT.out u hu)); have N2 := Lib.hid (fun u hu => itoa_any d.w u w0' (by omega) (HT.out u hu)); have N3 := Lib.hid (fun u hu => itoa_any d.a u a0 (by omega) (HT.out u hu)); have N4 := Lib.hid (fun u hu => itoa_any d.b u b0 (by omega) (HT.out u hu))
        have NW := Lib.hid (fun u => word_any d.k u)
        rw [wordOf_in ⟨k0, k1⟩] at NW
        have HJ := Lib.hid (join_line (d := d))
        rw [← hp1] at N1 HJ; rw [← hp2] at N2 HJ; rw [← hp3] at N3 HJ; rw [← hp4] at N4 HJ; rw [← hpw] at NW HJ
        clear hp1 hp2 hp3 hp4 hpw t0 t1 k0 k1 w0' w1' a0 a1 b0 b1 Hd
        go_upto_region 8 with fail
        have HD : Hid ((wr.alloc (.cells #[.int .i64 d.t, .int .i64 d.k, .int .i64 d.w, .int .i64 d.a, .int .i64 d.b] 46)).heap[wr.heap.size]? = some (.cells #[.int .i64 d.t, .int .i64 d.k, .int .i64 d.w, .int .i64 d.a, .int .i64 d.b] 46 (0, 0))) := heap_alloc_new wr _
        have Hb3 := Lib.hid (Hb.out.alloc Hb.out.size (.cells #[.int .i64 d.t, .int .i64 d.k, .int .i64 d.w, .int .i64 d.a, .int .i64 d.b] 46))
        have HB3 := Lib.hid (bld_below HB.out (below_one wr (.cells #[.int .i64 d.t, .int .i64 d.k, .int .i64 d.w, .int .i64 d.a, .int .i64 d.b] 46)))
        clear c0 c1 c2 c3 c4 HB
        generalize wr.alloc (.cells #[.int .i64 d.t, .int .i64 d.k, .int .i64 d.w, .int .i64 d.a, .int .i64 d.b] 46) = w3 at *
        generalize wr.heap.size = gd at *
        have hx0 : ∀ u, Below w3.heap.size w3 u → u.cell? ⟨gd, 0, none⟩ = some (.int .i64 d.t) := fun u hu => (block_cell (block_below HD.out hu (block_lt HD.out)) 0).trans rfl
        have hx1 : ∀ u, Below w3.heap.size w3 u → u.cell? ⟨gd, 1, none⟩ = some (.int .i64 d.k) := fun u hu => (block_cell (block_below HD.out hu (block_lt HD.out)) 1).trans rfl
        have hx2 : ∀ u, Below w3.heap.size w3 u → u.cell? ⟨gd, 2, none⟩ = some (.int .i64 d.w) := fun u hu => (block_cell (block_below HD.out hu (block_lt HD.out)) 2).trans rfl
        have hx3 : ∀ u, Below w3.heap.size w3 u → u.cell? ⟨gd, 3, none⟩ = some (.int .i64 d.a) := fun u hu => (block_cell (block_below HD.out hu (block_lt HD.out)) 3).trans rfl
        have hx4 : ∀ u, Below w3.heap.size w3 u → u.cell? ⟨gd, 4, none⟩ = some (.int .i64 d.b) := fun u hu => (block_cell (block_below HD.out hu (block_lt HD.out)) 4).trans rfl
        have Hq0 := Lib.hid (show Below w3.heap.size w3 w3.drew from (Below.refl _ _).drew)
        have HW := Lib.hid (fun (u : World) (hu : Below w3.heap.size w3 u) => Hb3.out.trans (hu.mono Hb3.out.size))
        have hS1 := Hq0.out
        refine wp_region_held_drew (S := fun w' => Below w3.heap.size w3 w') (by kernel_rfl) hS1 (fun hHeld => ?_)
        rw [show Array.replicate _ false = (#[false, false, false, false, false, false, false, false, false, false, false, false, false, false, false, false, false] : Array Bool) from rfl]
        generalize w3.drew = u0 at *
        refine takeH 0 (some 20) (v := ?_) rfl (by kernel_rfl) (by kernel_rfl) (by kernel_rfl) (by kernel_rfl) (fun _ _ _ h => h) (Or.inl ⟨by kernel_rfl, ?hy⟩) (by assumption) ?_
        case hy =>
          intro w' hSw
          clear hSw
          first
            | (go_simp; done)
            | (go_simp; with_reducible rfl)
        simp only [Act.put, List.setIfInBounds_toArray, List.set_cons_zero, List.set_cons_succ]
        refine takeH 1 (some 21) (v := ?_) rfl (by kernel_rfl) (by kernel_rfl) (by kernel_rfl) (by kernel_rfl) (fun _ _ _ h => h) (Or.inl ⟨by kernel_rfl, ?hy⟩) (by assumption) ?_
        case hy =>
          intro w' hSw
          have hx := hx0 w' hSw
          clear hSw
          first
            | (go_simp; done)
            | (go_simp; with_reducible rfl)
        simp only [Act.put, List.setIfInBounds_toArray, List.set_cons_zero, List.set_cons_succ]
        refine takeH 3 (some 23) (v := ?_) rfl (by kernel_rfl) (by kernel_rfl) (by kernel_rfl) (by kernel_rfl) (fun _ _ _ h => h) (Or.inl ⟨by kernel_rfl, ?hy⟩) (by assumption) ?_
        case hy =>
          intro w' hSw
          clear hSw
          first
            | (go_simp; done)
            | (go_simp; with_reducible rfl)
        simp only [Act.put, List.setIfInBounds_toArray, List.set_cons_zero, List.set_cons_succ]
        refine takeH 4 (some 24) (v := ?_) rfl (by kernel_rfl) (by kernel_rfl) (by kernel_rfl) (by kernel_rfl) (fun _ _ _ h => h) (Or.inl ⟨by kernel_rfl, ?hy⟩) (by assumption) ?_
        case hy =>
          intro w' hSw
          have hx := hx1 w' hSw
          clear hSw
          first
            | (go_simp; done)
            | (go_simp; with_reducible rfl)
        simp only [Act.put, List.setIfInBounds_toArray, List.set_cons_zero, List.set_cons_succ]
        refine takeH 6 (some 26) (v := ?_) rfl (by kernel_rfl) (by kernel_rfl) (by kernel_rfl) (by kernel_rfl) (fun _ _ _ h => h) (Or.inl ⟨by kernel_rfl, ?hy⟩) (by assumption) ?_
        case hy =>
          intro w' hSw
          clear hSw
          first
            | (go_simp; done)
            | (go_simp; with_reducible rfl)
        simp only [Act.put, List.setIfInBounds_toArray, List.set_cons_zero, List.set_cons_succ]
        refine takeH 7 (some 27) (v := ?_) rfl (by kernel_rfl) (by kernel_rfl) (by kernel_rfl) (by kernel_rfl) (fun _ _ _ h => h) (Or.inl ⟨by kernel_rfl, ?hy⟩) (by assumption) ?_
        case hy =>
          intro w' hSw
          have hx := hx2 w' hSw
          clear hSw
          first
            | (go_simp; done)
            | (go_simp; with_reducible rfl)
        simp only [Act.put, List.setIfInBounds_toArray, List.set_cons_zero, List.set_cons_succ]
        refine takeH 9 (some 29) (v := ?_) rfl (by kernel_rfl) (by kernel_rfl) (by kernel_rfl) (by kernel_rfl) (fun _ _ _ h => h) (Or.inl ⟨by kernel_rfl, ?hy⟩) (by assumption) ?_
        case hy =>
          intro w' hSw
          clear hSw
          first
            | (go_simp; done)
            | (go_simp; with_reducible rfl)
        simp only [Act.put, List.setIfInBounds_toArray, List.set_cons_zero, List.set_cons_succ]
        refine takeH 10 (some 30) (v := ?_) rfl (by kernel_rfl) (by kernel_rfl) (by kernel_rfl) (by kernel_rfl) (fun _ _ _ h => h) (Or.inl ⟨by kernel_rfl, ?hy⟩) (by assumption) ?_
        case hy =>
          intro w' hSw
          have hx := hx3 w' hSw
          clear hSw
          first
            | (go_simp; done)
            | (go_simp; with_reducible rfl)
        simp only [Act.put, List.setIfInBounds_toArray, List.set_cons_zero, List.set_cons_succ]
        refine takeH 12 (some 32) (v := ?_) rfl (by kernel_rfl) (by kernel_rfl) (by kernel_rfl) (by kernel_rfl) (fun _ _ _ h => h) (Or.inl ⟨by kernel_rfl, ?hy⟩) (by assumption) ?_
        case hy =>
          intro w' hSw
          clear hSw
          first
            | (go_simp; done)
            | (go_simp; with_reducible rfl)
        simp only [Act.put, List.setIfInBounds_toArray, List.set_cons_zero, List.set_cons_succ]
        refine takeH 13 (some 33) (v := ?_) rfl (by kernel_rfl) (by kernel_rfl) (by kernel_rfl) (by kernel_rfl) (fun _ _ _ h => h) (Or.inl ⟨by kernel_rfl, ?hy⟩) (by assumption) ?_
        case hy =>
          intro w' hSw
          have hx := hx4 w' hSw
          clear hSw
          first
            | (go_simp; done)
            | (go_simp; with_reducible rfl)
        simp only [Act.put, List.setIfInBounds_toArray, List.set_cons_zero, List.set_cons_succ]
        clear hS1 hx0 hx1 hx2 hx3 hx4
        refine wpAnyH_ready (rs := [2]) (by kernel_rfl) (by simp) ?_
        refine AllReadyH.cons rfl (fun K hK => ?_) AllReadyH.nil
        rw [if_pos (by kernel_rfl)]
        go_simp
        refine (N1.out u0 (HW.out u0 Hq0.out)).mono ?_
        rintro e u1 ⟨rfl, hb⟩
        have Hq1 := Lib.hid (Hq0.out.trans (hb.mono Hq0.out.size))
        clear hb
        refine hK.out _ _ Hq1.out (fun _ => ?_)
        clear hK K
        simp only [List.setIfInBounds_toArray, List.set_cons_zero, List.set_cons_succ]
        refine wpAnyH_ready (rs := [5]) (by kernel_rfl) (by simp) ?_
        refine AllReadyH.cons rfl (fun K hK => ?_) AllReadyH.nil
        rw [if_pos (by kernel_rfl)]
        go_simp
        refine (NW.out u1).mono ?_
        rintro e u2 ⟨rfl, hb⟩
        have Hq2 := Lib.hid (Hq1.out.trans (hb.mono Hq1.out.size))
        clear hb
        refine hK.out _ _ Hq2.out (fun _ => ?_)
        clear hK K
        simp only [List.setIfInBounds_toArray, List.set_cons_zero, List.set_cons_succ]
        refine wpAnyH_ready (rs := [8]) (by kernel_rfl) (by simp) ?_
        refine AllReadyH.cons rfl (fun K hK => ?_) AllReadyH.nil
        rw [if_pos (by kernel_rfl)]
        go_simp
        refine (N2.out u2 (HW.out u2 Hq2.out)).mono ?_
        rintro e u3 ⟨rfl, hb⟩
        have Hq3 := Lib.hid (Hq2.out.trans (hb.mono Hq2.out.size))
        clear hb
        refine hK.out _ _ Hq3.out (fun _ => ?_)
        clear hK K
        simp only [List.setIfInBounds_toArray, List.set_cons_zero, List.set_cons_succ]
        refine wpAnyH_ready (rs := [11]) (by kernel_rfl) (by simp) ?_
        refine AllReadyH.cons rfl (fun K hK => ?_) AllReadyH.nil
        rw [if_pos (by kernel_rfl)]
        go_simp
        refine (N3.out u3 (HW.out u3 Hq3.out)).mono ?_
        rintro e u4 ⟨rfl, hb⟩
        have Hq4 := Lib.hid (Hq3.out.trans (hb.mono Hq3.out.size))
        clear hb
        refine hK.out _ _ Hq4.out (fun _ => ?_)
        clear hK K
        simp only [List.setIfInBounds_toArray, List.set_cons_zero, List.set_cons_succ]
        refine wpAnyH_ready (rs := [14]) (by kernel_rfl) (by simp) ?_
        refine AllReadyH.cons rfl (fun K hK => ?_) AllReadyH.nil
        rw [if_pos (by kernel_rfl)]
        go_simp
        refine (N4.out u4 (HW.out u4 Hq4.out)).mono ?_
        rintro e u5 ⟨rfl, hb⟩
        have Hq5 := Lib.hid (Hq4.out.trans (hb.mono Hq4.out.size))
        clear hb
        refine hK.out _ _ Hq5.out (fun _ => ?_)
        clear hK K
        simp only [List.setIfInBounds_toArray, List.set_cons_zero, List.set_cons_succ]
        refine wpAnyH_ready (rs := [15]) (by kernel_rfl) (by simp) ?_
        refine AllReadyH.cons rfl (fun K hK => ?_) AllReadyH.nil
        rw [if_pos (by kernel_rfl)]
        go_simp
        have HS6 : Hid ((u5.alloc (.cells #[.string p1, .string pw, .string p2, .string p3, .string p4] 9)).heap[u5.heap.size]? = some (.cells #[.string p1, .string pw, .string p2, .string p3, .string p4] 9 (0, 0))) := heap_alloc_new u5 _
        have Hq6 := Lib.hid (Hq5.out.alloc Hq5.out.size (.cells #[.string p1, .string pw, .string p2, .string p3, .string p4] 9))
        generalize u5.alloc (.cells #[.string p1, .string pw, .string p2, .string p3, .string p4] 9) = u6 at *
        generalize u5.heap.size = gs at *
        refine hK.out _ _ Hq6.out (fun _ => ?_)
        clear hK K
        simp only [List.setIfInBounds_toArray, List.set_cons_zero, List.set_cons_succ]
        have hS1 := Hq6.out
        refine takeH 16 (some 8) (v := ?_) rfl (by kernel_rfl) (by kernel_rfl) (by kernel_rfl) (by kernel_rfl) (fun _ _ _ h => h) (Or.inl ⟨by kernel_rfl, ?hy⟩) (by assumption) ?_
        case hy =>
          intro w' hSw
          clear hSw
          first
            | (go_simp; done)
            | (go_simp; with_reducible rfl)
        simp only [Act.put, List.setIfInBounds_toArray, List.set_cons_zero, List.set_cons_succ]
        refine wpAnyH_done (by kernel_rfl) ?_ _
        clear hS1 N1 N2 N3 N4 NW
        have HB6 := Lib.hid (bld_below HB3.out Hq6.out)
        have Hb6 := Lib.hid (HW.out u6 Hq6.out)
        have HJn := Lib.hid (fun (u : World) (hu : u.heap[gs]? = some (.cells #[.string p1, .string pw, .string p2, .string p3, .string p4] 9 (0, 0))) (hlen : (Lib.join [p1.data.toList, pw.data.toList, p2.data.toList, p3.data.toList, p4.data.toList] [32]).length ≤ 140737488355328) => show Calls Tryd.prog 42 #[.slice (some ⟨gs, 0, none⟩) 5 5, .string ⟨#[32]⟩] u fun e w' => e = .returned (.string ⟨(Lib.join [p1.data.toList, pw.data.toList, p2.data.toList, p3.data.toList, p4.data.toList] [32]).toArray⟩) ∧ Below u.heap.size u w' from
          Tryd.str_Join gs 0 5 [p1, pw, p2, p3, p4] ⟨#[32]⟩ u (fun j x hx => by
            rw [Nat.zero_add]
            refine (block_cell hu j).trans ?_
            match j, hx with
            | 0, hx => simpa using hx
            | 1, hx => simpa using hx
            | 2, hx => simpa using hx
            | 3, hx => simpa using hx
            | 4, hx => simpa using hx) (block_lt hu) (by simp) (by simp) hlen)
        obtain ⟨jn, hjn⟩ : ∃ j, j = Lib.join [p1.data.toList, pw.data.toList, p2.data.toList, p3.data.toList, p4.data.toList] [32] := ⟨_, rfl⟩
        have hjl : jn.length + 1 = (lineU d).length := by rw [← HJ.out, ← hjn]; simp
        rw [← hjn] at HJn HJ
        have Hjl := Lib.hid hjl
        clear hjn hjl
        go_wp2_with fail
        refine (HJn.out u6 HS6.out (by have := Hjl.out; have := Hll.out; omega)).mono ?_
        rintro e u7 ⟨rfl, hb⟩
        have HB7 := Lib.hid (bld_below HB6.out hb); have Hb7 := Lib.hid (Hb6.out.trans (hb.mono Hb6.out.size))
        clear hb HB6 HJn
        have hgB7 : gB ≤ u7.heap.size := by
          rcases HB7.out with h | h
          · exact Nat.le_of_lt h.lt
          · exact Nat.le_of_lt h.lt
        have hks : k ≤ 256 := by have := Hl.out; omega
        have hsz : (⟨jn.toArray⟩ : ByteArray).size = jn.length := by simp [ByteArray.size]
        go_wp2_with fail
        refine (Tryd.bld_WriteString gB gB _ ⟨jn.toArray⟩ u7 HB7.out (by rw [Lib.byteCells_length, hsz]; have := Hts.out; have := Hjl.out; have := Hll.out; omega) hgB7).mono ?_
        rintro e u8 ⟨rfl, hB8, hb⟩
        have HB8 := Lib.hid hB8; have Hb8 := Lib.hid (Hb7.out.trans (hb.mono hgB))
        have hgB8 : gB ≤ u8.heap.size := Nat.le_trans hgB7 hb.size
        clear hb hB8 HB7
        go_wp2_with fail
        refine (Tryd.bld_WriteByte gB gB _ 10 u8 (.inr HB8.out) (by rw [List.length_append, Lib.byteCells_length, Lib.strCells_length, hsz]; have := Hts.out; have := Hjl.out; have := Hll.out; omega) hgB8).mono ?_
        rintro e u9 ⟨rfl, hB9, hb⟩
        have HB9 : Hid (Lib.IsBuilder 72 5 gB gB (Lib.byteCells (textU (l.take (k + 1)))) u9) := Lib.hid (by
          rw [Hsucc.out, ← HJ.out, Lib.byteCells_append, Lib.byteCells_append]
          have e1 : Lib.strCells (⟨jn.toArray⟩ : ByteArray) = Lib.byteCells jn := by rw [Lib.strCells_eq]
          have e2 : Lib.byteCells [10] = [Value.int .u8 10] := rfl
          rw [e2, ← e1, ← List.append_assoc]
          exact .inr hB9)
        have Hb9 := Lib.hid (Hb8.out.trans (hb.mono hgB))
        clear hb hB9 HB8
        go_wp2
        go_roundw
        case rel => exact ⟨k + 1, by omega, by go_num, Hb9, HB9⟩
        case measure => simp [RowKit.intOf]; omega
      · obtain rfl : k = n := by omega
        have hd1 : decide ((k : Int) < (k : Int)) = false := by simp
        have hti : l.take k = l := List.take_of_length_le (by have := Hl.out; omega)
        clear hlt hk
        rw [hti] at HB
        have hgB7 : gB ≤ wr.heap.size := by
          rcases HB.out with h | h
          · exact Nat.le_of_lt h.lt
          · exact Nat.le_of_lt h.lt
        go_wp2_with fail
        refine (Tryd.Builder_String_any gB gB (textU l) wr HB.out hgB7).mono ?_
        rintro e u1 ⟨rfl, hb⟩
        have Hb5 := Lib.hid (Hb.out.trans (hb.mono hgB))
        clear hb
        go_wp2
        go_ret2
        exact ⟨rfl, Hb5.out⟩
  · have e1 : (ck != 0) = true := by simpa using h0
    go_wp2
    go_ret2
    exact ⟨rfl, Hb1.out⟩
end Go.Proofs.YtigolkdclacikaaDoor
