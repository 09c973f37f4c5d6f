/- The walk of the reference's All; rows that grow beside one another. Conditions: bounds. -/
import Derived.Test.YtepdinfopcohiaaNpA
import Derived.Test.YtepdinfopcohiaaNoZ
import Derived.Lib.ConvBytes
namespace Go.Proofs.Ytepdinfopcohiaa
open Go.RowKit Go.Lib
set_option maxRecDepth 100000 in
set_option maxHeartbeats 2000000 in
theorem allr_any (W : List Nu) (Aw : Option Addr) (nw cw : Nat) (ks : List Nat) (Ak : Option Addr) (nk ck : Nat) (m : Nat) (ss : List (List Nat)) (As : Option Addr) (ns cs : Nat) (fs : List Bool) (Af : Option Addr) (nf cf : Nat) (w : World)
    (hw : Rd w w.heap.size 2 Aw nw (flatN W)) (hnw : nw ≤ 60000) (hk : Rd w w.heap.size 1 Ak nk (bv64 ks)) (hs : Rd w w.heap.size 1 As ns (strs ss)) (hso : ∀ s ∈ ss, ∀ x ∈ s, x < 256)
    (hf : Rd w w.heap.size 1 Af nf (bvB fs)) (hnk : nk ≤ 1000) :
    Calls Try.prog 27 #[.slice Aw nw cw, .slice Ak nk ck, .int .u64 (m : Int), .slice As ns cs, .slice Af nf cf] w fun r w' => r = .returned (.int .i64 (allI nk ns (missTo (lacksN W m ks ss fs) nk))) ∧ Below w.heap.size w w' := by
  have HA := Lib.hid (missingr_any W Aw nw cw ks Ak nk ck m ss As ns cs fs Af nf cf w hw hnw hk hs hso hf hnk)
  clear hw hk hs hso hf
  by_cases hnk0 : nk = 0
  · subst hnk0
    clear HA
    go_enter Try.func27, Try.ntmps27
    go_wp2
    go_ret
    exact ⟨by simp [allI], Below.refl _ _⟩
  have e1 : ((nk : Int) == 0) = false := by simp; omega
  have e2 : decide ((nk : Int) = 0) = false := decide_eq_false (by omega)
  have e3 : decide (nk = 0) = false := decide_eq_false hnk0
  by_cases hns : ns = nk
  · subst hns
    have e4 : ((ns : Int) != (ns : Int)) = false := by simp
    go_enter Try.func27, Try.ntmps27
    go_wp2_with fail
    refine HA.out.mono ?_
    rintro r v1 ⟨A1, n1, c1, rfl, ho, hb1⟩
    have hn1 : n1 = (missTo (lacksN W m ks ss fs) ns).length := by have := ho.1; simp [bvI] at this; omega
    have Hb1 := Lib.hid hb1
    by_cases h0 : n1 = 0
    · have Hr : Hid (allI ns ns (missTo (lacksN W m ks ss fs) ns) = 0) := by
        show _ = _
        unfold allI
        rw [if_neg (by omega), if_pos (by omega)]
      subst h0
      clear hn1 ho
      go_wp2
      go_ret
      exact ⟨by rw [Hr.out]; rfl, Hb1.out⟩
    · have Hr : Hid (allI ns ns (missTo (lacksN W m ks ss fs) ns) = 16) := by
        show _ = _
        unfold allI
        rw [if_neg (by omega), if_neg (by omega)]
      have e5 : decide ((0 : Int) < (n1 : Int)) = true := decide_eq_true (by omega)
      clear hn1 ho
      go_wp2
      go_ret
      exact ⟨by rw [Hr.out]; rfl, Hb1.out⟩
  · have e4 : ((ns : Int) != (nk : Int)) = true := by simp; omega
    clear HA
    go_enter Try.func27, Try.ntmps27
    go_wp2
    go_ret
    exact ⟨by simp [allI, hns], Below.refl _ _⟩
/-- A world that grew, in which at most a row's block of type e, from C on, is another one. -/
def GT (C : Nat) (e : TypeId) (w w' : World) : Prop := ∃ row, w.grownBy w' row ∧ ∀ g, row = some g → C ≤ g ∧ ∃ cs fz, w.heap[g]? = some (.cells cs e fz)
theorem GT.of_own {C : Nat} {e : TypeId} {w w' : World} {sz n : Nat} {v : Value} {xs : List Value} (h : w.ownsRow C e sz v n xs) (hg : w.grownBy w' v.ownBlock) : GT C e w w' := by
  refine ⟨_, hg, fun g hgv => ?_⟩
  rcases h.2 with ⟨rfl, _⟩ | ⟨g', cap, cur, rfl, h1, h2, _⟩
  · simp [Value.ownBlock] at hgv
  · simp only [Value.ownBlock, Option.some.injEq] at hgv
    subst hgv
    exact ⟨h1, cur, (0, 0), h2⟩
theorem GT.blk {C : Nat} {e e2 : TypeId} {w w' : World} (h : GT C e w w') {g : Nat} {cs : Array Value} {fz : Nat × Nat} (hg : w.heap[g]? = some (.cells cs e2 fz)) (hne : e2 ≠ e) : w'.heap[g]? = some (.cells cs e2 fz) := by
  obtain ⟨row, h1, h2⟩ := h
  refine (h1.block g (block_lt hg) (fun hr => ?_)).trans hg
  obtain ⟨_, cs2, fz2, h3⟩ := h2 g hr.symm
  rw [hg] at h3
  injection h3 with h3
  injection h3 with _ h4
  exact hne h4
theorem GT.own {C : Nat} {e e2 : TypeId} {w w' : World} (h : GT C e w w') {B sz n : Nat} {v : Value} {xs : List Value} (ho : w.ownsRow B e2 sz v n xs) (hne : e2 ≠ e) : w'.ownsRow B e2 sz v n xs := by
  refine ⟨ho.1, ?_⟩
  rcases ho.2 with h1 | ⟨g, cap, cur, rfl, h1, h2, h3⟩
  · exact .inl h1
  · exact .inr ⟨g, cap, cur, rfl, h1, h.blk h2 hne, h3⟩
theorem GT.below {C : Nat} {e : TypeId} {w w' : World} (h : GT C e w w') (hC : C ≤ w.heap.size) : Below C w w' := by
  obtain ⟨row, h1, h2⟩ := h
  exact (Below.refl _ _).grown h1 hC (fun g hg => (h2 g hg).1)
/-- Bytes in a block of their own. -/
def BytesBlk (w : World) (C : Nat) (v : Value) (s : List Nat) : Prop := ∃ (g c : Nat) (cs : Array Value) (fz : Nat × Nat), v = .slice (some ⟨g, 0, none⟩) s.length c ∧ C ≤ g ∧ w.heap[g]? = some (.cells cs 5 fz) ∧ ∀ (j : Nat) (u : Value), (bvN s)[j]? = some u → cs[j]? = some u
theorem BytesBlk.kept {w w' : World} {C C2 : Nat} {e : TypeId} {v : Value} {s : List Nat} (h : BytesBlk w C v s) (hg : GT C2 e w w') (hne : e ≠ 5) : BytesBlk w' C v s := by
  obtain ⟨g, c, cs, fz, h1, h2, h3, h4⟩ := h
  exact ⟨g, c, cs, fz, h1, h2, hg.blk h3 (fun e => hne e.symm), h4⟩
theorem BytesBlk.below {w w' : World} {C : Nat} {v : Value} {s : List Nat} (h : BytesBlk w C v s) (hb : Below w.heap.size w w') : BytesBlk w' C v s := by
  obtain ⟨g, c, cs, fz, h1, h2, h3, h4⟩ := h
  exact ⟨g, c, cs, fz, h1, h2, block_below h3 hb (block_lt h3), h4⟩
theorem BytesBlk.rd {w : World} {C : Nat} {v : Value} {s : List Nat} (h : BytesBlk w C v s) : ∃ A m c, v = .slice A m c ∧ Rd w w.heap.size 1 A m (bvN s) := by
  obtain ⟨g, c, cs, fz, rfl, h2, h3, h4⟩ := h
  refine ⟨_, _, _, rfl, by simp [bvN_len], fun _ => ⟨g, 0, rfl, block_lt h3, fun j u hu => ?_⟩⟩
  rw [block_cell h3]
  simpa using h4 j u hu
/-- A row of rows of bytes, of the call's own. -/
def SigOwn (w : World) (C : Nat) (v : Value) (n : Nat) (ss : List (List Nat)) : Prop :=
  ∃ vs, w.ownsRow C 37 1 v n vs ∧ ss.length = n ∧ ∀ k, k < n → BytesBlk w C (vs.getD k undef) (ss.getD k [])
theorem SigOwn.nil (w : World) (C : Nat) : SigOwn w C (.slice none 0 0) 0 [] := ⟨[], World.ownsRow_nil _ _ _ _, rfl, fun k hk => absurd hk (by omega)⟩
theorem SigOwn.kept {w w' : World} {C C2 n : Nat} {e : TypeId} {v : Value} {ss : List (List Nat)} (h : SigOwn w C v n ss) (hg : GT C2 e w w') (h1 : e ≠ 5) (h2 : e ≠ 37) : SigOwn w' C v n ss := by
  obtain ⟨vs, ho, hl, hk⟩ := h
  exact ⟨vs, hg.own ho (fun e => h2 e.symm), hl, fun k hk1 => (hk k hk1).kept hg h1⟩
theorem SigOwn.below {w w' : World} {C n : Nat} {v : Value} {ss : List (List Nat)} (h : SigOwn w C v n ss) (hb : Below w.heap.size w w') : SigOwn w' C v n ss := by
  obtain ⟨vs, ho, hl, hk⟩ := h
  exact ⟨vs, own_below ho hb, hl, fun k hk1 => (hk k hk1).below hb⟩
theorem SigOwn.form {w : World} {C n : Nat} {v : Value} {ss : List (List Nat)} (h : SigOwn w C v n ss) : ∃ A c, v = .slice A n c := by
  obtain ⟨vs, ho, _⟩ := h
  exact own_form ho
theorem SigOwn.rd {w : World} {C n c : Nat} {A : Option Addr} {ss : List (List Nat)} (h : SigOwn w C (.slice A n c) n ss) : SigRd w w.heap.size A n ss := by
  obtain ⟨vs, ho, hl, hk⟩ := h
  refine ⟨hl, fun hn => ?_⟩
  have hr := Rd.of_own ho
  obtain ⟨b, o, e, hb, hc⟩ := hr.2 hn
  refine ⟨b, o, e, hb, fun k hk1 => ?_⟩
  obtain ⟨A', m, c', h1, h2⟩ := (hk k hk1).rd
  refine ⟨A', m, c', ?_, h2⟩
  have hvl : k < vs.length := by have := hr.1; omega
  rw [← h1]
  refine hc k _ ?_
  rw [List.getElem?_eq_getElem hvl, List.getD_eq_getElem?_getD, List.getElem?_eq_getElem hvl]; rfl
/-- One more. -/
theorem SigOwn.snoc {w : World} {C n : Nat} {v : Value} {vs : List Value} {ss : List (List Nat)} {u : Value} {s : List Nat} (ho : w.ownsRow C 37 1 v (n + 1) (vs ++ [u])) (hl : ss.length = n) (hvl : vs.length = n) (hk : ∀ k, k < n → BytesBlk w C (vs.getD k undef) (ss.getD k [])) (hu : BytesBlk w C u s) : SigOwn w C v (n + 1) (ss ++ [s]) := by
  refine ⟨vs ++ [u], ho, by simp [hl], fun k hk1 => ?_⟩
  rcases Nat.lt_or_ge k n with h1 | h1
  · have := hk k h1
    rwa [List.getD_eq_getElem?_getD, List.getD_eq_getElem?_getD, List.getElem?_append_left (by omega), List.getElem?_append_left (by omega), ← List.getD_eq_getElem?_getD, ← List.getD_eq_getElem?_getD]
  · obtain rfl : k = n := by omega
    rw [List.getD_eq_getElem?_getD, List.getD_eq_getElem?_getD, List.getElem?_append_right (by omega), List.getElem?_append_right (by omega), hl, hvl]
    simpa using hu
theorem bytes_new (w : World) (C : Nat) (hC : C ≤ w.heap.size) (s : List Nat) (hs : ∀ x ∈ s, x < 256) (c : Nat) : BytesBlk (bytesWorld w 5 (strNo s)) C (.slice (some ⟨w.heap.size, 0, none⟩) s.length c) s := by
  refine ⟨w.heap.size, c, _, _, rfl, hC, bytesWorld_at_new w _ _, fun j u hu => ?_⟩
  have hj : j < s.length := by
    have := (List.getElem?_eq_some_iff.1 hu).1
    simpa [bvN] using this
  simp only [bvN, List.getElem?_map, List.getElem?_eq_getElem hj, Option.map_some, Option.some.injEq] at hu
  subst hu
  have hx := hs s[j] (List.getElem_mem hj)
  have hd : (strNo s).data = (s.map fun (x : Nat) => UInt8.ofNat ((x : Int)).toNat).toArray := by
    have h1 : (strNo s).data.toList = s.map fun (x : Nat) => UInt8.ofNat ((x : Int)).toNat := by
      unfold strNo
      rw [strOfNums_data]
      simp [intsNo]
    rw [← h1]
  have hsz : j < (Array.map (fun b : UInt8 => Value.int .u8 b.toNat) (strNo s).data).size := by rw [hd]; simpa using hj
  unfold bytesCells
  rw [Array.getElem?_append_left hsz, Array.getElem?_eq_getElem hsz]
  simp only [Array.getElem_map, hd, List.getElem_toArray, List.getElem_map, Option.some.injEq, Value.int.injEq, true_and]
  simp only [Int.toNat_natCast, UInt8.toNat_ofNat']
  first | omega | (congr 1; omega)
theorem strNo_size (s : List Nat) : (strNo s).size = s.length := by
  have hd : (strNo s).data.size = s.length := by
    rw [← Array.length_toList]
    unfold strNo
    rw [strOfNums_data]
    simp [intsNo]
  exact hd
theorem bytesWorld_below (w : World) (e : TypeId) (s : ByteArray) : Below w.heap.size w (bytesWorld w e s) := by
  refine ⟨rfl, rfl, rfl, by rw [bytesWorld_size]; omega, fun k hk => bytesWorld_at_old w e s k hk⟩
end Go.Proofs.Ytepdinfopcohiaa
