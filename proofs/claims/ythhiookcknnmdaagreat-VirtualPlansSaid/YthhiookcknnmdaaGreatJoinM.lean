/- Signatures as text; the reference's Bytes. Condition: none. The walks of a signer's Sign, of Verify, and of the reference's functions. Conditions: room in the book. A signature of any bytes: Verify, and the reference's. Conditions: room in the book. -/
import Derived.Test.YthhiookcknnmdaaGreatJoinN
import Derived.Lib.SliceRun
import Derived.Lib.Bytes
import Derived.Shelf.Bytes.SlEqualAll
import Derived.Deep.QuietTactic
import Derived.BigQuiet
import Derived.Test.YthhiookcknnmdaaGreatInv
namespace Go.Proofs.YthhiookcknnmdaaGreat
open Go.RowKit Go.Lib
def bvN (l : List Nat) : List Value := l.map fun x => .int .u8 ((x : Nat) : Int)
theorem bvN_len (l : List Nat) : (bvN l).length = l.length := by simp [bvN]
theorem getD_atN (l : List Nat) {k : Nat} (h : k < l.length) : l[k]? = some (l.getD k 0) := by
 rw [List.getD_eq_getElem?_getD, List.getElem?_eq_getElem h]; rfl
theorem Rd.byteN {w : World} {B n k : Nat} {A : Option Addr} {l : List Nat} (h : Rd w B 1 A n (bvN l)) (hk : k < n) : ∃ b o, A = some ⟨b, o, none⟩ ∧ b < B ∧ w.cell? ⟨b, o + k, none⟩ = some (.int .u8 ((l.getD k 0 : Nat) : Int)) := by
 have hl : l.length = n := by have := h.1; rw [bvN_len] at this; omega
 obtain ⟨b, o, e, hb, hc⟩ := h.2 (by omega)
 refine ⟨b, o, e, hb, hc k _ ?_⟩
 simp only [bvN, List.getElem?_map]
 rw [getD_atN l (by omega)]; rfl
theorem Rd.blenN {w : World} {B n : Nat} {A : Option Addr} {l : List Nat} (h : Rd w B 1 A n (bvN l)) : l.length = n := by have := h.1; rw [bvN_len] at this; omega
def intsNo (l : List Nat) : List Int := l.map fun (x : Nat) => (x : Int)
def strNo (l : List Nat) : ByteArray := strOfNums (intsNo l)
theorem strNo_eq {a b : List Nat} (ha : ∀ x ∈ a, x < 256) (hb : ∀ x ∈ b, x < 256) : ((strNo a).toList == (strNo b).toList) = decide (a = b) := by
 by_cases h : a = b
 ·subst h; simp
 ·rw [decide_eq_false h]
  simp only [beq_eq_false_iff_ne, ne_eq]
  intro e
  apply h
  rw [ByteArray.toList_eq, ByteArray.toList_eq] at e
  simp only [strNo, strOfNums_data, intsNo, List.map_map] at e
  have key : ∀ (a b : List Nat), (∀ x ∈ a, x < 256) → (∀ x ∈ b, x < 256) → a.map ((fun n : Int => UInt8.ofNat n.toNat) ∘ fun (x : Nat) => (x : Int)) = b.map ((fun n : Int => UInt8.ofNat n.toNat) ∘ fun (x : Nat) => (x : Int)) → a = b := by
   intro a
   induction a with
   | nil => intro b _ _ h; cases b with | nil => rfl | cons _ _ => simp at h
   | cons x a ih =>
    intro b ha hb h
    cases b with
    | nil => simp at h
    | cons y b =>
     simp only [List.map_cons, List.cons.injEq, Function.comp, Int.toNat_natCast] at h
     have h1 := congrArg UInt8.toNat h.1
     have hx := ha x (by simp)
     have hy := hb y (by simp)
     simp only [UInt8.toNat_ofNat'] at h1
     rw [ih b (fun z hz => ha z (by simp [hz])) (fun z hz => hb z (by simp [hz])) h.2]
     congr 1
     omega
  exact key a b ha hb e
theorem conv_no {w : World} {B n : Nat} {A : Option Addr} {l : List Nat} (h : Rd w B 1 A n (bvN l)) (c : Nat) : (convert 46 9 (.slice A n c)).run Tryz.prog w = .ok (.string (strNo l)) w := by
 have hb : Lib.BytesIn w A n (intsNo l) := fun hn => by
  obtain ⟨b, o, e, _, _⟩ := h.byteN hn
  refine ⟨b, o, e, fun i hi => ?_⟩
  obtain ⟨b', o', e', _, hc⟩ := h.byteN hi
  rw [e] at e'
  simp only [Option.some.injEq, Addr.mk.injEq] at e'
  obtain ⟨rfl, rfl, _⟩ := e'
  rw [hc]
  have hl := h.blenN
  simp [intsNo, List.getD_eq_getElem?_getD, List.getElem?_eq_getElem (show i < l.length by omega)]
 exact hb.convert (by unfold intsNo; rw [List.length_map, h.blenN]) c _ _ _ Tryz.underlying46 Tryz.underlying5 Tryz.underlying9
def sigL (i : Nat) : List Nat := [i % 256, i / 256 % 256]
theorem sigL_lt (i : Nat) : ∀ x ∈ sigL i, x < 256 := by
 intro x hx
 simp [sigL] at hx
 omega
theorem sigL_inj {i j : Nat} (hi : i < 65536) (hj : j < 65536) : sigL i = sigL j ↔ i = j := by
 constructor
 ·intro h
  simp only [sigL, List.cons.injEq, and_true] at h
  omega
 ·rintro rfl; rfl
theorem sig_rd {w : World} {g i : Nat} (h : w.heap[g]? = some (.cells #[.int .u8 ((i % 256 : Nat) : Int), .int .u8 ((i / 256 % 256 : Nat) : Int)] 5 (0, 0))) : Rd w w.heap.size 1 (some ⟨g, 0, none⟩) 2 (bvN (sigL i)) := by
 refine ⟨rfl, fun _ => ⟨g, 0, rfl, block_lt h, fun j u hu => ?_⟩⟩
 rw [block_cell h]
 simpa [bvN, sigL] using hu
theorem conv_sig {w : World} {g i : Nat} (h : w.heap[g]? = some (.cells #[.int .u8 ((i % 256 : Nat) : Int), .int .u8 ((i / 256 % 256 : Nat) : Int)] 5 (0, 0))) (c : Nat) : (convert 46 9 (.slice (some ⟨g, 0, none⟩) 2 c)).run Tryz.prog w = .ok (.string (strNo (sigL i))) w := conv_no (sig_rd h) c
end Go.Proofs.YthhiookcknnmdaaGreat
namespace Go.Proofs.YthhiookcknnmdaaGreat
open Go.RowKit Go.Lib

def verE (L : List En) (e : En) (i : Nat) : Bool := posE L e == some i
theorem orTwo {x0 x1 : Nat} (h0 : x0 < 256) (h1 : x1 < 256) : bits .or .i64 (x0 : Int) ((x1 : Int) * 256) = (x0 : Int) + (x1 : Int) * 256 := by
 have e1 : ((x1 : Int) * 256) = ((x1 * 2 ^ 8 : Nat) : Int) := by omega
 have h : (x0 ||| x1 * 2 ^ 8) = x0 + x1 * 2 ^ 8 := by
  have := Nat.two_pow_add_eq_or_of_lt (i := 8) (b := x0) (by omega) x1
  rw [Nat.or_comm, Nat.mul_comm x1, ← this]; omega
 have h2 : (BitVec.ofInt 64 (x0 : Int)).toNat = x0 := by
  rw [BitVec.ofInt_natCast, BitVec.toNat_ofNat]; exact Nat.mod_eq_of_lt (by omega)
 have h3 : (BitVec.ofInt 64 ((x1 * 2 ^ 8 : Nat) : Int)).toNat = x1 * 2 ^ 8 := by
  rw [BitVec.ofInt_natCast, BitVec.toNat_ofNat]; exact Nat.mod_eq_of_lt (by omega)
 rw [e1]
 show IntKind.i64.wrap ((BitVec.ofInt 64 (x0 : Int) ||| BitVec.ofInt 64 ((x1 * 2 ^ 8 : Nat) : Int)).toNat : Int) = _
 rw [BitVec.toNat_or, h2, h3, h, IntKind.wrap_i64]
 omega
theorem posE_lt {L : List En} {e : En} {j : Nat} (h : posE L e = some j) : j < L.length := (List.getElem?_eq_some_iff.1 (posE_some h)).1
set_option maxRecDepth 100000 in
set_option maxHeartbeats 2000000 in
theorem verify_bad (B bk mb : Nat) (L : List En) (e : En) (A : Option Addr) (m c : Nat) (w : World) (_h : BookAt w B bk mb L) (hm : m ≠ 2) :
  Calls Tryz.prog 198 #[.pointer (some ⟨bk, 0, none⟩), .agg #[.int .u8 e.key.x0, .int .u8 e.key.x1, .int .u8 e.key.x2, .int .u8 e.key.x3, .int .u8 e.key.x4, .int .u8 e.key.x5, .int .u8 e.key.x6, .int .u8 e.key.x7], .agg #[.int .u8 e.msg.x0, .int .u8 e.msg.x1, .int .u8 e.msg.x2, .int .u8 e.msg.x3, .int .u8 e.msg.x4, .int .u8 e.msg.x5, .int .u8 e.msg.x6, .int .u8 e.msg.x7], .slice A m c] w fun r w' => r = .returned (.bool false) ∧ Below w.heap.size w w' := by
 have hm2 : (((m : Int) != 2)) = true := by simp; omega
 have hm3 : decide ((m : Int) = 2) = false := decide_eq_false (by omega)
 clear hm
 go_enter Tryz.func198, Tryz.ntmps198
 go_wp2
 go_ret
 exact ⟨rfl, (((Below.refl _ _).alloc (Nat.le_refl _) _).alloc (by simp) _)⟩
set_option maxRecDepth 100000 in
set_option maxHeartbeats 2000000 in
theorem verify_two (B bk mb : Nat) (L : List En) (e : En) (g o cp x0 x1 : Nat) (w : World) (h : BookAt w B bk mb L) (he : e.ok) (hlen : L.length < 60000) (h0 : x0 < 256) (h1 : x1 < 256)
  (hgl : g < w.heap.size) (s0 : w.cell? ⟨g, o, none⟩ = some (.int .u8 x0)) (s1 : w.cell? ⟨g, o + 1, none⟩ = some (.int .u8 x1)) :
  Calls Tryz.prog 198 #[.pointer (some ⟨bk, 0, none⟩), .agg #[.int .u8 e.key.x0, .int .u8 e.key.x1, .int .u8 e.key.x2, .int .u8 e.key.x3, .int .u8 e.key.x4, .int .u8 e.key.x5, .int .u8 e.key.x6, .int .u8 e.key.x7], .agg #[.int .u8 e.msg.x0, .int .u8 e.msg.x1, .int .u8 e.msg.x2, .int .u8 e.msg.x3, .int .u8 e.msg.x4, .int .u8 e.msg.x5, .int .u8 e.msg.x6, .int .u8 e.msg.x7], .slice (some ⟨g, o, none⟩) 2 cp] w fun r w' => r = .returned (.bool (verE L e (x0 + x1 * 256))) ∧ Below w.heap.size w w' := by
 obtain ⟨A, n, c, hbk, hown⟩ := h.book
 have hW : PlacesAt (((w.alloc (.cells #[.int .u8 e.key.x0, .int .u8 e.key.x1, .int .u8 e.key.x2, .int .u8 e.key.x3, .int .u8 e.key.x4, .int .u8 e.key.x5, .int .u8 e.key.x6, .int .u8 e.key.x7] 27)).alloc (.cells #[.int .u8 e.msg.x0, .int .u8 e.msg.x1, .int .u8 e.msg.x2, .int .u8 e.msg.x3, .int .u8 e.msg.x4, .int .u8 e.msg.x5, .int .u8 e.msg.x6, .int .u8 e.msg.x7] 27)).drew) mb L := (h.places.same (Below.heap_alloc w _ _ h.places.lt)).same (Below.heap_alloc _ _ _ (by have := h.places.lt; simp; omega))
 have hlook := look_places (w := ((w.alloc (.cells #[.int .u8 e.key.x0, .int .u8 e.key.x1, .int .u8 e.key.x2, .int .u8 e.key.x3, .int .u8 e.key.x4, .int .u8 e.key.x5, .int .u8 e.key.x6, .int .u8 e.key.x7] 27)).alloc (.cells #[.int .u8 e.msg.x0, .int .u8 e.msg.x1, .int .u8 e.msg.x2, .int .u8 e.msg.x3, .int .u8 e.msg.x4, .int .u8 e.msg.x5, .int .u8 e.msg.x6, .int .u8 e.msg.x7] 27)).drew) hW h.nodup h.ok e he
 simp only [En.V] at hlook
 have q1 := block_cell hbk 1
 have hlt := block_lt hbk
 simp at q1
 have Hlen := Lib.hid hlen
 have hor := orTwo h0 h1
 clear hW hown hbk
 cases hp : posE L e with
 | none =>
  have Hr : Hid (verE L e (x0 + x1 * 256) = false) := by show _ = _; unfold verE; rw [hp]; rfl
  rw [hp] at hlook
  have Hp := Lib.hid hp; have H := Lib.hid h
  clear hp h hlen
  go_enter Tryz.func198, Tryz.ntmps198
  go_wp2
  go_region
  all_goals
   go_wp2
   go_region
   all_goals
    go_wp2
    go_ret
    exact ⟨by rw [Hr.out]; rfl, ((((Below.refl _ _).alloc (Nat.le_refl _) _).alloc (by simp) _).drew).drew⟩
 | some j =>
  rw [hp] at hlook
  have hj := posE_lt hp
  have Hr : Hid (verE L e (x0 + x1 * 256) = decide ((j : Int) = (x0 : Int) + (x1 : Int) * 256)) := by
   show _ = _; unfold verE; rw [hp]
   by_cases hjx : j = x0 + x1 * 256
   ·subst hjx; simp
   ·rw [decide_eq_false (by omega)]; simp; exact hjx
  have Hp := Lib.hid hp; have H := Lib.hid h
  have hj : j < 60000 := by omega
  have Hj := Lib.hid hj
  clear hp h hlen hj
  go_enter Tryz.func198, Tryz.ntmps198
  go_wp2
  go_region
  all_goals
   go_wp2
   trace_state
   go_region
   all_goals
    go_wp2
    go_ret
    trace_state
    exact ⟨by rw [Hr.out]; rfl, ((((Below.refl _ _).alloc (Nat.le_refl _) _).alloc (by simp) _).drew).drew⟩
end Go.Proofs.YthhiookcknnmdaaGreat
namespace Go.Proofs.YthhiookcknnmdaaGreat
open Go.RowKit Go.Lib


def verS (L : List En) (e : En) (s : List Nat) : Bool := match posE L e with
 | some i => decide (s = sigL i)
 | none => false
theorem verS_two {L : List En} {e : En} {x0 x1 : Nat} (hl : L.length < 60000) (h0 : x0 < 256) (h1 : x1 < 256) : verS L e [x0, x1] = verE L e (x0 + x1 * 256) := by
 unfold verS verE
 cases hp : posE L e with
 | none => rfl
 | some i =>
  have hi := posE_lt hp
  simp only [sigL, List.cons.injEq, and_true, Option.some_beq_some]
  rw [Bool.eq_iff_iff]
  simp only [decide_eq_true_eq, beq_iff_eq]
  omega
theorem verS_bad {L : List En} {e : En} {s : List Nat} (h : s.length ≠ 2) : verS L e s = false := by
 unfold verS
 cases posE L e with
 | none => rfl
 | some i =>
  refine decide_eq_false ?_
  rintro rfl
  exact h rfl
set_option maxRecDepth 100000 in
theorem bverify_any (B bk mb : Nat) (L : List En) (e : En) (A : Option Addr) (m c : Nat) (s : List Nat) (w : World) (h : BookAt w B bk mb L) (he : e.ok) (hlen : L.length < 60000) (hr : Rd w w.heap.size 1 A m (bvN s)) (hs : ∀ x ∈ s, x < 256) :
  Calls Tryz.prog 198 #[.pointer (some ⟨bk, 0, none⟩), .agg #[.int .u8 e.key.x0, .int .u8 e.key.x1, .int .u8 e.key.x2, .int .u8 e.key.x3, .int .u8 e.key.x4, .int .u8 e.key.x5, .int .u8 e.key.x6, .int .u8 e.key.x7], .agg #[.int .u8 e.msg.x0, .int .u8 e.msg.x1, .int .u8 e.msg.x2, .int .u8 e.msg.x3, .int .u8 e.msg.x4, .int .u8 e.msg.x5, .int .u8 e.msg.x6, .int .u8 e.msg.x7], .slice A m c] w fun r w' => r = .returned (.bool (verS L e s)) ∧ Below w.heap.size w w' := by
 have hl := hr.blenN
 by_cases hm : m = 2
 ·subst hm
  obtain ⟨b, o, rfl, hb, x0⟩ := hr.byteN (k := 0) (by omega)
  obtain ⟨b', o', e', _, x1⟩ := hr.byteN (k := 1) (by omega)
  simp only [Option.some.injEq, Addr.mk.injEq, and_true] at e'
  obtain ⟨rfl, rfl⟩ := e'
  match s, hl with
  | [y0, y1], _ =>
   have h0 := hs y0 (by simp)
   have h1 := hs y1 (by simp)
   rw [verS_two hlen h0 h1]
   exact verify_two B bk mb L e b o c y0 y1 w h he hlen h0 h1 hb x0 x1
 ·rw [verS_bad (by omega)]
  exact verify_bad B bk mb L e A m c w h hm
def verN (W : List Nu) (e : Nu) (s : List Nat) : Bool := match posN W e with
 | some i => decide (s = sigL i)
 | none => false
theorem verN_en {W : List Nu} {e : Nu} {s : List Nat} (hW : ∀ x ∈ W, x.ok) (he : e.ok) : verS (W.map Nu.en) e.en s = verN W e s := by
 unfold verS verN; rw [posN_en hW he]
end Go.Proofs.YthhiookcknnmdaaGreat
