/- The hash of a digest with a word, of one and of two digests: the walks of Word, One, Two. Condition: bounds on the word. -/
import Derived.Test.YtmpklplojfjfbaaHsF
import Derived.Lib.ConvBytes
namespace Go.Proofs.Ytmpklplojfjfbaa
open Go.RowKit Go.Lib

/-- A word's bytes. -/
def wordB (s : ByteArray) : List Nat := s.data.toList.map UInt8.toNat
theorem wordB_lt (s : ByteArray) : ∀ x ∈ wordB s, x < 256 := by
  intro x hx
  obtain ⟨y, _, rfl⟩ := List.mem_map.1 hx
  exact UInt8.toNat_lt y
theorem wordB_len (s : ByteArray) : (wordB s).length = s.size := by
  unfold wordB
  rw [List.length_map, Array.length_toList]; rfl
theorem word_rd (w : World) (s : ByteArray) : Rd (bytesWorld w 5 s) (bytesWorld w 5 s).heap.size 1 (some ⟨w.heap.size, 0, none⟩) s.size (bv (wordB s)) := by
  refine ⟨by rw [bv_len, wordB_len]; simp, fun _ => ⟨w.heap.size, 0, rfl, by rw [bytesWorld_size]; omega, fun j u hu => ?_⟩⟩
  have hj : j < s.size := by
    have := (List.getElem?_eq_some_iff.1 hu).1
    rw [bv_len, wordB_len] at this; exact this
  rw [Nat.zero_add, bytesWorld_cell w _ s j hj, ← hu]
  have hj2 : j < s.data.toList.length := by rw [Array.length_toList]; exact hj
  simp only [bv, wordB, List.getElem?_map, List.getElem?_eq_getElem hj2, Option.map_some, List.getD_eq_getElem?_getD, Option.getD_some]
theorem bytesW_below (w : World) (e : TypeId) (s : ByteArray) : Below w.heap.size w (bytesWorld w e s) :=
  ⟨rfl, rfl, rfl, by rw [bytesWorld_size]; omega, fun k hk => bytesWorld_at_old w e s k hk⟩
/-- A state in a block of its own, behind a walk that keeps what was there. -/
theorem st_grown {w w' : World} {B g : Nat} (hg : w.grownBy w' (some g)) (hB : B ≤ w.heap.size) (hBg : B ≤ g) : Below B w w' := (Below.refl _ _).grown hg hB (fun k hk => by injection hk with hk; omega)
set_option maxRecDepth 100000 in
set_option maxHeartbeats 2000000 in
theorem word_any (d : D8) (s : ByteArray) (w : World) (hd : d.ok) (hn : s.size ≤ 1000000) :
    Calls Try.prog 59 #[.agg #[.int .u8 (d.x0 : Int), .int .u8 (d.x1 : Int), .int .u8 (d.x2 : Int), .int .u8 (d.x3 : Int), .int .u8 (d.x4 : Int), .int .u8 (d.x5 : Int), .int .u8 (d.x6 : Int), .int .u8 (d.x7 : Int)], .string s] w fun e w' => e = .returned (.agg #[.int .u8 ((hashWord d (wordB s)).x0 : Int), .int .u8 ((hashWord d (wordB s)).x1 : Int), .int .u8 ((hashWord d (wordB s)).x2 : Int), .int .u8 ((hashWord d (wordB s)).x3 : Int), .int .u8 ((hashWord d (wordB s)).x4 : Int), .int .u8 ((hashWord d (wordB s)).x5 : Int), .int .u8 ((hashWord d (wordB s)).x6 : Int), .int .u8 ((hashWord d (wordB s)).x7 : Int)]) ∧ Below w.heap.size w w' := by
  have Hok := Lib.hid hd
  clear hd
  have HX0 : Hid ((w.alloc (.cells #[.int .u8 (d.x0 : Int), .int .u8 (d.x1 : Int), .int .u8 (d.x2 : Int), .int .u8 (d.x3 : Int), .int .u8 (d.x4 : Int), .int .u8 (d.x5 : Int), .int .u8 (d.x6 : Int), .int .u8 (d.x7 : Int)] 29)).heap[w.heap.size]? = some (.cells #[.int .u8 (d.x0 : Int), .int .u8 (d.x1 : Int), .int .u8 (d.x2 : Int), .int .u8 (d.x3 : Int), .int .u8 (d.x4 : Int), .int .u8 (d.x5 : Int), .int .u8 (d.x6 : Int), .int .u8 (d.x7 : Int)] 29 (0, 0))) := heap_alloc_new w _
  have HX : Hid (((w.alloc (.cells #[.int .u8 (d.x0 : Int), .int .u8 (d.x1 : Int), .int .u8 (d.x2 : Int), .int .u8 (d.x3 : Int), .int .u8 (d.x4 : Int), .int .u8 (d.x5 : Int), .int .u8 (d.x6 : Int), .int .u8 (d.x7 : Int)] 29)).alloc (.cells #[.int .u8 0, .int .u8 0, .int .u8 0, .int .u8 0, .int .u8 0, .int .u8 0, .int .u8 0, .int .u8 0] 29)).heap[w.heap.size + 1]? = some (.cells #[.int .u8 0, .int .u8 0, .int .u8 0, .int .u8 0, .int .u8 0, .int .u8 0, .int .u8 0, .int .u8 0] 29 (0, 0))) := by
    have := heap_alloc_new (w.alloc (.cells #[.int .u8 (d.x0 : Int), .int .u8 (d.x1 : Int), .int .u8 (d.x2 : Int), .int .u8 (d.x3 : Int), .int .u8 (d.x4 : Int), .int .u8 (d.x5 : Int), .int .u8 (d.x6 : Int), .int .u8 (d.x7 : Int)] 29)) (.cells #[.int .u8 0, .int .u8 0, .int .u8 0, .int .u8 0, .int .u8 0, .int .u8 0, .int .u8 0, .int .u8 0] 29)
    show _ = _
    simpa using this
  have HD : Hid (((w.alloc (.cells #[.int .u8 (d.x0 : Int), .int .u8 (d.x1 : Int), .int .u8 (d.x2 : Int), .int .u8 (d.x3 : Int), .int .u8 (d.x4 : Int), .int .u8 (d.x5 : Int), .int .u8 (d.x6 : Int), .int .u8 (d.x7 : Int)] 29)).alloc (.cells #[.int .u8 0, .int .u8 0, .int .u8 0, .int .u8 0, .int .u8 0, .int .u8 0, .int .u8 0, .int .u8 0] 29)).heap[w.heap.size]? = some (.cells #[.int .u8 (d.x0 : Int), .int .u8 (d.x1 : Int), .int .u8 (d.x2 : Int), .int .u8 (d.x3 : Int), .int .u8 (d.x4 : Int), .int .u8 (d.x5 : Int), .int .u8 (d.x6 : Int), .int .u8 (d.x7 : Int)] 29 (0, 0))) := block_alloc HX0.out _
  have Hb0 := Lib.hid (h_two w (.cells #[.int .u8 (d.x0 : Int), .int .u8 (d.x1 : Int), .int .u8 (d.x2 : Int), .int .u8 (d.x3 : Int), .int .u8 (d.x4 : Int), .int .u8 (d.x5 : Int), .int .u8 (d.x6 : Int), .int .u8 (d.x7 : Int)] 29) (.cells #[.int .u8 0, .int .u8 0, .int .u8 0, .int .u8 0, .int .u8 0, .int .u8 0, .int .u8 0, .int .u8 0] 29))
  have Hz0 : Hid (((w.alloc (.cells #[.int .u8 (d.x0 : Int), .int .u8 (d.x1 : Int), .int .u8 (d.x2 : Int), .int .u8 (d.x3 : Int), .int .u8 (d.x4 : Int), .int .u8 (d.x5 : Int), .int .u8 (d.x6 : Int), .int .u8 (d.x7 : Int)] 29)).alloc (.cells #[.int .u8 0, .int .u8 0, .int .u8 0, .int .u8 0, .int .u8 0, .int .u8 0, .int .u8 0, .int .u8 0] 29)).heap.size = w.heap.size + 2) := Lib.hid (by simp)
  go_enter Try.func59, Try.ntmps59
  go_wp2_with fail
  refine (begin_any 4 _).mono ?_
  rintro e w1 ⟨rfl, hb1⟩
  have Hbx1 := Lib.hid (block_below HX.out hb1 (by rw [Hz0.out]; omega))
  have Hd1 := Lib.hid (block_below HD.out hb1 (by rw [Hz0.out]; omega))
  have Hb1 := Lib.hid (Hb0.out.trans (hb1.mono Hb0.out.size))
  have hsz1 : w.heap.size + 2 ≤ w1.heap.size := by have := hb1.size; rw [Hz0.out] at this; exact this
  clear hb1
  go_upto_region 2 with fail
  generalize hs0 : Hs.begin 4 = s0 at *
  have h2 : StAt (w1.alloc (.cells #[.int .u64 s0.a, .int .u64 s0.b, .int .u64 s0.c, .int .u64 s0.d] 131)) w1.heap.size s0 := heap_alloc_new w1 _
  have hb2 : Below w.heap.size w (w1.alloc (.cells #[.int .u64 s0.a, .int .u64 s0.b, .int .u64 s0.c, .int .u64 s0.d] 131)) := Hb1.out.alloc (Hb1.out.size) _
  have hbx2 := block_alloc Hbx1.out (.cells #[.int .u64 s0.a, .int .u64 s0.b, .int .u64 s0.c, .int .u64 s0.d] 131)
  have hd2 := block_alloc Hd1.out (.cells #[.int .u64 s0.a, .int .u64 s0.b, .int .u64 s0.c, .int .u64 s0.d] 131)
  have hz2 : (w1.alloc (.cells #[.int .u64 s0.a, .int .u64 s0.b, .int .u64 s0.c, .int .u64 s0.d] 131)).heap.size = w1.heap.size + 1 := by simp
  generalize w1.alloc (.cells #[.int .u64 s0.a, .int .u64 s0.b, .int .u64 s0.c, .int .u64 s0.d] 131) = w2 at *
  have Hs0 := Lib.hid hs0; have H2 := Lib.hid h2; have Hb2 := Lib.hid hb2; have Hbx2 := Lib.hid hbx2; have Hz2 := Lib.hid hz2; have Hd2 := Lib.hid hd2
  have hlt2 : w1.heap.size < w2.heap.size := by omega
  generalize w1.heap.size = g at *
  obtain ⟨zf, r0, r1, r2, r3, r4, r5, r6, r7⟩ := free8 hd2
  clear hs0 h2 hb2 hbx2 hz2 hd2 Hbx1 Hb1 Hd1 zf HX HX0 HD Hb0 Hz0
  go_wp2_with fail
  refine (hnum_any d _ Hok.out).mono ?_
  rintro e w3 ⟨rfl, hb⟩
  have H3 : Hid (StAt w3 g s0) := Lib.hid (block_below H2.out hb hlt2)
  have Hb3 := Lib.hid (Hb2.out.trans (hb.mono Hb2.out.size)); have Hbx3 := Lib.hid (block_below Hbx2.out hb (by omega)); have Hd3 := Lib.hid (block_below Hd2.out hb (by omega))
  have hlt3 : g < w3.heap.size := Nat.lt_of_lt_of_le hlt2 hb.size
  clear hb r0 r1 r2 r3 r4 r5 r6 r7 Hb2 Hbx2 H2 Hd2
  go_wp2_with fail
  refine (take_any g s0 _ w3 H3.out).mono ?_
  rintro e w4 ⟨rfl, h4, hg4⟩
  have H4 := Lib.hid h4
  have hb4 := st_grown (B := w.heap.size + 2) hg4 (by omega) hsz1
  have Hb4 := Lib.hid (Hb3.out.trans (hb4.mono (by omega))); have Hbx4 := Lib.hid (block_below Hbx3.out hb4 (by omega)); have Hd4 := Lib.hid (block_below Hd3.out hb4 (by omega))
  have hlt4 : g < w4.heap.size := Nat.lt_of_lt_of_le hlt3 hg4.size
  clear h4 hg4 hb4 H3 Hb3 Hbx3 Hd3
  have hcv := Go.Lib.run_convert_string_bytes (P := Try.prog) w4 9 32 5 s Try.underlying9 Try.underlying32 Try.underlying5
  have hcap := grownCap_ge w4 s.size 0 5
  generalize grownCap w4 s.size 0 5 = cap at *
  have HR := Lib.hid (word_rd w4 s)
  have hbb := bytesW_below w4 5 s
  have H5 := Lib.hid (block_below H4.out hbb hlt4)
  have Hb5 := Lib.hid (Hb4.out.trans (hbb.mono Hb4.out.size)); have Hbx5 := Lib.hid (block_below Hbx4.out hbb (block_lt Hbx4.out))
  have hgs : w4.heap.size ≠ g := by omega
  generalize hw5 : bytesWorld w4 5 s = w5 at *
  have hz5 : g < w5.heap.size := Nat.lt_of_lt_of_le hlt4 hbb.size
  clear hbb hw5 H4 Hb4 Hbx4 Hd4
  go_wp2_with (rw [hcv]; simp only [Result.andThen_ok])
  refine (hbytes_any g _ (some ⟨w4.heap.size, 0, none⟩) s.size cap (wordB s) w5 H5.out HR.out (fun _ b o e => by injection e with e; injection e with e; omega) (by omega) hcap (wordB_lt s)).mono ?_
  rintro e w6 ⟨rfl, H6, Hg6⟩
  have hb6 := st_grown (B := w.heap.size + 2) Hg6.out (by omega) hsz1
  have Hb6 := Lib.hid (Hb5.out.trans (hb6.mono (by omega))); have Hbx6 := Lib.hid (block_below Hbx5.out hb6 (by omega))
  clear hb6 H5 Hb5 Hbx5 hcv HR
  go_wp2_with fail
  refine (gives_any g _ _ H6.out).mono ?_
  rintro e w9 ⟨rfl, hb9⟩
  have hbx9 := block_below Hbx6.out hb9 (block_lt Hbx6.out)
  obtain ⟨zf, r0, r1, r2, r3, r4, r5, r6, r7⟩ := free8 hbx9
  have Hbx := Lib.hid hbx9
  have Hbw := Lib.hid (Hb6.out.trans (hb9.mono Hb6.out.size))
  clear hb9 hbx9
  have Hout : Hid (((s0.take (d.num : Int)).bytes (wordB s)).out = hashWord d (wordB s)) := Lib.hid (by rw [← Hs0.out]; rfl)
  generalize ((s0.take (d.num : Int)).bytes (wordB s)).out = dd at *
  go_wp2
  clear zf r0 r1 r2 r3 r4 r5 r6 r7
  have h8 := set8 Hbx.out (.int .u8 (dd.x0 : Int)) (.int .u8 (dd.x1 : Int)) (.int .u8 (dd.x2 : Int)) (.int .u8 (dd.x3 : Int)) (.int .u8 (dd.x4 : Int)) (.int .u8 (dd.x5 : Int)) (.int .u8 (dd.x6 : Int)) (.int .u8 (dd.x7 : Int))
  have hg8 := grown_set8 w9 (w.heap.size + 1) (.int .u8 (dd.x0 : Int)) (.int .u8 (dd.x1 : Int)) (.int .u8 (dd.x2 : Int)) (.int .u8 (dd.x3 : Int)) (.int .u8 (dd.x4 : Int)) (.int .u8 (dd.x5 : Int)) (.int .u8 (dd.x6 : Int)) (.int .u8 (dd.x7 : Int))
  generalize ((((((((w9.setCell ⟨w.heap.size + 1, 0, none⟩ (.int .u8 (dd.x0 : Int))).setCell ⟨w.heap.size + 1, 1, none⟩ (.int .u8 (dd.x1 : Int))).setCell ⟨w.heap.size + 1, 2, none⟩ (.int .u8 (dd.x2 : Int))).setCell ⟨w.heap.size + 1, 3, none⟩ (.int .u8 (dd.x3 : Int))).setCell ⟨w.heap.size + 1, 4, none⟩ (.int .u8 (dd.x4 : Int))).setCell ⟨w.heap.size + 1, 5, none⟩ (.int .u8 (dd.x5 : Int))).setCell ⟨w.heap.size + 1, 6, none⟩ (.int .u8 (dd.x6 : Int))).setCell ⟨w.heap.size + 1, 7, none⟩ (.int .u8 (dd.x7 : Int))) = w10 at *
  obtain ⟨zf, r0, r1, r2, r3, r4, r5, r6, r7⟩ := free8 h8
  have Hb2 := Lib.hid (Hbw.out.grown hg8 Hbw.out.size (fun k hk => by injection hk with hk; omega))
  clear h8 hg8
  refine bodyPost_ret (v := .agg #[.int .u8 (dd.x0 : Int), .int .u8 (dd.x1 : Int), .int .u8 (dd.x2 : Int), .int .u8 (dd.x3 : Int), .int .u8 (dd.x4 : Int), .int .u8 (dd.x5 : Int), .int .u8 (dd.x6 : Int), .int .u8 (dd.x7 : Int)]) (by simp [results, Try.results59, go_sem, r0, r1, r2, r3, r4, r5, r6, r7]) rfl ⟨by rw [Hout.out], Hb2.out⟩
end Go.Proofs.Ytmpklplojfjfbaa
