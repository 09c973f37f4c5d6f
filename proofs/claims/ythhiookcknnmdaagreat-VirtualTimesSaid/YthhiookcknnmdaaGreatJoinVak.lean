/- Plans of any parties, stakes, height and window that the law asks of, plainly. No program in it, so there is no condition. The region of VirtualTimes that tells of both locks of a hop. Conditions: bounds. The region of VirtualTimes that tells of the gaps, at the first hop. Conditions: bounds. The region of VirtualTimes that tells of the gaps, at a later hop. Conditions: bounds. The region of VirtualTimes that makes the plan. Conditions: bounds. -/
import Derived.Test.YthhiookcknnmdaaGreatJoinVaj
import Derived.Test.YthhiookcknnmdaaGreatReg
namespace Go.Proofs.YthhiookcknnmdaaGreat
def tmPl (m a b last d : Nat) : Pl := Pl.mk_ tabD (bgKs m) (1 + a) (1 + b) last d
theorem tm_mul {c : Int} {d : Nat} (h0 : 0 ≤ c) (h7 : c ≤ 7) (hd : d ≤ 65536) : 0 ≤ c * (d : Int) ∧ c * (d : Int) ≤ 458752 :=
 ⟨Int.mul_nonneg h0 (by omega), Int.le_trans (Int.mul_le_mul_of_nonneg_right h7 (by omega)) (by omega)⟩
section
variable {m a b last d : Nat}
theorem tm_ks : (tmPl m a b last d).ks = bgKs m := rfl
theorem tm_nr {i : Nat} (hi : i < m) : (tmPl m a b last d).nr.getD i 0 = (last : Int) + ((m : Int) - (i : Int)) * (d : Int) := by
 show ((List.range ((bgKs m).length - 1)).map _).getD i 0 = _
 rw [bgKs_len, Nat.add_sub_cancel, List.getD_eq_getElem?_getD, List.getElem?_map, List.getElem?_range hi]
 rfl
theorem tm_fr {i : Nat} (hi : i < m) : (tmPl m a b last d).fr.getD i 0 = (last : Int) + ((i : Int) + 1) * (d : Int) := by
 show ((List.range ((bgKs m).length - 1)).map _).getD i 0 = _
 rw [bgKs_len, Nat.add_sub_cancel, List.getD_eq_getElem?_getD, List.getElem?_map, List.getElem?_range hi]
 rfl
theorem tm_lens : (tmPl m a b last d).nr.length = m ∧ (tmPl m a b last d).fr.length = m := by
 constructor
 ·show ((List.range ((bgKs m).length - 1)).map _).length = _
  rw [List.length_map, List.length_range, bgKs_len, Nat.add_sub_cancel]
 ·show ((List.range ((bgKs m).length - 1)).map _).length = _
  rw [List.length_map, List.length_range, bgKs_len, Nat.add_sub_cancel]
theorem key_nodup {m : Nat} : (List.range (bgKs m).length).any (dupK (bgKs m)) = false := by
 rw [List.any_eq_false]
 intro k hk
 rw [List.mem_range, bgKs_len] at hk
 simp only [Bool.not_eq_true]
 unfold dupK
 rw [List.any_eq_false]
 intro j hj
 rw [List.mem_range] at hj
 rw [bgKs_getD (by omega), bgKs_getD (by omega)]
 intro he
 have := congrArg D8.x0 (eqI_iff8.1 he)
 simp only [keyD, byD] at this
 omega
theorem tm_check (h1 : 1 ≤ m) (h7 : m ≤ 7) (ha : a < 65536) (hb : b < 65536) (hl : last ≤ 4294967296) (_hd1 : 1 ≤ d) (hd : d ≤ 65536) {wn : Int} (hw1 : 1 ≤ wn) (hw2 : wn ≤ 65537) :
  (tmPl m a b last d).check wn = if (d : Int) < wn ∧ 2 ≤ m then 20 else 0 := by
 obtain ⟨e1, e2⟩ := @tm_lens m a b last d
 unfold Pl.check
 rw [if_pos (by simp [winB]; omega), tm_ks, if_pos (by rw [bgKs_len]; simp [manyB]; omega), if_neg (by rw [key_nodup]; decide), if_pos (by
  show (stkB (1 + (a : Int)) && stkB (1 + (b : Int))) = true
  simp [stkB]; omega), if_pos ⟨by rw [e1, bgKs_len]; rfl, by rw [e2, bgKs_len]; rfl⟩, bgKs_len, Nat.add_sub_cancel, if_pos]
 ·by_cases hc : (d : Int) < wn ∧ 2 ≤ m
  ·rw [if_pos hc, if_pos]
   rw [List.any_eq_true]
   refine ⟨1, List.mem_range.2 (by omega), ?_⟩
   simp only [Bool.and_eq_true]
   refine ⟨by decide, ?_⟩
   unfold gapB
   rw [tm_nr (by omega), tm_nr (by omega), Bool.or_eq_true]
   left
   rw [decide_eq_true_eq]
   have : ((m : Int) - ((0 : Nat) : Int)) * (d : Int) = ((m : Int) - ((1 : Nat) : Int)) * (d : Int) + d := by
    rw [show ((m : Int) - ((0 : Nat) : Int)) = ((m : Int) - ((1 : Nat) : Int)) + 1 by omega, Int.add_mul, Int.one_mul]
   rw [show (1 - 1 : Nat) = 0 by rfl]
   omega
  ·rw [if_neg hc, if_neg]
   rw [Bool.not_eq_true, List.any_eq_false]
   intro i hi
   rw [List.mem_range] at hi
   intro hg
   simp only [Bool.and_eq_true, decide_eq_true_eq] at hg
   obtain ⟨hi1, hg⟩ := hg
   have hm2 : 2 ≤ m := by omega
   have hdw : wn ≤ d := by omega
   unfold gapB at hg
   rw [tm_nr (by omega), tm_nr (by omega), tm_fr (by omega), tm_fr (by omega), Bool.or_eq_true, decide_eq_true_eq, decide_eq_true_eq] at hg
   have f1 : ((m : Int) - ((i - 1 : Nat) : Int)) * (d : Int) = ((m : Int) - (i : Int)) * (d : Int) + d := by
    rw [show ((m : Int) - ((i - 1 : Nat) : Int)) = ((m : Int) - (i : Int)) + 1 by omega, Int.add_mul, Int.one_mul]
   have f2 : ((i : Int) + 1) * (d : Int) = ((((i - 1 : Nat) : Int)) + 1) * (d : Int) + d := by
    rw [show ((i : Int) + 1) = ((((i - 1 : Nat) : Int)) + 1) + 1 by omega, Int.add_mul, Int.one_mul]
   omega
 ·rw [List.all_eq_true]
  intro i hi
  rw [List.mem_range] at hi
  rw [tm_nr hi, tm_fr hi, Bool.and_eq_true, far_iff, far_iff]
  have g1 := tm_mul (c := (m : Int) - (i : Int)) (d := d) (by omega) (by omega) hd
  have g2 := tm_mul (c := (i : Int) + 1) (d := d) (by omega) (by omega) hd
  omega
theorem tm_new (h1 : 1 ≤ m) (h7 : m ≤ 7) (ha : a < 65536) (hb : b < 65536) (hl : last ≤ 4294967296) (hd1 : 1 ≤ d) (hd : d ≤ 65536) : Pl.new tabD (bgKs m) (1 + a) (1 + b) last d = (0, tmPl m a b last d) := by
 have hc := tm_check h1 h7 ha hb hl hd1 hd (wn := d) (by omega) (by omega)
 rw [if_neg (by omega)] at hc
 have hc' : (Pl.mk_ tabD (bgKs m) (1 + (a : Int)) (1 + (b : Int)) last d).check d = 0 := hc
 unfold Pl.new
 rw [if_pos (by simp [winB]; omega), if_pos (far_iff.2 (by omega)), if_pos (by rw [bgKs_len]; simp [manyB]; omega), if_pos hc']
 rfl
theorem tm_until (h1 : 1 ≤ m) (h7 : m ≤ 7) (hl : last ≤ 4294967296) (_hd1 : 1 ≤ d) (hd : d ≤ 65536) {i : Nat} (hi : i < m) :
  (last : Int) + d ≤ (tmPl m a b last d).nr.getD i 0 ∧ (last : Int) + d ≤ (tmPl m a b last d).fr.getD i 0 ∧ (tmPl m a b last d).nr.getD i 0 ≤ 5000000000 ∧ (tmPl m a b last d).fr.getD i 0 ≤ 5000000000 := by
 rw [tm_nr hi, tm_fr hi]
 have g1 := tm_mul (c := (m : Int) - (i : Int)) (d := d) (by omega) (by omega) hd
 have g2 := tm_mul (c := (i : Int) + 1) (d := d) (by omega) (by omega) hd
 have g3 := tm_mul (c := (m : Int) - (i : Int) - 1) (d := d) (by omega) (by omega) hd
 have g4 := tm_mul (c := (i : Int)) (d := d) (by omega) (by omega) hd
 rw [Int.sub_mul, Int.one_mul] at g3
 rw [Int.add_mul, Int.one_mul] at *
 omega
theorem tm_steps {i : Nat} (hi : i < m) (hi0 : 0 < i) : (tmPl m a b last d).nr.getD (i - 1) 0 = (tmPl m a b last d).nr.getD i 0 + d ∧ (tmPl m a b last d).fr.getD i 0 = (tmPl m a b last d).fr.getD (i - 1) 0 + d := by
 rw [tm_nr hi, tm_nr (by omega), tm_fr hi, tm_fr (by omega)]
 have f1 : ((m : Int) - ((i - 1 : Nat) : Int)) * (d : Int) = ((m : Int) - (i : Int)) * (d : Int) + d := by
  rw [show ((m : Int) - ((i - 1 : Nat) : Int)) = ((m : Int) - (i : Int)) + 1 by omega, Int.add_mul, Int.one_mul]
 have f2 : ((i : Int) + 1) * (d : Int) = ((((i - 1 : Nat) : Int)) + 1) * (d : Int) + d := by
  rw [show ((i : Int) + 1) = ((((i - 1 : Nat) : Int)) + 1) + 1 by omega, Int.add_mul, Int.one_mul]
 omega
theorem tm_ok (h1 : 1 ≤ m) (h7 : m ≤ 7) (ha : a < 65536) (hb : b < 65536) (hl : last ≤ 4294967296) (hd1 : 1 ≤ d) (hd : d ≤ 65536) : (tmPl m a b last d).Ok := by
 have hc := tm_check h1 h7 ha hb hl hd1 hd (wn := d) (by omega) (by omega)
 rw [if_neg (by omega)] at hc
 exact .of hc (byD_ok (by decide)) (by rw [tm_ks]; exact bgKs_ok (by omega))
end
end Go.Proofs.YthhiookcknnmdaaGreat
namespace Go.Proofs.YthhiookcknnmdaaGreat
open Go.RowKit Go.Lib



theorem wpList_load_guarded {P : Program} {ops : Array Oper} {rest : List Oper} {op : Oper} {a : Act} {w : World} {Q : Exit → Act → World → Prop} (hw : Region.wanted op (yielded ops a.tmps) = true) (ty : TypeId) (x : Operand) (ho : op.op = .load ty x)
  (b o : Nat) (hx : a.eval x = .pointer (some ⟨b, o, none⟩)) (cs : List Value) (d : TypeDesc) (hc : w.rangeAt b o cs)
  (hu : P.underlying ty = some d) (hd : d.isRow = true) (hi : (P.info? ty).map (·.size) = some cs.length)
  (h : wpList P ops Q rest (a.put op.dst (.agg cs.toArray)) w) : wpList P ops Q (op :: rest) a w :=
 wpList_value (.agg cs.toArray) hw (by unfold execOp; simp only [ho, hx, Instr.loadAt, Instr.sureAddr, Sem.run_bind, Sem.run_pure, Result.andThen_ok, run_loadVar_mid w b o ty cs d hc hu hd hi]) h
set_option maxRecDepth 100000 in
set_option maxHeartbeats 16000000 in
theorem tm17 {u0 u1 u3 u4 u5 u6 u7 u8 u9 u10 u11 u14 u20 u21 u22 u23 u24 u25 u26 u27 u28 u29 u30 u31 u32 u33 u34 u35 u36 u37 u38 u39 u40 u41 u42 u43 u44 u45 u46 u47 u48 u49 u50 u51 u52 u53 u54 u55 u56 u57 u58 u59 u60 u61 u62 u63 u64 u65 u66 u67 u68 u69 u70 u71 u72 u73 u74 u75 u76 u77 u78 u79 u80 u81 u82 u83 u84 u85 u86 u87 u88 u89 u90 u91 u92 u93 u94 u95 u96 u97 u98 u99 u100 u101 u102 u103 u104 u105 u106 u107 u108 u109 u110 u111 u112 u113 u114 u115 u116 u117 u118 u119 u120 u121 u122 u123 u124 u125 u126 u127 u128 u129 u130 u131 u132 u133 u134 u135 u136 u137 u138 u139 u140 u141 u142 u143 u144 u145 u146 u147 u148 u149 u150 u151 u152 u153 u154 u155 u156 u157 u158 u159 u160 u161 u162 u163 u164 u165 u166 u167 u168 u169 u170 u171 u172 u173 u174 u175 u176 u177 u178 u179 u180 u181 u182 u183 u184 u185 u186 u187 u188 u189 u190 u191 u192 u193 u194 u195 u196 u197 u198 u199 u200 u201 u202 u203 u204 u205 u206 u207 u208 u209 u210 u211 u212 u213 u214 u215 u216 u217 : Value} {Q : Exit → Act → World → Prop} {p : Pl} {Ak : Option Addr} {ck : Nat} {An : Option Addr} {cn : Nat} {Af : Option Addr} {cf : Nat} {m k last d pb la lb : Nat} {l0 l1 : Lk} {Ala : Option Addr} {cla : Nat} {Alb : Option Addr} {clb : Nat}
  {v4 : World} (hlt : k < m) (hl : last < 4294967296) (hd2 : d ≤ 65536) (HAt : Hid (p.At Ak (m + 1) ck An m Af m v4)) (HPr4 : Hid (v4.heap[pb]? = some (.cells #[.int .u8 p.tb.x0, .int .u8 p.tb.x1, .int .u8 p.tb.x2, .int .u8 p.tb.x3, .int .u8 p.tb.x4, .int .u8 p.tb.x5, .int .u8 p.tb.x6, .int .u8 p.tb.x7, .slice Ak (m + 1) ck, .int .i64 p.s0, .int .i64 p.s1, .slice An m cn, .slice Af m cf] 32 (0, 0)))) (HLa4 : Hid (v4.heap[la]? = some (.cells #[.int .i64 l0.kd, .int .u8 l0.hs.x0, .int .u8 l0.hs.x1, .int .u8 l0.hs.x2, .int .u8 l0.hs.x3, .int .u8 l0.hs.x4, .int .u8 l0.hs.x5, .int .u8 l0.hs.x6, .int .u8 l0.hs.x7, .slice Ala 2 cla, .int .i64 l0.st, .int .i64 l0.cp, .int .i64 l0.un] 40 (0, 0)))) (HLb : Hid (v4.heap[lb]? = some (.cells #[.int .i64 l1.kd, .int .u8 l1.hs.x0, .int .u8 l1.hs.x1, .int .u8 l1.hs.x2, .int .u8 l1.hs.x3, .int .u8 l1.hs.x4, .int .u8 l1.hs.x5, .int .u8 l1.hs.x6, .int .u8 l1.hs.x7, .slice Alb 2 clb, .int .i64 l1.st, .int .i64 l1.cp, .int .i64 l1.un] 40 (0, 0))))
  (HG0 : Hid l0.good) (HG1 : Hid l1.good) (HU0 : Hid (l0.un = p.nr.getD k 0)) (HU1 : Hid (l1.un = p.fr.getD k 0)) (HU : Hid ((last : Int) + d ≤ l0.un ∧ (last : Int) + d ≤ l1.un ∧ l0.un ≤ 5000000000 ∧ l1.un ≤ 5000000000))
  (hQ : Hid (∀ (x104 x105 x106 x107 x108 x109 x110 x111 x112 x113 x114 x115 x116 x117 x118 x119 x120 x121 x122 x123 x124 x125 x126 x127 x128 x129 x130 x131 x132 x133 x134 x135 x136 x137 x138 x139 x140 x141 x142 x143 x144 x145 x146 x147 x148 x149 x150 : Value) (w' : World), Below v4.heap.size v4 w' → Q .normal ⟨#[u0, u1, .int .u32 last, u3, u4, u5, u6, u7, u8, u9, u10, u11, .int .i64 d, .pointer (some ⟨pb, 0, none⟩), u14, .int .i64 k, .pointer (some ⟨la, 0, none⟩), .int .i64 0, .pointer (some ⟨lb, 0, none⟩), .int .i64 0, u20, u21, u22, u23, u24, u25, u26, u27, u28, u29, u30, u31, u32, u33, u34, u35, u36, u37, u38, u39, u40, u41, u42, u43, u44, u45, u46, u47, u48, u49, u50, u51, u52, u53, u54, u55, u56, u57, u58, u59, u60, u61, u62, u63, u64, u65, u66, u67, u68, u69, u70, u71, u72, u73, u74, u75, u76, u77, u78, u79, u80, u81, u82, u83, u84, u85, u86, u87, u88, u89, u90, u91, u92, u93, u94, u95, u96, u97, u98, u99, u100, u101, u102, u103, x104, x105, x106, x107, x108, x109, x110, x111, x112, x113, x114, x115, x116, x117, x118, x119, x120, x121, x122, x123, x124, x125, x126, x127, x128, x129, x130, x131, x132, x133, x134, x135, x136, x137, x138, x139, x140, x141, x142, x143, x144, x145, x146, x147, x148, x149, x150, .bool false, u152, u153, u154, u155, u156, u157, u158, u159, u160, u161, u162, u163, u164, u165, u166, u167, u168, u169, u170, u171, u172, u173, u174, u175, u176, u177, u178, u179, u180, u181, u182, u183, u184, u185, u186, u187, u188, u189, u190, u191, u192, u193, u194, u195, u196, u197, u198, u199, u200, u201, u202, u203, u204, u205, u206, u207, u208, u209, u210, u211, u212, u213, u214, u215, u216, u217], []⟩ w')) {code : Code} (hc : codeR 17 Tryz.f3 = code) :
  Code.wp Tryz.prog code Q ⟨#[u0, u1, .int .u32 last, u3, u4, u5, u6, u7, u8, u9, u10, u11, .int .i64 d, .pointer (some ⟨pb, 0, none⟩), u14, .int .i64 k, .pointer (some ⟨la, 0, none⟩), .int .i64 0, .pointer (some ⟨lb, 0, none⟩), .int .i64 0, u20, u21, u22, u23, u24, u25, u26, u27, u28, u29, u30, u31, u32, u33, u34, u35, u36, u37, u38, u39, u40, u41, u42, u43, u44, u45, u46, u47, u48, u49, u50, u51, u52, u53, u54, u55, u56, u57, u58, u59, u60, u61, u62, u63, u64, u65, u66, u67, u68, u69, u70, u71, u72, u73, u74, u75, u76, u77, u78, u79, u80, u81, u82, u83, u84, u85, u86, u87, u88, u89, u90, u91, u92, u93, u94, u95, u96, u97, u98, u99, u100, u101, u102, u103, u104, u105, u106, u107, u108, u109, u110, u111, u112, u113, u114, u115, u116, u117, u118, u119, u120, u121, u122, u123, u124, u125, u126, u127, u128, u129, u130, u131, u132, u133, u134, u135, u136, u137, u138, u139, u140, u141, u142, u143, u144, u145, u146, u147, u148, u149, u150, u151, u152, u153, u154, u155, u156, u157, u158, u159, u160, u161, u162, u163, u164, u165, u166, u167, u168, u169, u170, u171, u172, u173, u174, u175, u176, u177, u178, u179, u180, u181, u182, u183, u184, u185, u186, u187, u188, u189, u190, u191, u192, u193, u194, u195, u196, u197, u198, u199, u200, u201, u202, u203, u204, u205, u206, u207, u208, u209, u210, u211, u212, u213, u214, u215, u216, u217], []⟩ v4 := by
 subst hc
 have e : codeR 17 Tryz.f3 = codeR 17 Tryz.f3 := rfl
 conv at e => rhs; whnf
 rw [e]
 clear e
 obtain ⟨ub, uo, hAn, hub, huc⟩ := HAt.out.n.iat hlt
 obtain ⟨fb, fo, hAf, hfb, hfc⟩ := HAt.out.f.iat hlt
 subst hAn hAf
 have hki : (k : Int) < (m : Int) := by omega
 have t12 := block_cell HLa4.out 12; have s12 := block_cell HLb.out 12; have r11 := block_cell HPr4.out 11; have r12 := block_cell HPr4.out 12
 simp at t12 s12 r11 r12
 rw [← HU0.out] at huc; rw [← HU1.out] at hfc
 obtain ⟨g1, g2, g3, g4⟩ := HU.out
 have b4 : decide (min l0.un l1.un < (last : Int) + (d : Int)) = false := decide_eq_false (by omega)
 refine wp_region_tail 39 (by kernel_rfl) (by kernel_rfl) ?_
 simp only [List.take_succ_cons, List.take_zero, List.drop_succ_cons, List.drop_zero]
 iterate 39 still_step
 have wl : IntKind.i64.wrap (last : Int) = (last : Int) := by rw [IntKind.wrap_i64]; omega
 have wl2 : IntKind.i64.wrap ((last : Int) + (d : Int)) = (last : Int) + (d : Int) := by rw [IntKind.wrap_i64]; omega
 rw [wl, wl2, b4]
 clear wl wl2
 refine wpStill_nil ?_
 refine wpList_load_guarded (by kernel_rfl) 40 _ (by rfl) la 0 (by rfl) [.int .i64 l0.kd, .int .u8 l0.hs.x0, .int .u8 l0.hs.x1, .int .u8 l0.hs.x2, .int .u8 l0.hs.x3, .int .u8 l0.hs.x4, .int .u8 l0.hs.x5, .int .u8 l0.hs.x6, .int .u8 l0.hs.x7, .slice Ala 2 cla, .int .i64 l0.st, .int .i64 l0.cp, .int .i64 l0.un] _ (range_all (w := v4.drew) HLa4.out) Tryz.underlying40 rfl (by kernel_rfl) ?_
 simp only [Act.put, sA, sZ, sS]
 clear t12 s12 r11 r12 huc hfc b4
 go_wp2_with fail
 refine (lkcheck_good l0 Ala cla v4.drew HG0.out).mono ?_
 rintro e v5 ⟨rfl, hb5⟩
 have HB5 : Hid (Below v4.heap.size v4 v5) := Lib.hid ((Below.refl _ _).drew.trans hb5)
 have HLb5 := Lib.hid (block_below HLb.out HB5.out (block_lt HLb.out))
 clear hb5
 have y := block_cell HLb5.out
 have y0 := y 0; have y1 := y 1; have y2 := y 2; have y3 := y 3; have y4 := y 4; have y5 := y 5; have y6 := y 6; have y7 := y 7; have y8 := y 8; have y9 := y 9; have y10 := y 10; have y11 := y 11; have y12 := y 12
 simp at y0 y1 y2 y3 y4 y5 y6 y7 y8 y9 y10 y11 y12
 clear y
 go_wp2_with fail
 refine (lkcheck_good l1 Alb clb v5 HG1.out).mono ?_
 rintro e v6 ⟨rfl, hb6⟩
 have HB6 : Hid (Below v4.heap.size v4 v6) := Lib.hid (HB5.out.trans (hb6.mono HB5.out.size))
 clear hb6 y0 y1 y2 y3 y4 y5 y6 y7 y8 y9 y10 y11 y12
 go_wp2_with fail
 exact hQ.out _ _ _ _ _ _ _ _ _ _ _ _ _ _ _ _ _ _ _ _ _ _ _ _ _ _ _ _ _ _ _ _ _ _ _ _ _ _ _ _ _ _ _ _ _ _ _ _ HB6.out

end Go.Proofs.YthhiookcknnmdaaGreat
namespace Go.Proofs.YthhiookcknnmdaaGreat
open Go.RowKit Go.Lib



set_option maxRecDepth 100000 in
set_option maxHeartbeats 16000000 in
theorem tm19a {u0 u1 u2 u3 u4 u5 u6 u7 u8 u9 u10 u11 u14 u16 u17 u18 u19 u20 u21 u22 u23 u24 u25 u26 u27 u28 u29 u30 u31 u32 u33 u34 u35 u36 u37 u38 u39 u40 u41 u42 u43 u44 u45 u46 u47 u48 u49 u50 u51 u52 u53 u54 u55 u56 u57 u58 u59 u60 u61 u62 u63 u64 u65 u66 u67 u68 u69 u70 u71 u72 u73 u74 u75 u76 u77 u78 u79 u80 u81 u82 u83 u84 u85 u86 u87 u88 u89 u90 u91 u92 u93 u94 u95 u96 u97 u98 u99 u100 u101 u102 u103 u104 u105 u106 u107 u108 u109 u110 u111 u112 u113 u114 u115 u116 u117 u118 u119 u120 u121 u122 u123 u124 u125 u126 u127 u128 u129 u130 u131 u132 u133 u134 u135 u136 u137 u138 u139 u140 u141 u142 u143 u144 u145 u146 u147 u148 u149 u150 u151 u152 u153 u154 u155 u156 u157 u158 u159 u160 u161 u162 u163 u164 u165 u166 u167 u168 u169 u170 u171 u172 u173 u174 u175 u176 u177 u178 u179 u180 u181 u182 u183 u184 u185 u186 u187 u188 u189 u190 u191 u192 u193 u194 u195 u196 u197 u198 u199 u200 u201 u202 u203 u204 u205 u206 u207 u208 u209 u210 u211 u212 u213 u214 u215 u216 u217 : Value} {Q : Exit → Act → World → Prop} {p : Pl} {Ak : Option Addr} {ck : Nat} {An : Option Addr} {cn : Nat} {Af : Option Addr} {cf : Nat} {m k d pb : Nat}
  {v6 : World} (hlt : k < m) (_hm7 : m ≤ 7) (_hd2 : d ≤ 65536) (_HAt : Hid (p.At Ak (m + 1) ck An m Af m v6)) (_HPr7 : Hid (v6.heap[pb]? = some (.cells #[.int .u8 p.tb.x0, .int .u8 p.tb.x1, .int .u8 p.tb.x2, .int .u8 p.tb.x3, .int .u8 p.tb.x4, .int .u8 p.tb.x5, .int .u8 p.tb.x6, .int .u8 p.tb.x7, .slice Ak (m + 1) ck, .int .i64 p.s0, .int .i64 p.s1, .slice An m cn, .slice Af m cf] 32 (0, 0))))
  (HSt : Hid (0 < k → p.nr.getD (k - 1) 0 = p.nr.getD k 0 + d ∧ p.fr.getD k 0 = p.fr.getD (k - 1) 0 + d)) (_HU : Hid (∀ i, i < m → 0 ≤ p.nr.getD i 0 ∧ 0 ≤ p.fr.getD i 0 ∧ p.nr.getD i 0 ≤ 5000000000 ∧ p.fr.getD i 0 ≤ 5000000000)) (hk : k = 0) (hP : Hid (∀ x (a : Act) (d : Option Tmp) (v : Value) (w : World), Q (.panic x) (a.put d v) w → Q (.panic x) a w))
  (hQ : Hid (∀ (x152 x153 x154 x155 x156 x157 x158 x159 x160 x161 x162 x163 x164 x165 x166 x167 x168 x169 x170 x171 x172 x173 x174 x175 x176 x177 x178 x179 x180 x181 x182 x183 x184 : Value) (w' : World), Below v6.heap.size v6 w' → Q .normal ⟨#[u0, u1, u2, u3, u4, u5, u6, u7, u8, u9, u10, u11, .int .i64 d, .pointer (some ⟨pb, 0, none⟩), u14, .int .i64 k, u16, u17, u18, u19, u20, u21, u22, u23, u24, u25, u26, u27, u28, u29, u30, u31, u32, u33, u34, u35, u36, u37, u38, u39, u40, u41, u42, u43, u44, u45, u46, u47, u48, u49, u50, u51, u52, u53, u54, u55, u56, u57, u58, u59, u60, u61, u62, u63, u64, u65, u66, u67, u68, u69, u70, u71, u72, u73, u74, u75, u76, u77, u78, u79, u80, u81, u82, u83, u84, u85, u86, u87, u88, u89, u90, u91, u92, u93, u94, u95, u96, u97, u98, u99, u100, u101, u102, u103, u104, u105, u106, u107, u108, u109, u110, u111, u112, u113, u114, u115, u116, u117, u118, u119, u120, u121, u122, u123, u124, u125, u126, u127, u128, u129, u130, u131, u132, u133, u134, u135, u136, u137, u138, u139, u140, u141, u142, u143, u144, u145, u146, u147, u148, u149, u150, u151, x152, x153, x154, x155, x156, x157, x158, x159, x160, x161, x162, x163, x164, x165, x166, x167, x168, x169, x170, x171, x172, x173, x174, x175, x176, x177, x178, x179, x180, x181, x182, x183, x184, .bool false, u186, u187, u188, u189, u190, u191, u192, u193, u194, u195, u196, u197, u198, u199, u200, u201, u202, u203, u204, u205, u206, u207, u208, u209, u210, u211, u212, u213, u214, u215, u216, u217], []⟩ w')) {code : Code} (hc : codeR 19 Tryz.f3 = code) :
  Code.wp Tryz.prog code Q ⟨#[u0, u1, u2, u3, u4, u5, u6, u7, u8, u9, u10, u11, .int .i64 d, .pointer (some ⟨pb, 0, none⟩), u14, .int .i64 k, u16, u17, u18, u19, u20, u21, u22, u23, u24, u25, u26, u27, u28, u29, u30, u31, u32, u33, u34, u35, u36, u37, u38, u39, u40, u41, u42, u43, u44, u45, u46, u47, u48, u49, u50, u51, u52, u53, u54, u55, u56, u57, u58, u59, u60, u61, u62, u63, u64, u65, u66, u67, u68, u69, u70, u71, u72, u73, u74, u75, u76, u77, u78, u79, u80, u81, u82, u83, u84, u85, u86, u87, u88, u89, u90, u91, u92, u93, u94, u95, u96, u97, u98, u99, u100, u101, u102, u103, u104, u105, u106, u107, u108, u109, u110, u111, u112, u113, u114, u115, u116, u117, u118, u119, u120, u121, u122, u123, u124, u125, u126, u127, u128, u129, u130, u131, u132, u133, u134, u135, u136, u137, u138, u139, u140, u141, u142, u143, u144, u145, u146, u147, u148, u149, u150, u151, u152, u153, u154, u155, u156, u157, u158, u159, u160, u161, u162, u163, u164, u165, u166, u167, u168, u169, u170, u171, u172, u173, u174, u175, u176, u177, u178, u179, u180, u181, u182, u183, u184, u185, u186, u187, u188, u189, u190, u191, u192, u193, u194, u195, u196, u197, u198, u199, u200, u201, u202, u203, u204, u205, u206, u207, u208, u209, u210, u211, u212, u213, u214, u215, u216, u217], []⟩ v6 := by
 subst hc
 have e : codeR 19 Tryz.f3 = codeR 19 Tryz.f3 := rfl
 conv at e => rhs; whnf
 rw [e]
 clear e
 have hk0 : k = 0 := hk
 subst hk0
 rw [show ((0 : Nat) : Int) = 0 from rfl] at hQ ⊢
 refine wp_region_held_drew (S := fun w' => Below v6.heap.size v6 w') (by kernel_rfl) (Below.refl _ _).drew (fun hHeld => ?_)
 refine takeH 0 (some 152) (v := ?_) rfl (by kernel_rfl) (by kernel_rfl) (by kernel_rfl) (by kernel_rfl) (fun _ _ _ h => hP.out _ _ _ _ _ h) (Or.inl ⟨by kernel_rfl, ?hy⟩) (by assumption) ?_
 case hy =>
  intro w' hSw
  clear hSw
  first
   | (go_simp; done)
   | (go_simp; with_reducible rfl)
 simp only [Act.put, sA, sZ, sS]
 refine takeH 1 (some 153) (v := ?_) rfl (by kernel_rfl) (by kernel_rfl) (by kernel_rfl) (by kernel_rfl) (fun _ _ _ h => hP.out _ _ _ _ _ h) (Or.inl ⟨by kernel_rfl, ?hy⟩) (by assumption) ?_
 case hy =>
  intro w' hSw
  clear hSw
  first
   | (go_simp; done)
   | (go_simp; with_reducible rfl)
 simp only [Act.put, sA, sZ, sS]
 refine takeH 2 (some 154) (v := ?_) rfl (by kernel_rfl) (by kernel_rfl) (by kernel_rfl) (by kernel_rfl) (fun _ _ _ h => hP.out _ _ _ _ _ h) (Or.inl ⟨by kernel_rfl, ?hy⟩) (by assumption) ?_
 case hy =>
  intro w' hSw
  clear hSw
  first
   | (go_simp; done)
   | (go_simp; with_reducible rfl)
 simp only [Act.put, sA, sZ, sS]
 refine takeH 3 (some 155) (v := undef) rfl (by kernel_rfl) (by kernel_rfl) (by kernel_rfl) (by kernel_rfl) (fun _ _ _ h => hP.out _ _ _ _ _ h) (Or.inr ⟨by kernel_rfl, rfl⟩) (by assumption) ?_
 simp only [Act.put, sA, sZ, sS]
 refine takeH 4 (some 156) (v := undef) rfl (by kernel_rfl) (by kernel_rfl) (by kernel_rfl) (by kernel_rfl) (fun _ _ _ h => hP.out _ _ _ _ _ h) (Or.inr ⟨by kernel_rfl, rfl⟩) (by assumption) ?_
 simp only [Act.put, sA, sZ, sS]
 refine takeH 5 (some 157) (v := undef) rfl (by kernel_rfl) (by kernel_rfl) (by kernel_rfl) (by kernel_rfl) (fun _ _ _ h => hP.out _ _ _ _ _ h) (Or.inr ⟨by kernel_rfl, rfl⟩) (by assumption) ?_
 simp only [Act.put, sA, sZ, sS]
 refine takeH 6 (some 158) (v := undef) rfl (by kernel_rfl) (by kernel_rfl) (by kernel_rfl) (by kernel_rfl) (fun _ _ _ h => hP.out _ _ _ _ _ h) (Or.inr ⟨by kernel_rfl, rfl⟩) (by assumption) ?_
 simp only [Act.put, sA, sZ, sS]
 refine takeH 7 (some 159) (v := undef) rfl (by kernel_rfl) (by kernel_rfl) (by kernel_rfl) (by kernel_rfl) (fun _ _ _ h => hP.out _ _ _ _ _ h) (Or.inr ⟨by kernel_rfl, rfl⟩) (by assumption) ?_
 simp only [Act.put, sA, sZ, sS]
 refine takeH 8 (some 160) (v := undef) rfl (by kernel_rfl) (by kernel_rfl) (by kernel_rfl) (by kernel_rfl) (fun _ _ _ h => hP.out _ _ _ _ _ h) (Or.inr ⟨by kernel_rfl, rfl⟩) (by assumption) ?_
 simp only [Act.put, sA, sZ, sS]
 refine takeH 9 (some 161) (v := undef) rfl (by kernel_rfl) (by kernel_rfl) (by kernel_rfl) (by kernel_rfl) (fun _ _ _ h => hP.out _ _ _ _ _ h) (Or.inr ⟨by kernel_rfl, rfl⟩) (by assumption) ?_
 simp only [Act.put, sA, sZ, sS]
 refine takeH 10 (some 162) (v := undef) rfl (by kernel_rfl) (by kernel_rfl) (by kernel_rfl) (by kernel_rfl) (fun _ _ _ h => hP.out _ _ _ _ _ h) (Or.inr ⟨by kernel_rfl, rfl⟩) (by assumption) ?_
 simp only [Act.put, sA, sZ, sS]
 refine takeH 11 (some 163) (v := undef) rfl (by kernel_rfl) (by kernel_rfl) (by kernel_rfl) (by kernel_rfl) (fun _ _ _ h => hP.out _ _ _ _ _ h) (Or.inr ⟨by kernel_rfl, rfl⟩) (by assumption) ?_
 simp only [Act.put, sA, sZ, sS]
 refine takeH 12 (some 164) (v := undef) rfl (by kernel_rfl) (by kernel_rfl) (by kernel_rfl) (by kernel_rfl) (fun _ _ _ h => hP.out _ _ _ _ _ h) (Or.inr ⟨by kernel_rfl, rfl⟩) (by assumption) ?_
 simp only [Act.put, sA, sZ, sS]
 refine takeH 13 (some 165) (v := undef) rfl (by kernel_rfl) (by kernel_rfl) (by kernel_rfl) (by kernel_rfl) (fun _ _ _ h => hP.out _ _ _ _ _ h) (Or.inr ⟨by kernel_rfl, rfl⟩) (by assumption) ?_
 simp only [Act.put, sA, sZ, sS]
 refine takeH 14 (some 166) (v := undef) rfl (by kernel_rfl) (by kernel_rfl) (by kernel_rfl) (by kernel_rfl) (fun _ _ _ h => hP.out _ _ _ _ _ h) (Or.inr ⟨by kernel_rfl, rfl⟩) (by assumption) ?_
 simp only [Act.put, sA, sZ, sS]
 refine takeH 15 (some 167) (v := undef) rfl (by kernel_rfl) (by kernel_rfl) (by kernel_rfl) (by kernel_rfl) (fun _ _ _ h => hP.out _ _ _ _ _ h) (Or.inr ⟨by kernel_rfl, rfl⟩) (by assumption) ?_
 simp only [Act.put, sA, sZ, sS]
 refine takeH 16 (some 168) (v := undef) rfl (by kernel_rfl) (by kernel_rfl) (by kernel_rfl) (by kernel_rfl) (fun _ _ _ h => hP.out _ _ _ _ _ h) (Or.inr ⟨by kernel_rfl, rfl⟩) (by assumption) ?_
 simp only [Act.put, sA, sZ, sS]
 refine takeH 17 (some 169) (v := undef) rfl (by kernel_rfl) (by kernel_rfl) (by kernel_rfl) (by kernel_rfl) (fun _ _ _ h => hP.out _ _ _ _ _ h) (Or.inr ⟨by kernel_rfl, rfl⟩) (by assumption) ?_
 simp only [Act.put, sA, sZ, sS]
 refine takeH 18 (some 170) (v := undef) rfl (by kernel_rfl) (by kernel_rfl) (by kernel_rfl) (by kernel_rfl) (fun _ _ _ h => hP.out _ _ _ _ _ h) (Or.inr ⟨by kernel_rfl, rfl⟩) (by assumption) ?_
 simp only [Act.put, sA, sZ, sS]
 refine takeH 19 (some 171) (v := undef) rfl (by kernel_rfl) (by kernel_rfl) (by kernel_rfl) (by kernel_rfl) (fun _ _ _ h => hP.out _ _ _ _ _ h) (Or.inr ⟨by kernel_rfl, rfl⟩) (by assumption) ?_
 simp only [Act.put, sA, sZ, sS]
 refine takeH 20 (some 172) (v := undef) rfl (by kernel_rfl) (by kernel_rfl) (by kernel_rfl) (by kernel_rfl) (fun _ _ _ h => hP.out _ _ _ _ _ h) (Or.inr ⟨by kernel_rfl, rfl⟩) (by assumption) ?_
 simp only [Act.put, sA, sZ, sS]
 refine takeH 21 (some 173) (v := undef) rfl (by kernel_rfl) (by kernel_rfl) (by kernel_rfl) (by kernel_rfl) (fun _ _ _ h => hP.out _ _ _ _ _ h) (Or.inr ⟨by kernel_rfl, rfl⟩) (by assumption) ?_
 simp only [Act.put, sA, sZ, sS]
 refine takeH 22 (some 174) (v := undef) rfl (by kernel_rfl) (by kernel_rfl) (by kernel_rfl) (by kernel_rfl) (fun _ _ _ h => hP.out _ _ _ _ _ h) (Or.inr ⟨by kernel_rfl, rfl⟩) (by assumption) ?_
 simp only [Act.put, sA, sZ, sS]
 refine takeH 23 (some 175) (v := undef) rfl (by kernel_rfl) (by kernel_rfl) (by kernel_rfl) (by kernel_rfl) (fun _ _ _ h => hP.out _ _ _ _ _ h) (Or.inr ⟨by kernel_rfl, rfl⟩) (by assumption) ?_
 simp only [Act.put, sA, sZ, sS]
 refine takeH 24 (some 176) (v := undef) rfl (by kernel_rfl) (by kernel_rfl) (by kernel_rfl) (by kernel_rfl) (fun _ _ _ h => hP.out _ _ _ _ _ h) (Or.inr ⟨by kernel_rfl, rfl⟩) (by assumption) ?_
 simp only [Act.put, sA, sZ, sS]
 refine takeH 25 (some 177) (v := undef) rfl (by kernel_rfl) (by kernel_rfl) (by kernel_rfl) (by kernel_rfl) (fun _ _ _ h => hP.out _ _ _ _ _ h) (Or.inr ⟨by kernel_rfl, rfl⟩) (by assumption) ?_
 simp only [Act.put, sA, sZ, sS]
 refine takeH 26 (some 178) (v := undef) rfl (by kernel_rfl) (by kernel_rfl) (by kernel_rfl) (by kernel_rfl) (fun _ _ _ h => hP.out _ _ _ _ _ h) (Or.inr ⟨by kernel_rfl, rfl⟩) (by assumption) ?_
 simp only [Act.put, sA, sZ, sS]
 refine takeH 27 (some 179) (v := undef) rfl (by kernel_rfl) (by kernel_rfl) (by kernel_rfl) (by kernel_rfl) (fun _ _ _ h => hP.out _ _ _ _ _ h) (Or.inr ⟨by kernel_rfl, rfl⟩) (by assumption) ?_
 simp only [Act.put, sA, sZ, sS]
 refine takeH 28 (some 180) (v := undef) rfl (by kernel_rfl) (by kernel_rfl) (by kernel_rfl) (by kernel_rfl) (fun _ _ _ h => hP.out _ _ _ _ _ h) (Or.inr ⟨by kernel_rfl, rfl⟩) (by assumption) ?_
 simp only [Act.put, sA, sZ, sS]
 refine takeH 29 (some 181) (v := undef) rfl (by kernel_rfl) (by kernel_rfl) (by kernel_rfl) (by kernel_rfl) (fun _ _ _ h => hP.out _ _ _ _ _ h) (Or.inr ⟨by kernel_rfl, rfl⟩) (by assumption) ?_
 simp only [Act.put, sA, sZ, sS]
 refine takeH 30 (some 182) (v := undef) rfl (by kernel_rfl) (by kernel_rfl) (by kernel_rfl) (by kernel_rfl) (fun _ _ _ h => hP.out _ _ _ _ _ h) (Or.inr ⟨by kernel_rfl, rfl⟩) (by assumption) ?_
 simp only [Act.put, sA, sZ, sS]
 refine takeH 31 (some 183) (v := undef) rfl (by kernel_rfl) (by kernel_rfl) (by kernel_rfl) (by kernel_rfl) (fun _ _ _ h => hP.out _ _ _ _ _ h) (Or.inr ⟨by kernel_rfl, rfl⟩) (by assumption) ?_
 simp only [Act.put, sA, sZ, sS]
 refine takeH 32 (some 184) (v := undef) rfl (by kernel_rfl) (by kernel_rfl) (by kernel_rfl) (by kernel_rfl) (fun _ _ _ h => hP.out _ _ _ _ _ h) (Or.inr ⟨by kernel_rfl, rfl⟩) (by assumption) ?_
 simp only [Act.put, sA, sZ, sS]
 refine takeH 33 (some 185) (v := ?_) rfl (by kernel_rfl) (by kernel_rfl) (by kernel_rfl) (by kernel_rfl) (fun _ _ _ h => hP.out _ _ _ _ _ h) (Or.inl ⟨by kernel_rfl, ?hy⟩) (by assumption) ?_
 case hy =>
  intro w' hSw
  clear hSw
  first
   | (go_simp; done)
   | (go_simp; with_reducible rfl)
 simp only [Act.put, sA, sZ, sS]
 refine wpAnyH_done (by kernel_rfl) ?_ _
 go_wp2_with fail
 exact hQ.out _ _ _ _ _ _ _ _ _ _ _ _ _ _ _ _ _ _ _ _ _ _ _ _ _ _ _ _ _ _ _ _ _ _ (Below.refl _ _).drew

end Go.Proofs.YthhiookcknnmdaaGreat
namespace Go.Proofs.YthhiookcknnmdaaGreat
open Go.RowKit Go.Lib



set_option maxRecDepth 100000 in
set_option maxHeartbeats 16000000 in
theorem tm19b {u0 u1 u2 u3 u4 u5 u6 u7 u8 u9 u10 u11 u14 u16 u17 u18 u19 u20 u21 u22 u23 u24 u25 u26 u27 u28 u29 u30 u31 u32 u33 u34 u35 u36 u37 u38 u39 u40 u41 u42 u43 u44 u45 u46 u47 u48 u49 u50 u51 u52 u53 u54 u55 u56 u57 u58 u59 u60 u61 u62 u63 u64 u65 u66 u67 u68 u69 u70 u71 u72 u73 u74 u75 u76 u77 u78 u79 u80 u81 u82 u83 u84 u85 u86 u87 u88 u89 u90 u91 u92 u93 u94 u95 u96 u97 u98 u99 u100 u101 u102 u103 u104 u105 u106 u107 u108 u109 u110 u111 u112 u113 u114 u115 u116 u117 u118 u119 u120 u121 u122 u123 u124 u125 u126 u127 u128 u129 u130 u131 u132 u133 u134 u135 u136 u137 u138 u139 u140 u141 u142 u143 u144 u145 u146 u147 u148 u149 u150 u151 u152 u153 u154 u155 u156 u157 u158 u159 u160 u161 u162 u163 u164 u165 u166 u167 u168 u169 u170 u171 u172 u173 u174 u175 u176 u177 u178 u179 u180 u181 u182 u183 u184 u185 u186 u187 u188 u189 u190 u191 u192 u193 u194 u195 u196 u197 u198 u199 u200 u201 u202 u203 u204 u205 u206 u207 u208 u209 u210 u211 u212 u213 u214 u215 u216 u217 : Value} {Q : Exit → Act → World → Prop} {p : Pl} {Ak : Option Addr} {ck : Nat} {An : Option Addr} {cn : Nat} {Af : Option Addr} {cf : Nat} {m k d pb : Nat}
  {v6 : World} (hlt : k < m) (hm7 : m ≤ 7) (_hd2 : d ≤ 65536) (HAt : Hid (p.At Ak (m + 1) ck An m Af m v6)) (HPr7 : Hid (v6.heap[pb]? = some (.cells #[.int .u8 p.tb.x0, .int .u8 p.tb.x1, .int .u8 p.tb.x2, .int .u8 p.tb.x3, .int .u8 p.tb.x4, .int .u8 p.tb.x5, .int .u8 p.tb.x6, .int .u8 p.tb.x7, .slice Ak (m + 1) ck, .int .i64 p.s0, .int .i64 p.s1, .slice An m cn, .slice Af m cf] 32 (0, 0))))
  (HSt : Hid (0 < k → p.nr.getD (k - 1) 0 = p.nr.getD k 0 + d ∧ p.fr.getD k 0 = p.fr.getD (k - 1) 0 + d)) (HU : Hid (∀ i, i < m → 0 ≤ p.nr.getD i 0 ∧ 0 ≤ p.fr.getD i 0 ∧ p.nr.getD i 0 ≤ 5000000000 ∧ p.fr.getD i 0 ≤ 5000000000)) (hkp : 0 < k)
  (hQ : Hid (∀ (x152 x153 x154 x155 x156 x157 x158 x159 x160 x161 x162 x163 x164 x165 x166 x167 x168 x169 x170 x171 x172 x173 x174 x175 x176 x177 x178 x179 x180 x181 x182 x183 x184 : Value) (w' : World), Below v6.heap.size v6 w' → Q .normal ⟨#[u0, u1, u2, u3, u4, u5, u6, u7, u8, u9, u10, u11, .int .i64 d, .pointer (some ⟨pb, 0, none⟩), u14, .int .i64 k, u16, u17, u18, u19, u20, u21, u22, u23, u24, u25, u26, u27, u28, u29, u30, u31, u32, u33, u34, u35, u36, u37, u38, u39, u40, u41, u42, u43, u44, u45, u46, u47, u48, u49, u50, u51, u52, u53, u54, u55, u56, u57, u58, u59, u60, u61, u62, u63, u64, u65, u66, u67, u68, u69, u70, u71, u72, u73, u74, u75, u76, u77, u78, u79, u80, u81, u82, u83, u84, u85, u86, u87, u88, u89, u90, u91, u92, u93, u94, u95, u96, u97, u98, u99, u100, u101, u102, u103, u104, u105, u106, u107, u108, u109, u110, u111, u112, u113, u114, u115, u116, u117, u118, u119, u120, u121, u122, u123, u124, u125, u126, u127, u128, u129, u130, u131, u132, u133, u134, u135, u136, u137, u138, u139, u140, u141, u142, u143, u144, u145, u146, u147, u148, u149, u150, u151, x152, x153, x154, x155, x156, x157, x158, x159, x160, x161, x162, x163, x164, x165, x166, x167, x168, x169, x170, x171, x172, x173, x174, x175, x176, x177, x178, x179, x180, x181, x182, x183, x184, .bool false, u186, u187, u188, u189, u190, u191, u192, u193, u194, u195, u196, u197, u198, u199, u200, u201, u202, u203, u204, u205, u206, u207, u208, u209, u210, u211, u212, u213, u214, u215, u216, u217], []⟩ w')) {code : Code} (hc : codeR 19 Tryz.f3 = code) :
  Code.wp Tryz.prog code Q ⟨#[u0, u1, u2, u3, u4, u5, u6, u7, u8, u9, u10, u11, .int .i64 d, .pointer (some ⟨pb, 0, none⟩), u14, .int .i64 k, u16, u17, u18, u19, u20, u21, u22, u23, u24, u25, u26, u27, u28, u29, u30, u31, u32, u33, u34, u35, u36, u37, u38, u39, u40, u41, u42, u43, u44, u45, u46, u47, u48, u49, u50, u51, u52, u53, u54, u55, u56, u57, u58, u59, u60, u61, u62, u63, u64, u65, u66, u67, u68, u69, u70, u71, u72, u73, u74, u75, u76, u77, u78, u79, u80, u81, u82, u83, u84, u85, u86, u87, u88, u89, u90, u91, u92, u93, u94, u95, u96, u97, u98, u99, u100, u101, u102, u103, u104, u105, u106, u107, u108, u109, u110, u111, u112, u113, u114, u115, u116, u117, u118, u119, u120, u121, u122, u123, u124, u125, u126, u127, u128, u129, u130, u131, u132, u133, u134, u135, u136, u137, u138, u139, u140, u141, u142, u143, u144, u145, u146, u147, u148, u149, u150, u151, u152, u153, u154, u155, u156, u157, u158, u159, u160, u161, u162, u163, u164, u165, u166, u167, u168, u169, u170, u171, u172, u173, u174, u175, u176, u177, u178, u179, u180, u181, u182, u183, u184, u185, u186, u187, u188, u189, u190, u191, u192, u193, u194, u195, u196, u197, u198, u199, u200, u201, u202, u203, u204, u205, u206, u207, u208, u209, u210, u211, u212, u213, u214, u215, u216, u217], []⟩ v6 := by
 subst hc
 have e : codeR 19 Tryz.f3 = codeR 19 Tryz.f3 := rfl
 conv at e => rhs; whnf
 rw [e]
 clear e
 have hk03 : decide (0 < k) = true := decide_eq_true (by omega)
 have hki : (k : Int) < (m : Int) := by omega
 obtain ⟨ub1, uo1, hAn, hub1, huc1⟩ := HAt.out.n.iat (show k - 1 < m by omega)
 obtain ⟨fb1, fo1, hAf, hfb1, hfc1⟩ := HAt.out.f.iat (show k - 1 < m by omega)
 obtain ⟨ub2, uo2, hAn2, hub2, huc2⟩ := HAt.out.n.iat hlt
 obtain ⟨fb2, fo2, hAf2, hfb2, hfc2⟩ := HAt.out.f.iat hlt
 have e1 := hAn.symm.trans hAn2; have e2 := hAf.symm.trans hAf2
 injection e1 with e1; injection e1 with e1 e1'; subst e1 e1'
 injection e2 with e2; injection e2 with e2 e2'; subst e2 e2'
 subst hAn hAf
 clear hAn2 hAf2
 have r11 := block_cell HPr7.out 11; have r12 := block_cell HPr7.out 12
 simp at r11 r12
 obtain ⟨t1, t2⟩ := HSt.out hkp
 obtain ⟨g1, g2, g3, g4⟩ := HU.out k hlt
 obtain ⟨g5, g6, g7, g8⟩ := HU.out (k - 1) (by omega)
 have hti : ((k : Int) - 1).toNat = k - 1 := by omega
 have hwk : IntKind.i64.wrap ((k : Int) - 1) = (k : Int) - 1 := by rw [IntKind.wrap_i64]; omega
 have hk1 : (0 : Int) ≤ (k : Int) - 1 := by omega
 have hk2 : (k : Int) - 1 < (m : Int) := by omega
 have hk4 : (1 : Int) ≤ (k : Int) := by omega
 have htk : decide ((k : Int) - 1 < (m : Int)) = true := decide_eq_true (by omega)
 rw [t1] at huc1 g5 g7; rw [t2] at hfc2 g2 g4
 clear t1 t2 HU HSt
 generalize p.nr.getD k 0 = nk at *
 generalize p.fr.getD (k - 1) 0 = fk at *
 have hwn : IntKind.i64.wrap (nk + (d : Int)) = nk + (d : Int) := by rw [IntKind.wrap_i64]; omega
 have hwf : IntKind.i64.wrap (fk + (d : Int)) = fk + (d : Int) := by rw [IntKind.wrap_i64]; omega
 refine wp_region_tail 33 (by kernel_rfl) (by kernel_rfl) ?_
 simp only [List.take_succ_cons, List.take_zero, List.drop_succ_cons, List.drop_zero]
 iterate 33 still_step
 refine wpStill_nil ?_
 go_wp2_with fail
 exact hQ.out _ _ _ _ _ _ _ _ _ _ _ _ _ _ _ _ _ _ _ _ _ _ _ _ _ _ _ _ _ _ _ _ _ _ (Below.refl _ _).drew

end Go.Proofs.YthhiookcknnmdaaGreat
namespace Go.Proofs.YthhiookcknnmdaaGreat
open Go.RowKit Go.Lib



set_option maxRecDepth 100000 in
set_option maxHeartbeats 16000000 in
theorem tm9 {u0 u1 u3 u4 u6 u7 u8 u9 u11 u13 u14 u15 u16 u17 u18 u19 u20 u21 u22 u23 u24 u25 u26 u27 u28 u29 u30 u31 u32 u33 u34 u35 u36 u37 u38 u39 u40 u41 u42 u43 u44 u45 u46 u47 u48 u49 u50 u51 u52 u53 u54 u55 u56 u57 u58 u59 u60 u61 u62 u63 u64 u65 u66 u67 u68 u69 u70 u71 u72 u73 u74 u75 u76 u77 u78 u79 u80 u81 u82 u83 u84 u85 u86 u87 u88 u89 u90 u91 u92 u93 u94 u95 u96 u97 u98 u99 u100 u101 u102 u103 u104 u105 u106 u107 u108 u109 u110 u111 u112 u113 u114 u115 u116 u117 u118 u119 u120 u121 u122 u123 u124 u125 u126 u127 u128 u129 u130 u131 u132 u133 u134 u135 u136 u137 u138 u139 u140 u141 u142 u143 u144 u145 u146 u147 u148 u149 u150 u151 u152 u153 u154 u155 u156 u157 u158 u159 u160 u161 u162 u163 u164 u165 u166 u167 u168 u169 u170 u171 u172 u173 u174 u175 u176 u177 u178 u179 u180 u181 u182 u183 u184 u185 u186 u187 u188 u189 u190 u191 u192 u193 u194 u195 u196 u197 u198 u199 u200 u201 u202 u203 u204 u205 u206 u207 u208 u209 u210 u211 u212 u213 u214 u215 u216 u217 : Value} {Q : Exit → Act → World → Prop} {p : Pl} {Aq : Option Addr} {cq m a b last d xb : Nat} {w6 : World}
  (ha : a < 65536) (hb : b < 65536) (hl : last < 4294967296) (HX6 : Hid (w6.heap[xb]? = some (.cells #[.int .u16 a, .int .u16 b] 23 (0, 0))))
  (HNP : Hid (∀ w', Below w6.heap.size w6 w' → Calls Tryz.prog 12 #[.agg #[.int .u8 tabD.x0, .int .u8 tabD.x1, .int .u8 tabD.x2, .int .u8 tabD.x3, .int .u8 tabD.x4, .int .u8 tabD.x5, .int .u8 tabD.x6, .int .u8 tabD.x7], .slice Aq (m + 1) cq, .agg #[.int .i64 (1 + (a : Int)), .int .i64 (1 + (b : Int))], .int .i64 last, .int .i64 d] w' (GivesPl p 0 w')))
  (hP : Hid (∀ x (a : Act) (d : Option Tmp) (v : Value) (w : World), Q (.panic x) (a.put d v) w → Q (.panic x) a w))
  (hQ : Hid (∀ (x41 x42 x43 x44 x45 x46 x47 x48 x49 x50 x51 x52 x53 x54 x55 x56 x57 x58 : Value) (pb : Nat) (Ak : Option Addr) (nk ck : Nat) (An : Option Addr) (nn cn : Nat) (Af : Option Addr) (nf cf : Nat) (w' : World), w'.heap[pb]? = some (.cells #[.int .u8 p.tb.x0, .int .u8 p.tb.x1, .int .u8 p.tb.x2, .int .u8 p.tb.x3, .int .u8 p.tb.x4, .int .u8 p.tb.x5, .int .u8 p.tb.x6, .int .u8 p.tb.x7, .slice Ak nk ck, .int .i64 p.s0, .int .i64 p.s1, .slice An nn cn, .slice Af nf cf] 32 (0, 0)) → p.Own w6.heap.size Ak nk ck An nn cn Af nf cf w' → Below w6.heap.size w6 w' → w6.heap.size ≤ pb → Q .normal ⟨#[u0, u1, .int .u32 last, u3, u4, .pointer (some ⟨xb, 0, none⟩), u6, u7, u8, u9, .slice Aq (m + 1) cq, u11, .int .i64 d, .pointer (some ⟨pb, 0, none⟩), .int .i64 0, u15, u16, u17, u18, u19, u20, u21, u22, u23, u24, u25, u26, u27, u28, u29, u30, u31, u32, u33, u34, u35, u36, u37, u38, u39, u40, x41, x42, x43, x44, x45, x46, x47, x48, x49, x50, x51, x52, x53, x54, x55, x56, x57, x58, u59, u60, u61, u62, u63, u64, u65, u66, u67, u68, u69, u70, u71, u72, u73, u74, u75, u76, u77, u78, u79, u80, u81, u82, u83, u84, u85, u86, u87, u88, u89, u90, u91, u92, u93, u94, u95, u96, u97, u98, u99, u100, u101, u102, u103, u104, u105, u106, u107, u108, u109, u110, u111, u112, u113, u114, u115, u116, u117, u118, u119, u120, u121, u122, u123, u124, u125, u126, u127, u128, u129, u130, u131, u132, u133, u134, u135, u136, u137, u138, u139, u140, u141, u142, u143, u144, u145, u146, u147, u148, u149, u150, u151, u152, u153, u154, u155, u156, u157, u158, u159, u160, u161, u162, u163, u164, u165, u166, u167, u168, u169, u170, u171, u172, u173, u174, u175, u176, u177, u178, u179, u180, u181, u182, u183, u184, u185, u186, u187, u188, u189, u190, u191, u192, u193, u194, u195, u196, u197, u198, u199, u200, u201, u202, u203, u204, u205, u206, u207, u208, u209, u210, u211, u212, u213, u214, u215, u216, u217], []⟩ w')) {code : Code} (hc : codeR 9 Tryz.f3 = code) :
  Code.wp Tryz.prog code Q ⟨#[u0, u1, .int .u32 last, u3, u4, .pointer (some ⟨xb, 0, none⟩), u6, u7, u8, u9, .slice Aq (m + 1) cq, u11, .int .i64 d, u13, u14, u15, u16, u17, u18, u19, u20, u21, u22, u23, u24, u25, u26, u27, u28, u29, u30, u31, u32, u33, u34, u35, u36, u37, u38, u39, u40, u41, u42, u43, u44, u45, u46, u47, u48, u49, u50, u51, u52, u53, u54, u55, u56, u57, u58, u59, u60, u61, u62, u63, u64, u65, u66, u67, u68, u69, u70, u71, u72, u73, u74, u75, u76, u77, u78, u79, u80, u81, u82, u83, u84, u85, u86, u87, u88, u89, u90, u91, u92, u93, u94, u95, u96, u97, u98, u99, u100, u101, u102, u103, u104, u105, u106, u107, u108, u109, u110, u111, u112, u113, u114, u115, u116, u117, u118, u119, u120, u121, u122, u123, u124, u125, u126, u127, u128, u129, u130, u131, u132, u133, u134, u135, u136, u137, u138, u139, u140, u141, u142, u143, u144, u145, u146, u147, u148, u149, u150, u151, u152, u153, u154, u155, u156, u157, u158, u159, u160, u161, u162, u163, u164, u165, u166, u167, u168, u169, u170, u171, u172, u173, u174, u175, u176, u177, u178, u179, u180, u181, u182, u183, u184, u185, u186, u187, u188, u189, u190, u191, u192, u193, u194, u195, u196, u197, u198, u199, u200, u201, u202, u203, u204, u205, u206, u207, u208, u209, u210, u211, u212, u213, u214, u215, u216, u217], []⟩ w6 := by
 subst hc
 have e : codeR 9 Tryz.f3 = codeR 9 Tryz.f3 := rfl
 conv at e => rhs; whnf
 rw [e]
 clear e
 have hlx := block_lt HX6.out
 refine wp_region_held_drew (S := fun w' => Below w6.heap.size w6 w') (by kernel_rfl) (Below.refl _ _).drew (fun hHeld => ?_)
 have c0 : ∀ w', Below w6.heap.size w6 w' → w'.cell? ⟨xb, 0, none⟩ = some (.int .u16 a) := fun w' hw' => by have := block_cell (block_below HX6.out hw' hlx) 0; simpa using this
 have c1 : ∀ w', Below w6.heap.size w6 w' → w'.cell? ⟨xb, 1, none⟩ = some (.int .u16 b) := fun w' hw' => by have := block_cell (block_below HX6.out hw' hlx) 1; simpa using this
 have wa : IntKind.i64.wrap (a : Int) = (a : Int) := wrapI_id (by omega) (by omega)
 have wb : IntKind.i64.wrap (b : Int) = (b : Int) := wrapI_id (by omega) (by omega)
 have wa1 : IntKind.i64.wrap (1 + (a : Int)) = 1 + (a : Int) := wrapI_id (by omega) (by omega)
 have wb1 : IntKind.i64.wrap (1 + (b : Int)) = 1 + (b : Int) := wrapI_id (by omega) (by omega)
 have wl : IntKind.i64.wrap (last : Int) = (last : Int) := by rw [IntKind.wrap_i64]; omega
 refine takeH 1 (some 43) (v := ?_) rfl (by kernel_rfl) (by kernel_rfl) (by kernel_rfl) (by kernel_rfl) (fun _ _ _ h => hP.out _ _ _ _ _ h) (Or.inl ⟨by kernel_rfl, ?hy⟩) (by assumption) ?_
 case hy =>
  intro w' hSw
  clear hSw
  first
   | (go_simp; done)
   | (go_simp; with_reducible rfl)
 simp only [Act.put, sA, sZ, sS]
 refine takeH 2 (some 44) (v := ?_) rfl (by kernel_rfl) (by kernel_rfl) (by kernel_rfl) (by kernel_rfl) (fun _ _ _ h => hP.out _ _ _ _ _ h) (Or.inl ⟨by kernel_rfl, ?hy⟩) (by assumption) ?_
 case hy =>
  intro w' hSw
  clear hSw
  first
   | (go_simp; done)
   | (go_simp; with_reducible rfl)
 simp only [Act.put, sA, sZ, sS]
 refine takeH 3 (some 45) (v := ?_) rfl (by kernel_rfl) (by kernel_rfl) (by kernel_rfl) (by kernel_rfl) (fun _ _ _ h => hP.out _ _ _ _ _ h) (Or.inl ⟨by kernel_rfl, ?hy⟩) (by assumption) ?_
 case hy =>
  intro w' hSw
  have hx := c0 w' hSw
  clear hSw
  first
   | (go_simp; done)
   | (go_simp; with_reducible rfl)
 simp only [Act.put, sA, sZ, sS]
 refine takeH 4 (some 46) (v := ?_) rfl (by kernel_rfl) (by kernel_rfl) (by kernel_rfl) (by kernel_rfl) (fun _ _ _ h => hP.out _ _ _ _ _ h) (Or.inl ⟨by kernel_rfl, ?hy⟩) (by assumption) ?_
 case hy =>
  intro w' hSw
  clear hSw
  first
   | (go_simp; done)
   | (go_simp; with_reducible rfl)
 simp only [Act.put, sA, sZ, sS]
 refine takeH 5 (some 47) (v := ?_) rfl (by kernel_rfl) (by kernel_rfl) (by kernel_rfl) (by kernel_rfl) (fun _ _ _ h => hP.out _ _ _ _ _ h) (Or.inl ⟨by kernel_rfl, ?hy⟩) (by assumption) ?_
 case hy =>
  intro w' hSw
  clear hSw
  first
   | (go_simp; done)
   | (go_simp; with_reducible rfl)
 simp only [Act.put, sA, sZ, sS]
 refine takeH 6 (some 48) (v := ?_) rfl (by kernel_rfl) (by kernel_rfl) (by kernel_rfl) (by kernel_rfl) (fun _ _ _ h => hP.out _ _ _ _ _ h) (Or.inl ⟨by kernel_rfl, ?hy⟩) (by assumption) ?_
 case hy =>
  intro w' hSw
  clear hSw
  first
   | (go_simp; done)
   | (go_simp; with_reducible rfl)
 simp only [Act.put, sA, sZ, sS]
 refine takeH 7 (some 49) (v := ?_) rfl (by kernel_rfl) (by kernel_rfl) (by kernel_rfl) (by kernel_rfl) (fun _ _ _ h => hP.out _ _ _ _ _ h) (Or.inl ⟨by kernel_rfl, ?hy⟩) (by assumption) ?_
 case hy =>
  intro w' hSw
  have hx := c1 w' hSw
  clear hSw
  first
   | (go_simp; done)
   | (go_simp; with_reducible rfl)
 simp only [Act.put, sA, sZ, sS]
 refine takeH 8 (some 50) (v := ?_) rfl (by kernel_rfl) (by kernel_rfl) (by kernel_rfl) (by kernel_rfl) (fun _ _ _ h => hP.out _ _ _ _ _ h) (Or.inl ⟨by kernel_rfl, ?hy⟩) (by assumption) ?_
 case hy =>
  intro w' hSw
  clear hSw
  first
   | (go_simp; done)
   | (go_simp; with_reducible rfl)
 simp only [Act.put, sA, sZ, sS]
 refine takeH 9 (some 51) (v := ?_) rfl (by kernel_rfl) (by kernel_rfl) (by kernel_rfl) (by kernel_rfl) (fun _ _ _ h => hP.out _ _ _ _ _ h) (Or.inl ⟨by kernel_rfl, ?hy⟩) (by assumption) ?_
 case hy =>
  intro w' hSw
  clear hSw
  first
   | (go_simp; done)
   | (go_simp; with_reducible rfl)
 simp only [Act.put, sA, sZ, sS]
 refine takeH 10 (some 52) (v := ?_) rfl (by kernel_rfl) (by kernel_rfl) (by kernel_rfl) (by kernel_rfl) (fun _ _ _ h => hP.out _ _ _ _ _ h) (Or.inl ⟨by kernel_rfl, ?hy⟩) (by assumption) ?_
 case hy =>
  intro w' hSw
  clear hSw
  first
   | (go_simp; done)
   | (go_simp; with_reducible rfl)
 simp only [Act.put, sA, sZ, sS]
 refine takeH 11 (some 53) (v := ?_) rfl (by kernel_rfl) (by kernel_rfl) (by kernel_rfl) (by kernel_rfl) (fun _ _ _ h => hP.out _ _ _ _ _ h) (Or.inl ⟨by kernel_rfl, ?hy⟩) (by assumption) ?_
 case hy =>
  intro w' hSw
  clear hSw
  first
   | (go_simp; done)
   | (go_simp; with_reducible rfl)
 simp only [Act.put, sA, sZ, sS]
 refine takeH 12 (some 54) (v := ?_) rfl (by kernel_rfl) (by kernel_rfl) (by kernel_rfl) (by kernel_rfl) (fun _ _ _ h => hP.out _ _ _ _ _ h) (Or.inl ⟨by kernel_rfl, ?hy⟩) (by assumption) ?_
 case hy =>
  intro w' hSw
  clear hSw
  first
   | (go_simp; done)
   | (go_simp; with_reducible rfl)
 simp only [Act.put, sA, sZ, sS]
 refine takeH 13 (some 55) (v := ?_) rfl (by kernel_rfl) (by kernel_rfl) (by kernel_rfl) (by kernel_rfl) (fun _ _ _ h => hP.out _ _ _ _ _ h) (Or.inl ⟨by kernel_rfl, ?hy⟩) (by assumption) ?_
 case hy =>
  intro w' hSw
  clear hSw
  first
   | (go_simp; done)
   | (go_simp; with_reducible rfl)
 simp only [Act.put, sA, sZ, sS]
 clear wa wb wa1 wb1 wl
 refine wpAnyH_ready (rs := [0, 18]) (by kernel_rfl) (by simp) ?_
 refine AllReadyH.cons rfl (fun K hK => ?_) (AllReadyH.cons rfl (fun K hK => ?_) AllReadyH.nil)
 all_goals
  rw [if_pos (by kernel_rfl)]
  try simp only [List.getElem_toArray]
  try simp only [List.getElem_cons_succ]
  try simp only [List.getElem_cons_zero]
 ·go_simp
  go_at_call 13
  refine (table_any w6.drew).mono ?_
  rintro e v1 ⟨rfl, hb1⟩
  have HB1 : Hid (Below w6.heap.size w6 v1) := Lib.hid ((Below.refl _ _).drew.trans hb1)
  clear hb1
  refine hK.out _ _ HB1.out (fun _ => ?_)
  clear hK K
  try simp only [Act.put, sA, sZ, sS]
  refine wpAnyH_ready (rs := [14, 18]) (by kernel_rfl) (by simp) ?_
  refine AllReadyH.cons rfl (fun K hK => ?_) (AllReadyH.cons rfl (fun K hK => ?_) AllReadyH.nil)
  all_goals
   rw [if_pos (by kernel_rfl)]
   try simp only [List.getElem_toArray]
   try simp only [List.getElem_cons_succ]
   try simp only [List.getElem_cons_zero]
  ·
   go_simp
   go_at_call 12
   refine (HNP.out v1 HB1.out).mono ?_
   rintro e v2 ⟨Ak, nk, ck, An, nn, cn, Af, nf, cf, rfl, hO, hbN⟩
   have HB2 := Lib.hid (HB1.out.trans (hbN.mono HB1.out.size))
   have HON : Hid (p.Own w6.heap.size Ak nk ck An nn cn Af nf cf v2) := Lib.hid ⟨own_weak hO.k HB1.out.size, own_weak hO.n HB1.out.size, own_weak hO.f HB1.out.size, hO.bk, hO.bn, hO.bf⟩
   clear hO hbN
   refine hK.out _ _ HB2.out (fun _ => ?_)
   clear hK K
   try simp only [Act.put, sA, sZ, sS]
   refine takeH 15 (some 41) (v := ?_) rfl (by kernel_rfl) (by kernel_rfl) (by kernel_rfl) (by kernel_rfl) (fun _ _ _ h => hP.out _ _ _ _ _ h) (Or.inl ⟨by kernel_rfl, ?hy⟩) (by assumption) ?_
   case hy =>
    intro w' hSw
    clear hSw
    first
     | (go_simp; done)
     | (go_simp; with_reducible rfl)
   simp only [Act.put, sA, sZ, sS]
   refine takeH 16 (some 57) (v := ?_) rfl (by kernel_rfl) (by kernel_rfl) (by kernel_rfl) (by kernel_rfl) (fun _ _ _ h => hP.out _ _ _ _ _ h) (Or.inl ⟨by kernel_rfl, ?hy⟩) (by assumption) ?_
   case hy =>
    intro w' hSw
    clear hSw
    first
     | (go_simp; done)
     | (go_simp; with_reducible rfl)
   simp only [Act.put, sA, sZ, sS]
   refine takeH 17 (some 58) (v := ?_) rfl (by kernel_rfl) (by kernel_rfl) (by kernel_rfl) (by kernel_rfl) (fun _ _ _ h => hP.out _ _ _ _ _ h) (Or.inl ⟨by kernel_rfl, ?hy⟩) (by assumption) ?_
   case hy =>
    intro w' hSw
    clear hSw
    first
     | (go_simp; done)
     | (go_simp; with_reducible rfl)
   simp only [Act.put, sA, sZ, sS]
   refine wpAnyH_ready (rs := [18]) (by kernel_rfl) (by simp) ?_
   refine AllReadyH.cons rfl (fun K hK => ?_) AllReadyH.nil
   rw [if_pos (by kernel_rfl)]
   try simp only [List.getElem_toArray]
   try simp only [List.getElem_cons_succ]
   try simp only [List.getElem_cons_zero]
   go_simp
   have HB3 := Lib.hid (HB2.out.alloc HB2.out.size (.cells #[.int .u8 0, .int .u8 0, .int .u8 0, .int .u8 0, .int .u8 0, .int .u8 0, .int .u8 0, .int .u8 0, .slice none 0 0, .int .i64 0, .int .i64 0, .slice none 0 0, .slice none 0 0] 32))
   have HZ3 : Hid ((v2.alloc (.cells #[.int .u8 0, .int .u8 0, .int .u8 0, .int .u8 0, .int .u8 0, .int .u8 0, .int .u8 0, .int .u8 0, .slice none 0 0, .int .i64 0, .int .i64 0, .slice none 0 0, .slice none 0 0] 32)).heap[v2.heap.size]? = some (.cells #[.int .u8 0, .int .u8 0, .int .u8 0, .int .u8 0, .int .u8 0, .int .u8 0, .int .u8 0, .int .u8 0, .slice none 0 0, .int .i64 0, .int .i64 0, .slice none 0 0, .slice none 0 0] 32)) := heap_alloc_new _ _
   have HO3 := Lib.hid (HON.out.tk (T := fun _ => False) (TK.of_below (below_one v2 (.cells #[.int .u8 0, .int .u8 0, .int .u8 0, .int .u8 0, .int .u8 0, .int .u8 0, .int .u8 0, .int .u8 0, .slice none 0 0, .int .i64 0, .int .i64 0, .slice none 0 0, .slice none 0 0] 32))) (fun e => e) (fun e => e))
   generalize v2.alloc (.cells #[.int .u8 0, .int .u8 0, .int .u8 0, .int .u8 0, .int .u8 0, .int .u8 0, .int .u8 0, .int .u8 0, .slice none 0 0, .int .i64 0, .int .i64 0, .slice none 0 0, .slice none 0 0] 32) = v3 at *
   refine hK.out _ _ HB3.out (fun _ => ?_)
   clear hK K
   try simp only [Act.put, sA, sZ, sS]
   refine wpAnyH_ready (rs := [19]) (by kernel_rfl) (by simp) ?_
   refine AllReadyH.cons rfl (fun K hK => ?_) AllReadyH.nil
   rw [if_pos (by kernel_rfl)]
   try simp only [List.getElem_toArray]
   try simp only [List.getElem_cons_succ]
   try simp only [List.getElem_cons_zero]
   refine wp_store_mid 32 _ _ (by rfl) (v2.heap.size) (0) #[.int .u8 p.tb.x0, .int .u8 p.tb.x1, .int .u8 p.tb.x2, .int .u8 p.tb.x3, .int .u8 p.tb.x4, .int .u8 p.tb.x5, .int .u8 p.tb.x6, .int .u8 p.tb.x7, .slice Ak nk ck, .int .i64 p.s0, .int .i64 p.s1, .slice An nn cn, .slice Af nf cf] (by rfl) (by rfl) (there_mid HZ3.out (by simp)) (by kernel_rfl) (by kernel_rfl) ?_
   obtain ⟨s1', s2'⟩ := set_all HZ3.out [.int .u8 p.tb.x0, .int .u8 p.tb.x1, .int .u8 p.tb.x2, .int .u8 p.tb.x3, .int .u8 p.tb.x4, .int .u8 p.tb.x5, .int .u8 p.tb.x6, .int .u8 p.tb.x7, .slice Ak nk ck, .int .i64 p.s0, .int .i64 p.s1, .slice An nn cn, .slice Af nf cf] rfl
   have HB9 := Lib.hid (HB3.out.grown s2' HB3.out.size (fun k hk => by cases hk; exact HB2.out.size))
   have HO9 : Hid (p.Own w6.heap.size Ak nk ck An nn cn Af nf cf _) := Lib.hid (HO3.out.tk (T := fun t => t = 32) (TK.of_grown s2' HZ3.out rfl) (by decide) (by decide))
   refine hK.out _ _ HB9.out (fun _ => ?_)
   clear hK K
   simp only [Act.put]
   refine takeH 20 (some 14) (v := ?_) rfl (by kernel_rfl) (by kernel_rfl) (by kernel_rfl) (by kernel_rfl) (fun _ _ _ h => hP.out _ _ _ _ _ h) (Or.inl ⟨by kernel_rfl, ?hy⟩) (by assumption) ?_
   case hy =>
    intro w' hSw
    clear hSw
    first
     | (go_simp; done)
     | (go_simp; with_reducible rfl)
   simp only [Act.put, sA, sZ, sS]
   refine wpAnyH_done (by kernel_rfl) ?_ _
   go_wp2_with fail
   exact hQ.out _ _ _ _ _ _ _ _ _ _ _ _ _ _ _ _ _ _ (v2.heap.size) Ak nk ck An nn cn Af nf cf _ s1' HO9.out HB9.out (HB2.out.size)
  ·go_simp
   have HB2 := Lib.hid (HB1.out.alloc HB1.out.size (.cells #[.int .u8 0, .int .u8 0, .int .u8 0, .int .u8 0, .int .u8 0, .int .u8 0, .int .u8 0, .int .u8 0, .slice none 0 0, .int .i64 0, .int .i64 0, .slice none 0 0, .slice none 0 0] 32))
   have HZ2 : Hid ((v1.alloc (.cells #[.int .u8 0, .int .u8 0, .int .u8 0, .int .u8 0, .int .u8 0, .int .u8 0, .int .u8 0, .int .u8 0, .slice none 0 0, .int .i64 0, .int .i64 0, .slice none 0 0, .slice none 0 0] 32)).heap[v1.heap.size]? = some (.cells #[.int .u8 0, .int .u8 0, .int .u8 0, .int .u8 0, .int .u8 0, .int .u8 0, .int .u8 0, .int .u8 0, .slice none 0 0, .int .i64 0, .int .i64 0, .slice none 0 0, .slice none 0 0] 32)) := heap_alloc_new _ _
   have hz2 : v1.heap.size < (v1.alloc (.cells #[.int .u8 0, .int .u8 0, .int .u8 0, .int .u8 0, .int .u8 0, .int .u8 0, .int .u8 0, .int .u8 0, .slice none 0 0, .int .i64 0, .int .i64 0, .slice none 0 0, .slice none 0 0] 32)).heap.size := by simp
   generalize v1.alloc (.cells #[.int .u8 0, .int .u8 0, .int .u8 0, .int .u8 0, .int .u8 0, .int .u8 0, .int .u8 0, .int .u8 0, .slice none 0 0, .int .i64 0, .int .i64 0, .slice none 0 0, .slice none 0 0] 32) = v2 at *
   refine hK.out _ _ HB2.out (fun _ => ?_)
   clear hK K
   try simp only [Act.put, sA, sZ, sS]
   refine wpAnyH_ready (rs := [14]) (by kernel_rfl) (by simp) ?_
   refine AllReadyH.cons rfl (fun K hK => ?_) AllReadyH.nil
   rw [if_pos (by kernel_rfl)]
   try simp only [List.getElem_toArray]
   try simp only [List.getElem_cons_succ]
   try simp only [List.getElem_cons_zero]
   go_simp
   go_at_call 12
   refine (HNP.out v2 HB2.out).mono ?_
   rintro e v3 ⟨Ak, nk, ck, An, nn, cn, Af, nf, cf, rfl, hO, hbN⟩
   have HB3 := Lib.hid (HB2.out.trans (hbN.mono HB2.out.size))
   have HON : Hid (p.Own w6.heap.size Ak nk ck An nn cn Af nf cf v3) := Lib.hid ⟨own_weak hO.k HB2.out.size, own_weak hO.n HB2.out.size, own_weak hO.f HB2.out.size, hO.bk, hO.bn, hO.bf⟩
   have HZ3 := Lib.hid (block_below HZ2.out hbN hz2)
   clear hO hbN
   refine hK.out _ _ HB3.out (fun _ => ?_)
   clear hK K
   try simp only [Act.put, sA, sZ, sS]
   refine takeH 15 (some 41) (v := ?_) rfl (by kernel_rfl) (by kernel_rfl) (by kernel_rfl) (by kernel_rfl) (fun _ _ _ h => hP.out _ _ _ _ _ h) (Or.inl ⟨by kernel_rfl, ?hy⟩) (by assumption) ?_
   case hy =>
    intro w' hSw
    clear hSw
    first
     | (go_simp; done)
     | (go_simp; with_reducible rfl)
   simp only [Act.put, sA, sZ, sS]
   refine takeH 16 (some 57) (v := ?_) rfl (by kernel_rfl) (by kernel_rfl) (by kernel_rfl) (by kernel_rfl) (fun _ _ _ h => hP.out _ _ _ _ _ h) (Or.inl ⟨by kernel_rfl, ?hy⟩) (by assumption) ?_
   case hy =>
    intro w' hSw
    clear hSw
    first
     | (go_simp; done)
     | (go_simp; with_reducible rfl)
   simp only [Act.put, sA, sZ, sS]
   refine takeH 17 (some 58) (v := ?_) rfl (by kernel_rfl) (by kernel_rfl) (by kernel_rfl) (by kernel_rfl) (fun _ _ _ h => hP.out _ _ _ _ _ h) (Or.inl ⟨by kernel_rfl, ?hy⟩) (by assumption) ?_
   case hy =>
    intro w' hSw
    clear hSw
    first
     | (go_simp; done)
     | (go_simp; with_reducible rfl)
   simp only [Act.put, sA, sZ, sS]
   refine wpAnyH_ready (rs := [19]) (by kernel_rfl) (by simp) ?_
   refine AllReadyH.cons rfl (fun K hK => ?_) AllReadyH.nil
   rw [if_pos (by kernel_rfl)]
   try simp only [List.getElem_toArray]
   try simp only [List.getElem_cons_succ]
   try simp only [List.getElem_cons_zero]
   refine wp_store_mid 32 _ _ (by rfl) (v1.heap.size) (0) #[.int .u8 p.tb.x0, .int .u8 p.tb.x1, .int .u8 p.tb.x2, .int .u8 p.tb.x3, .int .u8 p.tb.x4, .int .u8 p.tb.x5, .int .u8 p.tb.x6, .int .u8 p.tb.x7, .slice Ak nk ck, .int .i64 p.s0, .int .i64 p.s1, .slice An nn cn, .slice Af nf cf] (by rfl) (by rfl) (there_mid HZ3.out (by simp)) (by kernel_rfl) (by kernel_rfl) ?_
   obtain ⟨s1', s2'⟩ := set_all HZ3.out [.int .u8 p.tb.x0, .int .u8 p.tb.x1, .int .u8 p.tb.x2, .int .u8 p.tb.x3, .int .u8 p.tb.x4, .int .u8 p.tb.x5, .int .u8 p.tb.x6, .int .u8 p.tb.x7, .slice Ak nk ck, .int .i64 p.s0, .int .i64 p.s1, .slice An nn cn, .slice Af nf cf] rfl
   have HB9 := Lib.hid (HB3.out.grown s2' HB3.out.size (fun k hk => by cases hk; exact HB1.out.size))
   have HO9 : Hid (p.Own w6.heap.size Ak nk ck An nn cn Af nf cf _) := Lib.hid (HON.out.tk (T := fun t => t = 32) (TK.of_grown s2' HZ3.out rfl) (by decide) (by decide))
   refine hK.out _ _ HB9.out (fun _ => ?_)
   clear hK K
   simp only [Act.put]
   refine takeH 20 (some 14) (v := ?_) rfl (by kernel_rfl) (by kernel_rfl) (by kernel_rfl) (by kernel_rfl) (fun _ _ _ h => hP.out _ _ _ _ _ h) (Or.inl ⟨by kernel_rfl, ?hy⟩) (by assumption) ?_
   case hy =>
    intro w' hSw
    clear hSw
    first
     | (go_simp; done)
     | (go_simp; with_reducible rfl)
   simp only [Act.put, sA, sZ, sS]
   refine wpAnyH_done (by kernel_rfl) ?_ _
   go_wp2_with fail
   exact hQ.out _ _ _ _ _ _ _ _ _ _ _ _ _ _ _ _ _ _ (v1.heap.size) Ak nk ck An nn cn Af nf cf _ s1' HO9.out HB9.out (HB1.out.size)
 ·go_simp
  have HB1 : Hid (Below w6.heap.size w6 ((w6.alloc (.cells #[.int .u8 0, .int .u8 0, .int .u8 0, .int .u8 0, .int .u8 0, .int .u8 0, .int .u8 0, .int .u8 0, .slice none 0 0, .int .i64 0, .int .i64 0, .slice none 0 0, .slice none 0 0] 32)).drew)) := Lib.hid (((Below.refl _ _).alloc (Nat.le_refl _) _).drew)
  have HZ1 : Hid (((w6.alloc (.cells #[.int .u8 0, .int .u8 0, .int .u8 0, .int .u8 0, .int .u8 0, .int .u8 0, .int .u8 0, .int .u8 0, .slice none 0 0, .int .i64 0, .int .i64 0, .slice none 0 0, .slice none 0 0] 32)).drew).heap[w6.heap.size]? = some (.cells #[.int .u8 0, .int .u8 0, .int .u8 0, .int .u8 0, .int .u8 0, .int .u8 0, .int .u8 0, .int .u8 0, .slice none 0 0, .int .i64 0, .int .i64 0, .slice none 0 0, .slice none 0 0] 32)) := Lib.hid (heap_alloc_new w6 _)
  have hz1 : w6.heap.size < ((w6.alloc (.cells #[.int .u8 0, .int .u8 0, .int .u8 0, .int .u8 0, .int .u8 0, .int .u8 0, .int .u8 0, .int .u8 0, .slice none 0 0, .int .i64 0, .int .i64 0, .slice none 0 0, .slice none 0 0] 32)).drew).heap.size := by simp
  generalize (w6.alloc (.cells #[.int .u8 0, .int .u8 0, .int .u8 0, .int .u8 0, .int .u8 0, .int .u8 0, .int .u8 0, .int .u8 0, .slice none 0 0, .int .i64 0, .int .i64 0, .slice none 0 0, .slice none 0 0] 32)).drew = v1 at *
  refine hK.out _ _ HB1.out (fun _ => ?_)
  clear hK K
  try simp only [Act.put, sA, sZ, sS]
  refine wpAnyH_ready (rs := [0]) (by kernel_rfl) (by simp) ?_
  refine AllReadyH.cons rfl (fun K hK => ?_) AllReadyH.nil
  rw [if_pos (by kernel_rfl)]
  try simp only [List.getElem_toArray]
  try simp only [List.getElem_cons_succ]
  try simp only [List.getElem_cons_zero]
  go_simp
  go_at_call 13
  refine (table_any v1).mono ?_
  rintro e v2 ⟨rfl, hb2⟩
  have HB2 := Lib.hid (HB1.out.trans (hb2.mono HB1.out.size))
  have HZ2 := Lib.hid (block_below HZ1.out hb2 hz1)
  have hz2 := block_lt HZ2.out
  clear hb2
  refine hK.out _ _ HB2.out (fun _ => ?_)
  clear hK K
  try simp only [Act.put, sA, sZ, sS]
  refine wpAnyH_ready (rs := [14]) (by kernel_rfl) (by simp) ?_
  refine AllReadyH.cons rfl (fun K hK => ?_) AllReadyH.nil
  rw [if_pos (by kernel_rfl)]
  try simp only [List.getElem_toArray]
  try simp only [List.getElem_cons_succ]
  try simp only [List.getElem_cons_zero]
  go_simp
  go_at_call 12
  refine (HNP.out v2 HB2.out).mono ?_
  rintro e v3 ⟨Ak, nk, ck, An, nn, cn, Af, nf, cf, rfl, hO, hbN⟩
  have HB3 := Lib.hid (HB2.out.trans (hbN.mono HB2.out.size))
  have HON : Hid (p.Own w6.heap.size Ak nk ck An nn cn Af nf cf v3) := Lib.hid ⟨own_weak hO.k HB2.out.size, own_weak hO.n HB2.out.size, own_weak hO.f HB2.out.size, hO.bk, hO.bn, hO.bf⟩
  have HZ3 := Lib.hid (block_below HZ2.out hbN hz2)
  clear hO hbN
  refine hK.out _ _ HB3.out (fun _ => ?_)
  clear hK K
  try simp only [Act.put, sA, sZ, sS]
  refine takeH 15 (some 41) (v := ?_) rfl (by kernel_rfl) (by kernel_rfl) (by kernel_rfl) (by kernel_rfl) (fun _ _ _ h => hP.out _ _ _ _ _ h) (Or.inl ⟨by kernel_rfl, ?hy⟩) (by assumption) ?_
  case hy =>
   intro w' hSw
   clear hSw
   first
    | (go_simp; done)
    | (go_simp; with_reducible rfl)
  simp only [Act.put, sA, sZ, sS]
  refine takeH 16 (some 57) (v := ?_) rfl (by kernel_rfl) (by kernel_rfl) (by kernel_rfl) (by kernel_rfl) (fun _ _ _ h => hP.out _ _ _ _ _ h) (Or.inl ⟨by kernel_rfl, ?hy⟩) (by assumption) ?_
  case hy =>
   intro w' hSw
   clear hSw
   first
    | (go_simp; done)
    | (go_simp; with_reducible rfl)
  simp only [Act.put, sA, sZ, sS]
  refine takeH 17 (some 58) (v := ?_) rfl (by kernel_rfl) (by kernel_rfl) (by kernel_rfl) (by kernel_rfl) (fun _ _ _ h => hP.out _ _ _ _ _ h) (Or.inl ⟨by kernel_rfl, ?hy⟩) (by assumption) ?_
  case hy =>
   intro w' hSw
   clear hSw
   first
    | (go_simp; done)
    | (go_simp; with_reducible rfl)
  simp only [Act.put, sA, sZ, sS]
  refine wpAnyH_ready (rs := [19]) (by kernel_rfl) (by simp) ?_
  refine AllReadyH.cons rfl (fun K hK => ?_) AllReadyH.nil
  rw [if_pos (by kernel_rfl)]
  try simp only [List.getElem_toArray]
  try simp only [List.getElem_cons_succ]
  try simp only [List.getElem_cons_zero]
  refine wp_store_mid 32 _ _ (by rfl) (w6.heap.size) (0) #[.int .u8 p.tb.x0, .int .u8 p.tb.x1, .int .u8 p.tb.x2, .int .u8 p.tb.x3, .int .u8 p.tb.x4, .int .u8 p.tb.x5, .int .u8 p.tb.x6, .int .u8 p.tb.x7, .slice Ak nk ck, .int .i64 p.s0, .int .i64 p.s1, .slice An nn cn, .slice Af nf cf] (by rfl) (by rfl) (there_mid HZ3.out (by simp)) (by kernel_rfl) (by kernel_rfl) ?_
  obtain ⟨s1', s2'⟩ := set_all HZ3.out [.int .u8 p.tb.x0, .int .u8 p.tb.x1, .int .u8 p.tb.x2, .int .u8 p.tb.x3, .int .u8 p.tb.x4, .int .u8 p.tb.x5, .int .u8 p.tb.x6, .int .u8 p.tb.x7, .slice Ak nk ck, .int .i64 p.s0, .int .i64 p.s1, .slice An nn cn, .slice Af nf cf] rfl
  have HB9 := Lib.hid (HB3.out.grown s2' HB3.out.size (fun k hk => by cases hk; exact Nat.le_refl _))
  have HO9 : Hid (p.Own w6.heap.size Ak nk ck An nn cn Af nf cf _) := Lib.hid (HON.out.tk (T := fun t => t = 32) (TK.of_grown s2' HZ3.out rfl) (by decide) (by decide))
  refine hK.out _ _ HB9.out (fun _ => ?_)
  clear hK K
  simp only [Act.put]
  refine takeH 20 (some 14) (v := ?_) rfl (by kernel_rfl) (by kernel_rfl) (by kernel_rfl) (by kernel_rfl) (fun _ _ _ h => hP.out _ _ _ _ _ h) (Or.inl ⟨by kernel_rfl, ?hy⟩) (by assumption) ?_
  case hy =>
   intro w' hSw
   clear hSw
   first
    | (go_simp; done)
    | (go_simp; with_reducible rfl)
  simp only [Act.put, sA, sZ, sS]
  refine wpAnyH_done (by kernel_rfl) ?_ _
  go_wp2_with fail
  exact hQ.out _ _ _ _ _ _ _ _ _ _ _ _ _ _ _ _ _ _ (w6.heap.size) Ak nk ck An nn cn Af nf cf _ s1' HO9.out HB9.out (Nat.le_refl _)
end Go.Proofs.YthhiookcknnmdaaGreat
