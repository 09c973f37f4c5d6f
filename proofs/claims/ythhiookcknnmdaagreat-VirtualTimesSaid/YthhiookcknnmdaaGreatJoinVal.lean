/- Digests that are alike, compared within a region. No condition. The region of VirtualTimes that compares the names. No condition. -/
import Derived.Test.YthhiookcknnmdaaGreatJoinVaj
import Derived.Test.YthhiookcknnmdaaGreatReg
namespace Go.Proofs.YthhiookcknnmdaaGreat
open Go.RowKit Go.Lib

theorem exec_binV {P : Program} {o : Oper} {ev : Operand → Value} {op : BinOp} {t t' : TypeId} {x y : Operand} {w : World} {V W R : Value} (ho : o.op = .binOp op t x y t') (hx : ev x = V) (hy : ev y = W) (hg : (eqGuard op t x y V W).run P w = .ok () w) (hb : (binOp op t V W).run P w = .ok R w) : (execOp ev o).run P w = .ok (.value R) w := by
 simp [execOp, ho, hx, hy, hg, hb, Result.andThen]
set_option maxRecDepth 100000 in
theorem dig_refl (d : D8) : ∀ u, (binOp .neq 27 (.agg #[.int .u8 d.x0, .int .u8 d.x1, .int .u8 d.x2, .int .u8 d.x3, .int .u8 d.x4, .int .u8 d.x5, .int .u8 d.x6, .int .u8 d.x7]) (.agg #[.int .u8 d.x0, .int .u8 d.x1, .int .u8 d.x2, .int .u8 d.x3, .int .u8 d.x4, .int .u8 d.x5, .int .u8 d.x6, .int .u8 d.x7])).run Tryz.prog u = .ok (.bool false) u := by
 intro u
 have h : (binOp .eql 27 (.agg #[.int .u8 d.x0, .int .u8 d.x1, .int .u8 d.x2, .int .u8 d.x3, .int .u8 d.x4, .int .u8 d.x5, .int .u8 d.x6, .int .u8 d.x7]) (.agg #[.int .u8 d.x0, .int .u8 d.x1, .int .u8 d.x2, .int .u8 d.x3, .int .u8 d.x4, .int .u8 d.x5, .int .u8 d.x6, .int .u8 d.x7])).run Tryz.prog u = .ok (.bool true) u := by
  have := eql_dig d.x0 d.x1 d.x2 d.x3 d.x4 d.x5 d.x6 d.x7 d.x0 d.x1 d.x2 d.x3 d.x4 d.x5 d.x6 d.x7 u
  rw [this]
  congr 2
  exact eqI_iff8.2 rfl
 rw [run_eql_struct] at h
 rw [run_neq_struct]
 revert h
 cases (Op.equalIn 10000 27 (.agg #[.int .u8 d.x0, .int .u8 d.x1, .int .u8 d.x2, .int .u8 d.x3, .int .u8 d.x4, .int .u8 d.x5, .int .u8 d.x6, .int .u8 d.x7]) (.agg #[.int .u8 d.x0, .int .u8 d.x1, .int .u8 d.x2, .int .u8 d.x3, .int .u8 d.x4, .int .u8 d.x5, .int .u8 d.x6, .int .u8 d.x7])).run Tryz.prog u <;> simp [Result.andThen]
theorem dig_guard (d : D8) (x y : Operand) (u : World) : (eqGuard .neq 27 x y (.agg #[.int .u8 d.x0, .int .u8 d.x1, .int .u8 d.x2, .int .u8 d.x3, .int .u8 d.x4, .int .u8 d.x5, .int .u8 d.x6, .int .u8 d.x7]) (.agg #[.int .u8 d.x0, .int .u8 d.x1, .int .u8 d.x2, .int .u8 d.x3, .int .u8 d.x4, .int .u8 d.x5, .int .u8 d.x6, .int .u8 d.x7])).run Tryz.prog u = .ok () u := run_eqGuard_agg _ _ _ _ _ _ _ (by kernel_rfl)
end Go.Proofs.YthhiookcknnmdaaGreat
namespace Go.Proofs.YthhiookcknnmdaaGreat
open Go.RowKit Go.Lib



set_option maxRecDepth 100000 in
set_option maxHeartbeats 16000000 in
theorem tm23 {u0 u1 u2 u3 u4 u5 u6 u7 u8 u9 u10 u11 u12 u13 u14 u15 u17 u19 u21 u23 u24 u25 u26 u27 u28 u29 u30 u31 u32 u33 u34 u35 u36 u37 u38 u39 u40 u41 u42 u43 u44 u45 u46 u47 u48 u49 u50 u51 u52 u53 u54 u55 u56 u57 u58 u59 u60 u61 u62 u63 u64 u65 u66 u67 u68 u69 u70 u71 u72 u73 u74 u75 u76 u77 u78 u79 u80 u81 u82 u83 u84 u85 u86 u87 u88 u89 u90 u91 u92 u93 u94 u95 u96 u97 u98 u99 u100 u101 u102 u103 u104 u105 u106 u107 u108 u109 u110 u111 u112 u113 u114 u115 u116 u117 u118 u119 u120 u121 u122 u123 u124 u125 u126 u127 u128 u129 u130 u131 u132 u133 u134 u135 u136 u137 u138 u139 u140 u141 u142 u143 u144 u145 u146 u147 u148 u149 u150 u151 u152 u153 u154 u155 u156 u157 u158 u159 u160 u161 u162 u163 u164 u165 u166 u167 u168 u169 u170 u171 u172 u173 u174 u175 u176 u177 u178 u179 u180 u181 u182 u183 u184 u185 u186 u187 u188 u189 u190 u191 u192 u193 u194 u195 u196 u197 u198 u199 u200 u201 u202 u203 u204 u205 u206 u207 u208 u209 u210 u211 u212 u213 u214 u215 u216 u217 : Value} {Q : Exit → Act → World → Prop} {l0 l1 x0 x1 : Lk} {la lb lc ld : Nat} {Ala : Option Addr} {cla : Nat} {Alb : Option Addr} {clb : Nat} {Alc : Option Addr} {clc : Nat} {Ald : Option Addr} {cld : Nat} {d0 d1 : D8} {v9 : World}
  (HLa9 : Hid (v9.heap[la]? = some (.cells #[.int .i64 l0.kd, .int .u8 l0.hs.x0, .int .u8 l0.hs.x1, .int .u8 l0.hs.x2, .int .u8 l0.hs.x3, .int .u8 l0.hs.x4, .int .u8 l0.hs.x5, .int .u8 l0.hs.x6, .int .u8 l0.hs.x7, .slice Ala 2 cla, .int .i64 l0.st, .int .i64 l0.cp, .int .i64 l0.un] 40 (0, 0)))) (HLb9 : Hid (v9.heap[lb]? = some (.cells #[.int .i64 l1.kd, .int .u8 l1.hs.x0, .int .u8 l1.hs.x1, .int .u8 l1.hs.x2, .int .u8 l1.hs.x3, .int .u8 l1.hs.x4, .int .u8 l1.hs.x5, .int .u8 l1.hs.x6, .int .u8 l1.hs.x7, .slice Alb 2 clb, .int .i64 l1.st, .int .i64 l1.cp, .int .i64 l1.un] 40 (0, 0)))) (HLc9 : Hid (v9.heap[lc]? = some (.cells #[.int .i64 x0.kd, .int .u8 x0.hs.x0, .int .u8 x0.hs.x1, .int .u8 x0.hs.x2, .int .u8 x0.hs.x3, .int .u8 x0.hs.x4, .int .u8 x0.hs.x5, .int .u8 x0.hs.x6, .int .u8 x0.hs.x7, .slice Alc 2 clc, .int .i64 x0.st, .int .i64 x0.cp, .int .i64 x0.un] 40 (0, 0)))) (HLd : Hid (v9.heap[ld]? = some (.cells #[.int .i64 x1.kd, .int .u8 x1.hs.x0, .int .u8 x1.hs.x1, .int .u8 x1.hs.x2, .int .u8 x1.hs.x3, .int .u8 x1.hs.x4, .int .u8 x1.hs.x5, .int .u8 x1.hs.x6, .int .u8 x1.hs.x7, .slice Ald 2 cld, .int .i64 x1.st, .int .i64 x1.cp, .int .i64 x1.un] 40 (0, 0))))
  (HNa : Hid (∀ v, Below v9.heap.size v9 v → Calls Tryz.prog 18 #[.agg #[.int .i64 l0.kd, .int .u8 l0.hs.x0, .int .u8 l0.hs.x1, .int .u8 l0.hs.x2, .int .u8 l0.hs.x3, .int .u8 l0.hs.x4, .int .u8 l0.hs.x5, .int .u8 l0.hs.x6, .int .u8 l0.hs.x7, .slice Ala 2 cla, .int .i64 l0.st, .int .i64 l0.cp, .int .i64 l0.un]] v fun e w' => e = .returned (.agg #[.int .u8 d0.x0, .int .u8 d0.x1, .int .u8 d0.x2, .int .u8 d0.x3, .int .u8 d0.x4, .int .u8 d0.x5, .int .u8 d0.x6, .int .u8 d0.x7]) ∧ Below v.heap.size v w')) (HNb : Hid (∀ v, Below v9.heap.size v9 v → Calls Tryz.prog 18 #[.agg #[.int .i64 l1.kd, .int .u8 l1.hs.x0, .int .u8 l1.hs.x1, .int .u8 l1.hs.x2, .int .u8 l1.hs.x3, .int .u8 l1.hs.x4, .int .u8 l1.hs.x5, .int .u8 l1.hs.x6, .int .u8 l1.hs.x7, .slice Alb 2 clb, .int .i64 l1.st, .int .i64 l1.cp, .int .i64 l1.un]] v fun e w' => e = .returned (.agg #[.int .u8 d1.x0, .int .u8 d1.x1, .int .u8 d1.x2, .int .u8 d1.x3, .int .u8 d1.x4, .int .u8 d1.x5, .int .u8 d1.x6, .int .u8 d1.x7]) ∧ Below v.heap.size v w')) (HNc : Hid (∀ v, Below v9.heap.size v9 v → Calls Tryz.prog 18 #[.agg #[.int .i64 x0.kd, .int .u8 x0.hs.x0, .int .u8 x0.hs.x1, .int .u8 x0.hs.x2, .int .u8 x0.hs.x3, .int .u8 x0.hs.x4, .int .u8 x0.hs.x5, .int .u8 x0.hs.x6, .int .u8 x0.hs.x7, .slice Alc 2 clc, .int .i64 x0.st, .int .i64 x0.cp, .int .i64 x0.un]] v fun e w' => e = .returned (.agg #[.int .u8 d0.x0, .int .u8 d0.x1, .int .u8 d0.x2, .int .u8 d0.x3, .int .u8 d0.x4, .int .u8 d0.x5, .int .u8 d0.x6, .int .u8 d0.x7]) ∧ Below v.heap.size v w')) (HNd : Hid (∀ v, Below v9.heap.size v9 v → Calls Tryz.prog 18 #[.agg #[.int .i64 x1.kd, .int .u8 x1.hs.x0, .int .u8 x1.hs.x1, .int .u8 x1.hs.x2, .int .u8 x1.hs.x3, .int .u8 x1.hs.x4, .int .u8 x1.hs.x5, .int .u8 x1.hs.x6, .int .u8 x1.hs.x7, .slice Ald 2 cld, .int .i64 x1.st, .int .i64 x1.cp, .int .i64 x1.un]] v fun e w' => e = .returned (.agg #[.int .u8 d1.x0, .int .u8 d1.x1, .int .u8 d1.x2, .int .u8 d1.x3, .int .u8 d1.x4, .int .u8 d1.x5, .int .u8 d1.x6, .int .u8 d1.x7]) ∧ Below v.heap.size v w'))
  (hP : Hid (∀ x (a : Act) (d : Option Tmp) (v : Value) (w : World), Q (.panic x) (a.put d v) w → Q (.panic x) a w))
  (hQ : Hid (∀ (x196 x197 x198 x199 x200 x201 x202 x203 x204 x205 x206 : Value)  (w' : World), Below v9.heap.size v9 w' → Q .normal ⟨#[u0, u1, u2, u3, u4, u5, u6, u7, u8, u9, u10, u11, u12, u13, u14, u15, .pointer (some ⟨la, 0, none⟩), u17, .pointer (some ⟨lb, 0, none⟩), u19, .pointer (some ⟨lc, 0, none⟩), u21, .pointer (some ⟨ld, 0, none⟩), u23, u24, u25, u26, u27, u28, u29, u30, u31, u32, u33, u34, u35, u36, u37, u38, u39, u40, u41, u42, u43, u44, u45, u46, u47, u48, u49, u50, u51, u52, u53, u54, u55, u56, u57, u58, u59, u60, u61, u62, u63, u64, u65, u66, u67, u68, u69, u70, u71, u72, u73, u74, u75, u76, u77, u78, u79, u80, u81, u82, u83, u84, u85, u86, u87, u88, u89, u90, u91, u92, u93, u94, u95, u96, u97, u98, u99, u100, u101, u102, u103, u104, u105, u106, u107, u108, u109, u110, u111, u112, u113, u114, u115, u116, u117, u118, u119, u120, u121, u122, u123, u124, u125, u126, u127, u128, u129, u130, u131, u132, u133, u134, u135, u136, u137, u138, u139, u140, u141, u142, u143, u144, u145, u146, u147, u148, u149, u150, u151, u152, u153, u154, u155, u156, u157, u158, u159, u160, u161, u162, u163, u164, u165, u166, u167, u168, u169, u170, u171, u172, u173, u174, u175, u176, u177, u178, u179, u180, u181, u182, u183, u184, u185, u186, u187, u188, u189, u190, u191, u192, u193, u194, u195, x196, x197, x198, x199, x200, x201, x202, x203, x204, x205, x206, .bool false, u208, u209, u210, u211, u212, u213, u214, u215, u216, u217], []⟩ w')) {code : Code} (hc : codeR 23 Tryz.f3 = code) :
  Code.wp Tryz.prog code Q ⟨#[u0, u1, u2, u3, u4, u5, u6, u7, u8, u9, u10, u11, u12, u13, u14, u15, .pointer (some ⟨la, 0, none⟩), u17, .pointer (some ⟨lb, 0, none⟩), u19, .pointer (some ⟨lc, 0, none⟩), u21, .pointer (some ⟨ld, 0, none⟩), u23, u24, u25, u26, u27, u28, u29, u30, u31, u32, u33, u34, u35, u36, u37, u38, u39, u40, u41, u42, u43, u44, u45, u46, u47, u48, u49, u50, u51, u52, u53, u54, u55, u56, u57, u58, u59, u60, u61, u62, u63, u64, u65, u66, u67, u68, u69, u70, u71, u72, u73, u74, u75, u76, u77, u78, u79, u80, u81, u82, u83, u84, u85, u86, u87, u88, u89, u90, u91, u92, u93, u94, u95, u96, u97, u98, u99, u100, u101, u102, u103, u104, u105, u106, u107, u108, u109, u110, u111, u112, u113, u114, u115, u116, u117, u118, u119, u120, u121, u122, u123, u124, u125, u126, u127, u128, u129, u130, u131, u132, u133, u134, u135, u136, u137, u138, u139, u140, u141, u142, u143, u144, u145, u146, u147, u148, u149, u150, u151, u152, u153, u154, u155, u156, u157, u158, u159, u160, u161, u162, u163, u164, u165, u166, u167, u168, u169, u170, u171, u172, u173, u174, u175, u176, u177, u178, u179, u180, u181, u182, u183, u184, u185, u186, u187, u188, u189, u190, u191, u192, u193, u194, u195, u196, u197, u198, u199, u200, u201, u202, u203, u204, u205, u206, u207, u208, u209, u210, u211, u212, u213, u214, u215, u216, u217], []⟩ v9 := by
 subst hc
 have e : codeR 23 Tryz.f3 = codeR 23 Tryz.f3 := rfl
 conv at e => rhs; whnf
 rw [e]
 clear e
 have hla := block_lt HLa9.out; have hlb := block_lt HLb9.out; have hlc := block_lt HLc9.out; have hld := block_lt HLd.out
 refine wp_region_held_drew (S := fun w' => Below v9.heap.size v9 w') (by kernel_rfl) (Below.refl _ _).drew (fun hHeld => ?_)
 refine takeH 0 (some 196) (v := .agg ([.int .i64 l0.kd, .int .u8 l0.hs.x0, .int .u8 l0.hs.x1, .int .u8 l0.hs.x2, .int .u8 l0.hs.x3, .int .u8 l0.hs.x4, .int .u8 l0.hs.x5, .int .u8 l0.hs.x6, .int .u8 l0.hs.x7, .slice Ala 2 cla, .int .i64 l0.st, .int .i64 l0.cp, .int .i64 l0.un] : List Value).toArray) rfl (by kernel_rfl) (by kernel_rfl) (by kernel_rfl) (by kernel_rfl) (fun _ _ _ h => hP.out _ _ _ _ _ h) (yieldsIf_load_mid (by kernel_rfl) 40 _ (by rfl) (la) (0) (by rfl) [.int .i64 l0.kd, .int .u8 l0.hs.x0, .int .u8 l0.hs.x1, .int .u8 l0.hs.x2, .int .u8 l0.hs.x3, .int .u8 l0.hs.x4, .int .u8 l0.hs.x5, .int .u8 l0.hs.x6, .int .u8 l0.hs.x7, .slice Ala 2 cla, .int .i64 l0.st, .int .i64 l0.cp, .int .i64 l0.un] _ (fun w' hw' => range_all (block_below HLa9.out hw' hla)) Tryz.underlying40 rfl (by kernel_rfl)) (by assumption) ?_
 simp only [Act.put, sA, sZ, sS]
 refine takeH 2 (some 198) (v := .agg ([.int .i64 x0.kd, .int .u8 x0.hs.x0, .int .u8 x0.hs.x1, .int .u8 x0.hs.x2, .int .u8 x0.hs.x3, .int .u8 x0.hs.x4, .int .u8 x0.hs.x5, .int .u8 x0.hs.x6, .int .u8 x0.hs.x7, .slice Alc 2 clc, .int .i64 x0.st, .int .i64 x0.cp, .int .i64 x0.un] : List Value).toArray) rfl (by kernel_rfl) (by kernel_rfl) (by kernel_rfl) (by kernel_rfl) (fun _ _ _ h => hP.out _ _ _ _ _ h) (yieldsIf_load_mid (by kernel_rfl) 40 _ (by rfl) (lc) (0) (by rfl) [.int .i64 x0.kd, .int .u8 x0.hs.x0, .int .u8 x0.hs.x1, .int .u8 x0.hs.x2, .int .u8 x0.hs.x3, .int .u8 x0.hs.x4, .int .u8 x0.hs.x5, .int .u8 x0.hs.x6, .int .u8 x0.hs.x7, .slice Alc 2 clc, .int .i64 x0.st, .int .i64 x0.cp, .int .i64 x0.un] _ (fun w' hw' => range_all (block_below HLc9.out hw' hlc)) Tryz.underlying40 rfl (by kernel_rfl)) (by assumption) ?_
 simp only [Act.put, sA, sZ, sS]
 refine wpAnyH_ready (rs := [1]) (by kernel_rfl) (by simp) ?_
 refine AllReadyH.cons rfl (fun K hK => ?_) AllReadyH.nil
 rw [if_pos (by kernel_rfl)]
 try simp only [List.getElem_toArray]
 try simp only [List.getElem_cons_succ]
 try simp only [List.getElem_cons_zero]
 go_simp
 go_at_call 18
 refine (HNa.out _ (Below.refl _ _).drew).mono ?_
 rintro e z1 ⟨rfl, hb1⟩
 have HU1' : Hid (Below v9.heap.size v9 z1) := Lib.hid ((Below.refl _ _).drew.trans hb1)
 clear hb1
 refine hK.out _ _ HU1'.out (fun _ => ?_)
 clear hK K
 try simp only [Act.put, sA, sZ, sS]
 refine wpAnyH_ready (rs := [3]) (by kernel_rfl) (by simp) ?_
 refine AllReadyH.cons rfl (fun K hK => ?_) AllReadyH.nil
 rw [if_pos (by kernel_rfl)]
 try simp only [List.getElem_toArray]
 try simp only [List.getElem_cons_succ]
 try simp only [List.getElem_cons_zero]
 go_simp
 go_at_call 18
 refine (HNc.out _ HU1'.out).mono ?_
 rintro e z2 ⟨rfl, hb2⟩
 have HU2' := Lib.hid (HU1'.out.trans (hb2.mono HU1'.out.size))
 clear hb2
 refine hK.out _ _ HU2'.out (fun _ => ?_)
 clear hK K
 try simp only [Act.put, sA, sZ, sS]
 refine takeH 4 (some 200) (v := .bool false) rfl (by kernel_rfl) (by kernel_rfl) (by kernel_rfl) (by kernel_rfl) (fun _ _ _ h => hP.out _ _ _ _ _ h) (Or.inl ⟨by kernel_rfl, fun w' _ => exec_binV (by rfl) (by rfl) (by rfl) ((dig_guard d0) _ _ w') ((dig_refl d0) w')⟩) (by assumption) ?_
 simp only [Act.put, sA, sZ, sS]
 refine takeH 5 (some 201) (v := ?_) rfl (by kernel_rfl) (by kernel_rfl) (by kernel_rfl) (by kernel_rfl) (fun _ _ _ h => hP.out _ _ _ _ _ h) (Or.inl ⟨by kernel_rfl, ?hy⟩) (by assumption) ?_
 case hy =>
  intro w' hSw
  clear hSw
  first
   | (go_simp; done)
   | (go_simp; with_reducible rfl)
 simp only [Act.put, sA, sZ, sS]
 refine takeH 6 (some 202) (v := .agg ([.int .i64 l1.kd, .int .u8 l1.hs.x0, .int .u8 l1.hs.x1, .int .u8 l1.hs.x2, .int .u8 l1.hs.x3, .int .u8 l1.hs.x4, .int .u8 l1.hs.x5, .int .u8 l1.hs.x6, .int .u8 l1.hs.x7, .slice Alb 2 clb, .int .i64 l1.st, .int .i64 l1.cp, .int .i64 l1.un] : List Value).toArray) rfl (by kernel_rfl) (by kernel_rfl) (by kernel_rfl) (by kernel_rfl) (fun _ _ _ h => hP.out _ _ _ _ _ h) (yieldsIf_load_mid (by kernel_rfl) 40 _ (by rfl) (lb) (0) (by rfl) [.int .i64 l1.kd, .int .u8 l1.hs.x0, .int .u8 l1.hs.x1, .int .u8 l1.hs.x2, .int .u8 l1.hs.x3, .int .u8 l1.hs.x4, .int .u8 l1.hs.x5, .int .u8 l1.hs.x6, .int .u8 l1.hs.x7, .slice Alb 2 clb, .int .i64 l1.st, .int .i64 l1.cp, .int .i64 l1.un] _ (fun w' hw' => range_all (block_below HLb9.out hw' hlb)) Tryz.underlying40 rfl (by kernel_rfl)) (by assumption) ?_
 simp only [Act.put, sA, sZ, sS]
 refine takeH 8 (some 204) (v := .agg ([.int .i64 x1.kd, .int .u8 x1.hs.x0, .int .u8 x1.hs.x1, .int .u8 x1.hs.x2, .int .u8 x1.hs.x3, .int .u8 x1.hs.x4, .int .u8 x1.hs.x5, .int .u8 x1.hs.x6, .int .u8 x1.hs.x7, .slice Ald 2 cld, .int .i64 x1.st, .int .i64 x1.cp, .int .i64 x1.un] : List Value).toArray) rfl (by kernel_rfl) (by kernel_rfl) (by kernel_rfl) (by kernel_rfl) (fun _ _ _ h => hP.out _ _ _ _ _ h) (yieldsIf_load_mid (by kernel_rfl) 40 _ (by rfl) (ld) (0) (by rfl) [.int .i64 x1.kd, .int .u8 x1.hs.x0, .int .u8 x1.hs.x1, .int .u8 x1.hs.x2, .int .u8 x1.hs.x3, .int .u8 x1.hs.x4, .int .u8 x1.hs.x5, .int .u8 x1.hs.x6, .int .u8 x1.hs.x7, .slice Ald 2 cld, .int .i64 x1.st, .int .i64 x1.cp, .int .i64 x1.un] _ (fun w' hw' => range_all (block_below HLd.out hw' hld)) Tryz.underlying40 rfl (by kernel_rfl)) (by assumption) ?_
 simp only [Act.put, sA, sZ, sS]
 refine wpAnyH_ready (rs := [7]) (by kernel_rfl) (by simp) ?_
 refine AllReadyH.cons rfl (fun K hK => ?_) AllReadyH.nil
 rw [if_pos (by kernel_rfl)]
 try simp only [List.getElem_toArray]
 try simp only [List.getElem_cons_succ]
 try simp only [List.getElem_cons_zero]
 go_simp
 go_at_call 18
 refine (HNb.out _ HU2'.out).mono ?_
 rintro e z3 ⟨rfl, hb3⟩
 have HU3' := Lib.hid (HU2'.out.trans (hb3.mono HU2'.out.size))
 clear hb3
 refine hK.out _ _ HU3'.out (fun _ => ?_)
 clear hK K
 try simp only [Act.put, sA, sZ, sS]
 refine wpAnyH_ready (rs := [9]) (by kernel_rfl) (by simp) ?_
 refine AllReadyH.cons rfl (fun K hK => ?_) AllReadyH.nil
 rw [if_pos (by kernel_rfl)]
 try simp only [List.getElem_toArray]
 try simp only [List.getElem_cons_succ]
 try simp only [List.getElem_cons_zero]
 go_simp
 go_at_call 18
 refine (HNd.out _ HU3'.out).mono ?_
 rintro e z4 ⟨rfl, hb4⟩
 have HU4' := Lib.hid (HU3'.out.trans (hb4.mono HU3'.out.size))
 clear hb4
 refine hK.out _ _ HU4'.out (fun _ => ?_)
 clear hK K
 try simp only [Act.put, sA, sZ, sS]
 refine takeH 10 (some 206) (v := .bool false) rfl (by kernel_rfl) (by kernel_rfl) (by kernel_rfl) (by kernel_rfl) (fun _ _ _ h => hP.out _ _ _ _ _ h) (Or.inl ⟨by kernel_rfl, fun w' _ => exec_binV (by rfl) (by rfl) (by rfl) ((dig_guard d1) _ _ w') ((dig_refl d1) w')⟩) (by assumption) ?_
 simp only [Act.put, sA, sZ, sS]
 refine takeH 11 (some 207) (v := ?_) rfl (by kernel_rfl) (by kernel_rfl) (by kernel_rfl) (by kernel_rfl) (fun _ _ _ h => hP.out _ _ _ _ _ h) (Or.inl ⟨by kernel_rfl, ?hy⟩) (by assumption) ?_
 case hy =>
  intro w' hSw
  clear hSw
  first
   | (go_simp; done)
   | (go_simp; with_reducible rfl)
 simp only [Act.put, sA, sZ, sS]
 refine wpAnyH_done (by kernel_rfl) ?_ _
 go_wp2_with fail
 exact hQ.out _ _ _ _ _ _ _ _ _ _ _ _ HU4'.out
end Go.Proofs.YthhiookcknnmdaaGreat
