/- The region of VirtualPlans that compares what the document says. Conditions: bounds. The region of VirtualPlans that makes the lock anew. Conditions: bounds. -/
import Derived.Test.YthhiookcknnmdaaGreatReg
import Derived.Test.YthhiookcknnmdaaGreatJoinUba
import Derived.Test.YthhiookcknnmdaaGreatJoinUbb
namespace Go.Proofs.YthhiookcknnmdaaGreat
open Go.RowKit Go.Lib
theorem exec_binP {P : Program} {o : Oper} {ev : Operand → Value} {op : BinOp} {t t' : TypeId} {x y : Operand} {w : World} {V W R : Value} (ho : o.op = .binOp op t x y t') (hx : ev x = V) (hy : ev y = W) (hg : (eqGuard op t x y V W).run P w = .ok () w) (hb : (binOp op t V W).run P w = .ok R w) : (execOp ev o).run P w = .ok (.value R) w := by
 simp [execOp, ho, hx, hy, hg, hb, Result.andThen]
set_option maxRecDepth 100000 in
theorem dig_reflP (d : D8) : ∀ u, (binOp .neq 26 (.agg #[.int .u8 d.x0, .int .u8 d.x1, .int .u8 d.x2, .int .u8 d.x3, .int .u8 d.x4, .int .u8 d.x5, .int .u8 d.x6, .int .u8 d.x7]) (.agg #[.int .u8 d.x0, .int .u8 d.x1, .int .u8 d.x2, .int .u8 d.x3, .int .u8 d.x4, .int .u8 d.x5, .int .u8 d.x6, .int .u8 d.x7])).run Tryz.prog u = .ok (.bool false) u := by
 intro u
 have h : (binOp .eql 26 (.agg #[.int .u8 d.x0, .int .u8 d.x1, .int .u8 d.x2, .int .u8 d.x3, .int .u8 d.x4, .int .u8 d.x5, .int .u8 d.x6, .int .u8 d.x7]) (.agg #[.int .u8 d.x0, .int .u8 d.x1, .int .u8 d.x2, .int .u8 d.x3, .int .u8 d.x4, .int .u8 d.x5, .int .u8 d.x6, .int .u8 d.x7])).run Tryz.prog u = .ok (.bool true) u := by
  have := eql_digR d.x0 d.x1 d.x2 d.x3 d.x4 d.x5 d.x6 d.x7 d.x0 d.x1 d.x2 d.x3 d.x4 d.x5 d.x6 d.x7 u
  rw [this]
  congr 2
  exact eqI_iff8.2 rfl
 rw [run_eql_struct] at h
 rw [run_neq_struct]
 revert h
 cases (Op.equalIn 10000 26 (.agg #[.int .u8 d.x0, .int .u8 d.x1, .int .u8 d.x2, .int .u8 d.x3, .int .u8 d.x4, .int .u8 d.x5, .int .u8 d.x6, .int .u8 d.x7]) (.agg #[.int .u8 d.x0, .int .u8 d.x1, .int .u8 d.x2, .int .u8 d.x3, .int .u8 d.x4, .int .u8 d.x5, .int .u8 d.x6, .int .u8 d.x7])).run Tryz.prog u <;> simp [Result.andThen]
theorem dig_guardP (d : D8) (x y : Operand) (u : World) : (eqGuard .neq 26 x y (.agg #[.int .u8 d.x0, .int .u8 d.x1, .int .u8 d.x2, .int .u8 d.x3, .int .u8 d.x4, .int .u8 d.x5, .int .u8 d.x6, .int .u8 d.x7]) (.agg #[.int .u8 d.x0, .int .u8 d.x1, .int .u8 d.x2, .int .u8 d.x3, .int .u8 d.x4, .int .u8 d.x5, .int .u8 d.x6, .int .u8 d.x7])).run Tryz.prog u = .ok () u := run_eqGuard_agg _ _ _ _ _ _ _ (by kernel_rfl)
set_option maxRecDepth 100000 in
set_option maxHeartbeats 16000000 in
theorem vp6 {u0 u1 u3 u4 u6 u7 u8 u9 u10 u16 u17 u18 u19 u20 u21 u22 u23 u24 u25 u26 u27 u28 u29 u30 u31 u32 u33 u34 u35 u36 u37 u38 u39 u40 u41 u42 u43 u44 u45 u46 u47 u48 u49 u50 u51 u52 u53 u54 u55 u56 u57 u58 u59 u60 u61 u62 u63 u64 u65 u66 u67 u68 u69 u70 u71 u72 u73 u74 u75 u76 u77 u78 u79 u80 u81 u82 u83 u84 u85 u86 u87 u88 u89 u90 u91 u92 u93 u94 u95 u96 u97 u98 u99 u100 u101 u102 u103 u104 u105 u106 u107 u108 u109 u110 u111 u112 u113 u114 u115 u116 u117 u118 u119 u120 u121 u122 u123 u124 u125 u126 u127 u128 u129 u130 u131 u132 u133 u134 u135 u136 u137 u138 u139 u140 u141 u142 u143 u144 u145 u146 u147 u148 u149 u150 u151 u152 u153 u154 u155 u156 u157 u158 u159 u160 u161 u162 u163 u164 u165 u166 u167 u168 u169 u170 u171 u172 u173 u174 u175 u176 u177 u178 u179 u180 u181 : Value} {Q : Exit → Act → World → Prop} {p q : Pl} {Ak Ax Bk Ck An Af Bn Bf Cn Cf : Option Addr} {nk ck cx nn cn nf cf ck5 ck2 ck3 cn5 cn2 cn3 cf5 cf2 cf3 ib xb nb mb : Nat} {er wn : Int} {w7 : World}
  (HX7 : Hid (w7.heap[ib]? = some (.cells #[.int .u8 p.tb.x0, .int .u8 p.tb.x1, .int .u8 p.tb.x2, .int .u8 p.tb.x3, .int .u8 p.tb.x4, .int .u8 p.tb.x5, .int .u8 p.tb.x6, .int .u8 p.tb.x7, .slice Ak nk ck, .int .i64 p.s0, .int .i64 p.s1, .slice An nn cn, .slice Af nf cf] 65 (0, 0)))) (HP7 : Hid (w7.heap[xb]? = some (.cells #[.int .u8 p.tb.x0, .int .u8 p.tb.x1, .int .u8 p.tb.x2, .int .u8 p.tb.x3, .int .u8 p.tb.x4, .int .u8 p.tb.x5, .int .u8 p.tb.x6, .int .u8 p.tb.x7, .slice Ax nk cx, .int .i64 p.s0, .int .i64 p.s1, .slice An nn cn, .slice Af nf cf] 32 (0, 0)))) (HN7 : Hid (w7.heap[nb]? = some (.cells #[.int .u8 q.tb.x0, .int .u8 q.tb.x1, .int .u8 q.tb.x2, .int .u8 q.tb.x3, .int .u8 q.tb.x4, .int .u8 q.tb.x5, .int .u8 q.tb.x6, .int .u8 q.tb.x7, .slice Bk ck5 ck2, .int .i64 q.s0, .int .i64 q.s1, .slice Bn cn5 cn2, .slice Bf cf5 cf2] 32 (0, 0)))) (HM7 : Hid (w7.heap[mb]? = some (.cells #[.int .u8 q.tb.x0, .int .u8 q.tb.x1, .int .u8 q.tb.x2, .int .u8 q.tb.x3, .int .u8 q.tb.x4, .int .u8 q.tb.x5, .int .u8 q.tb.x6, .int .u8 q.tb.x7, .slice Ck ck5 ck3, .int .i64 q.s0, .int .i64 q.s1, .slice Cn cn5 cn3, .slice Cf cf5 cf3] 65 (0, 0))))
  (HQ7 : Hid (q.At Bk ck5 ck2 Bn cn5 Bf cf5 w7)) (HC7 : Hid (q.At Ck ck5 ck3 Cn cn5 Cf cf5 w7)) (HA7 : Hid (p.At Ax nk cx An nn Af nf w7)) (HB7 : Hid (p.At Ak nk ck An nn Af nf w7)) (HT : Hid p.tb.ok) (HOk : Hid (∀ d ∈ p.ks, d.ok))
  (hP : Hid (∀ x (a : Act) (d : Option Tmp) (v : Value) (w : World), Q (.panic x) (a.put d v) w → Q (.panic x) a w))
  (hQ : Hid (∀ (x67 x68 x69 x70 x71 x72 x73 x74 x75 x76 x77 x78 x79 x80 x81 x82 x83 x84 x85 x86 x87 x88 x89 x90 x91 : Value) (w' : World), Below w7.heap.size w7 w' → Q .normal ⟨#[u0, u1, .int .i64 wn, u3, u4, .pointer (some ⟨ib, 0, none⟩), u6, u7, u8, u9, u10, .pointer (some ⟨xb, 0, none⟩), .pointer (some ⟨nb, 0, none⟩), .int .i64 er, .pointer (some ⟨mb, 0, none⟩), .int .i64 er, u16, u17, u18, u19, u20, u21, u22, u23, u24, u25, u26, u27, u28, u29, u30, u31, u32, u33, u34, u35, u36, u37, u38, u39, u40, u41, u42, u43, u44, u45, u46, u47, u48, u49, u50, u51, u52, u53, u54, u55, u56, u57, u58, u59, u60, u61, u62, u63, u64, u65, u66, x67, x68, x69, x70, x71, x72, x73, x74, x75, x76, x77, x78, x79, x80, x81, x82, x83, x84, x85, x86, x87, x88, x89, x90, x91, .bool false, u93, u94, u95, u96, u97, u98, u99, u100, u101, u102, u103, u104, u105, u106, u107, u108, u109, u110, u111, u112, u113, u114, u115, u116, u117, u118, u119, u120, u121, u122, u123, u124, u125, u126, u127, u128, u129, u130, u131, u132, u133, u134, u135, u136, u137, u138, u139, u140, u141, u142, u143, u144, u145, u146, u147, u148, u149, u150, u151, u152, u153, u154, u155, u156, u157, u158, u159, u160, u161, u162, u163, u164, u165, u166, u167, u168, u169, u170, u171, u172, u173, u174, u175, u176, u177, u178, u179, u180, u181], []⟩ w')) {code : Code} (hc : codeR 6 Tryz.f5 = code) :
  Code.wp Tryz.prog code Q ⟨#[u0, u1, .int .i64 wn, u3, u4, .pointer (some ⟨ib, 0, none⟩), u6, u7, u8, u9, u10, .pointer (some ⟨xb, 0, none⟩), .pointer (some ⟨nb, 0, none⟩), .int .i64 er, .pointer (some ⟨mb, 0, none⟩), .int .i64 er, u16, u17, u18, u19, u20, u21, u22, u23, u24, u25, u26, u27, u28, u29, u30, u31, u32, u33, u34, u35, u36, u37, u38, u39, u40, u41, u42, u43, u44, u45, u46, u47, u48, u49, u50, u51, u52, u53, u54, u55, u56, u57, u58, u59, u60, u61, u62, u63, u64, u65, u66, u67, u68, u69, u70, u71, u72, u73, u74, u75, u76, u77, u78, u79, u80, u81, u82, u83, u84, u85, u86, u87, u88, u89, u90, u91, u92, u93, u94, u95, u96, u97, u98, u99, u100, u101, u102, u103, u104, u105, u106, u107, u108, u109, u110, u111, u112, u113, u114, u115, u116, u117, u118, u119, u120, u121, u122, u123, u124, u125, u126, u127, u128, u129, u130, u131, u132, u133, u134, u135, u136, u137, u138, u139, u140, u141, u142, u143, u144, u145, u146, u147, u148, u149, u150, u151, u152, u153, u154, u155, u156, u157, u158, u159, u160, u161, u162, u163, u164, u165, u166, u167, u168, u169, u170, u171, u172, u173, u174, u175, u176, u177, u178, u179, u180, u181], []⟩ w7 := by
 subst hc
 have e : codeR 6 Tryz.f5 = codeR 6 Tryz.f5 := rfl
 conv at e => rhs; whnf
 rw [e]
 clear e
 have hlx := block_lt HX7.out
 have hlp := block_lt HP7.out
 have hln := block_lt HN7.out
 have hlm := block_lt HM7.out
 refine wp_region_held_drew (S := fun w' => Below w7.heap.size w7 w') (by kernel_rfl) (Below.refl _ _).drew (fun hHeld => ?_)
 refine takeK 0 (some 67) (v := ?_) rfl (by kernel_rfl) (by kernel_rfl) (fun _ _ _ h => hP.out _ _ _ _ _ h) (Or.inl ⟨by kernel_rfl, ?hy⟩) (by assumption) ?_
 case hy => intro w' h; clear h; go_simp; try with_reducible rfl
 simp only [Act.put, sT]
 refine takeK 1 (some 68) (v := ?_) rfl (by kernel_rfl) (by kernel_rfl) (fun _ _ _ h => hP.out _ _ _ _ _ h) (Or.inl ⟨by kernel_rfl, ?hy⟩) (by assumption) ?_
 case hy => intro w' h; clear h; go_simp; try with_reducible rfl
 simp only [Act.put, sT]
 refine takeK 2 (some 69) (v := ?_) rfl (by kernel_rfl) (by kernel_rfl) (fun _ _ _ h => hP.out _ _ _ _ _ h) (Or.inl ⟨by kernel_rfl, ?hy⟩) (by assumption) ?_
 case hy => intro w' h; clear h; go_simp; try with_reducible rfl
 simp only [Act.put, sT]
 refine takeK 3 (some 70) (v := ?_) rfl (by kernel_rfl) (by kernel_rfl) (fun _ _ _ h => hP.out _ _ _ _ _ h) (Or.inl ⟨by kernel_rfl, ?hy⟩) (by assumption) ?_
 case hy => intro w' h; clear h; go_simp; try with_reducible rfl
 simp only [Act.put, sT]
 refine takeK 4 (some 71) (v := .agg ([.int .u8 q.tb.x0, .int .u8 q.tb.x1, .int .u8 q.tb.x2, .int .u8 q.tb.x3, .int .u8 q.tb.x4, .int .u8 q.tb.x5, .int .u8 q.tb.x6, .int .u8 q.tb.x7, .slice Bk ck5 ck2, .int .i64 q.s0, .int .i64 q.s1, .slice Bn cn5 cn2, .slice Bf cf5 cf2] : List Value).toArray) rfl (by kernel_rfl) (by kernel_rfl) (fun _ _ _ h => hP.out _ _ _ _ _ h) (yieldsIf_load_mid (by kernel_rfl) 32 _ (by rfl) (nb) (0) (by rfl) [.int .u8 q.tb.x0, .int .u8 q.tb.x1, .int .u8 q.tb.x2, .int .u8 q.tb.x3, .int .u8 q.tb.x4, .int .u8 q.tb.x5, .int .u8 q.tb.x6, .int .u8 q.tb.x7, .slice Bk ck5 ck2, .int .i64 q.s0, .int .i64 q.s1, .slice Bn cn5 cn2, .slice Bf cf5 cf2] _ (fun w' hw' => range_all (block_below HN7.out hw' hln)) Tryz.underlying32 rfl (by kernel_rfl)) (by assumption) ?_
 simp only [Act.put, sT]
 refine takeK 6 (some 73) (v := .agg ([.int .u8 q.tb.x0, .int .u8 q.tb.x1, .int .u8 q.tb.x2, .int .u8 q.tb.x3, .int .u8 q.tb.x4, .int .u8 q.tb.x5, .int .u8 q.tb.x6, .int .u8 q.tb.x7, .slice Ck ck5 ck3, .int .i64 q.s0, .int .i64 q.s1, .slice Cn cn5 cn3, .slice Cf cf5 cf3] : List Value).toArray) rfl (by kernel_rfl) (by kernel_rfl) (fun _ _ _ h => hP.out _ _ _ _ _ h) (yieldsIf_load_mid (by kernel_rfl) 65 _ (by rfl) (mb) (0) (by rfl) [.int .u8 q.tb.x0, .int .u8 q.tb.x1, .int .u8 q.tb.x2, .int .u8 q.tb.x3, .int .u8 q.tb.x4, .int .u8 q.tb.x5, .int .u8 q.tb.x6, .int .u8 q.tb.x7, .slice Ck ck5 ck3, .int .i64 q.s0, .int .i64 q.s1, .slice Cn cn5 cn3, .slice Cf cf5 cf3] _ (fun w' hw' => range_all (block_below HM7.out hw' hlm)) Tryz.underlying65 rfl (by kernel_rfl)) (by assumption) ?_
 simp only [Act.put, sT]
 refine wpAnyH_ready (rs := [5]) (by kernel_rfl) (by simp) ?_
 refine AllReadyH.cons rfl (fun K hK => ?_) AllReadyH.nil
 rw [if_pos (by kernel_rfl)]
 try simp only [List.getElem_toArray, List.getElem_cons_zero, List.getElem_cons_succ]
 go_simp
 go_at_call 30
 refine (to_any q Bk ck5 ck2 Bn cn5 cn2 Bf cf5 cf2 _ (HQ7.out.up (Below.refl _ _).drew)).mono ?_
 rintro e z1 ⟨Dk, cd, rfl, ho, hb⟩
 have HU1 : Hid (Below w7.heap.size w7 z1) := Lib.hid ((Below.refl _ _).drew.trans (hb))
 have HD1 : Hid (q.At Dk ck5 cd Bn cn5 Bf cf5 z1) := ⟨Rd.of_own ho, (HQ7.out.up HU1.out).n, (HQ7.out.up HU1.out).f, HQ7.out.bk, HQ7.out.bn, HQ7.out.bf, own_cap ho⟩
 clear ho
 clear hb
 refine hK.out _ _ HU1.out (fun _ => ?_)
 clear hK K
 try simp only [Act.put, sT]
 refine wpAnyH_ready (rs := [7]) (by kernel_rfl) (by simp) ?_
 refine AllReadyH.cons rfl (fun K hK => ?_) AllReadyH.nil
 rw [if_pos (by kernel_rfl)]
 try simp only [List.getElem_toArray, List.getElem_cons_zero, List.getElem_cons_succ]
 go_simp
 go_at_call 29
 refine (samer_any q Dk ck5 cd Bn cn5 cn2 Bf cf5 cf2 Ck ck3 Cn cn3 Cf cf3 z1 HD1.out (HC7.out.up HU1.out)).mono ?_
 rintro e z2 ⟨rfl, hb⟩
 have HU2 : Hid (Below w7.heap.size w7 z2) := Lib.hid (HU1.out.trans (hb.mono HU1.out.size))
 clear hb
 refine hK.out _ _ HU2.out (fun _ => ?_)
 clear hK K
 try simp only [Act.put, sT]
 refine takeK 8 (some 75) (v := ?_) rfl (by kernel_rfl) (by kernel_rfl) (fun _ _ _ h => hP.out _ _ _ _ _ h) (Or.inl ⟨by kernel_rfl, ?hy⟩) (by assumption) ?_
 case hy => intro w' h; clear h; go_simp; try with_reducible rfl
 simp only [Act.put, sT]
 refine takeK 9 (some 76) (v := ?_) rfl (by kernel_rfl) (by kernel_rfl) (fun _ _ _ h => hP.out _ _ _ _ _ h) (Or.inl ⟨by kernel_rfl, ?hy⟩) (by assumption) ?_
 case hy => intro w' h; clear h; go_simp; try with_reducible rfl
 simp only [Act.put, sT]
 refine takeK 10 (some 77) (v := ?_) rfl (by kernel_rfl) (by kernel_rfl) (fun _ _ _ h => hP.out _ _ _ _ _ h) (Or.inl ⟨by kernel_rfl, ?hy⟩) (by assumption) ?_
 case hy => intro w' h; clear h; go_simp; try with_reducible rfl
 simp only [Act.put, sT]
 refine takeK 11 (some 78) (v := .agg ([.int .u8 p.tb.x0, .int .u8 p.tb.x1, .int .u8 p.tb.x2, .int .u8 p.tb.x3, .int .u8 p.tb.x4, .int .u8 p.tb.x5, .int .u8 p.tb.x6, .int .u8 p.tb.x7, .slice Ax nk cx, .int .i64 p.s0, .int .i64 p.s1, .slice An nn cn, .slice Af nf cf] : List Value).toArray) rfl (by kernel_rfl) (by kernel_rfl) (fun _ _ _ h => hP.out _ _ _ _ _ h) (yieldsIf_load_mid (by kernel_rfl) 32 _ (by rfl) (xb) (0) (by rfl) [.int .u8 p.tb.x0, .int .u8 p.tb.x1, .int .u8 p.tb.x2, .int .u8 p.tb.x3, .int .u8 p.tb.x4, .int .u8 p.tb.x5, .int .u8 p.tb.x6, .int .u8 p.tb.x7, .slice Ax nk cx, .int .i64 p.s0, .int .i64 p.s1, .slice An nn cn, .slice Af nf cf] _ (fun w' hw' => range_all (block_below HP7.out hw' hlp)) Tryz.underlying32 rfl (by kernel_rfl)) (by assumption) ?_
 simp only [Act.put, sT]
 refine takeK 12 (some 79) (v := ?_) rfl (by kernel_rfl) (by kernel_rfl) (fun _ _ _ h => hP.out _ _ _ _ _ h) (Or.inl ⟨by kernel_rfl, ?hy⟩) (by assumption) ?_
 case hy => intro w' h; clear h; go_simp; try with_reducible rfl
 simp only [Act.put, sT]
 refine takeK 14 (some 81) (v := .agg ([.int .u8 p.tb.x0, .int .u8 p.tb.x1, .int .u8 p.tb.x2, .int .u8 p.tb.x3, .int .u8 p.tb.x4, .int .u8 p.tb.x5, .int .u8 p.tb.x6, .int .u8 p.tb.x7, .slice Ak nk ck, .int .i64 p.s0, .int .i64 p.s1, .slice An nn cn, .slice Af nf cf] : List Value).toArray) rfl (by kernel_rfl) (by kernel_rfl) (fun _ _ _ h => hP.out _ _ _ _ _ h) (yieldsIf_load_mid (by kernel_rfl) 65 _ (by rfl) (ib) (0) (by rfl) [.int .u8 p.tb.x0, .int .u8 p.tb.x1, .int .u8 p.tb.x2, .int .u8 p.tb.x3, .int .u8 p.tb.x4, .int .u8 p.tb.x5, .int .u8 p.tb.x6, .int .u8 p.tb.x7, .slice Ak nk ck, .int .i64 p.s0, .int .i64 p.s1, .slice An nn cn, .slice Af nf cf] _ (fun w' hw' => range_all (block_below HX7.out hw' hlx)) Tryz.underlying65 rfl (by kernel_rfl)) (by assumption) ?_
 simp only [Act.put, sT]
 refine takeK 15 (some 82) (v := ?_) rfl (by kernel_rfl) (by kernel_rfl) (fun _ _ _ h => hP.out _ _ _ _ _ h) (Or.inl ⟨by kernel_rfl, ?hy⟩) (by assumption) ?_
 case hy => intro w' h; clear h; go_simp; try with_reducible rfl
 simp only [Act.put, sT]
 refine wpAnyH_ready (rs := [13]) (by kernel_rfl) (by simp) ?_
 refine AllReadyH.cons rfl (fun K hK => ?_) AllReadyH.nil
 rw [if_pos (by kernel_rfl)]
 try simp only [List.getElem_toArray, List.getElem_cons_zero, List.getElem_cons_succ]
 go_simp
 go_at_call 15
 refine (plcheck_any p Ax nk cx An nn cn Af nf cf wn z2 (HA7.out.up HU2.out)).mono ?_
 rintro e z3 ⟨rfl, hb⟩
 have HU3 : Hid (Below w7.heap.size w7 z3) := Lib.hid (HU2.out.trans (hb.mono HU2.out.size))
 clear hb
 refine hK.out _ _ HU3.out (fun _ => ?_)
 clear hK K
 try simp only [Act.put, sT]
 refine wpAnyH_ready (rs := [16]) (by kernel_rfl) (by simp) ?_
 refine AllReadyH.cons rfl (fun K hK => ?_) AllReadyH.nil
 rw [if_pos (by kernel_rfl)]
 try simp only [List.getElem_toArray, List.getElem_cons_zero, List.getElem_cons_succ]
 go_simp
 go_at_call 31
 refine (checkr_any p Ak nk ck An nn cn Af nf cf wn z3 (HB7.out.up HU3.out)).mono ?_
 rintro e z4 ⟨rfl, hb⟩
 have HU4 : Hid (Below w7.heap.size w7 z4) := Lib.hid (HU3.out.trans (hb.mono HU3.out.size))
 clear hb
 refine hK.out _ _ HU4.out (fun _ => ?_)
 clear hK K
 try simp only [Act.put, sT]
 refine takeK 17 (some 84) (v := ?_) rfl (by kernel_rfl) (by kernel_rfl) (fun _ _ _ h => hP.out _ _ _ _ _ h) (Or.inl ⟨by kernel_rfl, ?hy⟩) (by assumption) ?_
 case hy => intro w' h; clear h; go_simp; try with_reducible rfl
 simp only [Act.put, sT]
 refine takeK 18 (some 85) (v := ?_) rfl (by kernel_rfl) (by kernel_rfl) (fun _ _ _ h => hP.out _ _ _ _ _ h) (Or.inl ⟨by kernel_rfl, ?hy⟩) (by assumption) ?_
 case hy => intro w' h; clear h; go_simp; try with_reducible rfl
 simp only [Act.put, sT]
 refine takeK 19 (some 86) (v := ?_) rfl (by kernel_rfl) (by kernel_rfl) (fun _ _ _ h => hP.out _ _ _ _ _ h) (Or.inl ⟨by kernel_rfl, ?hy⟩) (by assumption) ?_
 case hy => intro w' h; clear h; go_simp; try with_reducible rfl
 simp only [Act.put, sT]
 refine takeK 20 (some 87) (v := .agg ([.int .u8 p.tb.x0, .int .u8 p.tb.x1, .int .u8 p.tb.x2, .int .u8 p.tb.x3, .int .u8 p.tb.x4, .int .u8 p.tb.x5, .int .u8 p.tb.x6, .int .u8 p.tb.x7, .slice Ax nk cx, .int .i64 p.s0, .int .i64 p.s1, .slice An nn cn, .slice Af nf cf] : List Value).toArray) rfl (by kernel_rfl) (by kernel_rfl) (fun _ _ _ h => hP.out _ _ _ _ _ h) (yieldsIf_load_mid (by kernel_rfl) 32 _ (by rfl) (xb) (0) (by rfl) [.int .u8 p.tb.x0, .int .u8 p.tb.x1, .int .u8 p.tb.x2, .int .u8 p.tb.x3, .int .u8 p.tb.x4, .int .u8 p.tb.x5, .int .u8 p.tb.x6, .int .u8 p.tb.x7, .slice Ax nk cx, .int .i64 p.s0, .int .i64 p.s1, .slice An nn cn, .slice Af nf cf] _ (fun w' hw' => range_all (block_below HP7.out hw' hlp)) Tryz.underlying32 rfl (by kernel_rfl)) (by assumption) ?_
 simp only [Act.put, sT]
 refine takeK 22 (some 89) (v := .agg ([.int .u8 p.tb.x0, .int .u8 p.tb.x1, .int .u8 p.tb.x2, .int .u8 p.tb.x3, .int .u8 p.tb.x4, .int .u8 p.tb.x5, .int .u8 p.tb.x6, .int .u8 p.tb.x7, .slice Ak nk ck, .int .i64 p.s0, .int .i64 p.s1, .slice An nn cn, .slice Af nf cf] : List Value).toArray) rfl (by kernel_rfl) (by kernel_rfl) (fun _ _ _ h => hP.out _ _ _ _ _ h) (yieldsIf_load_mid (by kernel_rfl) 65 _ (by rfl) (ib) (0) (by rfl) [.int .u8 p.tb.x0, .int .u8 p.tb.x1, .int .u8 p.tb.x2, .int .u8 p.tb.x3, .int .u8 p.tb.x4, .int .u8 p.tb.x5, .int .u8 p.tb.x6, .int .u8 p.tb.x7, .slice Ak nk ck, .int .i64 p.s0, .int .i64 p.s1, .slice An nn cn, .slice Af nf cf] _ (fun w' hw' => range_all (block_below HX7.out hw' hlx)) Tryz.underlying65 rfl (by kernel_rfl)) (by assumption) ?_
 simp only [Act.put, sT]
 refine wpAnyH_ready (rs := [21]) (by kernel_rfl) (by simp) ?_
 refine AllReadyH.cons rfl (fun K hK => ?_) AllReadyH.nil
 rw [if_pos (by kernel_rfl)]
 try simp only [List.getElem_toArray, List.getElem_cons_zero, List.getElem_cons_succ]
 go_simp
 go_at_call 32
 refine (pldigest_any p Ax nk cx An nn cn Af nf cf z4 (HA7.out.up HU4.out) HT.out HOk.out).mono ?_
 rintro e z5 ⟨rfl, hb⟩
 have HU5 : Hid (Below w7.heap.size w7 z5) := Lib.hid (HU4.out.trans (hb.mono HU4.out.size))
 clear hb
 refine hK.out _ _ HU5.out (fun _ => ?_)
 clear hK K
 try simp only [Act.put, sT]
 refine wpAnyH_ready (rs := [23]) (by kernel_rfl) (by simp) ?_
 refine AllReadyH.cons rfl (fun K hK => ?_) AllReadyH.nil
 rw [if_pos (by kernel_rfl)]
 try simp only [List.getElem_toArray, List.getElem_cons_zero, List.getElem_cons_succ]
 go_simp
 go_at_call 33
 refine (digestR_any p Ak nk ck An nn cn Af nf cf z5 (HB7.out.up HU5.out) HT.out HOk.out).mono ?_
 rintro e z6 ⟨rfl, hb⟩
 have HU6 : Hid (Below w7.heap.size w7 z6) := Lib.hid (HU5.out.trans (hb.mono HU5.out.size))
 clear hb
 refine hK.out _ _ HU6.out (fun _ => ?_)
 clear hK K
 try simp only [Act.put, sT]
 refine takeK 24 (some 91) (v := .bool false) rfl (by kernel_rfl) (by kernel_rfl) (fun _ _ _ h => hP.out _ _ _ _ _ h) (Or.inl ⟨by kernel_rfl, fun w' _ => exec_binP (by rfl) (by rfl) (by rfl) (dig_guardP p.digest _ _ w') (dig_reflP p.digest w')⟩) (by assumption) ?_
 simp only [Act.put, sT]
 refine takeK 25 (some 92) (v := ?_) rfl (by kernel_rfl) (by kernel_rfl) (fun _ _ _ h => hP.out _ _ _ _ _ h) (Or.inl ⟨by kernel_rfl, ?hy⟩) (by assumption) ?_
 case hy => intro w' h; clear h; go_simp; try with_reducible rfl
 simp only [Act.put, sT]
 refine wpAnyH_done (by kernel_rfl) ?_ _
 go_wp2_with fail
 exact hQ.out _ _ _ _ _ _ _ _ _ _ _ _ _ _ _ _ _ _ _ _ _ _ _ _ _ _ HU6.out
set_option maxRecDepth 100000 in
set_option maxHeartbeats 16000000 in
theorem vp12 {u0 u1 u2 u6 u7 u8 u9 u10 u12 u13 u14 u15 u16 u17 u18 u19 u20 u21 u22 u23 u24 u25 u26 u27 u28 u29 u30 u31 u32 u33 u34 u35 u36 u37 u38 u39 u40 u41 u42 u43 u44 u45 u46 u47 u48 u49 u50 u51 u52 u53 u54 u55 u56 u57 u58 u59 u60 u61 u62 u63 u64 u65 u66 u67 u68 u69 u70 u71 u72 u73 u74 u75 u76 u77 u78 u79 u80 u81 u82 u83 u84 u85 u86 u87 u88 u89 u90 u91 u92 u93 u94 u95 u96 u97 u98 u99 u100 u101 u102 u103 u104 u105 u106 u107 u108 u109 u110 u111 u112 u113 u114 u115 u116 u117 u118 u119 u120 u121 u122 u123 u124 u125 u126 u127 u128 u129 u130 u131 u132 u133 u134 u135 u136 u137 u138 u139 u140 u141 u142 u143 u144 u145 u146 u147 u148 u149 u150 u151 u152 u153 u154 u155 u156 u157 u158 u159 u160 u161 u162 u163 u164 u165 u166 u167 u168 u169 u170 u171 u172 u173 u174 u175 u176 u177 u178 u179 u180 u181 : Value} {Q : Exit → Act → World → Prop} {p : Pl} {k0 k1 : D8} {Ak An2 Af Af2 : Option Addr} {nk ck cx nn nn2 cn cn2 nf cf nf2 cf2 ib xb b o bn on m hopN kw : Nat} {st gn : Int} {w10 : World}
  (HX10 : Hid (w10.heap[ib]? = some (.cells #[.int .u8 p.tb.x0, .int .u8 p.tb.x1, .int .u8 p.tb.x2, .int .u8 p.tb.x3, .int .u8 p.tb.x4, .int .u8 p.tb.x5, .int .u8 p.tb.x6, .int .u8 p.tb.x7, .slice Ak nk ck, .int .i64 p.s0, .int .i64 p.s1, .slice (some ⟨bn, on, none⟩) nn cn, .slice Af nf cf] 65 (0, 0)))) (HP10 : Hid (w10.heap[xb]? = some (.cells #[.int .u8 p.tb.x0, .int .u8 p.tb.x1, .int .u8 p.tb.x2, .int .u8 p.tb.x3, .int .u8 p.tb.x4, .int .u8 p.tb.x5, .int .u8 p.tb.x6, .int .u8 p.tb.x7, .slice (some ⟨b, o, none⟩) nk cx, .int .i64 p.s0, .int .i64 p.s1, .slice An2 nn2 cn2, .slice Af2 nf2 cf2] 32 (0, 0))))
  (HSt : Hid (∀ (w' : World), w'.heap[ib]? = some (.cells #[.int .u8 p.tb.x0, .int .u8 p.tb.x1, .int .u8 p.tb.x2, .int .u8 p.tb.x3, .int .u8 p.tb.x4, .int .u8 p.tb.x5, .int .u8 p.tb.x6, .int .u8 p.tb.x7, .slice Ak nk ck, .int .i64 p.s0, .int .i64 p.s1, .slice (some ⟨bn, on, none⟩) nn cn, .slice Af nf cf] 65 (0, 0)) → w'.cell? ⟨ib, 9 + kw, none⟩ = some (.int .i64 st)))
  (Hr0 : Hid (∀ w', Below w10.heap.size w10 w' → w'.rangeAt b (o + 0 * 8) k0.cells)) (Hr1 : Hid (∀ w', Below w10.heap.size w10 w' → w'.rangeAt b (o + m * 8) k1.cells)) (HRn : Hid (∀ w', Below w10.heap.size w10 w' → w'.cell? ⟨bn, on + hopN, none⟩ = some (.int .i64 gn)))
  (hh1 : (hopN : Int) < (nn : Int)) (hh3 : (m : Int) < (nk : Int)) (hh5 : 0 < nk) (hnI : (nk : Int) - 1 = (m : Int)) (hwm : IntKind.i64.wrap (m : Int) = (m : Int)) (hki : (kw : Int) < 2)
  (hP : Hid (∀ x (a : Act) (d : Option Tmp) (v : Value) (w : World), Q (.panic x) (a.put d v) w → Q (.panic x) a w))
  (hQ : Hid (∀ (x141 x142 x143 x144 x145 x146 x147 x148 x149 x150 x151 x152 x153 x154 x155 x156 x157 x158 x159 x160 x161 x162 x163 x164 x165 x166 : Value) (lb gb : Nat) (w' : World), w'.heap[lb]? = some (.cells #[.int .i64 1, .int .u8 p.tb.x0, .int .u8 p.tb.x1, .int .u8 p.tb.x2, .int .u8 p.tb.x3, .int .u8 p.tb.x4, .int .u8 p.tb.x5, .int .u8 p.tb.x6, .int .u8 p.tb.x7, .slice (some ⟨gb, 0, none⟩) 2 2, .int .i64 kw, .int .i64 st, .int .i64 gn] 40 (0, 0)) → w'.heap[gb]? = some (.cells #[.int .u8 k0.x0, .int .u8 k0.x1, .int .u8 k0.x2, .int .u8 k0.x3, .int .u8 k0.x4, .int .u8 k0.x5, .int .u8 k0.x6, .int .u8 k0.x7, .int .u8 k1.x0, .int .u8 k1.x1, .int .u8 k1.x2, .int .u8 k1.x3, .int .u8 k1.x4, .int .u8 k1.x5, .int .u8 k1.x6, .int .u8 k1.x7] 27 (0, 0)) → gb ≠ lb → w10.heap.size ≤ lb → Below w10.heap.size w10 w' → Q .normal ⟨#[u0, u1, u2, .int .i64 hopN, .int .i64 kw, .pointer (some ⟨ib, 0, none⟩), u6, u7, u8, u9, u10, .pointer (some ⟨xb, 0, none⟩), u12, u13, u14, u15, u16, u17, u18, .pointer (some ⟨lb, 0, none⟩), u20, u21, u22, u23, u24, u25, u26, u27, u28, u29, u30, u31, u32, u33, u34, u35, u36, u37, u38, u39, u40, u41, u42, u43, u44, u45, u46, u47, u48, u49, u50, u51, u52, u53, u54, u55, u56, u57, u58, u59, u60, u61, u62, u63, u64, u65, u66, u67, u68, u69, u70, u71, u72, u73, u74, u75, u76, u77, u78, u79, u80, u81, u82, u83, u84, u85, u86, u87, u88, u89, u90, u91, u92, u93, u94, u95, u96, u97, u98, u99, u100, u101, u102, u103, u104, u105, u106, u107, u108, u109, u110, u111, u112, u113, u114, u115, u116, u117, u118, u119, u120, u121, u122, u123, u124, u125, u126, u127, u128, u129, u130, u131, u132, u133, u134, u135, u136, u137, u138, u139, u140, x141, x142, x143, x144, x145, x146, x147, x148, x149, x150, x151, x152, x153, x154, x155, x156, x157, x158, x159, x160, x161, x162, x163, x164, x165, x166, u167, u168, u169, u170, u171, u172, u173, u174, u175, u176, u177, u178, u179, u180, u181], []⟩ w')) {code : Code} (hc : codeR 12 Tryz.f5 = code) :
  Code.wp Tryz.prog code Q ⟨#[u0, u1, u2, .int .i64 hopN, .int .i64 kw, .pointer (some ⟨ib, 0, none⟩), u6, u7, u8, u9, u10, .pointer (some ⟨xb, 0, none⟩), u12, u13, u14, u15, u16, u17, u18, u19, u20, u21, u22, u23, u24, u25, u26, u27, u28, u29, u30, u31, u32, u33, u34, u35, u36, u37, u38, u39, u40, u41, u42, u43, u44, u45, u46, u47, u48, u49, u50, u51, u52, u53, u54, u55, u56, u57, u58, u59, u60, u61, u62, u63, u64, u65, u66, u67, u68, u69, u70, u71, u72, u73, u74, u75, u76, u77, u78, u79, u80, u81, u82, u83, u84, u85, u86, u87, u88, u89, u90, u91, u92, u93, u94, u95, u96, u97, u98, u99, u100, u101, u102, u103, u104, u105, u106, u107, u108, u109, u110, u111, u112, u113, u114, u115, u116, u117, u118, u119, u120, u121, u122, u123, u124, u125, u126, u127, u128, u129, u130, u131, u132, u133, u134, u135, u136, u137, u138, u139, u140, u141, u142, u143, u144, u145, u146, u147, u148, u149, u150, u151, u152, u153, u154, u155, u156, u157, u158, u159, u160, u161, u162, u163, u164, u165, u166, u167, u168, u169, u170, u171, u172, u173, u174, u175, u176, u177, u178, u179, u180, u181], []⟩ w10 := by
 subst hc
 have e : codeR 12 Tryz.f5 = codeR 12 Tryz.f5 := rfl
 conv at e => rhs; whnf
 rw [e]
 clear e
 have hlx := block_lt HX10.out
 have hlp := block_lt HP10.out
 have c8x : ∀ w', Below w10.heap.size w10 w' → w'.cell? ⟨xb, 8, none⟩ = some (.slice (some ⟨b, o, none⟩) nk cx) := fun w' hw' => by have := block_cell (block_below HP10.out hw' hlp) 8; simpa using this
 have c9i : ∀ w', Below w10.heap.size w10 w' → w'.cell? ⟨ib, 9 + kw, none⟩ = some (.int .i64 st) := fun w' hw' => HSt.out w' (block_below HX10.out hw' hlx)
 have c11i : ∀ w', Below w10.heap.size w10 w' → w'.cell? ⟨ib, 11, none⟩ = some (.slice (some ⟨bn, on, none⟩) nn cn) := fun w' hw' => by have := block_cell (block_below HX10.out hw' hlx) 11; simpa using this
 have rn := HRn.out
 refine wp_region_held_drew (S := fun w' => Below w10.heap.size w10 w') (by kernel_rfl) (Below.refl _ _).drew (fun hHeld => ?_)
 refine takeK 0 (some 141) (v := ?_) rfl (by kernel_rfl) (by kernel_rfl) (fun _ _ _ h => hP.out _ _ _ _ _ h) (Or.inl ⟨by kernel_rfl, ?hy⟩) (by assumption) ?_
 case hy => intro w' h; clear h; go_simp; try with_reducible rfl
 simp only [Act.put, sT]
 refine takeK 1 (some 142) (v := .agg ([.int .u8 p.tb.x0, .int .u8 p.tb.x1, .int .u8 p.tb.x2, .int .u8 p.tb.x3, .int .u8 p.tb.x4, .int .u8 p.tb.x5, .int .u8 p.tb.x6, .int .u8 p.tb.x7] : List Value).toArray) rfl (by kernel_rfl) (by kernel_rfl) (fun _ _ _ h => hP.out _ _ _ _ _ h) (yieldsIf_load_mid (by kernel_rfl) 27 _ (by rfl) (xb) (0) (by rfl) [.int .u8 p.tb.x0, .int .u8 p.tb.x1, .int .u8 p.tb.x2, .int .u8 p.tb.x3, .int .u8 p.tb.x4, .int .u8 p.tb.x5, .int .u8 p.tb.x6, .int .u8 p.tb.x7] _ (fun w' hw' => range_front (block_below HP10.out hw' hlp) 8 rfl) Tryz.underlying27 rfl (by kernel_rfl)) (by assumption) ?_
 simp only [Act.put, sT]
 refine takeK 2 (some 143) (v := ?_) rfl (by kernel_rfl) (by kernel_rfl) (fun _ _ _ h => hP.out _ _ _ _ _ h) (Or.inl ⟨by kernel_rfl, ?hy⟩) (by assumption) ?_
 case hy => intro w' h; clear h; go_simp; try with_reducible rfl
 simp only [Act.put, sT]
 refine takeK 3 (some 144) (v := ?_) rfl (by kernel_rfl) (by kernel_rfl) (fun _ _ _ h => hP.out _ _ _ _ _ h) (Or.inl ⟨by kernel_rfl, ?hy⟩) (by assumption) ?_
 case hy => intro w' h; have hx := c8x w' h; clear h; go_simp; try with_reducible rfl
 simp only [Act.put, sT]
 refine takeK 4 (some 145) (v := ?_) rfl (by kernel_rfl) (by kernel_rfl) (fun _ _ _ h => hP.out _ _ _ _ _ h) (Or.inl ⟨by kernel_rfl, ?hy⟩) (by assumption) ?_
 case hy => intro w' h; clear h; go_simp; try with_reducible rfl
 simp only [Act.put, sT]
 refine takeK 5 (some 146) (v := .agg ([.int .u8 k0.x0, .int .u8 k0.x1, .int .u8 k0.x2, .int .u8 k0.x3, .int .u8 k0.x4, .int .u8 k0.x5, .int .u8 k0.x6, .int .u8 k0.x7] : List Value).toArray) rfl (by kernel_rfl) (by kernel_rfl) (fun _ _ _ h => hP.out _ _ _ _ _ h) (yieldsIf_load_mid (by kernel_rfl) 27 _ (by rfl) (b) (o + 0 * 8) (by rfl) [.int .u8 k0.x0, .int .u8 k0.x1, .int .u8 k0.x2, .int .u8 k0.x3, .int .u8 k0.x4, .int .u8 k0.x5, .int .u8 k0.x6, .int .u8 k0.x7] _ Hr0.out Tryz.underlying27 rfl (by kernel_rfl)) (by assumption) ?_
 simp only [Act.put, sT]
 refine takeK 6 (some 147) (v := ?_) rfl (by kernel_rfl) (by kernel_rfl) (fun _ _ _ h => hP.out _ _ _ _ _ h) (Or.inl ⟨by kernel_rfl, ?hy⟩) (by assumption) ?_
 case hy => intro w' h; clear h; go_simp; try with_reducible rfl
 simp only [Act.put, sT]
 refine takeK 7 (some 148) (v := ?_) rfl (by kernel_rfl) (by kernel_rfl) (fun _ _ _ h => hP.out _ _ _ _ _ h) (Or.inl ⟨by kernel_rfl, ?hy⟩) (by assumption) ?_
 case hy => intro w' h; have hx := c8x w' h; clear h; go_simp; try with_reducible rfl
 simp only [Act.put, sT]
 refine takeK 8 (some 149) (v := ?_) rfl (by kernel_rfl) (by kernel_rfl) (fun _ _ _ h => hP.out _ _ _ _ _ h) (Or.inl ⟨by kernel_rfl, ?hy⟩) (by assumption) ?_
 case hy => intro w' h; clear h; go_simp; try with_reducible rfl
 simp only [Act.put, sT]
 refine takeK 9 (some 150) (v := ?_) rfl (by kernel_rfl) (by kernel_rfl) (fun _ _ _ h => hP.out _ _ _ _ _ h) (Or.inl ⟨by kernel_rfl, ?hy⟩) (by assumption) ?_
 case hy => intro w' h; have hx := c8x w' h; clear h; go_simp; try with_reducible rfl
 simp only [Act.put, sT]
 refine takeK 10 (some 151) (v := ?_) rfl (by kernel_rfl) (by kernel_rfl) (fun _ _ _ h => hP.out _ _ _ _ _ h) (Or.inl ⟨by kernel_rfl, ?hy⟩) (by assumption) ?_
 case hy => intro w' h; clear h; go_simp; try with_reducible rfl
 simp only [Act.put, sT]
 refine takeK 11 (some 152) (v := ?_) rfl (by kernel_rfl) (by kernel_rfl) (fun _ _ _ h => hP.out _ _ _ _ _ h) (Or.inl ⟨by kernel_rfl, ?hy⟩) (by assumption) ?_
 case hy => intro w' h; clear h; go_simp; try with_reducible rfl
 simp only [Act.put, sT]
 refine takeK 12 (some 153) (v := ?_) rfl (by kernel_rfl) (by kernel_rfl) (fun _ _ _ h => hP.out _ _ _ _ _ h) (Or.inl ⟨by kernel_rfl, ?hy⟩) (by assumption) ?_
 case hy => intro w' h; clear h; go_simp; try with_reducible rfl
 simp only [Act.put, sT]
 refine takeK 13 (some 154) (v := .agg ([.int .u8 k1.x0, .int .u8 k1.x1, .int .u8 k1.x2, .int .u8 k1.x3, .int .u8 k1.x4, .int .u8 k1.x5, .int .u8 k1.x6, .int .u8 k1.x7] : List Value).toArray) rfl (by kernel_rfl) (by kernel_rfl) (fun _ _ _ h => hP.out _ _ _ _ _ h) (yieldsIf_load_mid (by kernel_rfl) 27 _ (by rfl) (b) (o + m * 8) (by rfl) [.int .u8 k1.x0, .int .u8 k1.x1, .int .u8 k1.x2, .int .u8 k1.x3, .int .u8 k1.x4, .int .u8 k1.x5, .int .u8 k1.x6, .int .u8 k1.x7] _ Hr1.out Tryz.underlying27 rfl (by kernel_rfl)) (by assumption) ?_
 simp only [Act.put, sT]
 refine takeK 15 (some 156) (v := ?_) rfl (by kernel_rfl) (by kernel_rfl) (fun _ _ _ h => hP.out _ _ _ _ _ h) (Or.inl ⟨by kernel_rfl, ?hy⟩) (by assumption) ?_
 case hy => intro w' h; clear h; go_simp; try with_reducible rfl
 simp only [Act.put, sT]
 refine takeK 16 (some 157) (v := ?_) rfl (by kernel_rfl) (by kernel_rfl) (fun _ _ _ h => hP.out _ _ _ _ _ h) (Or.inl ⟨by kernel_rfl, ?hy⟩) (by assumption) ?_
 case hy => intro w' h; clear h; go_simp; try with_reducible rfl
 simp only [Act.put, sT]
 refine takeK 17 (some 158) (v := ?_) rfl (by kernel_rfl) (by kernel_rfl) (fun _ _ _ h => hP.out _ _ _ _ _ h) (Or.inl ⟨by kernel_rfl, ?hy⟩) (by assumption) ?_
 case hy => intro w' h; clear h; go_simp; try with_reducible rfl
 simp only [Act.put, sT]
 refine takeK 18 (some 159) (v := ?_) rfl (by kernel_rfl) (by kernel_rfl) (fun _ _ _ h => hP.out _ _ _ _ _ h) (Or.inl ⟨by kernel_rfl, ?hy⟩) (by assumption) ?_
 case hy => intro w' h; clear h; go_simp; try with_reducible rfl
 simp only [Act.put, sT]
 refine takeK 19 (some 160) (v := ?_) rfl (by kernel_rfl) (by kernel_rfl) (fun _ _ _ h => hP.out _ _ _ _ _ h) (Or.inl ⟨by kernel_rfl, ?hy⟩) (by assumption) ?_
 case hy => intro w' h; have hx := c9i w' h; clear h; go_simp; try with_reducible rfl
 simp only [Act.put, sT]
 refine takeK 20 (some 161) (v := ?_) rfl (by kernel_rfl) (by kernel_rfl) (fun _ _ _ h => hP.out _ _ _ _ _ h) (Or.inl ⟨by kernel_rfl, ?hy⟩) (by assumption) ?_
 case hy => intro w' h; clear h; go_simp; try with_reducible rfl
 simp only [Act.put, sT]
 refine takeK 21 (some 162) (v := ?_) rfl (by kernel_rfl) (by kernel_rfl) (fun _ _ _ h => hP.out _ _ _ _ _ h) (Or.inl ⟨by kernel_rfl, ?hy⟩) (by assumption) ?_
 case hy => intro w' h; have hx := c11i w' h; clear h; go_simp; try with_reducible rfl
 simp only [Act.put, sT]
 refine takeK 22 (some 163) (v := ?_) rfl (by kernel_rfl) (by kernel_rfl) (fun _ _ _ h => hP.out _ _ _ _ _ h) (Or.inl ⟨by kernel_rfl, ?hy⟩) (by assumption) ?_
 case hy => intro w' h; clear h; go_simp; try with_reducible rfl
 simp only [Act.put, sT]
 refine takeK 23 (some 164) (v := ?_) rfl (by kernel_rfl) (by kernel_rfl) (fun _ _ _ h => hP.out _ _ _ _ _ h) (Or.inl ⟨by kernel_rfl, ?hy⟩) (by assumption) ?_
 case hy => intro w' h; clear h; go_simp; try with_reducible rfl
 simp only [Act.put, sT]
 refine takeK 24 (some 165) (v := ?_) rfl (by kernel_rfl) (by kernel_rfl) (fun _ _ _ h => hP.out _ _ _ _ _ h) (Or.inl ⟨by kernel_rfl, ?hy⟩) (by assumption) ?_
 case hy => intro w' h; have hx := rn w' h; clear h; go_simp; try with_reducible rfl
 simp only [Act.put, sT]
 refine wpAnyH_ready (rs := [14, 26]) (by kernel_rfl) (by simp) ?_
 refine AllReadyH.cons rfl (fun K hK => ?_) (AllReadyH.cons rfl (fun K hK => ?_) AllReadyH.nil)
 all_goals
  rw [if_pos (by kernel_rfl)]
  try simp only [List.getElem_toArray, List.getElem_cons_zero, List.getElem_cons_succ]
 ·go_simp
  have HG1 : Hid (((w10.alloc (.cells #[.int .u8 k0.x0, .int .u8 k0.x1, .int .u8 k0.x2, .int .u8 k0.x3, .int .u8 k0.x4, .int .u8 k0.x5, .int .u8 k0.x6, .int .u8 k0.x7, .int .u8 k1.x0, .int .u8 k1.x1, .int .u8 k1.x2, .int .u8 k1.x3, .int .u8 k1.x4, .int .u8 k1.x5, .int .u8 k1.x6, .int .u8 k1.x7] 27)).drew).heap[w10.heap.size]? = some (.cells #[.int .u8 k0.x0, .int .u8 k0.x1, .int .u8 k0.x2, .int .u8 k0.x3, .int .u8 k0.x4, .int .u8 k0.x5, .int .u8 k0.x6, .int .u8 k0.x7, .int .u8 k1.x0, .int .u8 k1.x1, .int .u8 k1.x2, .int .u8 k1.x3, .int .u8 k1.x4, .int .u8 k1.x5, .int .u8 k1.x6, .int .u8 k1.x7] 27 (0, 0))) := Lib.hid (heap_alloc_new w10 _)
  have HB1 : Hid (Below w10.heap.size w10 ((w10.alloc (.cells #[.int .u8 k0.x0, .int .u8 k0.x1, .int .u8 k0.x2, .int .u8 k0.x3, .int .u8 k0.x4, .int .u8 k0.x5, .int .u8 k0.x6, .int .u8 k0.x7, .int .u8 k1.x0, .int .u8 k1.x1, .int .u8 k1.x2, .int .u8 k1.x3, .int .u8 k1.x4, .int .u8 k1.x5, .int .u8 k1.x6, .int .u8 k1.x7] 27)).drew)) := Lib.hid (((Below.refl _ _).alloc (Nat.le_refl _) _).drew)
  generalize (w10.alloc (.cells #[.int .u8 k0.x0, .int .u8 k0.x1, .int .u8 k0.x2, .int .u8 k0.x3, .int .u8 k0.x4, .int .u8 k0.x5, .int .u8 k0.x6, .int .u8 k0.x7, .int .u8 k1.x0, .int .u8 k1.x1, .int .u8 k1.x2, .int .u8 k1.x3, .int .u8 k1.x4, .int .u8 k1.x5, .int .u8 k1.x6, .int .u8 k1.x7] 27)).drew = wa at *
  have hga := block_lt HG1.out
  have hsa := HB1.out.size
  refine hK.out _ _ HB1.out (fun _ => ?_)
  clear hK K
  try simp only [Act.put, sT]
  refine takeK 25 (some 166) (v := ?_) rfl (by kernel_rfl) (by kernel_rfl) (fun _ _ _ h => hP.out _ _ _ _ _ h) (Or.inl ⟨by kernel_rfl, ?hy⟩) (by assumption) ?_
  case hy => intro w' h; clear h; go_simp; try with_reducible rfl
  simp only [Act.put, sT]
  refine wpAnyH_ready (rs := [26]) (by kernel_rfl) (by simp) ?_
  refine AllReadyH.cons rfl (fun K hK => ?_) AllReadyH.nil
  rw [if_pos (by kernel_rfl)]
  try simp only [List.getElem_toArray, List.getElem_cons_zero, List.getElem_cons_succ]
  go_simp
  have HB2 := Lib.hid (HB1.out.alloc HB1.out.size (.cells #[.int .i64 0, .int .u8 0, .int .u8 0, .int .u8 0, .int .u8 0, .int .u8 0, .int .u8 0, .int .u8 0, .int .u8 0, .slice none 0 0, .int .i64 0, .int .i64 0, .int .i64 0] 40))
  have HZ2 : Hid ((wa.alloc (.cells #[.int .i64 0, .int .u8 0, .int .u8 0, .int .u8 0, .int .u8 0, .int .u8 0, .int .u8 0, .int .u8 0, .int .u8 0, .slice none 0 0, .int .i64 0, .int .i64 0, .int .i64 0] 40)).heap[wa.heap.size]? = some (.cells #[.int .i64 0, .int .u8 0, .int .u8 0, .int .u8 0, .int .u8 0, .int .u8 0, .int .u8 0, .int .u8 0, .int .u8 0, .slice none 0 0, .int .i64 0, .int .i64 0, .int .i64 0] 40 (0, 0))) := heap_alloc_new _ _
  have HG2 := Lib.hid (block_alloc HG1.out (.cells #[.int .i64 0, .int .u8 0, .int .u8 0, .int .u8 0, .int .u8 0, .int .u8 0, .int .u8 0, .int .u8 0, .int .u8 0, .slice none 0 0, .int .i64 0, .int .i64 0, .int .i64 0] 40))
  generalize wa.alloc (.cells #[.int .i64 0, .int .u8 0, .int .u8 0, .int .u8 0, .int .u8 0, .int .u8 0, .int .u8 0, .int .u8 0, .int .u8 0, .slice none 0 0, .int .i64 0, .int .i64 0, .int .i64 0] 40) = wb at *
  have hgb := block_lt HG2.out
  refine hK.out _ _ HB2.out (fun _ => ?_)
  clear hK K
  try simp only [Act.put, sT]
  refine wpAnyH_ready (rs := [27]) (by kernel_rfl) (by simp) ?_
  refine AllReadyH.cons rfl (fun K hK => ?_) AllReadyH.nil
  rw [if_pos (by kernel_rfl)]
  try simp only [List.getElem_toArray, List.getElem_cons_zero, List.getElem_cons_succ]
  refine wp_store_mid 40 _ _ (by rfl) (wa.heap.size) (0) #[.int .i64 1, .int .u8 p.tb.x0, .int .u8 p.tb.x1, .int .u8 p.tb.x2, .int .u8 p.tb.x3, .int .u8 p.tb.x4, .int .u8 p.tb.x5, .int .u8 p.tb.x6, .int .u8 p.tb.x7, .slice (some ⟨w10.heap.size, 0, none⟩) 2 2, .int .i64 kw, .int .i64 st, .int .i64 gn] (by rfl) (by rfl) (there_mid HZ2.out (by simp)) (by kernel_rfl) (by kernel_rfl) ?_
  obtain ⟨s1', s2'⟩ := set_all HZ2.out [.int .i64 1, .int .u8 p.tb.x0, .int .u8 p.tb.x1, .int .u8 p.tb.x2, .int .u8 p.tb.x3, .int .u8 p.tb.x4, .int .u8 p.tb.x5, .int .u8 p.tb.x6, .int .u8 p.tb.x7, .slice (some ⟨w10.heap.size, 0, none⟩) 2 2, .int .i64 kw, .int .i64 st, .int .i64 gn] (by simp)
  have HB3 := Lib.hid (HB2.out.grown s2' HB2.out.size (fun k hk => by injection hk with hk; omega))
  refine hK.out _ _ HB3.out (fun _ => ?_)
  clear hK K
  simp only [Act.put]
  refine wpAnyH_done (by kernel_rfl) ?_ _
  go_wp2_with fail
  exact hQ.out _ _ _ _ _ _ _ _ _ _ _ _ _ _ _ _ _ _ _ _ _ _ _ _ _ _ wa.heap.size w10.heap.size _ s1' ((s2'.block w10.heap.size hgb (by intro e; injection e with e; omega)).trans HG2.out) (by omega) (by omega) HB3.out
 ·go_simp
  have HZ1 : Hid (((w10.alloc (.cells #[.int .i64 0, .int .u8 0, .int .u8 0, .int .u8 0, .int .u8 0, .int .u8 0, .int .u8 0, .int .u8 0, .int .u8 0, .slice none 0 0, .int .i64 0, .int .i64 0, .int .i64 0] 40)).drew).heap[w10.heap.size]? = some (.cells #[.int .i64 0, .int .u8 0, .int .u8 0, .int .u8 0, .int .u8 0, .int .u8 0, .int .u8 0, .int .u8 0, .int .u8 0, .slice none 0 0, .int .i64 0, .int .i64 0, .int .i64 0] 40 (0, 0))) := Lib.hid (heap_alloc_new w10 _)
  have HB1 : Hid (Below w10.heap.size w10 ((w10.alloc (.cells #[.int .i64 0, .int .u8 0, .int .u8 0, .int .u8 0, .int .u8 0, .int .u8 0, .int .u8 0, .int .u8 0, .int .u8 0, .slice none 0 0, .int .i64 0, .int .i64 0, .int .i64 0] 40)).drew)) := Lib.hid (((Below.refl _ _).alloc (Nat.le_refl _) _).drew)
  generalize (w10.alloc (.cells #[.int .i64 0, .int .u8 0, .int .u8 0, .int .u8 0, .int .u8 0, .int .u8 0, .int .u8 0, .int .u8 0, .int .u8 0, .slice none 0 0, .int .i64 0, .int .i64 0, .int .i64 0] 40)).drew = wa at *
  have hza := block_lt HZ1.out
  refine hK.out _ _ HB1.out (fun _ => ?_)
  clear hK K
  try simp only [Act.put, sT]
  refine wpAnyH_ready (rs := [14]) (by kernel_rfl) (by simp) ?_
  refine AllReadyH.cons rfl (fun K hK => ?_) AllReadyH.nil
  rw [if_pos (by kernel_rfl)]
  try simp only [List.getElem_toArray, List.getElem_cons_zero, List.getElem_cons_succ]
  go_simp
  have HB2 := Lib.hid (HB1.out.alloc HB1.out.size (.cells #[.int .u8 k0.x0, .int .u8 k0.x1, .int .u8 k0.x2, .int .u8 k0.x3, .int .u8 k0.x4, .int .u8 k0.x5, .int .u8 k0.x6, .int .u8 k0.x7, .int .u8 k1.x0, .int .u8 k1.x1, .int .u8 k1.x2, .int .u8 k1.x3, .int .u8 k1.x4, .int .u8 k1.x5, .int .u8 k1.x6, .int .u8 k1.x7] 27))
  have HG2 : Hid ((wa.alloc (.cells #[.int .u8 k0.x0, .int .u8 k0.x1, .int .u8 k0.x2, .int .u8 k0.x3, .int .u8 k0.x4, .int .u8 k0.x5, .int .u8 k0.x6, .int .u8 k0.x7, .int .u8 k1.x0, .int .u8 k1.x1, .int .u8 k1.x2, .int .u8 k1.x3, .int .u8 k1.x4, .int .u8 k1.x5, .int .u8 k1.x6, .int .u8 k1.x7] 27)).heap[wa.heap.size]? = some (.cells #[.int .u8 k0.x0, .int .u8 k0.x1, .int .u8 k0.x2, .int .u8 k0.x3, .int .u8 k0.x4, .int .u8 k0.x5, .int .u8 k0.x6, .int .u8 k0.x7, .int .u8 k1.x0, .int .u8 k1.x1, .int .u8 k1.x2, .int .u8 k1.x3, .int .u8 k1.x4, .int .u8 k1.x5, .int .u8 k1.x6, .int .u8 k1.x7] 27 (0, 0))) := heap_alloc_new _ _
  have HZ2 := Lib.hid (block_alloc HZ1.out (.cells #[.int .u8 k0.x0, .int .u8 k0.x1, .int .u8 k0.x2, .int .u8 k0.x3, .int .u8 k0.x4, .int .u8 k0.x5, .int .u8 k0.x6, .int .u8 k0.x7, .int .u8 k1.x0, .int .u8 k1.x1, .int .u8 k1.x2, .int .u8 k1.x3, .int .u8 k1.x4, .int .u8 k1.x5, .int .u8 k1.x6, .int .u8 k1.x7] 27))
  generalize wa.alloc (.cells #[.int .u8 k0.x0, .int .u8 k0.x1, .int .u8 k0.x2, .int .u8 k0.x3, .int .u8 k0.x4, .int .u8 k0.x5, .int .u8 k0.x6, .int .u8 k0.x7, .int .u8 k1.x0, .int .u8 k1.x1, .int .u8 k1.x2, .int .u8 k1.x3, .int .u8 k1.x4, .int .u8 k1.x5, .int .u8 k1.x6, .int .u8 k1.x7] 27) = wb at *
  have hgb := block_lt HG2.out
  refine hK.out _ _ HB2.out (fun _ => ?_)
  clear hK K
  try simp only [Act.put, sT]
  refine takeK 25 (some 166) (v := ?_) rfl (by kernel_rfl) (by kernel_rfl) (fun _ _ _ h => hP.out _ _ _ _ _ h) (Or.inl ⟨by kernel_rfl, ?hy⟩) (by assumption) ?_
  case hy => intro w' h; clear h; go_simp; try with_reducible rfl
  simp only [Act.put, sT]
  refine wpAnyH_ready (rs := [27]) (by kernel_rfl) (by simp) ?_
  refine AllReadyH.cons rfl (fun K hK => ?_) AllReadyH.nil
  rw [if_pos (by kernel_rfl)]
  try simp only [List.getElem_toArray, List.getElem_cons_zero, List.getElem_cons_succ]
  refine wp_store_mid 40 _ _ (by rfl) (w10.heap.size) (0) #[.int .i64 1, .int .u8 p.tb.x0, .int .u8 p.tb.x1, .int .u8 p.tb.x2, .int .u8 p.tb.x3, .int .u8 p.tb.x4, .int .u8 p.tb.x5, .int .u8 p.tb.x6, .int .u8 p.tb.x7, .slice (some ⟨wa.heap.size, 0, none⟩) 2 2, .int .i64 kw, .int .i64 st, .int .i64 gn] (by rfl) (by rfl) (there_mid HZ2.out (by simp)) (by kernel_rfl) (by kernel_rfl) ?_
  obtain ⟨s1', s2'⟩ := set_all HZ2.out [.int .i64 1, .int .u8 p.tb.x0, .int .u8 p.tb.x1, .int .u8 p.tb.x2, .int .u8 p.tb.x3, .int .u8 p.tb.x4, .int .u8 p.tb.x5, .int .u8 p.tb.x6, .int .u8 p.tb.x7, .slice (some ⟨wa.heap.size, 0, none⟩) 2 2, .int .i64 kw, .int .i64 st, .int .i64 gn] (by simp)
  have HB3 := Lib.hid (HB2.out.grown s2' HB2.out.size (fun k hk => by injection hk with hk; omega))
  refine hK.out _ _ HB3.out (fun _ => ?_)
  clear hK K
  simp only [Act.put]
  refine wpAnyH_done (by kernel_rfl) ?_ _
  go_wp2_with fail
  exact hQ.out _ _ _ _ _ _ _ _ _ _ _ _ _ _ _ _ _ _ _ _ _ _ _ _ _ _ w10.heap.size wa.heap.size _ s1' ((s2'.block wa.heap.size hgb (by intro e; injection e with e; omega)).trans HG2.out) (by omega) (by omega) HB3.out
end Go.Proofs.YthhiookcknnmdaaGreat
