/-
  What the functions on integers compute, second part.
-/
import Derived.Test.YtcejidongpkpoaaGreatA4
set_option linter.all false
set_option linter.unusedSectionVars false
set_option linter.constructorNameAsVariable false
namespace Go.Proofs.YtcejidongpkpoaaGreat
open Go Go.Mach Go.Flow
set_option maxRecDepth 100000
set_option maxHeartbeats 4000000

theorem mulR_run (b1 b2 : Bool) {x y : Nat} (hx : 0 < x) (hy : 0 < y) (h : x * y < 4294967296) (hx' : x < 4294967296) (hy' : y < 4294967296) :
    runI i125 [iV b1 x, iV b2 y] = some [rV (b1 != b2) (x * y)] := by
  have h0 : (x * y == 0) = false := by have := Nat.mul_pos hx hy; simp only [beq_eq_false_iff_ne, ne_eq]; omega
  have hx2 : x < 18446744073709551616 := by omega
  have hy2 : y < 18446744073709551616 := by omega
  have h2 : x * y < 18446744073709551616 := by omega
  cases b1 <;> cases b2 <;> simp (maxSteps := 100000000) only [List.length_cons, List.length_nil, List.map_cons, List.map_nil, List.take_succ_cons, List.take_zero, List.drop_succ_cons, List.drop_zero, List.set_cons_zero, List.set_cons_succ, List.getElem?_cons_zero, List.getElem?_cons_succ, List.getElem?_nil, List.cons_append, List.nil_append, List.append_nil, Option.map_some, Option.map_none, Option.bind_some, Option.bind_none, ↓reduceIte, Nat.reduceBEq, Nat.reduceEqDiff, Nat.reducePow, Nat.blt, Nat.ble_eq, Nat.reduceLeDiff, Nat.reduceSucc, Nat.reduceAdd, Nat.reduceSub, Nat.reduceMul, Nat.reduceDiv, Nat.reduceMod, Nat.reduceLT, and_self, and_true, true_and, List.elem_nil, Bool.false_eq_true, oN_lt, oN_le, oN_gt, oN_ge, oN_beq, oN_bne, oN_sub, decide_true, decide_false, Nat.mul_one, Nat.one_mul, Nat.add_zero, Nat.zero_add, Nat.le_refl, not_true_eq_false, not_false_eq_true, Bool.not_true, Bool.not_false, bne_self_eq_false, beq_self_eq_true, Bool.and_self, Bool.and_true, Bool.true_and, Bool.and_false, Bool.false_and, IntKind.bits, Nat.lt_irrefl, loopN, evRf, evRs, mkRes, allT1, closeD, toVs, toV1, toV1s, fz, fzL, canon, fuelZ, fnOf, callB', callB, addS, ptrT, toT, setSeg, evIxS, evIxR, evPart, evAt, evExtract, evStore, evO, evAppend, evCopy, rowOf, blkW, intV_of, lim64, limu64, limu32, bM, V1.t1, evFn, evCode, Ft.tb, Ft.fn, tI, callN, inArgs, nilsT, setN, runR, stepO, wantO, kd, evA, evR, evOd, nth, cellsT, setO, okLo, evOff, offD, wi, evLd, blkOf, cellsAt, partT, evLen, magOf_zero, natT, plainT, plainD, evPk, ev2, ev1, vecT, pv, bi_add, bi_sub, bi_mul, bi_quo, bi_rem, bi_eql, bi_neq, bi_lss, bi_leq, bi_gtr, bi_geq, bi_and, bi_or32, bi_xor, List.filter_cons, List.filter_nil, List.elem_cons, nat_beq, i64_m1, Nat.reduceBNe, Option.isSome_some, Option.isSome_none, evSlc, evCap, evNilS, isNilT, boolT, evBslF, bsCells, unC, List.isEmpty_cons, List.isEmpty_nil, false_and, and_false, Nat.not_lt_zero, nS_beq, nS_bne, nS_lt, nS_le, nS_gt, nS_ge, notIn, nthI, List.any_nil, List.any_cons, Bool.false_or, Bool.or_false, Bool.or_true, Bool.true_or, Bool.or_self, Nat.min_def, Nat.sub_zero, Nat.zero_le, Nat.sub_self, cast_oN, si_shl, si_shr, b_ft, b_tf, n_ft, n_tf, n_ff, n_tt, wrap_if, wrap_i64, wrap_u32, wrap_u64, List.not_mem_nil, List.mem_cons, or_false, false_or, ofVal, ofL, packT, isCell, row0, row1, row2, row3, evPick, evSlc3, optNat, evBld, fillD, mapO, zipI, slOf, sI, isNegI, absI, runI, h0, magOf_pos hx, magOf_pos hy, h, hx', hy', hx2, hy2, h2, Nat.div_eq_of_lt h, i43, i48, i92, i94, i97, i112, i113, i114, i115, i124, i125, i137, i139, i143, i155, i156, i157, i158, i159, i160, i163, i182, i195, i196, i197, i219, i220, i221, i222, i224, i232, i233, i240, i241, i250, i251, i261, i262, i279, i280]
theorem mulR_0 (b : Bool) {y : Nat} (hy : 0 < y) : runI i125 [iV false 0, iV b y] = some [rZ] := by
  cases b <;> simp (maxSteps := 100000000) only [List.length_cons, List.length_nil, List.map_cons, List.map_nil, List.take_succ_cons, List.take_zero, List.drop_succ_cons, List.drop_zero, List.set_cons_zero, List.set_cons_succ, List.getElem?_cons_zero, List.getElem?_cons_succ, List.getElem?_nil, List.cons_append, List.nil_append, List.append_nil, Option.map_some, Option.map_none, Option.bind_some, Option.bind_none, ↓reduceIte, Nat.reduceBEq, Nat.reduceEqDiff, Nat.reducePow, Nat.blt, Nat.ble_eq, Nat.reduceLeDiff, Nat.reduceSucc, Nat.reduceAdd, Nat.reduceSub, Nat.reduceMul, Nat.reduceDiv, Nat.reduceMod, Nat.reduceLT, and_self, and_true, true_and, List.elem_nil, Bool.false_eq_true, oN_lt, oN_le, oN_gt, oN_ge, oN_beq, oN_bne, oN_sub, decide_true, decide_false, Nat.mul_one, Nat.one_mul, Nat.add_zero, Nat.zero_add, Nat.le_refl, not_true_eq_false, not_false_eq_true, Bool.not_true, Bool.not_false, bne_self_eq_false, beq_self_eq_true, Bool.and_self, Bool.and_true, Bool.true_and, Bool.and_false, Bool.false_and, IntKind.bits, Nat.lt_irrefl, loopN, evRf, evRs, mkRes, allT1, closeD, toVs, toV1, toV1s, fz, fzL, canon, fuelZ, fnOf, callB', callB, addS, ptrT, toT, setSeg, evIxS, evIxR, evPart, evAt, evExtract, evStore, evO, evAppend, evCopy, rowOf, blkW, intV_of, lim64, limu64, limu32, bM, V1.t1, evFn, evCode, Ft.tb, Ft.fn, tI, callN, inArgs, nilsT, setN, runR, stepO, wantO, kd, evA, evR, evOd, nth, cellsT, setO, okLo, evOff, offD, wi, evLd, blkOf, cellsAt, partT, evLen, magOf_zero, natT, plainT, plainD, evPk, ev2, ev1, vecT, pv, bi_add, bi_sub, bi_mul, bi_quo, bi_rem, bi_eql, bi_neq, bi_lss, bi_leq, bi_gtr, bi_geq, bi_and, bi_or32, bi_xor, List.filter_cons, List.filter_nil, List.elem_cons, nat_beq, i64_m1, Nat.reduceBNe, Option.isSome_some, Option.isSome_none, evSlc, evCap, evNilS, isNilT, boolT, evBslF, bsCells, unC, List.isEmpty_cons, List.isEmpty_nil, false_and, and_false, Nat.not_lt_zero, nS_beq, nS_bne, nS_lt, nS_le, nS_gt, nS_ge, notIn, nthI, List.any_nil, List.any_cons, Bool.false_or, Bool.or_false, Bool.or_true, Bool.true_or, Bool.or_self, Nat.min_def, Nat.sub_zero, Nat.zero_le, Nat.sub_self, cast_oN, si_shl, si_shr, b_ft, b_tf, n_ft, n_tf, n_ff, n_tt, wrap_if, wrap_i64, wrap_u32, wrap_u64, List.not_mem_nil, List.mem_cons, or_false, false_or, ofVal, ofL, packT, isCell, row0, row1, row2, row3, evPick, evSlc3, optNat, evBld, fillD, mapO, zipI, slOf, sI, isNegI, absI, runI, magOf_pos hy, i43, i48, i92, i94, i97, i112, i113, i114, i115, i124, i125, i137, i139, i143, i155, i156, i157, i158, i159, i160, i163, i182, i195, i196, i197, i219, i220, i221, i222, i224, i232, i233, i240, i241, i250, i251, i261, i262, i279, i280]
theorem mulR_0' (b : Bool) {y : Nat} (hy : 0 < y) : runI i125 [iV b y, iV false 0] = some [rZ] := by
  cases b <;> simp (maxSteps := 100000000) only [List.length_cons, List.length_nil, List.map_cons, List.map_nil, List.take_succ_cons, List.take_zero, List.drop_succ_cons, List.drop_zero, List.set_cons_zero, List.set_cons_succ, List.getElem?_cons_zero, List.getElem?_cons_succ, List.getElem?_nil, List.cons_append, List.nil_append, List.append_nil, Option.map_some, Option.map_none, Option.bind_some, Option.bind_none, ↓reduceIte, Nat.reduceBEq, Nat.reduceEqDiff, Nat.reducePow, Nat.blt, Nat.ble_eq, Nat.reduceLeDiff, Nat.reduceSucc, Nat.reduceAdd, Nat.reduceSub, Nat.reduceMul, Nat.reduceDiv, Nat.reduceMod, Nat.reduceLT, and_self, and_true, true_and, List.elem_nil, Bool.false_eq_true, oN_lt, oN_le, oN_gt, oN_ge, oN_beq, oN_bne, oN_sub, decide_true, decide_false, Nat.mul_one, Nat.one_mul, Nat.add_zero, Nat.zero_add, Nat.le_refl, not_true_eq_false, not_false_eq_true, Bool.not_true, Bool.not_false, bne_self_eq_false, beq_self_eq_true, Bool.and_self, Bool.and_true, Bool.true_and, Bool.and_false, Bool.false_and, IntKind.bits, Nat.lt_irrefl, loopN, evRf, evRs, mkRes, allT1, closeD, toVs, toV1, toV1s, fz, fzL, canon, fuelZ, fnOf, callB', callB, addS, ptrT, toT, setSeg, evIxS, evIxR, evPart, evAt, evExtract, evStore, evO, evAppend, evCopy, rowOf, blkW, intV_of, lim64, limu64, limu32, bM, V1.t1, evFn, evCode, Ft.tb, Ft.fn, tI, callN, inArgs, nilsT, setN, runR, stepO, wantO, kd, evA, evR, evOd, nth, cellsT, setO, okLo, evOff, offD, wi, evLd, blkOf, cellsAt, partT, evLen, magOf_zero, natT, plainT, plainD, evPk, ev2, ev1, vecT, pv, bi_add, bi_sub, bi_mul, bi_quo, bi_rem, bi_eql, bi_neq, bi_lss, bi_leq, bi_gtr, bi_geq, bi_and, bi_or32, bi_xor, List.filter_cons, List.filter_nil, List.elem_cons, nat_beq, i64_m1, Nat.reduceBNe, Option.isSome_some, Option.isSome_none, evSlc, evCap, evNilS, isNilT, boolT, evBslF, bsCells, unC, List.isEmpty_cons, List.isEmpty_nil, false_and, and_false, Nat.not_lt_zero, nS_beq, nS_bne, nS_lt, nS_le, nS_gt, nS_ge, notIn, nthI, List.any_nil, List.any_cons, Bool.false_or, Bool.or_false, Bool.or_true, Bool.true_or, Bool.or_self, Nat.min_def, Nat.sub_zero, Nat.zero_le, Nat.sub_self, cast_oN, si_shl, si_shr, b_ft, b_tf, n_ft, n_tf, n_ff, n_tt, wrap_if, wrap_i64, wrap_u32, wrap_u64, List.not_mem_nil, List.mem_cons, or_false, false_or, ofVal, ofL, packT, isCell, row0, row1, row2, row3, evPick, evSlc3, optNat, evBld, fillD, mapO, zipI, slOf, sI, isNegI, absI, runI, magOf_pos hy, i43, i48, i92, i94, i97, i112, i113, i114, i115, i124, i125, i137, i139, i143, i155, i156, i157, i158, i159, i160, i163, i182, i195, i196, i197, i219, i220, i221, i222, i224, i232, i233, i240, i241, i250, i251, i261, i262, i279, i280]
theorem mulR_00 : runI i125 [iV false 0, iV false 0] = some [rZ] := by
  simp (maxSteps := 100000000) only [List.length_cons, List.length_nil, List.map_cons, List.map_nil, List.take_succ_cons, List.take_zero, List.drop_succ_cons, List.drop_zero, List.set_cons_zero, List.set_cons_succ, List.getElem?_cons_zero, List.getElem?_cons_succ, List.getElem?_nil, List.cons_append, List.nil_append, List.append_nil, Option.map_some, Option.map_none, Option.bind_some, Option.bind_none, ↓reduceIte, Nat.reduceBEq, Nat.reduceEqDiff, Nat.reducePow, Nat.blt, Nat.ble_eq, Nat.reduceLeDiff, Nat.reduceSucc, Nat.reduceAdd, Nat.reduceSub, Nat.reduceMul, Nat.reduceDiv, Nat.reduceMod, Nat.reduceLT, and_self, and_true, true_and, List.elem_nil, Bool.false_eq_true, oN_lt, oN_le, oN_gt, oN_ge, oN_beq, oN_bne, oN_sub, decide_true, decide_false, Nat.mul_one, Nat.one_mul, Nat.add_zero, Nat.zero_add, Nat.le_refl, not_true_eq_false, not_false_eq_true, Bool.not_true, Bool.not_false, bne_self_eq_false, beq_self_eq_true, Bool.and_self, Bool.and_true, Bool.true_and, Bool.and_false, Bool.false_and, IntKind.bits, Nat.lt_irrefl, loopN, evRf, evRs, mkRes, allT1, closeD, toVs, toV1, toV1s, fz, fzL, canon, fuelZ, fnOf, callB', callB, addS, ptrT, toT, setSeg, evIxS, evIxR, evPart, evAt, evExtract, evStore, evO, evAppend, evCopy, rowOf, blkW, intV_of, lim64, limu64, limu32, bM, V1.t1, evFn, evCode, Ft.tb, Ft.fn, tI, callN, inArgs, nilsT, setN, runR, stepO, wantO, kd, evA, evR, evOd, nth, cellsT, setO, okLo, evOff, offD, wi, evLd, blkOf, cellsAt, partT, evLen, magOf_zero, natT, plainT, plainD, evPk, ev2, ev1, vecT, pv, bi_add, bi_sub, bi_mul, bi_quo, bi_rem, bi_eql, bi_neq, bi_lss, bi_leq, bi_gtr, bi_geq, bi_and, bi_or32, bi_xor, List.filter_cons, List.filter_nil, List.elem_cons, nat_beq, i64_m1, Nat.reduceBNe, Option.isSome_some, Option.isSome_none, evSlc, evCap, evNilS, isNilT, boolT, evBslF, bsCells, unC, List.isEmpty_cons, List.isEmpty_nil, false_and, and_false, Nat.not_lt_zero, nS_beq, nS_bne, nS_lt, nS_le, nS_gt, nS_ge, notIn, nthI, List.any_nil, List.any_cons, Bool.false_or, Bool.or_false, Bool.or_true, Bool.true_or, Bool.or_self, Nat.min_def, Nat.sub_zero, Nat.zero_le, Nat.sub_self, cast_oN, si_shl, si_shr, b_ft, b_tf, n_ft, n_tf, n_ff, n_tt, wrap_if, wrap_i64, wrap_u32, wrap_u64, List.not_mem_nil, List.mem_cons, or_false, false_or, ofVal, ofL, packT, isCell, row0, row1, row2, row3, evPick, evSlc3, optNat, evBld, fillD, mapO, zipI, slOf, sI, isNegI, absI, runI, i43, i48, i92, i94, i97, i112, i113, i114, i115, i124, i125, i137, i139, i143, i155, i156, i157, i158, i159, i160, i163, i182, i195, i196, i197, i219, i220, i221, i222, i224, i232, i233, i240, i241, i250, i251, i261, i262, i279, i280]
theorem nMul_125 {k : Cls} : Con Tryz.prog k 125 nMul := by
  refine con_nat2 (runI_con i125_ok) fun x y fx fy fxy => ?_
  unfold Fit mulI at *
  rcases sgn_cases x with rfl | ⟨b1, n1, p1, rfl⟩ <;> rcases sgn_cases y with rfl | ⟨b2, n2, p2, rfl⟩
  · exact ⟨_, mulR_00, isI_zero⟩
  · rw [sI_mkS b2 p2, Int.zero_mul]
    exact ⟨_, mulR_0 b2 p2, isI_zero⟩
  · rw [sI_mkS b1 p1, Int.mul_zero]
    exact ⟨_, mulR_0' b1 p1, isI_zero⟩
  · rw [mkS_mul, abs_mkS] at fxy
    rw [abs_mkS] at fx fy
    rw [sI_mkS b1 p1, sI_mkS b2 p2, mkS_mul]
    exact ⟨_, mulR_run b1 b2 p1 p2 fxy fx fy, isI_pos _ (Nat.mul_pos p1 p2) fxy⟩
end Go.Proofs.YtcejidongpkpoaaGreat
namespace Go.Proofs.YtcejidongpkpoaaGreat
open Go Go.Mach Go.Flow
set_option maxRecDepth 100000
set_option maxHeartbeats 4000000

theorem addR_same (b : Bool) {x y : Nat} (hx : 0 < x) (hy : 0 < y) (h : x + y < 4294967296) : runI i124 [iV b x, iV b y] = some [rV b (x + y)] := by
  have h0 : (x + y == 0) = false := by simp only [beq_eq_false_iff_ne, ne_eq]; omega
  have h2 : x + y < 18446744073709551616 := by omega
  have hx2 : x < 18446744073709551616 := by omega
  have hy2 : y < 18446744073709551616 := by omega
  cases b <;> simp (maxSteps := 100000000) only [List.length_cons, List.length_nil, List.map_cons, List.map_nil, List.take_succ_cons, List.take_zero, List.drop_succ_cons, List.drop_zero, List.set_cons_zero, List.set_cons_succ, List.getElem?_cons_zero, List.getElem?_cons_succ, List.getElem?_nil, List.cons_append, List.nil_append, List.append_nil, Option.map_some, Option.map_none, Option.bind_some, Option.bind_none, ↓reduceIte, Nat.reduceBEq, Nat.reduceEqDiff, Nat.reducePow, Nat.blt, Nat.ble_eq, Nat.reduceLeDiff, Nat.reduceSucc, Nat.reduceAdd, Nat.reduceSub, Nat.reduceMul, Nat.reduceDiv, Nat.reduceMod, Nat.reduceLT, and_self, and_true, true_and, List.elem_nil, Bool.false_eq_true, oN_lt, oN_le, oN_gt, oN_ge, oN_beq, oN_bne, oN_sub, decide_true, decide_false, Nat.mul_one, Nat.one_mul, Nat.add_zero, Nat.zero_add, Nat.le_refl, not_true_eq_false, not_false_eq_true, Bool.not_true, Bool.not_false, bne_self_eq_false, beq_self_eq_true, Bool.and_self, Bool.and_true, Bool.true_and, Bool.and_false, Bool.false_and, IntKind.bits, Nat.lt_irrefl, loopN, evRf, evRs, mkRes, allT1, closeD, toVs, toV1, toV1s, fz, fzL, canon, fuelZ, fnOf, callB', callB, addS, ptrT, toT, setSeg, evIxS, evIxR, evPart, evAt, evExtract, evStore, evO, evAppend, evCopy, rowOf, blkW, intV_of, lim64, limu64, limu32, bM, V1.t1, evFn, evCode, Ft.tb, Ft.fn, tI, callN, inArgs, nilsT, setN, runR, stepO, wantO, kd, evA, evR, evOd, nth, cellsT, setO, okLo, evOff, offD, wi, evLd, blkOf, cellsAt, partT, evLen, magOf_zero, natT, plainT, plainD, evPk, ev2, ev1, vecT, pv, bi_add, bi_sub, bi_mul, bi_quo, bi_rem, bi_eql, bi_neq, bi_lss, bi_leq, bi_gtr, bi_geq, bi_and, bi_or32, bi_xor, List.filter_cons, List.filter_nil, List.elem_cons, nat_beq, i64_m1, Nat.reduceBNe, Option.isSome_some, Option.isSome_none, evSlc, evCap, evNilS, isNilT, boolT, evBslF, bsCells, unC, List.isEmpty_cons, List.isEmpty_nil, false_and, and_false, Nat.not_lt_zero, nS_beq, nS_bne, nS_lt, nS_le, nS_gt, nS_ge, notIn, nthI, List.any_nil, List.any_cons, Bool.false_or, Bool.or_false, Bool.or_true, Bool.true_or, Bool.or_self, Nat.min_def, Nat.sub_zero, Nat.zero_le, Nat.sub_self, cast_oN, si_shl, si_shr, b_ft, b_tf, n_ft, n_tf, n_ff, n_tt, wrap_if, wrap_i64, wrap_u32, wrap_u64, List.not_mem_nil, List.mem_cons, or_false, false_or, ofVal, ofL, packT, isCell, row0, row1, row2, row3, evPick, evSlc3, optNat, evBld, fillD, mapO, zipI, slOf, sI, isNegI, absI, runI, h0, magOf_pos hx, magOf_pos hy, h, h2, hx2, hy2, Nat.div_eq_of_lt h, Nat.mod_eq_of_lt h, i43, i48, i92, i94, i97, i112, i113, i114, i115, i124, i125, i137, i139, i143, i155, i156, i157, i158, i159, i160, i163, i182, i195, i196, i197, i219, i220, i221, i222, i224, i232, i233, i240, i241, i250, i251, i261, i262, i279, i280]
theorem addR_lt (b : Bool) {x y : Nat} (hx : 0 < x) (hy : 0 < y) (h : x < y) (h1 : y < 4294967296) : runI i124 [iV b x, iV (!b) y] = some [rV (!b) (y - x)] := by
  have h0 : (y - x == 0) = false := by simp only [beq_eq_false_iff_ne, ne_eq]; omega
  have hle : x ≤ y := by omega
  have hn : (x != y) = true := by simp only [bne_iff_ne, ne_eq]; omega
  have hx2 : x < 9223372036854775808 := by omega
  have hy2 : y < 9223372036854775808 := by omega
  have hd : y - x < 9223372036854775808 := by omega
  have hd2 : y - x < 4294967296 := by omega
  cases b <;> simp (maxSteps := 100000000) only [List.length_cons, List.length_nil, List.map_cons, List.map_nil, List.take_succ_cons, List.take_zero, List.drop_succ_cons, List.drop_zero, List.set_cons_zero, List.set_cons_succ, List.getElem?_cons_zero, List.getElem?_cons_succ, List.getElem?_nil, List.cons_append, List.nil_append, List.append_nil, Option.map_some, Option.map_none, Option.bind_some, Option.bind_none, ↓reduceIte, Nat.reduceBEq, Nat.reduceEqDiff, Nat.reducePow, Nat.blt, Nat.ble_eq, Nat.reduceLeDiff, Nat.reduceSucc, Nat.reduceAdd, Nat.reduceSub, Nat.reduceMul, Nat.reduceDiv, Nat.reduceMod, Nat.reduceLT, and_self, and_true, true_and, List.elem_nil, Bool.false_eq_true, oN_lt, oN_le, oN_gt, oN_ge, oN_beq, oN_bne, oN_sub, decide_true, decide_false, Nat.mul_one, Nat.one_mul, Nat.add_zero, Nat.zero_add, Nat.le_refl, not_true_eq_false, not_false_eq_true, Bool.not_true, Bool.not_false, bne_self_eq_false, beq_self_eq_true, Bool.and_self, Bool.and_true, Bool.true_and, Bool.and_false, Bool.false_and, IntKind.bits, Nat.lt_irrefl, loopN, evRf, evRs, mkRes, allT1, closeD, toVs, toV1, toV1s, fz, fzL, canon, fuelZ, fnOf, callB', callB, addS, ptrT, toT, setSeg, evIxS, evIxR, evPart, evAt, evExtract, evStore, evO, evAppend, evCopy, rowOf, blkW, intV_of, lim64, limu64, limu32, bM, V1.t1, evFn, evCode, Ft.tb, Ft.fn, tI, callN, inArgs, nilsT, setN, runR, stepO, wantO, kd, evA, evR, evOd, nth, cellsT, setO, okLo, evOff, offD, wi, evLd, blkOf, cellsAt, partT, evLen, magOf_zero, natT, plainT, plainD, evPk, ev2, ev1, vecT, pv, bi_add, bi_sub, bi_mul, bi_quo, bi_rem, bi_eql, bi_neq, bi_lss, bi_leq, bi_gtr, bi_geq, bi_and, bi_or32, bi_xor, List.filter_cons, List.filter_nil, List.elem_cons, nat_beq, i64_m1, Nat.reduceBNe, Option.isSome_some, Option.isSome_none, evSlc, evCap, evNilS, isNilT, boolT, evBslF, bsCells, unC, List.isEmpty_cons, List.isEmpty_nil, false_and, and_false, Nat.not_lt_zero, nS_beq, nS_bne, nS_lt, nS_le, nS_gt, nS_ge, notIn, nthI, List.any_nil, List.any_cons, Bool.false_or, Bool.or_false, Bool.or_true, Bool.true_or, Bool.or_self, Nat.min_def, Nat.sub_zero, Nat.zero_le, Nat.sub_self, cast_oN, si_shl, si_shr, b_ft, b_tf, n_ft, n_tf, n_ff, n_tt, wrap_if, wrap_i64, wrap_u32, wrap_u64, List.not_mem_nil, List.mem_cons, or_false, false_or, ofVal, ofL, packT, isCell, row0, row1, row2, row3, evPick, evSlc3, optNat, evBld, fillD, mapO, zipI, slOf, sI, isNegI, absI, runI, h0, magOf_pos hx, magOf_pos hy, h, h1, hn, hx2, hy2, hd, hd2, oN_sub (Nat.zero_le y), oN_sub hle, i43, i48, i92, i94, i97, i112, i113, i114, i115, i124, i125, i137, i139, i143, i155, i156, i157, i158, i159, i160, i163, i182, i195, i196, i197, i219, i220, i221, i222, i224, i232, i233, i240, i241, i250, i251, i261, i262, i279, i280]
theorem addR_gt (b : Bool) {x y : Nat} (hx : 0 < x) (hy : 0 < y) (h : y < x) (h1 : x < 4294967296) : runI i124 [iV b x, iV (!b) y] = some [rV b (x - y)] := by
  have h0 : (x - y == 0) = false := by simp only [beq_eq_false_iff_ne, ne_eq]; omega
  have hle : y ≤ x := by omega
  have hf : (x < y) = False := eq_false (by omega)
  have hn : (x != y) = true := by simp only [bne_iff_ne, ne_eq]; omega
  have hx2 : x < 9223372036854775808 := by omega
  have hy2 : y < 9223372036854775808 := by omega
  have hd : x - y < 9223372036854775808 := by omega
  have hd2 : x - y < 4294967296 := by omega
  cases b <;> simp (maxSteps := 100000000) only [List.length_cons, List.length_nil, List.map_cons, List.map_nil, List.take_succ_cons, List.take_zero, List.drop_succ_cons, List.drop_zero, List.set_cons_zero, List.set_cons_succ, List.getElem?_cons_zero, List.getElem?_cons_succ, List.getElem?_nil, List.cons_append, List.nil_append, List.append_nil, Option.map_some, Option.map_none, Option.bind_some, Option.bind_none, ↓reduceIte, Nat.reduceBEq, Nat.reduceEqDiff, Nat.reducePow, Nat.blt, Nat.ble_eq, Nat.reduceLeDiff, Nat.reduceSucc, Nat.reduceAdd, Nat.reduceSub, Nat.reduceMul, Nat.reduceDiv, Nat.reduceMod, Nat.reduceLT, and_self, and_true, true_and, List.elem_nil, Bool.false_eq_true, oN_lt, oN_le, oN_gt, oN_ge, oN_beq, oN_bne, oN_sub, decide_true, decide_false, Nat.mul_one, Nat.one_mul, Nat.add_zero, Nat.zero_add, Nat.le_refl, not_true_eq_false, not_false_eq_true, Bool.not_true, Bool.not_false, bne_self_eq_false, beq_self_eq_true, Bool.and_self, Bool.and_true, Bool.true_and, Bool.and_false, Bool.false_and, IntKind.bits, Nat.lt_irrefl, loopN, evRf, evRs, mkRes, allT1, closeD, toVs, toV1, toV1s, fz, fzL, canon, fuelZ, fnOf, callB', callB, addS, ptrT, toT, setSeg, evIxS, evIxR, evPart, evAt, evExtract, evStore, evO, evAppend, evCopy, rowOf, blkW, intV_of, lim64, limu64, limu32, bM, V1.t1, evFn, evCode, Ft.tb, Ft.fn, tI, callN, inArgs, nilsT, setN, runR, stepO, wantO, kd, evA, evR, evOd, nth, cellsT, setO, okLo, evOff, offD, wi, evLd, blkOf, cellsAt, partT, evLen, magOf_zero, natT, plainT, plainD, evPk, ev2, ev1, vecT, pv, bi_add, bi_sub, bi_mul, bi_quo, bi_rem, bi_eql, bi_neq, bi_lss, bi_leq, bi_gtr, bi_geq, bi_and, bi_or32, bi_xor, List.filter_cons, List.filter_nil, List.elem_cons, nat_beq, i64_m1, Nat.reduceBNe, Option.isSome_some, Option.isSome_none, evSlc, evCap, evNilS, isNilT, boolT, evBslF, bsCells, unC, List.isEmpty_cons, List.isEmpty_nil, false_and, and_false, Nat.not_lt_zero, nS_beq, nS_bne, nS_lt, nS_le, nS_gt, nS_ge, notIn, nthI, List.any_nil, List.any_cons, Bool.false_or, Bool.or_false, Bool.or_true, Bool.true_or, Bool.or_self, Nat.min_def, Nat.sub_zero, Nat.zero_le, Nat.sub_self, cast_oN, si_shl, si_shr, b_ft, b_tf, n_ft, n_tf, n_ff, n_tt, wrap_if, wrap_i64, wrap_u32, wrap_u64, List.not_mem_nil, List.mem_cons, or_false, false_or, ofVal, ofL, packT, isCell, row0, row1, row2, row3, evPick, evSlc3, optNat, evBld, fillD, mapO, zipI, slOf, sI, isNegI, absI, runI, h0, magOf_pos hx, magOf_pos hy, h, h1, hf, hn, hx2, hy2, hd, hd2, oN_sub (Nat.zero_le x), oN_sub hle, i43, i48, i92, i94, i97, i112, i113, i114, i115, i124, i125, i137, i139, i143, i155, i156, i157, i158, i159, i160, i163, i182, i195, i196, i197, i219, i220, i221, i222, i224, i232, i233, i240, i241, i250, i251, i261, i262, i279, i280]
theorem addR_eq (b : Bool) {x : Nat} (hx : 0 < x) (h1 : x < 4294967296) : runI i124 [iV b x, iV (!b) x] = some [rZ] := by
  have hx2 : x < 9223372036854775808 := by omega
  cases b <;> simp (maxSteps := 100000000) only [List.length_cons, List.length_nil, List.map_cons, List.map_nil, List.take_succ_cons, List.take_zero, List.drop_succ_cons, List.drop_zero, List.set_cons_zero, List.set_cons_succ, List.getElem?_cons_zero, List.getElem?_cons_succ, List.getElem?_nil, List.cons_append, List.nil_append, List.append_nil, Option.map_some, Option.map_none, Option.bind_some, Option.bind_none, ↓reduceIte, Nat.reduceBEq, Nat.reduceEqDiff, Nat.reducePow, Nat.blt, Nat.ble_eq, Nat.reduceLeDiff, Nat.reduceSucc, Nat.reduceAdd, Nat.reduceSub, Nat.reduceMul, Nat.reduceDiv, Nat.reduceMod, Nat.reduceLT, and_self, and_true, true_and, List.elem_nil, Bool.false_eq_true, oN_lt, oN_le, oN_gt, oN_ge, oN_beq, oN_bne, oN_sub, decide_true, decide_false, Nat.mul_one, Nat.one_mul, Nat.add_zero, Nat.zero_add, Nat.le_refl, not_true_eq_false, not_false_eq_true, Bool.not_true, Bool.not_false, bne_self_eq_false, beq_self_eq_true, Bool.and_self, Bool.and_true, Bool.true_and, Bool.and_false, Bool.false_and, IntKind.bits, Nat.lt_irrefl, loopN, evRf, evRs, mkRes, allT1, closeD, toVs, toV1, toV1s, fz, fzL, canon, fuelZ, fnOf, callB', callB, addS, ptrT, toT, setSeg, evIxS, evIxR, evPart, evAt, evExtract, evStore, evO, evAppend, evCopy, rowOf, blkW, intV_of, lim64, limu64, limu32, bM, V1.t1, evFn, evCode, Ft.tb, Ft.fn, tI, callN, inArgs, nilsT, setN, runR, stepO, wantO, kd, evA, evR, evOd, nth, cellsT, setO, okLo, evOff, offD, wi, evLd, blkOf, cellsAt, partT, evLen, magOf_zero, natT, plainT, plainD, evPk, ev2, ev1, vecT, pv, bi_add, bi_sub, bi_mul, bi_quo, bi_rem, bi_eql, bi_neq, bi_lss, bi_leq, bi_gtr, bi_geq, bi_and, bi_or32, bi_xor, List.filter_cons, List.filter_nil, List.elem_cons, nat_beq, i64_m1, Nat.reduceBNe, Option.isSome_some, Option.isSome_none, evSlc, evCap, evNilS, isNilT, boolT, evBslF, bsCells, unC, List.isEmpty_cons, List.isEmpty_nil, false_and, and_false, Nat.not_lt_zero, nS_beq, nS_bne, nS_lt, nS_le, nS_gt, nS_ge, notIn, nthI, List.any_nil, List.any_cons, Bool.false_or, Bool.or_false, Bool.or_true, Bool.true_or, Bool.or_self, Nat.min_def, Nat.sub_zero, Nat.zero_le, Nat.sub_self, cast_oN, si_shl, si_shr, b_ft, b_tf, n_ft, n_tf, n_ff, n_tt, wrap_if, wrap_i64, wrap_u32, wrap_u64, List.not_mem_nil, List.mem_cons, or_false, false_or, ofVal, ofL, packT, isCell, row0, row1, row2, row3, evPick, evSlc3, optNat, evBld, fillD, mapO, zipI, slOf, sI, isNegI, absI, runI, magOf_pos hx, h1, hx2, oN_sub (Nat.zero_le x), oN_sub (Nat.le_refl x), i43, i48, i92, i94, i97, i112, i113, i114, i115, i124, i125, i137, i139, i143, i155, i156, i157, i158, i159, i160, i163, i182, i195, i196, i197, i219, i220, i221, i222, i224, i232, i233, i240, i241, i250, i251, i261, i262, i279, i280]
theorem addR_0y (b : Bool) {y : Nat} (hy : 0 < y) (h : y < 4294967296) : runI i124 [iV false 0, iV b y] = some [rV b y] := by
  have h0 : (y == 0) = false := by simp only [beq_eq_false_iff_ne, ne_eq]; omega
  have h2 : y < 18446744073709551616 := by omega
  have h3 : y < 9223372036854775808 := by omega
  cases b <;> simp (maxSteps := 100000000) only [List.length_cons, List.length_nil, List.map_cons, List.map_nil, List.take_succ_cons, List.take_zero, List.drop_succ_cons, List.drop_zero, List.set_cons_zero, List.set_cons_succ, List.getElem?_cons_zero, List.getElem?_cons_succ, List.getElem?_nil, List.cons_append, List.nil_append, List.append_nil, Option.map_some, Option.map_none, Option.bind_some, Option.bind_none, ↓reduceIte, Nat.reduceBEq, Nat.reduceEqDiff, Nat.reducePow, Nat.blt, Nat.ble_eq, Nat.reduceLeDiff, Nat.reduceSucc, Nat.reduceAdd, Nat.reduceSub, Nat.reduceMul, Nat.reduceDiv, Nat.reduceMod, Nat.reduceLT, and_self, and_true, true_and, List.elem_nil, Bool.false_eq_true, oN_lt, oN_le, oN_gt, oN_ge, oN_beq, oN_bne, oN_sub, decide_true, decide_false, Nat.mul_one, Nat.one_mul, Nat.add_zero, Nat.zero_add, Nat.le_refl, not_true_eq_false, not_false_eq_true, Bool.not_true, Bool.not_false, bne_self_eq_false, beq_self_eq_true, Bool.and_self, Bool.and_true, Bool.true_and, Bool.and_false, Bool.false_and, IntKind.bits, Nat.lt_irrefl, loopN, evRf, evRs, mkRes, allT1, closeD, toVs, toV1, toV1s, fz, fzL, canon, fuelZ, fnOf, callB', callB, addS, ptrT, toT, setSeg, evIxS, evIxR, evPart, evAt, evExtract, evStore, evO, evAppend, evCopy, rowOf, blkW, intV_of, lim64, limu64, limu32, bM, V1.t1, evFn, evCode, Ft.tb, Ft.fn, tI, callN, inArgs, nilsT, setN, runR, stepO, wantO, kd, evA, evR, evOd, nth, cellsT, setO, okLo, evOff, offD, wi, evLd, blkOf, cellsAt, partT, evLen, magOf_zero, natT, plainT, plainD, evPk, ev2, ev1, vecT, pv, bi_add, bi_sub, bi_mul, bi_quo, bi_rem, bi_eql, bi_neq, bi_lss, bi_leq, bi_gtr, bi_geq, bi_and, bi_or32, bi_xor, List.filter_cons, List.filter_nil, List.elem_cons, nat_beq, i64_m1, Nat.reduceBNe, Option.isSome_some, Option.isSome_none, evSlc, evCap, evNilS, isNilT, boolT, evBslF, bsCells, unC, List.isEmpty_cons, List.isEmpty_nil, false_and, and_false, Nat.not_lt_zero, nS_beq, nS_bne, nS_lt, nS_le, nS_gt, nS_ge, notIn, nthI, List.any_nil, List.any_cons, Bool.false_or, Bool.or_false, Bool.or_true, Bool.true_or, Bool.or_self, Nat.min_def, Nat.sub_zero, Nat.zero_le, Nat.sub_self, cast_oN, si_shl, si_shr, b_ft, b_tf, n_ft, n_tf, n_ff, n_tt, wrap_if, wrap_i64, wrap_u32, wrap_u64, List.not_mem_nil, List.mem_cons, or_false, false_or, ofVal, ofL, packT, isCell, row0, row1, row2, row3, evPick, evSlc3, optNat, evBld, fillD, mapO, zipI, slOf, sI, isNegI, absI, runI, h0, magOf_pos hy, h, h2, h3, Nat.div_eq_of_lt h, oN_sub (Nat.zero_le y), i43, i48, i92, i94, i97, i112, i113, i114, i115, i124, i125, i137, i139, i143, i155, i156, i157, i158, i159, i160, i163, i182, i195, i196, i197, i219, i220, i221, i222, i224, i232, i233, i240, i241, i250, i251, i261, i262, i279, i280]
theorem addR_x0 (b : Bool) {y : Nat} (hy : 0 < y) (h : y < 4294967296) : runI i124 [iV b y, iV false 0] = some [rV b y] := by
  have h0 : (y == 0) = false := by simp only [beq_eq_false_iff_ne, ne_eq]; omega
  have h2 : y < 18446744073709551616 := by omega
  have h3 : y < 9223372036854775808 := by omega
  cases b <;> simp (maxSteps := 100000000) only [List.length_cons, List.length_nil, List.map_cons, List.map_nil, List.take_succ_cons, List.take_zero, List.drop_succ_cons, List.drop_zero, List.set_cons_zero, List.set_cons_succ, List.getElem?_cons_zero, List.getElem?_cons_succ, List.getElem?_nil, List.cons_append, List.nil_append, List.append_nil, Option.map_some, Option.map_none, Option.bind_some, Option.bind_none, ↓reduceIte, Nat.reduceBEq, Nat.reduceEqDiff, Nat.reducePow, Nat.blt, Nat.ble_eq, Nat.reduceLeDiff, Nat.reduceSucc, Nat.reduceAdd, Nat.reduceSub, Nat.reduceMul, Nat.reduceDiv, Nat.reduceMod, Nat.reduceLT, and_self, and_true, true_and, List.elem_nil, Bool.false_eq_true, oN_lt, oN_le, oN_gt, oN_ge, oN_beq, oN_bne, oN_sub, decide_true, decide_false, Nat.mul_one, Nat.one_mul, Nat.add_zero, Nat.zero_add, Nat.le_refl, not_true_eq_false, not_false_eq_true, Bool.not_true, Bool.not_false, bne_self_eq_false, beq_self_eq_true, Bool.and_self, Bool.and_true, Bool.true_and, Bool.and_false, Bool.false_and, IntKind.bits, Nat.lt_irrefl, loopN, evRf, evRs, mkRes, allT1, closeD, toVs, toV1, toV1s, fz, fzL, canon, fuelZ, fnOf, callB', callB, addS, ptrT, toT, setSeg, evIxS, evIxR, evPart, evAt, evExtract, evStore, evO, evAppend, evCopy, rowOf, blkW, intV_of, lim64, limu64, limu32, bM, V1.t1, evFn, evCode, Ft.tb, Ft.fn, tI, callN, inArgs, nilsT, setN, runR, stepO, wantO, kd, evA, evR, evOd, nth, cellsT, setO, okLo, evOff, offD, wi, evLd, blkOf, cellsAt, partT, evLen, magOf_zero, natT, plainT, plainD, evPk, ev2, ev1, vecT, pv, bi_add, bi_sub, bi_mul, bi_quo, bi_rem, bi_eql, bi_neq, bi_lss, bi_leq, bi_gtr, bi_geq, bi_and, bi_or32, bi_xor, List.filter_cons, List.filter_nil, List.elem_cons, nat_beq, i64_m1, Nat.reduceBNe, Option.isSome_some, Option.isSome_none, evSlc, evCap, evNilS, isNilT, boolT, evBslF, bsCells, unC, List.isEmpty_cons, List.isEmpty_nil, false_and, and_false, Nat.not_lt_zero, nS_beq, nS_bne, nS_lt, nS_le, nS_gt, nS_ge, notIn, nthI, List.any_nil, List.any_cons, Bool.false_or, Bool.or_false, Bool.or_true, Bool.true_or, Bool.or_self, Nat.min_def, Nat.sub_zero, Nat.zero_le, Nat.sub_self, cast_oN, si_shl, si_shr, b_ft, b_tf, n_ft, n_tf, n_ff, n_tt, wrap_if, wrap_i64, wrap_u32, wrap_u64, List.not_mem_nil, List.mem_cons, or_false, false_or, ofVal, ofL, packT, isCell, row0, row1, row2, row3, evPick, evSlc3, optNat, evBld, fillD, mapO, zipI, slOf, sI, isNegI, absI, runI, h0, magOf_pos hy, h, h2, h3, Nat.div_eq_of_lt h, oN_sub (Nat.zero_le y), i43, i48, i92, i94, i97, i112, i113, i114, i115, i124, i125, i137, i139, i143, i155, i156, i157, i158, i159, i160, i163, i182, i195, i196, i197, i219, i220, i221, i222, i224, i232, i233, i240, i241, i250, i251, i261, i262, i279, i280]
theorem addR_00 : runI i124 [iV false 0, iV false 0] = some [rZ] := by
  simp (maxSteps := 100000000) only [List.length_cons, List.length_nil, List.map_cons, List.map_nil, List.take_succ_cons, List.take_zero, List.drop_succ_cons, List.drop_zero, List.set_cons_zero, List.set_cons_succ, List.getElem?_cons_zero, List.getElem?_cons_succ, List.getElem?_nil, List.cons_append, List.nil_append, List.append_nil, Option.map_some, Option.map_none, Option.bind_some, Option.bind_none, ↓reduceIte, Nat.reduceBEq, Nat.reduceEqDiff, Nat.reducePow, Nat.blt, Nat.ble_eq, Nat.reduceLeDiff, Nat.reduceSucc, Nat.reduceAdd, Nat.reduceSub, Nat.reduceMul, Nat.reduceDiv, Nat.reduceMod, Nat.reduceLT, and_self, and_true, true_and, List.elem_nil, Bool.false_eq_true, oN_lt, oN_le, oN_gt, oN_ge, oN_beq, oN_bne, oN_sub, decide_true, decide_false, Nat.mul_one, Nat.one_mul, Nat.add_zero, Nat.zero_add, Nat.le_refl, not_true_eq_false, not_false_eq_true, Bool.not_true, Bool.not_false, bne_self_eq_false, beq_self_eq_true, Bool.and_self, Bool.and_true, Bool.true_and, Bool.and_false, Bool.false_and, IntKind.bits, Nat.lt_irrefl, loopN, evRf, evRs, mkRes, allT1, closeD, toVs, toV1, toV1s, fz, fzL, canon, fuelZ, fnOf, callB', callB, addS, ptrT, toT, setSeg, evIxS, evIxR, evPart, evAt, evExtract, evStore, evO, evAppend, evCopy, rowOf, blkW, intV_of, lim64, limu64, limu32, bM, V1.t1, evFn, evCode, Ft.tb, Ft.fn, tI, callN, inArgs, nilsT, setN, runR, stepO, wantO, kd, evA, evR, evOd, nth, cellsT, setO, okLo, evOff, offD, wi, evLd, blkOf, cellsAt, partT, evLen, magOf_zero, natT, plainT, plainD, evPk, ev2, ev1, vecT, pv, bi_add, bi_sub, bi_mul, bi_quo, bi_rem, bi_eql, bi_neq, bi_lss, bi_leq, bi_gtr, bi_geq, bi_and, bi_or32, bi_xor, List.filter_cons, List.filter_nil, List.elem_cons, nat_beq, i64_m1, Nat.reduceBNe, Option.isSome_some, Option.isSome_none, evSlc, evCap, evNilS, isNilT, boolT, evBslF, bsCells, unC, List.isEmpty_cons, List.isEmpty_nil, false_and, and_false, Nat.not_lt_zero, nS_beq, nS_bne, nS_lt, nS_le, nS_gt, nS_ge, notIn, nthI, List.any_nil, List.any_cons, Bool.false_or, Bool.or_false, Bool.or_true, Bool.true_or, Bool.or_self, Nat.min_def, Nat.sub_zero, Nat.zero_le, Nat.sub_self, cast_oN, si_shl, si_shr, b_ft, b_tf, n_ft, n_tf, n_ff, n_tt, wrap_if, wrap_i64, wrap_u32, wrap_u64, List.not_mem_nil, List.mem_cons, or_false, false_or, ofVal, ofL, packT, isCell, row0, row1, row2, row3, evPick, evSlc3, optNat, evBld, fillD, mapO, zipI, slOf, sI, isNegI, absI, runI, i43, i48, i92, i94, i97, i112, i113, i114, i115, i124, i125, i137, i139, i143, i155, i156, i157, i158, i159, i160, i163, i182, i195, i196, i197, i219, i220, i221, i222, i224, i232, i233, i240, i241, i250, i251, i261, i262, i279, i280]

theorem addR_H (x y : Int) (fx : Fit x) (fy : Fit y) (fxy : Fit (x + y)) : ∃ r, runI i124 [sI x, sI y] = some [r] ∧ IsI r (x + y) := by
  unfold Fit at *
  rcases sgn_cases x with rfl | ⟨b1, n1, p1, rfl⟩ <;> rcases sgn_cases y with rfl | ⟨b2, n2, p2, rfl⟩
  · exact ⟨_, addR_00, isI_zero⟩
  · rw [abs_mkS] at fy
    rw [sI_mkS b2 p2, Int.zero_add]
    exact ⟨_, addR_0y b2 p2 fy, isI_pos _ p2 fy⟩
  · rw [abs_mkS] at fx
    rw [sI_mkS b1 p1, Int.add_zero]
    exact ⟨_, addR_x0 b1 p1 fx, isI_pos _ p1 fx⟩
  · rw [abs_mkS] at fx fy
    rw [sI_mkS b1 p1, sI_mkS b2 p2]
    by_cases hb : b1 = b2
    · subst hb
      have e : mkS b1 n1 + mkS b1 n2 = mkS b1 (n1 + n2) := by cases b1 <;> simp [mkS] <;> omega
      rw [e, abs_mkS] at fxy
      rw [e]
      exact ⟨_, addR_same b1 p1 p2 fxy, isI_pos _ (by omega) fxy⟩
    · obtain rfl := bool_ne hb
      rcases Nat.lt_trichotomy n1 n2 with h | h | h
      · have e : mkS b1 n1 + mkS (!b1) n2 = mkS (!b1) (n2 - n1) := by cases b1 <;> simp [mkS] <;> omega
        rw [e]
        exact ⟨_, addR_lt b1 p1 p2 h fy, isI_pos _ (by omega) (by omega)⟩
      · subst h
        have e : mkS b1 n1 + mkS (!b1) n1 = 0 := by cases b1 <;> simp [mkS] <;> omega
        rw [e]
        exact ⟨_, addR_eq b1 p1 fx, isI_zero⟩
      · have e : mkS b1 n1 + mkS (!b1) n2 = mkS b1 (n1 - n2) := by cases b1 <;> simp [mkS] <;> omega
        rw [e]
        exact ⟨_, addR_gt b1 p1 p2 h fx, isI_pos _ (by omega) (by omega)⟩
theorem nAdd_124 {k : Cls} : Con Tryz.prog k 124 nAdd := con_nat2 (runI_con i124_ok) addR_H
end Go.Proofs.YtcejidongpkpoaaGreat
namespace Go.Proofs.YtcejidongpkpoaaGreat
open Go Go.Mach Go.Flow
set_option maxRecDepth 100000
set_option maxHeartbeats 4000000

abbrev eZ : V1 := .one (.v (.int .i64 (Int.ofNat 0)))
theorem dm_0 (b : Bool) {y : Nat} (hy : 0 < y) : runI i156 [iV false 0, iV b y] = some [rZ, rZ, eZ] := by
  cases b <;> simp (maxSteps := 100000000) only [List.length_cons, List.length_nil, List.map_cons, List.map_nil, List.take_succ_cons, List.take_zero, List.drop_succ_cons, List.drop_zero, List.set_cons_zero, List.set_cons_succ, List.getElem?_cons_zero, List.getElem?_cons_succ, List.getElem?_nil, List.cons_append, List.nil_append, List.append_nil, Option.map_some, Option.map_none, Option.bind_some, Option.bind_none, ↓reduceIte, Nat.reduceBEq, Nat.reduceEqDiff, Nat.reducePow, Nat.blt, Nat.ble_eq, Nat.reduceLeDiff, Nat.reduceSucc, Nat.reduceAdd, Nat.reduceSub, Nat.reduceMul, Nat.reduceDiv, Nat.reduceMod, Nat.reduceLT, and_self, and_true, true_and, List.elem_nil, Bool.false_eq_true, oN_lt, oN_le, oN_gt, oN_ge, oN_beq, oN_bne, oN_sub, decide_true, decide_false, Nat.mul_one, Nat.one_mul, Nat.add_zero, Nat.zero_add, Nat.le_refl, not_true_eq_false, not_false_eq_true, Bool.not_true, Bool.not_false, bne_self_eq_false, beq_self_eq_true, Bool.and_self, Bool.and_true, Bool.true_and, Bool.and_false, Bool.false_and, IntKind.bits, Nat.lt_irrefl, loopN, evRf, evRs, mkRes, allT1, closeD, toVs, toV1, toV1s, fz, fzL, canon, fuelZ, fnOf, callB', callB, addS, ptrT, toT, setSeg, evIxS, evIxR, evPart, evAt, evExtract, evStore, evO, evAppend, evCopy, rowOf, blkW, intV_of, lim64, limu64, limu32, bM, V1.t1, evFn, evCode, Ft.tb, Ft.fn, tI, callN, inArgs, nilsT, setN, runR, stepO, wantO, kd, evA, evR, evOd, nth, cellsT, setO, okLo, evOff, offD, wi, evLd, blkOf, cellsAt, partT, evLen, magOf_zero, natT, plainT, plainD, evPk, ev2, ev1, vecT, pv, bi_add, bi_sub, bi_mul, bi_quo, bi_rem, bi_eql, bi_neq, bi_lss, bi_leq, bi_gtr, bi_geq, bi_and, bi_or32, bi_xor, List.filter_cons, List.filter_nil, List.elem_cons, nat_beq, i64_m1, Nat.reduceBNe, Option.isSome_some, Option.isSome_none, evSlc, evCap, evNilS, isNilT, boolT, evBslF, bsCells, unC, List.isEmpty_cons, List.isEmpty_nil, false_and, and_false, Nat.not_lt_zero, nS_beq, nS_bne, nS_lt, nS_le, nS_gt, nS_ge, notIn, nthI, List.any_nil, List.any_cons, Bool.false_or, Bool.or_false, Bool.or_true, Bool.true_or, Bool.or_self, Nat.min_def, Nat.sub_zero, Nat.zero_le, Nat.sub_self, cast_oN, si_shl, si_shr, b_ft, b_tf, n_ft, n_tf, n_ff, n_tt, wrap_if, wrap_i64, wrap_u32, wrap_u64, List.not_mem_nil, List.mem_cons, or_false, false_or, ofVal, ofL, packT, isCell, row0, row1, row2, row3, evPick, evSlc3, optNat, evBld, fillD, mapO, zipI, slOf, sI, isNegI, absI, runI, isEmp_0, cloneM, magOf_pos hy, i43, i48, i92, i94, i97, i112, i113, i114, i115, i124, i125, i137, i139, i143, i155, i156, i157, i158, i159, i160, i163, i182, i195, i196, i197, i219, i220, i221, i222, i224, i232, i233, i240, i241, i250, i251, i261, i262, i279, i280]
theorem dm_lt (b1 b2 : Bool) {x y : Nat} (hx : 0 < x) (hy : 0 < y) (h : x < y) (h1 : y < 4294967296) :
    runI i156 [iV b1 x, iV b2 y] = some [if b1 then rV (b1 != b2) 1 else rZ, if b1 then rV false (y - x) else .agg [.v (.bool false), .sl 1 [.vec [.int .u32 (Int.ofNat x)]]], eZ] := by
  have h0 : (x != 0) = true := by simp only [bne_iff_ne, ne_eq]; omega
  have h2 : (y - x != 0) = true := by simp only [bne_iff_ne, ne_eq]; omega
  have hm : (y - x) % 4294967296 = y - x := Nat.mod_eq_of_lt (by omega)
  have hle : x ≤ y := by omega
  cases b1 <;> cases b2 <;> simp (maxSteps := 100000000) only [List.length_cons, List.length_nil, List.map_cons, List.map_nil, List.take_succ_cons, List.take_zero, List.drop_succ_cons, List.drop_zero, List.set_cons_zero, List.set_cons_succ, List.getElem?_cons_zero, List.getElem?_cons_succ, List.getElem?_nil, List.cons_append, List.nil_append, List.append_nil, Option.map_some, Option.map_none, Option.bind_some, Option.bind_none, ↓reduceIte, Nat.reduceBEq, Nat.reduceEqDiff, Nat.reducePow, Nat.blt, Nat.ble_eq, Nat.reduceLeDiff, Nat.reduceSucc, Nat.reduceAdd, Nat.reduceSub, Nat.reduceMul, Nat.reduceDiv, Nat.reduceMod, Nat.reduceLT, and_self, and_true, true_and, List.elem_nil, Bool.false_eq_true, oN_lt, oN_le, oN_gt, oN_ge, oN_beq, oN_bne, oN_sub, decide_true, decide_false, Nat.mul_one, Nat.one_mul, Nat.add_zero, Nat.zero_add, Nat.le_refl, not_true_eq_false, not_false_eq_true, Bool.not_true, Bool.not_false, bne_self_eq_false, beq_self_eq_true, Bool.and_self, Bool.and_true, Bool.true_and, Bool.and_false, Bool.false_and, IntKind.bits, Nat.lt_irrefl, loopN, evRf, evRs, mkRes, allT1, closeD, toVs, toV1, toV1s, fz, fzL, canon, fuelZ, fnOf, callB', callB, addS, ptrT, toT, setSeg, evIxS, evIxR, evPart, evAt, evExtract, evStore, evO, evAppend, evCopy, rowOf, blkW, intV_of, lim64, limu64, limu32, bM, V1.t1, evFn, evCode, Ft.tb, Ft.fn, tI, callN, inArgs, nilsT, setN, runR, stepO, wantO, kd, evA, evR, evOd, nth, cellsT, setO, okLo, evOff, offD, wi, evLd, blkOf, cellsAt, partT, evLen, magOf_zero, natT, plainT, plainD, evPk, ev2, ev1, vecT, pv, bi_add, bi_sub, bi_mul, bi_quo, bi_rem, bi_eql, bi_neq, bi_lss, bi_leq, bi_gtr, bi_geq, bi_and, bi_or32, bi_xor, List.filter_cons, List.filter_nil, List.elem_cons, nat_beq, i64_m1, Nat.reduceBNe, Option.isSome_some, Option.isSome_none, evSlc, evCap, evNilS, isNilT, boolT, evBslF, bsCells, unC, List.isEmpty_cons, List.isEmpty_nil, false_and, and_false, Nat.not_lt_zero, nS_beq, nS_bne, nS_lt, nS_le, nS_gt, nS_ge, notIn, nthI, List.any_nil, List.any_cons, Bool.false_or, Bool.or_false, Bool.or_true, Bool.true_or, Bool.or_self, Nat.min_def, Nat.sub_zero, Nat.zero_le, Nat.sub_self, cast_oN, si_shl, si_shr, b_ft, b_tf, n_ft, n_tf, n_ff, n_tt, wrap_if, wrap_i64, wrap_u32, wrap_u64, List.not_mem_nil, List.mem_cons, or_false, false_or, ofVal, ofL, packT, isCell, row0, row1, row2, row3, evPick, evSlc3, optNat, evBld, fillD, mapO, zipI, slOf, sI, isNegI, absI, runI, isEmp_pos hx, cloneM, h0, h2, hm, magOf_pos hx, magOf_pos hy, h, h1, oN_sub hle, i43, i48, i92, i94, i97, i112, i113, i114, i115, i124, i125, i137, i139, i143, i155, i156, i157, i158, i159, i160, i163, i182, i195, i196, i197, i219, i220, i221, i222, i224, i232, i233, i240, i241, i250, i251, i261, i262, i279, i280]
end Go.Proofs.YtcejidongpkpoaaGreat
namespace Go.Proofs.YtcejidongpkpoaaGreat
open Go Go.Mach Go.Flow
set_option maxRecDepth 100000
set_option maxHeartbeats 4000000
abbrev eZb : V1 := .one (.v (.int .i64 (Int.ofNat 0)))
theorem dm_eq (b1 b2 : Bool) {x : Nat} (hx : 0 < x) (h1 : x < 4294967296) : runI i156 [iV b1 x, iV b2 x] = some [rV (b1 != b2) 1, rZ, eZb] := by
  have h0 : (x == 0) = false := by simp only [beq_eq_false_iff_ne, ne_eq]; omega
  have h2 : x < 18446744073709551616 := by omega
  have hq : x / x = 1 := Nat.div_self hx
  have hs : x % x = 0 := Nat.mod_self x
  cases b1 <;> cases b2 <;> simp (maxSteps := 100000000) only [List.length_cons, List.length_nil, List.map_cons, List.map_nil, List.take_succ_cons, List.take_zero, List.drop_succ_cons, List.drop_zero, List.set_cons_zero, List.set_cons_succ, List.getElem?_cons_zero, List.getElem?_cons_succ, List.getElem?_nil, List.cons_append, List.nil_append, List.append_nil, Option.map_some, Option.map_none, Option.bind_some, Option.bind_none, ↓reduceIte, Nat.reduceBEq, Nat.reduceEqDiff, Nat.reducePow, Nat.blt, Nat.ble_eq, Nat.reduceLeDiff, Nat.reduceSucc, Nat.reduceAdd, Nat.reduceSub, Nat.reduceMul, Nat.reduceDiv, Nat.reduceMod, Nat.reduceLT, and_self, and_true, true_and, List.elem_nil, Bool.false_eq_true, oN_lt, oN_le, oN_gt, oN_ge, oN_beq, oN_bne, oN_sub, decide_true, decide_false, Nat.mul_one, Nat.one_mul, Nat.add_zero, Nat.zero_add, Nat.le_refl, not_true_eq_false, not_false_eq_true, Bool.not_true, Bool.not_false, bne_self_eq_false, beq_self_eq_true, Bool.and_self, Bool.and_true, Bool.true_and, Bool.and_false, Bool.false_and, IntKind.bits, Nat.lt_irrefl, loopN, evRf, evRs, mkRes, allT1, closeD, toVs, toV1, toV1s, fz, fzL, canon, fuelZ, fnOf, callB', callB, addS, ptrT, toT, setSeg, evIxS, evIxR, evPart, evAt, evExtract, evStore, evO, evAppend, evCopy, rowOf, blkW, intV_of, lim64, limu64, limu32, bM, V1.t1, evFn, evCode, Ft.tb, Ft.fn, tI, callN, inArgs, nilsT, setN, runR, stepO, wantO, kd, evA, evR, evOd, nth, cellsT, setO, okLo, evOff, offD, wi, evLd, blkOf, cellsAt, partT, evLen, magOf_zero, natT, plainT, plainD, evPk, ev2, ev1, vecT, pv, bi_add, bi_sub, bi_mul, bi_quo, bi_rem, bi_eql, bi_neq, bi_lss, bi_leq, bi_gtr, bi_geq, bi_and, bi_or32, bi_xor, List.filter_cons, List.filter_nil, List.elem_cons, nat_beq, i64_m1, Nat.reduceBNe, Option.isSome_some, Option.isSome_none, evSlc, evCap, evNilS, isNilT, boolT, evBslF, bsCells, unC, List.isEmpty_cons, List.isEmpty_nil, false_and, and_false, Nat.not_lt_zero, nS_beq, nS_bne, nS_lt, nS_le, nS_gt, nS_ge, notIn, nthI, List.any_nil, List.any_cons, Bool.false_or, Bool.or_false, Bool.or_true, Bool.true_or, Bool.or_self, Nat.min_def, Nat.sub_zero, Nat.zero_le, Nat.sub_self, cast_oN, si_shl, si_shr, b_ft, b_tf, n_ft, n_tf, n_ff, n_tt, wrap_if, wrap_i64, wrap_u32, wrap_u64, List.not_mem_nil, List.mem_cons, or_false, false_or, ofVal, ofL, packT, isCell, row0, row1, row2, row3, evPick, evSlc3, optNat, evBld, fillD, mapO, zipI, slOf, sI, isNegI, absI, runI,  h0, h1, h2, magOf_pos hx, bi_or64 h2, hq, hs, Nat.mod_eq_of_lt h2, i43, i48, i92, i94, i97, i112, i113, i114, i115, i124, i125, i137, i139, i143, i155, i156, i157, i158, i159, i160, i163, i182, i195, i196, i197, i219, i220, i221, i222, i224, i232, i233, i240, i241, i250, i251, i261, i262, i279, i280]
end Go.Proofs.YtcejidongpkpoaaGreat
namespace Go.Proofs.YtcejidongpkpoaaGreat
open Go Go.Mach Go.Flow
set_option maxRecDepth 100000
set_option maxHeartbeats 4000000
abbrev eZc : V1 := .one (.v (.int .i64 (Int.ofNat 0)))
theorem dm_gt0 (b1 b2 : Bool) {x y : Nat} (hx : 0 < x) (hy : 0 < y) (h : y < x) (h1 : x < 4294967296) (hs : x % y = 0) (h3 : 0 < x / y) (h4 : x / y < 4294967296) : runI i156 [iV b1 x, iV b2 y] = some [rV (b1 != b2) (x / y), rZ, eZc] := by
  have h0 : (y == 0) = false := by simp only [beq_eq_false_iff_ne, ne_eq]; omega
  have h2 : x < 18446744073709551616 := by omega
  have h2' : y < 18446744073709551616 := by omega
  have h5 : x / y < 18446744073709551616 := by omega
  have h6 : (x / y != 0) = true := by simp only [bne_iff_ne, ne_eq]; omega
  have hn : (x < y) = False := eq_false (by omega)
  cases b1 <;> cases b2 <;> simp (maxSteps := 100000000) only [List.length_cons, List.length_nil, List.map_cons, List.map_nil, List.take_succ_cons, List.take_zero, List.drop_succ_cons, List.drop_zero, List.set_cons_zero, List.set_cons_succ, List.getElem?_cons_zero, List.getElem?_cons_succ, List.getElem?_nil, List.cons_append, List.nil_append, List.append_nil, Option.map_some, Option.map_none, Option.bind_some, Option.bind_none, ↓reduceIte, Nat.reduceBEq, Nat.reduceEqDiff, Nat.reducePow, Nat.blt, Nat.ble_eq, Nat.reduceLeDiff, Nat.reduceSucc, Nat.reduceAdd, Nat.reduceSub, Nat.reduceMul, Nat.reduceDiv, Nat.reduceMod, Nat.reduceLT, and_self, and_true, true_and, List.elem_nil, Bool.false_eq_true, oN_lt, oN_le, oN_gt, oN_ge, oN_beq, oN_bne, oN_sub, decide_true, decide_false, Nat.mul_one, Nat.one_mul, Nat.add_zero, Nat.zero_add, Nat.le_refl, not_true_eq_false, not_false_eq_true, Bool.not_true, Bool.not_false, bne_self_eq_false, beq_self_eq_true, Bool.and_self, Bool.and_true, Bool.true_and, Bool.and_false, Bool.false_and, IntKind.bits, Nat.lt_irrefl, loopN, evRf, evRs, mkRes, allT1, closeD, toVs, toV1, toV1s, fz, fzL, canon, fuelZ, fnOf, callB', callB, addS, ptrT, toT, setSeg, evIxS, evIxR, evPart, evAt, evExtract, evStore, evO, evAppend, evCopy, rowOf, blkW, intV_of, lim64, limu64, limu32, bM, V1.t1, evFn, evCode, Ft.tb, Ft.fn, tI, callN, inArgs, nilsT, setN, runR, stepO, wantO, kd, evA, evR, evOd, nth, cellsT, setO, okLo, evOff, offD, wi, evLd, blkOf, cellsAt, partT, evLen, magOf_zero, natT, plainT, plainD, evPk, ev2, ev1, vecT, pv, bi_add, bi_sub, bi_mul, bi_quo, bi_rem, bi_eql, bi_neq, bi_lss, bi_leq, bi_gtr, bi_geq, bi_and, bi_or32, bi_xor, List.filter_cons, List.filter_nil, List.elem_cons, nat_beq, i64_m1, Nat.reduceBNe, Option.isSome_some, Option.isSome_none, evSlc, evCap, evNilS, isNilT, boolT, evBslF, bsCells, unC, List.isEmpty_cons, List.isEmpty_nil, false_and, and_false, Nat.not_lt_zero, nS_beq, nS_bne, nS_lt, nS_le, nS_gt, nS_ge, notIn, nthI, List.any_nil, List.any_cons, Bool.false_or, Bool.or_false, Bool.or_true, Bool.true_or, Bool.or_self, Nat.min_def, Nat.sub_zero, Nat.zero_le, Nat.sub_self, cast_oN, si_shl, si_shr, b_ft, b_tf, n_ft, n_tf, n_ff, n_tt, wrap_if, wrap_i64, wrap_u32, wrap_u64, List.not_mem_nil, List.mem_cons, or_false, false_or, ofVal, ofL, packT, isCell, row0, row1, row2, row3, evPick, evSlc3, optNat, evBld, fillD, mapO, zipI, slOf, sI, isNegI, absI, runI,  h, hn, h0, h1, h2, h2', h4, h5, h6, magOf_pos hx, magOf_pos hy, bi_or64 h2, hs, Nat.mod_eq_of_lt h2, i43, i48, i92, i94, i97, i112, i113, i114, i115, i124, i125, i137, i139, i143, i155, i156, i157, i158, i159, i160, i163, i182, i195, i196, i197, i219, i220, i221, i222, i224, i232, i233, i240, i241, i250, i251, i261, i262, i279, i280]
end Go.Proofs.YtcejidongpkpoaaGreat
namespace Go.Proofs.YtcejidongpkpoaaGreat
open Go Go.Mach Go.Flow
set_option maxRecDepth 100000
set_option maxHeartbeats 4000000
abbrev eZd : V1 := .one (.v (.int .i64 (Int.ofNat 0)))
theorem dm_gt (b2 : Bool) {x y : Nat} (hx : 0 < x) (hy : 0 < y) (h : y < x) (h1 : x < 4294967296) (hs : 0 < x % y) (hs1 : x % y < y) (h3 : 0 < x / y) (h4 : x / y < 4294967296) : runI i156 [iV false x, iV b2 y] = some [rV b2 (x / y), rV false (x % y), eZd] := by
  have h0 : (y == 0) = false := by simp only [beq_eq_false_iff_ne, ne_eq]; omega
  have h2 : x < 18446744073709551616 := by omega
  have h2' : y < 18446744073709551616 := by omega
  have h5 : x / y < 18446744073709551616 := by omega
  have h6 : (x / y != 0) = true := by simp only [bne_iff_ne, ne_eq]; omega
  have h7 : x % y < 4294967296 := by omega
  have h8 : (x % y != 0) = true := by simp only [bne_iff_ne, ne_eq]; omega
  have hn : (x < y) = False := eq_false (by omega)
  cases b2 <;> simp (maxSteps := 100000000) only [List.length_cons, List.length_nil, List.map_cons, List.map_nil, List.take_succ_cons, List.take_zero, List.drop_succ_cons, List.drop_zero, List.set_cons_zero, List.set_cons_succ, List.getElem?_cons_zero, List.getElem?_cons_succ, List.getElem?_nil, List.cons_append, List.nil_append, List.append_nil, Option.map_some, Option.map_none, Option.bind_some, Option.bind_none, ↓reduceIte, Nat.reduceBEq, Nat.reduceEqDiff, Nat.reducePow, Nat.blt, Nat.ble_eq, Nat.reduceLeDiff, Nat.reduceSucc, Nat.reduceAdd, Nat.reduceSub, Nat.reduceMul, Nat.reduceDiv, Nat.reduceMod, Nat.reduceLT, and_self, and_true, true_and, List.elem_nil, Bool.false_eq_true, oN_lt, oN_le, oN_gt, oN_ge, oN_beq, oN_bne, oN_sub, decide_true, decide_false, Nat.mul_one, Nat.one_mul, Nat.add_zero, Nat.zero_add, Nat.le_refl, not_true_eq_false, not_false_eq_true, Bool.not_true, Bool.not_false, bne_self_eq_false, beq_self_eq_true, Bool.and_self, Bool.and_true, Bool.true_and, Bool.and_false, Bool.false_and, IntKind.bits, Nat.lt_irrefl, loopN, evRf, evRs, mkRes, allT1, closeD, toVs, toV1, toV1s, fz, fzL, canon, fuelZ, fnOf, callB', callB, addS, ptrT, toT, setSeg, evIxS, evIxR, evPart, evAt, evExtract, evStore, evO, evAppend, evCopy, rowOf, blkW, intV_of, lim64, limu64, limu32, bM, V1.t1, evFn, evCode, Ft.tb, Ft.fn, tI, callN, inArgs, nilsT, setN, runR, stepO, wantO, kd, evA, evR, evOd, nth, cellsT, setO, okLo, evOff, offD, wi, evLd, blkOf, cellsAt, partT, evLen, magOf_zero, natT, plainT, plainD, evPk, ev2, ev1, vecT, pv, bi_add, bi_sub, bi_mul, bi_quo, bi_rem, bi_eql, bi_neq, bi_lss, bi_leq, bi_gtr, bi_geq, bi_and, bi_or32, bi_xor, List.filter_cons, List.filter_nil, List.elem_cons, nat_beq, i64_m1, Nat.reduceBNe, Option.isSome_some, Option.isSome_none, evSlc, evCap, evNilS, isNilT, boolT, evBslF, bsCells, unC, List.isEmpty_cons, List.isEmpty_nil, false_and, and_false, Nat.not_lt_zero, nS_beq, nS_bne, nS_lt, nS_le, nS_gt, nS_ge, notIn, nthI, List.any_nil, List.any_cons, Bool.false_or, Bool.or_false, Bool.or_true, Bool.true_or, Bool.or_self, Nat.min_def, Nat.sub_zero, Nat.zero_le, Nat.sub_self, cast_oN, si_shl, si_shr, b_ft, b_tf, n_ft, n_tf, n_ff, n_tt, wrap_if, wrap_i64, wrap_u32, wrap_u64, List.not_mem_nil, List.mem_cons, or_false, false_or, ofVal, ofL, packT, isCell, row0, row1, row2, row3, evPick, evSlc3, optNat, evBld, fillD, mapO, zipI, slOf, sI, isNegI, absI, runI,  h, hn, h0, h1, h2, h2', h4, h5, h6, h7, h8, magOf_pos hx, magOf_pos hy, bi_or64 h2, Nat.mod_eq_of_lt h2, i43, i48, i92, i94, i97, i112, i113, i114, i115, i124, i125, i137, i139, i143, i155, i156, i157, i158, i159, i160, i163, i182, i195, i196, i197, i219, i220, i221, i222, i224, i232, i233, i240, i241, i250, i251, i261, i262, i279, i280]
end Go.Proofs.YtcejidongpkpoaaGreat
namespace Go.Proofs.YtcejidongpkpoaaGreat
open Go Go.Mach Go.Flow
set_option maxRecDepth 100000
set_option maxHeartbeats 4000000
abbrev eZe : V1 := .one (.v (.int .i64 (Int.ofNat 0)))
theorem dm_gtn (b2 : Bool) {x y : Nat} (hx : 0 < x) (hy : 0 < y) (h : y < x) (h1 : x < 4294967296) (hs : 0 < x % y) (hs1 : x % y < y) (h3 : 0 < x / y) (h4 : x / y + 1 < 4294967296) : runI i156 [iV true x, iV b2 y] = some [rV (!b2) (x / y + 1), rV false (y - x % y), eZe] := by
  have h0 : (y == 0) = false := by simp only [beq_eq_false_iff_ne, ne_eq]; omega
  have h2 : x < 18446744073709551616 := by omega
  have h2' : y < 18446744073709551616 := by omega
  have h4' : x / y < 4294967296 := by omega
  have h5 : x / y < 18446744073709551616 := by omega
  have h5' : x / y + 1 < 18446744073709551616 := by omega
  have h6 : (x / y != 0) = true := by simp only [bne_iff_ne, ne_eq]; omega
  have h6' : (x / y + 1 != 0) = true := by simp only [bne_iff_ne, ne_eq]; omega
  have h7 : x % y < 4294967296 := by omega
  have h8 : (x % y != 0) = true := by simp only [bne_iff_ne, ne_eq]; omega
  have h9 : (y - x % y != 0) = true := by simp only [bne_iff_ne, ne_eq]; omega
  have hm : (y - x % y) % 4294967296 = y - x % y := Nat.mod_eq_of_lt (by omega)
  have hle : x % y ≤ y := by omega
  have hn : (x < y) = False := eq_false (by omega)
  cases b2 <;> simp (maxSteps := 100000000) only [List.length_cons, List.length_nil, List.map_cons, List.map_nil, List.take_succ_cons, List.take_zero, List.drop_succ_cons, List.drop_zero, List.set_cons_zero, List.set_cons_succ, List.getElem?_cons_zero, List.getElem?_cons_succ, List.getElem?_nil, List.cons_append, List.nil_append, List.append_nil, Option.map_some, Option.map_none, Option.bind_some, Option.bind_none, ↓reduceIte, Nat.reduceBEq, Nat.reduceEqDiff, Nat.reducePow, Nat.blt, Nat.ble_eq, Nat.reduceLeDiff, Nat.reduceSucc, Nat.reduceAdd, Nat.reduceSub, Nat.reduceMul, Nat.reduceDiv, Nat.reduceMod, Nat.reduceLT, and_self, and_true, true_and, List.elem_nil, Bool.false_eq_true, oN_lt, oN_le, oN_gt, oN_ge, oN_beq, oN_bne, oN_sub, decide_true, decide_false, Nat.mul_one, Nat.one_mul, Nat.add_zero, Nat.zero_add, Nat.le_refl, not_true_eq_false, not_false_eq_true, Bool.not_true, Bool.not_false, bne_self_eq_false, beq_self_eq_true, Bool.and_self, Bool.and_true, Bool.true_and, Bool.and_false, Bool.false_and, IntKind.bits, Nat.lt_irrefl, loopN, evRf, evRs, mkRes, allT1, closeD, toVs, toV1, toV1s, fz, fzL, canon, fuelZ, fnOf, callB', callB, addS, ptrT, toT, setSeg, evIxS, evIxR, evPart, evAt, evExtract, evStore, evO, evAppend, evCopy, rowOf, blkW, intV_of, lim64, limu64, limu32, bM, V1.t1, evFn, evCode, Ft.tb, Ft.fn, tI, callN, inArgs, nilsT, setN, runR, stepO, wantO, kd, evA, evR, evOd, nth, cellsT, setO, okLo, evOff, offD, wi, evLd, blkOf, cellsAt, partT, evLen, magOf_zero, natT, plainT, plainD, evPk, ev2, ev1, vecT, pv, bi_add, bi_sub, bi_mul, bi_quo, bi_rem, bi_eql, bi_neq, bi_lss, bi_leq, bi_gtr, bi_geq, bi_and, bi_or32, bi_xor, List.filter_cons, List.filter_nil, List.elem_cons, nat_beq, i64_m1, Nat.reduceBNe, Option.isSome_some, Option.isSome_none, evSlc, evCap, evNilS, isNilT, boolT, evBslF, bsCells, unC, List.isEmpty_cons, List.isEmpty_nil, false_and, and_false, Nat.not_lt_zero, nS_beq, nS_bne, nS_lt, nS_le, nS_gt, nS_ge, notIn, nthI, List.any_nil, List.any_cons, Bool.false_or, Bool.or_false, Bool.or_true, Bool.true_or, Bool.or_self, Nat.min_def, Nat.sub_zero, Nat.zero_le, Nat.sub_self, cast_oN, si_shl, si_shr, b_ft, b_tf, n_ft, n_tf, n_ff, n_tt, wrap_if, wrap_i64, wrap_u32, wrap_u64, List.not_mem_nil, List.mem_cons, or_false, false_or, ofVal, ofL, packT, isCell, row0, row1, row2, row3, evPick, evSlc3, optNat, evBld, fillD, mapO, zipI, slOf, sI, isNegI, absI, runI,  h, hn, h0, h1, h2, h2', h4, h4', h5, h5', h6, h6', h7, h8, h9, hm, oN_sub hle, Nat.div_eq_of_lt h4, Nat.mod_eq_of_lt h4, magOf_pos hx, magOf_pos hy, bi_or64 h2, Nat.mod_eq_of_lt h2, i43, i48, i92, i94, i97, i112, i113, i114, i115, i124, i125, i137, i139, i143, i155, i156, i157, i158, i159, i160, i163, i182, i195, i196, i197, i219, i220, i221, i222, i224, i232, i233, i240, i241, i250, i251, i261, i262, i279, i280]
end Go.Proofs.YtcejidongpkpoaaGreat
namespace Go.Proofs.YtcejidongpkpoaaGreat
open Go Go.Mach Go.Flow
set_option maxRecDepth 100000
set_option maxHeartbeats 4000000

abbrev eR : V1 := .one (.v (.int .i64 (Int.ofNat 0)))
theorem dr_0 (b : Bool) {y : Nat} (hy : 0 < y) : runI i241 [iV false 0, iV b y] = some [rZ, rZ, eR] := by
  have h0 : (y == 0) = false := by simp only [beq_eq_false_iff_ne, ne_eq]; omega
  cases b <;> simp (maxSteps := 100000000) only [List.length_cons, List.length_nil, List.map_cons, List.map_nil, List.take_succ_cons, List.take_zero, List.drop_succ_cons, List.drop_zero, List.set_cons_zero, List.set_cons_succ, List.getElem?_cons_zero, List.getElem?_cons_succ, List.getElem?_nil, List.cons_append, List.nil_append, List.append_nil, Option.map_some, Option.map_none, Option.bind_some, Option.bind_none, ↓reduceIte, Nat.reduceBEq, Nat.reduceEqDiff, Nat.reducePow, Nat.blt, Nat.ble_eq, Nat.reduceLeDiff, Nat.reduceSucc, Nat.reduceAdd, Nat.reduceSub, Nat.reduceMul, Nat.reduceDiv, Nat.reduceMod, Nat.reduceLT, and_self, and_true, true_and, List.elem_nil, Bool.false_eq_true, oN_lt, oN_le, oN_gt, oN_ge, oN_beq, oN_bne, oN_sub, decide_true, decide_false, Nat.mul_one, Nat.one_mul, Nat.add_zero, Nat.zero_add, Nat.le_refl, not_true_eq_false, not_false_eq_true, Bool.not_true, Bool.not_false, bne_self_eq_false, beq_self_eq_true, Bool.and_self, Bool.and_true, Bool.true_and, Bool.and_false, Bool.false_and, IntKind.bits, Nat.lt_irrefl, loopN, evRf, evRs, mkRes, allT1, closeD, toVs, toV1, toV1s, fz, fzL, canon, fuelZ, fnOf, callB', callB, addS, ptrT, toT, setSeg, evIxS, evIxR, evPart, evAt, evExtract, evStore, evO, evAppend, evCopy, rowOf, blkW, intV_of, lim64, limu64, limu32, bM, V1.t1, evFn, evCode, Ft.tb, Ft.fn, tI, callN, inArgs, nilsT, setN, runR, stepO, wantO, kd, evA, evR, evOd, nth, cellsT, setO, okLo, evOff, offD, wi, evLd, blkOf, cellsAt, partT, evLen, magOf_zero, natT, plainT, plainD, evPk, ev2, ev1, vecT, pv, bi_add, bi_sub, bi_mul, bi_quo, bi_rem, bi_eql, bi_neq, bi_lss, bi_leq, bi_gtr, bi_geq, bi_and, bi_or32, bi_xor, List.filter_cons, List.filter_nil, List.elem_cons, nat_beq, i64_m1, Nat.reduceBNe, Option.isSome_some, Option.isSome_none, evSlc, evCap, evNilS, isNilT, boolT, evBslF, bsCells, unC, List.isEmpty_cons, List.isEmpty_nil, false_and, and_false, Nat.not_lt_zero, nS_beq, nS_bne, nS_lt, nS_le, nS_gt, nS_ge, notIn, nthI, List.any_nil, List.any_cons, Bool.false_or, Bool.or_false, Bool.or_true, Bool.true_or, Bool.or_self, Nat.min_def, Nat.sub_zero, Nat.zero_le, Nat.sub_self, cast_oN, si_shl, si_shr, b_ft, b_tf, n_ft, n_tf, n_ff, n_tt, wrap_if, wrap_i64, wrap_u32, wrap_u64, List.not_mem_nil, List.mem_cons, or_false, false_or, ofVal, ofL, packT, isCell, row0, row1, row2, row3, evPick, evSlc3, optNat, evBld, fillD, mapO, zipI, slOf, sI, isNegI, absI, runI, h0, magOf_pos hy, i43, i48, i92, i94, i97, i112, i113, i114, i115, i124, i125, i137, i139, i143, i155, i156, i157, i158, i159, i160, i163, i182, i195, i196, i197, i219, i220, i221, i222, i224, i232, i233, i240, i241, i250, i251, i261, i262, i279, i280]
theorem dr_lt (b2 : Bool) {x y : Nat} (hx : 0 < x) (hy : 0 < y) (h : x < y) (h1 : y < 4294967296) (hx1 : x < 4294967296) :
    runI i241 [iV false x, iV b2 y] = some [rZ, rV false x, eR] := by
  have h0 : (y == 0) = false := by simp only [beq_eq_false_iff_ne, ne_eq]; omega
  have h0' : (x == 0) = false := by simp only [beq_eq_false_iff_ne, ne_eq]; omega
  have h2 : x < 18446744073709551616 := by omega
  have h2' : y < 18446744073709551616 := by omega
  have hq : x / y = 0 := Nat.div_eq_of_lt h
  have hs : x % y = x := Nat.mod_eq_of_lt h
  cases b2 <;> simp (maxSteps := 100000000) only [List.length_cons, List.length_nil, List.map_cons, List.map_nil, List.take_succ_cons, List.take_zero, List.drop_succ_cons, List.drop_zero, List.set_cons_zero, List.set_cons_succ, List.getElem?_cons_zero, List.getElem?_cons_succ, List.getElem?_nil, List.cons_append, List.nil_append, List.append_nil, Option.map_some, Option.map_none, Option.bind_some, Option.bind_none, ↓reduceIte, Nat.reduceBEq, Nat.reduceEqDiff, Nat.reducePow, Nat.blt, Nat.ble_eq, Nat.reduceLeDiff, Nat.reduceSucc, Nat.reduceAdd, Nat.reduceSub, Nat.reduceMul, Nat.reduceDiv, Nat.reduceMod, Nat.reduceLT, and_self, and_true, true_and, List.elem_nil, Bool.false_eq_true, oN_lt, oN_le, oN_gt, oN_ge, oN_beq, oN_bne, oN_sub, decide_true, decide_false, Nat.mul_one, Nat.one_mul, Nat.add_zero, Nat.zero_add, Nat.le_refl, not_true_eq_false, not_false_eq_true, Bool.not_true, Bool.not_false, bne_self_eq_false, beq_self_eq_true, Bool.and_self, Bool.and_true, Bool.true_and, Bool.and_false, Bool.false_and, IntKind.bits, Nat.lt_irrefl, loopN, evRf, evRs, mkRes, allT1, closeD, toVs, toV1, toV1s, fz, fzL, canon, fuelZ, fnOf, callB', callB, addS, ptrT, toT, setSeg, evIxS, evIxR, evPart, evAt, evExtract, evStore, evO, evAppend, evCopy, rowOf, blkW, intV_of, lim64, limu64, limu32, bM, V1.t1, evFn, evCode, Ft.tb, Ft.fn, tI, callN, inArgs, nilsT, setN, runR, stepO, wantO, kd, evA, evR, evOd, nth, cellsT, setO, okLo, evOff, offD, wi, evLd, blkOf, cellsAt, partT, evLen, magOf_zero, natT, plainT, plainD, evPk, ev2, ev1, vecT, pv, bi_add, bi_sub, bi_mul, bi_quo, bi_rem, bi_eql, bi_neq, bi_lss, bi_leq, bi_gtr, bi_geq, bi_and, bi_or32, bi_xor, List.filter_cons, List.filter_nil, List.elem_cons, nat_beq, i64_m1, Nat.reduceBNe, Option.isSome_some, Option.isSome_none, evSlc, evCap, evNilS, isNilT, boolT, evBslF, bsCells, unC, List.isEmpty_cons, List.isEmpty_nil, false_and, and_false, Nat.not_lt_zero, nS_beq, nS_bne, nS_lt, nS_le, nS_gt, nS_ge, notIn, nthI, List.any_nil, List.any_cons, Bool.false_or, Bool.or_false, Bool.or_true, Bool.true_or, Bool.or_self, Nat.min_def, Nat.sub_zero, Nat.zero_le, Nat.sub_self, cast_oN, si_shl, si_shr, b_ft, b_tf, n_ft, n_tf, n_ff, n_tt, wrap_if, wrap_i64, wrap_u32, wrap_u64, List.not_mem_nil, List.mem_cons, or_false, false_or, ofVal, ofL, packT, isCell, row0, row1, row2, row3, evPick, evSlc3, optNat, evBld, fillD, mapO, zipI, slOf, sI, isNegI, absI, runI, h0, h0', magOf_pos hx, magOf_pos hy, h, h1, hx1, h2, h2', hq, hs, i43, i48, i92, i94, i97, i112, i113, i114, i115, i124, i125, i137, i139, i143, i155, i156, i157, i158, i159, i160, i163, i182, i195, i196, i197, i219, i220, i221, i222, i224, i232, i233, i240, i241, i250, i251, i261, i262, i279, i280]
theorem dr_ltn (b2 : Bool) {x y : Nat} (hx : 0 < x) (hy : 0 < y) (h : x < y) (h1 : y < 4294967296) (hx1 : x < 4294967296) :
    runI i241 [iV true x, iV b2 y] = some [rV (!b2) 1, rV false (y - x), eR] := by
  have h0 : (y == 0) = false := by simp only [beq_eq_false_iff_ne, ne_eq]; omega
  have h0' : (x == 0) = false := by simp only [beq_eq_false_iff_ne, ne_eq]; omega
  have h2 : x < 18446744073709551616 := by omega
  have h2' : y < 18446744073709551616 := by omega
  have h3 : x < 9223372036854775808 := by omega
  have h3' : y < 9223372036854775808 := by omega
  have hq : x / y = 0 := Nat.div_eq_of_lt h
  have hs : x % y = x := Nat.mod_eq_of_lt h
  have hn : (y < x) = False := eq_false (by omega)
  have hb : (y != x) = true := by simp only [bne_iff_ne, ne_eq]; omega
  have hle : x ≤ y := by omega
  have hd : y - x < 9223372036854775808 := by omega
  have hd2 : y - x < 4294967296 := by omega
  have hz : (y - x == 0) = false := by simp only [beq_eq_false_iff_ne, ne_eq]; omega
  cases b2 <;> simp (maxSteps := 100000000) only [List.length_cons, List.length_nil, List.map_cons, List.map_nil, List.take_succ_cons, List.take_zero, List.drop_succ_cons, List.drop_zero, List.set_cons_zero, List.set_cons_succ, List.getElem?_cons_zero, List.getElem?_cons_succ, List.getElem?_nil, List.cons_append, List.nil_append, List.append_nil, Option.map_some, Option.map_none, Option.bind_some, Option.bind_none, ↓reduceIte, Nat.reduceBEq, Nat.reduceEqDiff, Nat.reducePow, Nat.blt, Nat.ble_eq, Nat.reduceLeDiff, Nat.reduceSucc, Nat.reduceAdd, Nat.reduceSub, Nat.reduceMul, Nat.reduceDiv, Nat.reduceMod, Nat.reduceLT, and_self, and_true, true_and, List.elem_nil, Bool.false_eq_true, oN_lt, oN_le, oN_gt, oN_ge, oN_beq, oN_bne, oN_sub, decide_true, decide_false, Nat.mul_one, Nat.one_mul, Nat.add_zero, Nat.zero_add, Nat.le_refl, not_true_eq_false, not_false_eq_true, Bool.not_true, Bool.not_false, bne_self_eq_false, beq_self_eq_true, Bool.and_self, Bool.and_true, Bool.true_and, Bool.and_false, Bool.false_and, IntKind.bits, Nat.lt_irrefl, loopN, evRf, evRs, mkRes, allT1, closeD, toVs, toV1, toV1s, fz, fzL, canon, fuelZ, fnOf, callB', callB, addS, ptrT, toT, setSeg, evIxS, evIxR, evPart, evAt, evExtract, evStore, evO, evAppend, evCopy, rowOf, blkW, intV_of, lim64, limu64, limu32, bM, V1.t1, evFn, evCode, Ft.tb, Ft.fn, tI, callN, inArgs, nilsT, setN, runR, stepO, wantO, kd, evA, evR, evOd, nth, cellsT, setO, okLo, evOff, offD, wi, evLd, blkOf, cellsAt, partT, evLen, magOf_zero, natT, plainT, plainD, evPk, ev2, ev1, vecT, pv, bi_add, bi_sub, bi_mul, bi_quo, bi_rem, bi_eql, bi_neq, bi_lss, bi_leq, bi_gtr, bi_geq, bi_and, bi_or32, bi_xor, List.filter_cons, List.filter_nil, List.elem_cons, nat_beq, i64_m1, Nat.reduceBNe, Option.isSome_some, Option.isSome_none, evSlc, evCap, evNilS, isNilT, boolT, evBslF, bsCells, unC, List.isEmpty_cons, List.isEmpty_nil, false_and, and_false, Nat.not_lt_zero, nS_beq, nS_bne, nS_lt, nS_le, nS_gt, nS_ge, notIn, nthI, List.any_nil, List.any_cons, Bool.false_or, Bool.or_false, Bool.or_true, Bool.true_or, Bool.or_self, Nat.min_def, Nat.sub_zero, Nat.zero_le, Nat.sub_self, cast_oN, si_shl, si_shr, b_ft, b_tf, n_ft, n_tf, n_ff, n_tt, wrap_if, wrap_i64, wrap_u32, wrap_u64, List.not_mem_nil, List.mem_cons, or_false, false_or, ofVal, ofL, packT, isCell, row0, row1, row2, row3, evPick, evSlc3, optNat, evBld, fillD, mapO, zipI, slOf, sI, isNegI, absI, runI, h0, h0', magOf_pos hx, magOf_pos hy, h, h1, hx1, h2, h2', h3, h3', hq, hs, hn, hb, oN_sub hle, oN_sub (Nat.zero_le y), hd, hd2, hz, i43, i48, i92, i94, i97, i112, i113, i114, i115, i124, i125, i137, i139, i143, i155, i156, i157, i158, i159, i160, i163, i182, i195, i196, i197, i219, i220, i221, i222, i224, i232, i233, i240, i241, i250, i251, i261, i262, i279, i280]
theorem dr_0r (b1 b2 : Bool) {x y : Nat} (hx : 0 < x) (hy : 0 < y) (h1 : y < 4294967296) (hx1 : x < 4294967296) (hs : x % y = 0) (h3 : 0 < x / y) (h4 : x / y < 4294967296) :
    runI i241 [iV b1 x, iV b2 y] = some [rV (b1 != b2) (x / y), rZ, eR] := by
  have h0 : (y == 0) = false := by simp only [beq_eq_false_iff_ne, ne_eq]; omega
  have h0' : (x == 0) = false := by simp only [beq_eq_false_iff_ne, ne_eq]; omega
  have hq0 : (x / y == 0) = false := by simp only [beq_eq_false_iff_ne, ne_eq]; omega
  have h2 : x < 18446744073709551616 := by omega
  have h2' : y < 18446744073709551616 := by omega
  have h5 : x / y < 18446744073709551616 := by omega
  cases b1 <;> cases b2 <;> simp (maxSteps := 100000000) only [List.length_cons, List.length_nil, List.map_cons, List.map_nil, List.take_succ_cons, List.take_zero, List.drop_succ_cons, List.drop_zero, List.set_cons_zero, List.set_cons_succ, List.getElem?_cons_zero, List.getElem?_cons_succ, List.getElem?_nil, List.cons_append, List.nil_append, List.append_nil, Option.map_some, Option.map_none, Option.bind_some, Option.bind_none, ↓reduceIte, Nat.reduceBEq, Nat.reduceEqDiff, Nat.reducePow, Nat.blt, Nat.ble_eq, Nat.reduceLeDiff, Nat.reduceSucc, Nat.reduceAdd, Nat.reduceSub, Nat.reduceMul, Nat.reduceDiv, Nat.reduceMod, Nat.reduceLT, and_self, and_true, true_and, List.elem_nil, Bool.false_eq_true, oN_lt, oN_le, oN_gt, oN_ge, oN_beq, oN_bne, oN_sub, decide_true, decide_false, Nat.mul_one, Nat.one_mul, Nat.add_zero, Nat.zero_add, Nat.le_refl, not_true_eq_false, not_false_eq_true, Bool.not_true, Bool.not_false, bne_self_eq_false, beq_self_eq_true, Bool.and_self, Bool.and_true, Bool.true_and, Bool.and_false, Bool.false_and, IntKind.bits, Nat.lt_irrefl, loopN, evRf, evRs, mkRes, allT1, closeD, toVs, toV1, toV1s, fz, fzL, canon, fuelZ, fnOf, callB', callB, addS, ptrT, toT, setSeg, evIxS, evIxR, evPart, evAt, evExtract, evStore, evO, evAppend, evCopy, rowOf, blkW, intV_of, lim64, limu64, limu32, bM, V1.t1, evFn, evCode, Ft.tb, Ft.fn, tI, callN, inArgs, nilsT, setN, runR, stepO, wantO, kd, evA, evR, evOd, nth, cellsT, setO, okLo, evOff, offD, wi, evLd, blkOf, cellsAt, partT, evLen, magOf_zero, natT, plainT, plainD, evPk, ev2, ev1, vecT, pv, bi_add, bi_sub, bi_mul, bi_quo, bi_rem, bi_eql, bi_neq, bi_lss, bi_leq, bi_gtr, bi_geq, bi_and, bi_or32, bi_xor, List.filter_cons, List.filter_nil, List.elem_cons, nat_beq, i64_m1, Nat.reduceBNe, Option.isSome_some, Option.isSome_none, evSlc, evCap, evNilS, isNilT, boolT, evBslF, bsCells, unC, List.isEmpty_cons, List.isEmpty_nil, false_and, and_false, Nat.not_lt_zero, nS_beq, nS_bne, nS_lt, nS_le, nS_gt, nS_ge, notIn, nthI, List.any_nil, List.any_cons, Bool.false_or, Bool.or_false, Bool.or_true, Bool.true_or, Bool.or_self, Nat.min_def, Nat.sub_zero, Nat.zero_le, Nat.sub_self, cast_oN, si_shl, si_shr, b_ft, b_tf, n_ft, n_tf, n_ff, n_tt, wrap_if, wrap_i64, wrap_u32, wrap_u64, List.not_mem_nil, List.mem_cons, or_false, false_or, ofVal, ofL, packT, isCell, row0, row1, row2, row3, evPick, evSlc3, optNat, evBld, fillD, mapO, zipI, slOf, sI, isNegI, absI, runI, h0, h0', hq0, magOf_pos hx, magOf_pos hy, h1, hx1, h2, h2', h4, h5, hs, i43, i48, i92, i94, i97, i112, i113, i114, i115, i124, i125, i137, i139, i143, i155, i156, i157, i158, i159, i160, i163, i182, i195, i196, i197, i219, i220, i221, i222, i224, i232, i233, i240, i241, i250, i251, i261, i262, i279, i280]
theorem dr_gt (b2 : Bool) {x y : Nat} (hx : 0 < x) (hy : 0 < y) (h1 : y < 4294967296) (hx1 : x < 4294967296) (hs : 0 < x % y) (hs1 : x % y < y) (h3 : 0 < x / y) (h4 : x / y < 4294967296) :
    runI i241 [iV false x, iV b2 y] = some [rV b2 (x / y), rV false (x % y), eR] := by
  have h0 : (y == 0) = false := by simp only [beq_eq_false_iff_ne, ne_eq]; omega
  have h0' : (x == 0) = false := by simp only [beq_eq_false_iff_ne, ne_eq]; omega
  have hq0 : (x / y == 0) = false := by simp only [beq_eq_false_iff_ne, ne_eq]; omega
  have hr0 : (x % y == 0) = false := by simp only [beq_eq_false_iff_ne, ne_eq]; omega
  have h2 : x < 18446744073709551616 := by omega
  have h2' : y < 18446744073709551616 := by omega
  have h5 : x / y < 18446744073709551616 := by omega
  have h6 : x % y < 4294967296 := by omega
  cases b2 <;> simp (maxSteps := 100000000) only [List.length_cons, List.length_nil, List.map_cons, List.map_nil, List.take_succ_cons, List.take_zero, List.drop_succ_cons, List.drop_zero, List.set_cons_zero, List.set_cons_succ, List.getElem?_cons_zero, List.getElem?_cons_succ, List.getElem?_nil, List.cons_append, List.nil_append, List.append_nil, Option.map_some, Option.map_none, Option.bind_some, Option.bind_none, ↓reduceIte, Nat.reduceBEq, Nat.reduceEqDiff, Nat.reducePow, Nat.blt, Nat.ble_eq, Nat.reduceLeDiff, Nat.reduceSucc, Nat.reduceAdd, Nat.reduceSub, Nat.reduceMul, Nat.reduceDiv, Nat.reduceMod, Nat.reduceLT, and_self, and_true, true_and, List.elem_nil, Bool.false_eq_true, oN_lt, oN_le, oN_gt, oN_ge, oN_beq, oN_bne, oN_sub, decide_true, decide_false, Nat.mul_one, Nat.one_mul, Nat.add_zero, Nat.zero_add, Nat.le_refl, not_true_eq_false, not_false_eq_true, Bool.not_true, Bool.not_false, bne_self_eq_false, beq_self_eq_true, Bool.and_self, Bool.and_true, Bool.true_and, Bool.and_false, Bool.false_and, IntKind.bits, Nat.lt_irrefl, loopN, evRf, evRs, mkRes, allT1, closeD, toVs, toV1, toV1s, fz, fzL, canon, fuelZ, fnOf, callB', callB, addS, ptrT, toT, setSeg, evIxS, evIxR, evPart, evAt, evExtract, evStore, evO, evAppend, evCopy, rowOf, blkW, intV_of, lim64, limu64, limu32, bM, V1.t1, evFn, evCode, Ft.tb, Ft.fn, tI, callN, inArgs, nilsT, setN, runR, stepO, wantO, kd, evA, evR, evOd, nth, cellsT, setO, okLo, evOff, offD, wi, evLd, blkOf, cellsAt, partT, evLen, magOf_zero, natT, plainT, plainD, evPk, ev2, ev1, vecT, pv, bi_add, bi_sub, bi_mul, bi_quo, bi_rem, bi_eql, bi_neq, bi_lss, bi_leq, bi_gtr, bi_geq, bi_and, bi_or32, bi_xor, List.filter_cons, List.filter_nil, List.elem_cons, nat_beq, i64_m1, Nat.reduceBNe, Option.isSome_some, Option.isSome_none, evSlc, evCap, evNilS, isNilT, boolT, evBslF, bsCells, unC, List.isEmpty_cons, List.isEmpty_nil, false_and, and_false, Nat.not_lt_zero, nS_beq, nS_bne, nS_lt, nS_le, nS_gt, nS_ge, notIn, nthI, List.any_nil, List.any_cons, Bool.false_or, Bool.or_false, Bool.or_true, Bool.true_or, Bool.or_self, Nat.min_def, Nat.sub_zero, Nat.zero_le, Nat.sub_self, cast_oN, si_shl, si_shr, b_ft, b_tf, n_ft, n_tf, n_ff, n_tt, wrap_if, wrap_i64, wrap_u32, wrap_u64, List.not_mem_nil, List.mem_cons, or_false, false_or, ofVal, ofL, packT, isCell, row0, row1, row2, row3, evPick, evSlc3, optNat, evBld, fillD, mapO, zipI, slOf, sI, isNegI, absI, runI, h0, h0', hq0, hr0, magOf_pos hx, magOf_pos hy, h1, hx1, h2, h2', h4, h5, h6, i43, i48, i92, i94, i97, i112, i113, i114, i115, i124, i125, i137, i139, i143, i155, i156, i157, i158, i159, i160, i163, i182, i195, i196, i197, i219, i220, i221, i222, i224, i232, i233, i240, i241, i250, i251, i261, i262, i279, i280]
end Go.Proofs.YtcejidongpkpoaaGreat
namespace Go.Proofs.YtcejidongpkpoaaGreat
open Go Go.Mach Go.Flow
set_option maxRecDepth 100000
set_option maxHeartbeats 4000000

theorem dr_gtn (b2 : Bool) {x y : Nat} (hx : 0 < x) (hy : 0 < y) (h1 : y < 4294967296) (hx1 : x < 4294967296) (hs : 0 < x % y) (hs1 : x % y < y) (h3 : 0 < x / y) (h4 : x / y + 1 < 4294967296) :
    runI i241 [iV true x, iV b2 y] = some [rV (!b2) (x / y + 1), rV false (y - x % y), eR] := by
  have h0 : (y == 0) = false := by simp only [beq_eq_false_iff_ne, ne_eq]; omega
  have h0' : (x == 0) = false := by simp only [beq_eq_false_iff_ne, ne_eq]; omega
  have hq0 : (x / y == 0) = false := by simp only [beq_eq_false_iff_ne, ne_eq]; omega
  have hq1 : (x / y + 1 == 0) = false := by simp only [beq_eq_false_iff_ne, ne_eq]; omega
  have hr0 : (x % y == 0) = false := by simp only [beq_eq_false_iff_ne, ne_eq]; omega
  have h2 : x < 18446744073709551616 := by omega
  have h2' : y < 18446744073709551616 := by omega
  have h4' : x / y < 4294967296 := by omega
  have h5 : x / y < 18446744073709551616 := by omega
  have h5' : x / y + 1 < 18446744073709551616 := by omega
  have h6 : x % y < 4294967296 := by omega
  have h7 : x % y < 9223372036854775808 := by omega
  have h7' : y < 9223372036854775808 := by omega
  have hn : (y < x % y) = False := eq_false (by omega)
  have hb : (y != x % y) = true := by simp only [bne_iff_ne, ne_eq]; omega
  have hle : x % y ≤ y := by omega
  have hd : y - x % y < 9223372036854775808 := by omega
  have hd2 : y - x % y < 4294967296 := by omega
  have hz : (y - x % y == 0) = false := by simp only [beq_eq_false_iff_ne, ne_eq]; omega
  cases b2 <;> simp (maxSteps := 100000000) only [List.length_cons, List.length_nil, List.map_cons, List.map_nil, List.take_succ_cons, List.take_zero, List.drop_succ_cons, List.drop_zero, List.set_cons_zero, List.set_cons_succ, List.getElem?_cons_zero, List.getElem?_cons_succ, List.getElem?_nil, List.cons_append, List.nil_append, List.append_nil, Option.map_some, Option.map_none, Option.bind_some, Option.bind_none, ↓reduceIte, Nat.reduceBEq, Nat.reduceEqDiff, Nat.reducePow, Nat.blt, Nat.ble_eq, Nat.reduceLeDiff, Nat.reduceSucc, Nat.reduceAdd, Nat.reduceSub, Nat.reduceMul, Nat.reduceDiv, Nat.reduceMod, Nat.reduceLT, and_self, and_true, true_and, List.elem_nil, Bool.false_eq_true, oN_lt, oN_le, oN_gt, oN_ge, oN_beq, oN_bne, oN_sub, decide_true, decide_false, Nat.mul_one, Nat.one_mul, Nat.add_zero, Nat.zero_add, Nat.le_refl, not_true_eq_false, not_false_eq_true, Bool.not_true, Bool.not_false, bne_self_eq_false, beq_self_eq_true, Bool.and_self, Bool.and_true, Bool.true_and, Bool.and_false, Bool.false_and, IntKind.bits, Nat.lt_irrefl, loopN, evRf, evRs, mkRes, allT1, closeD, toVs, toV1, toV1s, fz, fzL, canon, fuelZ, fnOf, callB', callB, addS, ptrT, toT, setSeg, evIxS, evIxR, evPart, evAt, evExtract, evStore, evO, evAppend, evCopy, rowOf, blkW, intV_of, lim64, limu64, limu32, bM, V1.t1, evFn, evCode, Ft.tb, Ft.fn, tI, callN, inArgs, nilsT, setN, runR, stepO, wantO, kd, evA, evR, evOd, nth, cellsT, setO, okLo, evOff, offD, wi, evLd, blkOf, cellsAt, partT, evLen, magOf_zero, natT, plainT, plainD, evPk, ev2, ev1, vecT, pv, bi_add, bi_sub, bi_mul, bi_quo, bi_rem, bi_eql, bi_neq, bi_lss, bi_leq, bi_gtr, bi_geq, bi_and, bi_or32, bi_xor, List.filter_cons, List.filter_nil, List.elem_cons, nat_beq, i64_m1, Nat.reduceBNe, Option.isSome_some, Option.isSome_none, evSlc, evCap, evNilS, isNilT, boolT, evBslF, bsCells, unC, List.isEmpty_cons, List.isEmpty_nil, false_and, and_false, Nat.not_lt_zero, nS_beq, nS_bne, nS_lt, nS_le, nS_gt, nS_ge, notIn, nthI, List.any_nil, List.any_cons, Bool.false_or, Bool.or_false, Bool.or_true, Bool.true_or, Bool.or_self, Nat.min_def, Nat.sub_zero, Nat.zero_le, Nat.sub_self, cast_oN, si_shl, si_shr, b_ft, b_tf, n_ft, n_tf, n_ff, n_tt, wrap_if, wrap_i64, wrap_u32, wrap_u64, List.not_mem_nil, List.mem_cons, or_false, false_or, ofVal, ofL, packT, isCell, row0, row1, row2, row3, evPick, evSlc3, optNat, evBld, fillD, mapO, zipI, slOf, sI, isNegI, absI, runI, h0, h0', hq0, hq1, hr0, magOf_pos hx, magOf_pos hy, h1, hx1, hs1, h2, h2', h4, h4', h5, h5', h6, h7, h7', hn, hb, oN_sub hle, oN_sub (Nat.zero_le y), hd, hd2, hz, Nat.div_eq_of_lt h4, i43, i48, i92, i94, i97, i112, i113, i114, i115, i124, i125, i137, i139, i143, i155, i156, i157, i158, i159, i160, i163, i182, i195, i196, i197, i219, i220, i221, i222, i224, i232, i233, i240, i241, i250, i251, i261, i262, i279, i280]

/-- What division gives: quotient, remainder, by the signs. -/
theorem div_pos (b2 : Bool) {x y : Nat} (hy : 0 < y) : Int.ediv (mkS false x) (mkS b2 y) = mkS b2 (x / y) ∧ Int.emod (mkS false x) (mkS b2 y) = mkS false (x % y) := by
  cases b2
  · exact ⟨rfl, rfl⟩
  · constructor
    · show (x : Int) / (-(y : Int)) = -((x / y : Nat) : Int)
      rw [Int.ediv_neg]; rfl
    · show (x : Int) % (-(y : Int)) = ((x % y : Nat) : Int)
      rw [Int.emod_neg]; rfl
theorem div_neg0 (b2 : Bool) {x y : Nat} (hy : 0 < y) (h : x % y = 0) : Int.ediv (mkS true x) (mkS b2 y) = mkS (true != b2) (x / y) ∧ Int.emod (mkS true x) (mkS b2 y) = 0 := by
  have hxy : (y : Int) ∣ (x : Int) := Int.natCast_dvd_natCast.2 (Nat.dvd_of_mod_eq_zero h)
  have e1 : (-(x : Int)) / (y : Int) = -((x / y : Nat) : Int) := by rw [Int.neg_ediv_of_dvd hxy]; rfl
  have e2 : (-(x : Int)) % (y : Int) = 0 := Int.emod_eq_zero_of_dvd ((Int.dvd_neg).2 hxy)
  cases b2
  · exact ⟨e1, e2⟩
  · constructor
    · show (-(x : Int)) / (-(y : Int)) = ((x / y : Nat) : Int)
      rw [Int.ediv_neg, e1, Int.neg_neg]
    · show (-(x : Int)) % (-(y : Int)) = 0
      rw [Int.emod_neg, e2]
theorem div_neg (b2 : Bool) {x y : Nat} (hy : 0 < y) (h : 0 < x % y) : Int.ediv (mkS true x) (mkS b2 y) = mkS (!b2) (x / y + 1) ∧ Int.emod (mkS true x) (mkS b2 y) = mkS false (y - x % y) := by
  have hr := Nat.mod_lt x hy
  have hx : (x : Int) = y * ((x / y : Nat) : Int) + ((x % y : Nat) : Int) := by exact_mod_cast (Nat.div_add_mod x y).symm
  have key : -(x : Int) = (y - ((x % y : Nat) : Int)) + y * (-(((x / y : Nat) : Int) + 1)) := by rw [hx, Int.mul_neg, Int.mul_add]; omega
  have e1 : (-(x : Int)) / (y : Int) = -((x / y + 1 : Nat) : Int) := by
    rw [key, Int.add_mul_ediv_left _ _ (by omega), Int.ediv_eq_zero_of_lt (by omega) (by omega)]
    simp
  have e2 : (-(x : Int)) % (y : Int) = ((y - x % y : Nat) : Int) := by
    rw [key, Int.add_mul_emod_self_left, Int.emod_eq_of_lt (by omega) (by omega)]
    omega
  cases b2
  · exact ⟨e1, e2⟩
  · constructor
    · show (-(x : Int)) / (-(y : Int)) = ((x / y + 1 : Nat) : Int)
      rw [Int.ediv_neg, e1, Int.neg_neg]
    · show (-(x : Int)) % (-(y : Int)) = ((y - x % y : Nat) : Int)
      rw [Int.emod_neg, e2]
end Go.Proofs.YtcejidongpkpoaaGreat
namespace Go.Proofs.YtcejidongpkpoaaGreat
open Go Go.Mach Go.Flow

theorem noZero_ok : ∀ {l : List Int}, noZero l = true → ∀ z ∈ l, z ≠ 0
  | [], _, z, hz => by simp at hz
  | x :: r, h, z, hz => by
    unfold noZero at h
    split at h
    · rename_i he; cases he
    · cases h
    · rename_i a r' hne he
      cases he
      rcases List.mem_cons.1 hz with rfl | hz
      · exact fun e => hne (by rw [e]; rfl)
      · exact noZero_ok h z hz

theorem con_dm {k : Cls} {g : FuncId} {m : List V1 → Option (List V1)} (hm : Con Tryz.prog k g m)
    (H : ∀ x y, Fit x → Fit y → y ≠ 0 → Fit (divI x y) → Fit (modI x y) → ∃ q r, m [sI x, sI y] = some [q, r, .one (.v (.int .i64 0))] ∧ IsI q (divI x y) ∧ IsI r (modI x y)) : Con Tryz.prog k g nDivMod := by
  refine con_lift hm fun al rs h F w us hr => ?_
  unfold nDivMod at h
  split at h
  · rename_i a b
    split at h
    · rename_i lx ly hx hy
      split at h
      · rename_i hz
        split at h
        · rename_i lq lr hq hr'
          split at h
          · rename_i q r hmq hmr
            cases h
            obtain ⟨u, v, rfl, ru, rv⟩ := hr.two
            obtain ⟨x, x1, x2, x3⟩ := intsV_ok hx ru
            obtain ⟨y, y1, y2, y3⟩ := intsV_ok hy rv
            have hy0 := noZero_ok hz y (at1_mem y1)
            obtain ⟨f1, f2⟩ := mkInt_ok hmq (bc_ok hq x1 y1)
            obtain ⟨g1, g2⟩ := mkInt_ok hmr (bc_ok hr' x1 y1)
            obtain ⟨q', r', hrun, hI, hJ⟩ := H x y x3 y3 hy0 f1 g1
            refine ⟨_, _, hrun, RVs.mk2 x2 y2, fun w' u' hu' => ?_⟩
            obtain ⟨vs, rfl, hs, hv⟩ := hu'
            refine ⟨vs, rfl, hs, fun j d hj => ?_⟩
            match j, hj with
            | 0, hj =>
              simp at hj; subst hj
              obtain ⟨z, hz, hrz⟩ := hv 0 _ rfl
              exact ⟨z, hz, f2 F w' z (hI k F w' z hrz)⟩
            | 1, hj =>
              simp at hj; subst hj
              obtain ⟨z, hz, hrz⟩ := hv 1 _ rfl
              exact ⟨z, hz, g2 F w' z (hJ k F w' z hrz)⟩
            | 2, hj => exact hv 2 d hj
            | j + 3, hj => simp at hj
          · cases h
        · cases h
      · cases h
    · cases h
  · cases h

theorem drH (x y : Int) (fx : Fit x) (fy : Fit y) (hy : y ≠ 0) (fq : Fit (divI x y)) (_ : Fit (modI x y)) : ∃ q r, runI i241 [sI x, sI y] = some [q, r, eR] ∧ IsI q (divI x y) ∧ IsI r (modI x y) := by
  unfold Fit divI modI at *
  rcases sgn_cases y with rfl | ⟨b2, n2, p2, rfl⟩
  · exact absurd rfl hy
  rw [abs_mkS] at fy
  rcases sgn_cases x with rfl | ⟨b1, n1, p1, rfl⟩
  · rw [sI_mkS b2 p2, show Int.ediv 0 (mkS b2 n2) = 0 from Int.zero_ediv _, show Int.emod 0 (mkS b2 n2) = 0 from Int.zero_emod _]
    exact ⟨_, _, dr_0 b2 p2, isI_zero, isI_zero⟩
  rw [abs_mkS] at fx
  have hm := Nat.mod_lt n1 p2
  rw [sI_mkS b1 p1, sI_mkS b2 p2]
  have hq : n1 / n2 ≤ n1 := Nat.div_le_self _ _
  rcases Nat.eq_zero_or_pos (n1 % n2) with h0 | h0
  · have hq0 : 0 < n1 / n2 := by
      rcases Nat.eq_zero_or_pos (n1 / n2) with h | h
      · have := Nat.div_add_mod n1 n2; rw [h, h0] at this; omega
      · exact h
    cases b1
    · obtain ⟨e1, e2⟩ := div_pos b2 (x := n1) p2
      rw [e1, e2, h0]
      refine ⟨_, _, dr_0r false b2 p1 p2 fy fx h0 hq0 (by omega), ?_, isI_zero⟩
      have : (false != b2) = b2 := by cases b2 <;> rfl
      rw [this]
      exact isI_pos _ hq0 (by omega)
    · obtain ⟨e1, e2⟩ := div_neg0 b2 p2 h0
      rw [e1, e2]
      exact ⟨_, _, dr_0r true b2 p1 p2 fy fx h0 hq0 (by omega), isI_pos _ hq0 (by omega), isI_zero⟩
  · cases b1
    · obtain ⟨e1, e2⟩ := div_pos b2 (x := n1) p2
      rw [e1, e2]
      rcases Nat.eq_zero_or_pos (n1 / n2) with hq0 | hq0
      · have hlt : n1 < n2 := by
          have := Nat.div_add_mod n1 n2; rw [hq0] at this; omega
        rw [hq0, Nat.mod_eq_of_lt hlt]
        have : mkS b2 0 = 0 := by cases b2 <;> rfl
        rw [this]
        exact ⟨_, _, dr_lt b2 p1 p2 hlt fy fx, isI_zero, isI_pos _ p1 fx⟩
      · exact ⟨_, _, dr_gt b2 p1 p2 fy fx h0 hm hq0 (by omega), isI_pos _ hq0 (by omega), isI_pos _ h0 (by omega)⟩
    · obtain ⟨e1, e2⟩ := div_neg b2 p2 h0
      rw [e1, abs_mkS] at fq
      rw [e1, e2]
      rcases Nat.eq_zero_or_pos (n1 / n2) with hq0 | hq0
      · have hlt : n1 < n2 := by
          have := Nat.div_add_mod n1 n2; rw [hq0] at this; omega
        rw [hq0, Nat.mod_eq_of_lt hlt]
        exact ⟨_, _, dr_ltn b2 p1 p2 hlt fy fx, isI_pos _ (by omega) (by omega), isI_pos _ (by omega) (by omega)⟩
      · exact ⟨_, _, dr_gtn b2 p1 p2 fy fx h0 hm hq0 fq, isI_pos _ (by omega) fq, isI_pos _ (by omega) (by omega)⟩
theorem nDivMod_241 {k : Cls} : Con Tryz.prog k 241 nDivMod := con_dm (runI_con i241_ok) drH
end Go.Proofs.YtcejidongpkpoaaGreat
namespace Go.Proofs.YtcejidongpkpoaaGreat
open Go Go.Mach Go.Flow
set_option maxRecDepth 100000
set_option maxHeartbeats 4000000

/-- The table for loops: signs and division are known. -/
def tG : Ft := .n (.n .z 48 (.nat nSign) none .z) 97 (.code i97) none (.n .z 241 (.nat nDivMod) none .z)
theorem tG_ok {k : Cls} : tG.Ok Tryz.prog k Bts := ⟨⟨trivial, nSign_48, trivial, trivial⟩, i97_ok, trivial, trivial, nDivMod_241, trivial, trivial⟩

abbrev bG : CFn := callN tG.tb 10 8
/-- The loop's body. -/
def loopG : CC := match i240.code with
  | .seq _ (.seq (.block _ (.loop b)) _) => b
  | _ => .skip
def sT (z : Int) : T := .t (.agg [.c (.v (.bool (isNegI z))), .c (.mag [absI z])])
def sB (z : Int) : Option Blk := some (.cells [.c (.v (.bool (isNegI z))), .c (.mag [absI z])])
theorem intsC_s (z : Int) : intsC (.v (.bool (isNegI z))) (.mag [absI z]) = some [z] := by
  match z with
  | .ofNat n => rfl
  | .negSucc n => rfl
theorem mkInt_s {z : Int} (h : Fit z) : mkInt [z] = some (sI z) := by
  unfold mkInt
  have : Nat.blt (absI z) 4294967296 = true := by simpa [Fit] using h
  simp only [this, if_true]
  rfl
theorem nSign_s (z : Int) : nSign [.agg [.v (.bool (isNegI z)), .mag [absI z]]] = some [.one (.v (.int .i64 z.sign))] := by
  simp only [nSign, natI1, intsV, intsC_s, mapI, revA, mkI]
theorem nDivMod_s {x y : Int} (hy : y ≠ 0) (h1 : Fit (divI x y)) (h2 : Fit (modI x y)) : nDivMod [.agg [.v (.bool (isNegI x)), .mag [absI x]], .agg [.v (.bool (isNegI y)), .mag [absI y]]] = some [sI (divI x y), sI (modI x y), .one (.v (.int .i64 0))] := by
  have hz : noZero [y] = true := by
    match y, hy with
    | .ofNat 0, hy => exact absurd rfl hy
    | .ofNat (n + 1), _ => rfl
    | .negSucc n, _ => rfl
  simp only [nDivMod, intsV, intsC_s, hz, if_true, bc, mkInt_s h1, mkInt_s h2]

theorem getE1 {α : Type} (E : List α) (x : α) : (E ++ [x])[E.length]? = some x := by simp
theorem getE2 {α : Type} (E : List α) (x y : α) : ((E ++ [x]) ++ [y])[E.length + 1]? = some y := by simp
theorem getE3 {α : Type} (E : List α) (x y : α) : ((E ++ [x]) ++ [y])[E.length]? = some x := by simp
theorem setE2 {α : Type} (E : List α) (x y z : α) : ((E ++ [x]) ++ [y]).set (E.length + 1) z = (E ++ [x]) ++ [z] := by simp
theorem setE3 {α : Type} (E : List α) (x y z : α) : ((E ++ [x]) ++ [y]).set E.length z = (E ++ [z]) ++ [y] := by simp
theorem beq0s (n : Nat) : (0 == n + 1) = false := rfl
theorem beqs0 (n : Nat) : (n + 1 == 0) = false := rfl
theorem step_G (x y : Int) (hy : y ≠ 0) (h1 : Fit (divI x y)) (h2 : Fit (modI x y)) (E : List (Option Blk)) (b2 : Option Blk) (t0 t1 t4 t6 : T) (W : List Nat) (fl : Nat) :
    ∃ E' t4' t6' W', evCode bG fl loopG ⟨[t0, t1, .t (.one (.ptr 1 0)), .t (.one (.ptr 0 0)), t4, .t (.one (.ptr 2 0)), t6], sB x :: sB y :: b2 :: E, [], W, []⟩ =
      some (.normal, ⟨[t0, t1, .t (.one (.ptr 1 0)), .t (.one (.ptr 0 0)), t4', .t (.one (.ptr 2 0)), t6'], sB y :: sB (modI x y) :: b2 :: E', [], W', []⟩) := by
  have hs : (y.sign != Int.ofNat 0) = true := by
    simp only [bne_iff_ne, ne_eq]
    intro h
    exact hy (Int.sign_eq_zero_iff_zero.1 h)
  simp (maxSteps := 100000000) only [List.length_cons, List.length_nil, List.map_cons, List.map_nil, List.take_succ_cons, List.take_zero, List.drop_succ_cons, List.drop_zero, List.set_cons_zero, List.set_cons_succ, List.getElem?_cons_zero, List.getElem?_cons_succ, List.getElem?_nil, List.cons_append, List.nil_append, List.append_nil, Option.map_some, Option.map_none, Option.bind_some, Option.bind_none, ↓reduceIte, Nat.reduceBEq, Nat.reduceEqDiff, Nat.reducePow, Nat.blt, Nat.ble_eq, Nat.reduceLeDiff, Nat.reduceSucc, Nat.reduceAdd, Nat.reduceSub, Nat.reduceMul, Nat.reduceDiv, Nat.reduceMod, Nat.reduceLT, and_self, and_true, true_and, List.elem_nil, Bool.false_eq_true, oN_lt, oN_le, oN_gt, oN_ge, oN_beq, oN_bne, oN_sub, decide_true, decide_false, Nat.mul_one, Nat.one_mul, Nat.add_zero, Nat.zero_add, Nat.le_refl, not_true_eq_false, not_false_eq_true, Bool.not_true, Bool.not_false, bne_self_eq_false, beq_self_eq_true, Bool.and_self, Bool.and_true, Bool.true_and, Bool.and_false, Bool.false_and, IntKind.bits, Nat.lt_irrefl, loopN, evRf, evRs, mkRes, allT1, closeD, toVs, toV1, toV1s, fz, fzL, canon, fuelZ, fnOf, callB', callB, addS, ptrT, toT, setSeg, evIxS, evIxR, evPart, evAt, evExtract, evStore, evO, evAppend, evCopy, rowOf, blkW, intV_of, lim64, limu64, limu32, bM, V1.t1, evFn, evCode, Ft.tb, Ft.fn, tI, callN, inArgs, nilsT, setN, runR, stepO, wantO, kd, evA, evR, evOd, nth, cellsT, setO, okLo, evOff, offD, wi, evLd, blkOf, cellsAt, partT, evLen, magOf_zero, natT, plainT, plainD, evPk, ev2, ev1, vecT, pv, bi_add, bi_sub, bi_mul, bi_quo, bi_rem, bi_eql, bi_neq, bi_lss, bi_leq, bi_gtr, bi_geq, bi_and, bi_or32, bi_xor, List.filter_cons, List.filter_nil, List.elem_cons, nat_beq, i64_m1, Nat.reduceBNe, Option.isSome_some, Option.isSome_none, evSlc, evCap, evNilS, isNilT, boolT, evBslF, bsCells, unC, List.isEmpty_cons, List.isEmpty_nil, false_and, and_false, Nat.not_lt_zero, nS_beq, nS_bne, nS_lt, nS_le, nS_gt, nS_ge, notIn, nthI, List.any_nil, List.any_cons, Bool.false_or, Bool.or_false, Bool.or_true, Bool.true_or, Bool.or_self, Nat.min_def, Nat.sub_zero, Nat.zero_le, Nat.sub_self, cast_oN, si_shl, si_shr, b_ft, b_tf, n_ft, n_tf, n_ff, n_tt, wrap_if, wrap_i64, wrap_u32, wrap_u64, List.not_mem_nil, List.mem_cons, or_false, false_or, ofVal, ofL, packT, isCell, row0, row1, row2, row3, evPick, evSlc3, optNat, evBld, fillD, mapO, zipI, slOf, getE1, getE2, getE3, setE2, setE3, beq0s, beqs0, List.length_append, sI, sB, loopG, bG, tG, nSign_s, nDivMod_s hy h1 h2, hs, i43, i48, i92, i94, i97, i112, i113, i114, i115, i124, i125, i137, i139, i143, i155, i156, i157, i158, i159, i160, i163, i182, i195, i196, i197, i219, i220, i221, i222, i224, i232, i233, i240, i241, i250, i251, i261, i262, i279, i280]
  exact ⟨_, _, _, _, rfl⟩
theorem exit_G (x : Int) (E : List (Option Blk)) (b2 : Option Blk) (t0 t1 t4 t6 : T) (W : List Nat) (fl : Nat) :
    evCode bG fl loopG ⟨[t0, t1, .t (.one (.ptr 1 0)), .t (.one (.ptr 0 0)), t4, .t (.one (.ptr 2 0)), t6], sB x :: sB 0 :: b2 :: E, [], W, []⟩ =
      some (.exit 0, ⟨[t0, t1, .t (.one (.ptr 1 0)), .t (.one (.ptr 0 0)), t4, .t (.one (.ptr 2 0)), boolT false], sB x :: sB 0 :: b2 :: E, [], W, []⟩) := by
  have hs : ((0 : Int).sign != Int.ofNat 0) = false := rfl
  have h0 := nSign_s 0
  simp (maxSteps := 100000000) only [List.length_cons, List.length_nil, List.map_cons, List.map_nil, List.take_succ_cons, List.take_zero, List.drop_succ_cons, List.drop_zero, List.set_cons_zero, List.set_cons_succ, List.getElem?_cons_zero, List.getElem?_cons_succ, List.getElem?_nil, List.cons_append, List.nil_append, List.append_nil, Option.map_some, Option.map_none, Option.bind_some, Option.bind_none, ↓reduceIte, Nat.reduceBEq, Nat.reduceEqDiff, Nat.reducePow, Nat.blt, Nat.ble_eq, Nat.reduceLeDiff, Nat.reduceSucc, Nat.reduceAdd, Nat.reduceSub, Nat.reduceMul, Nat.reduceDiv, Nat.reduceMod, Nat.reduceLT, and_self, and_true, true_and, List.elem_nil, Bool.false_eq_true, oN_lt, oN_le, oN_gt, oN_ge, oN_beq, oN_bne, oN_sub, decide_true, decide_false, Nat.mul_one, Nat.one_mul, Nat.add_zero, Nat.zero_add, Nat.le_refl, not_true_eq_false, not_false_eq_true, Bool.not_true, Bool.not_false, bne_self_eq_false, beq_self_eq_true, Bool.and_self, Bool.and_true, Bool.true_and, Bool.and_false, Bool.false_and, IntKind.bits, Nat.lt_irrefl, loopN, evRf, evRs, mkRes, allT1, closeD, toVs, toV1, toV1s, fz, fzL, canon, fuelZ, fnOf, callB', callB, addS, ptrT, toT, setSeg, evIxS, evIxR, evPart, evAt, evExtract, evStore, evO, evAppend, evCopy, rowOf, blkW, intV_of, lim64, limu64, limu32, bM, V1.t1, evFn, evCode, Ft.tb, Ft.fn, tI, callN, inArgs, nilsT, setN, runR, stepO, wantO, kd, evA, evR, evOd, nth, cellsT, setO, okLo, evOff, offD, wi, evLd, blkOf, cellsAt, partT, evLen, magOf_zero, natT, plainT, plainD, evPk, ev2, ev1, vecT, pv, bi_add, bi_sub, bi_mul, bi_quo, bi_rem, bi_eql, bi_neq, bi_lss, bi_leq, bi_gtr, bi_geq, bi_and, bi_or32, bi_xor, List.filter_cons, List.filter_nil, List.elem_cons, nat_beq, i64_m1, Nat.reduceBNe, Option.isSome_some, Option.isSome_none, evSlc, evCap, evNilS, isNilT, boolT, evBslF, bsCells, unC, List.isEmpty_cons, List.isEmpty_nil, false_and, and_false, Nat.not_lt_zero, nS_beq, nS_bne, nS_lt, nS_le, nS_gt, nS_ge, notIn, nthI, List.any_nil, List.any_cons, Bool.false_or, Bool.or_false, Bool.or_true, Bool.true_or, Bool.or_self, Nat.min_def, Nat.sub_zero, Nat.zero_le, Nat.sub_self, cast_oN, si_shl, si_shr, b_ft, b_tf, n_ft, n_tf, n_ff, n_tt, wrap_if, wrap_i64, wrap_u32, wrap_u64, List.not_mem_nil, List.mem_cons, or_false, false_or, ofVal, ofL, packT, isCell, row0, row1, row2, row3, evPick, evSlc3, optNat, evBld, fillD, mapO, zipI, slOf, sI, sB, loopG, bG, tG, h0, hs, i43, i48, i92, i94, i97, i112, i113, i114, i115, i124, i125, i137, i139, i143, i155, i156, i157, i158, i159, i160, i163, i182, i195, i196, i197, i219, i220, i221, i222, i224, i232, i233, i240, i241, i250, i251, i261, i262, i279, i280]

theorem absI_eq (z : Int) : absI z = z.natAbs := by cases z <;> rfl
theorem loop_G (fl : Nat) (t0 t1 : T) (b2 : Option Blk) : ∀ (n : Nat) (x y : Int) (E : List (Option Blk)) (t4 t6 : T) (W : List Nat), absI y < n → Fit x → Fit y →
    ∃ z E' t4' t6' W', loopN (evCode bG fl loopG) n ⟨[t0, t1, .t (.one (.ptr 1 0)), .t (.one (.ptr 0 0)), t4, .t (.one (.ptr 2 0)), t6], sB x :: sB y :: b2 :: E, [], W, []⟩ =
      some (.exit 0, ⟨[t0, t1, .t (.one (.ptr 1 0)), .t (.one (.ptr 0 0)), t4', .t (.one (.ptr 2 0)), t6'], sB z :: sB 0 :: b2 :: E', [], W', []⟩) ∧ absI z = Int.gcd x y ∧ Fit z := by
  intro n
  induction n with
  | zero => intro x y E t4 t6 W h; omega
  | succ n ih =>
    intro x y E t4 t6 W h fx fy
    by_cases hy : y = 0
    · subst hy
      refine ⟨x, E, t4, boolT false, W, ?_, by rw [absI_eq, Int.gcd_zero], fx⟩
      rw [loopN, exit_G]
    · unfold Fit at fx fy
      rw [absI_eq] at fx fy h
      have hm0 : 0 ≤ modI x y := Int.emod_nonneg x hy
      have hm1 : modI x y < y.natAbs := by
        exact Int.emod_lt x hy
      have h1 : Fit (divI x y) := by
        unfold Fit; rw [absI_eq]
        have : (divI x y).natAbs ≤ x.natAbs := Int.natAbs_ediv_le_natAbs x y
        omega
      have h2 : Fit (modI x y) := by unfold Fit; rw [absI_eq]; omega
      obtain ⟨E', t4', t6', W', hs⟩ := step_G x y hy h1 h2 E b2 t0 t1 t4 t6 W fl
      obtain ⟨z, E'', t4'', t6'', W'', e1, e2, e3⟩ := ih y (modI x y) E' t4' t6' W' (by rw [absI_eq]; omega) (by unfold Fit; rw [absI_eq]; exact fy) h2
      refine ⟨z, E'', t4'', t6'', W'', ?_, ?_, e3⟩
      · rw [loopN, hs]; exact e1
      · rw [e2]
        show Int.gcd y (x % y) = _
        rw [Int.emod_def, Int.gcd_comm x y]
        simp

abbrev rZ' : V1 := .agg [.v (.bool false), .sl 0 []]
abbrev rV' (n : Nat) : V1 := .agg [.v (.bool false), .sl 1 [.vec [.int .u32 (Int.ofNat n)]]]
def fuelG : Nat := 4294967296
def cG : CFn := callN tG.tb 10 8
def preG : CC := match i240.code with
  | .seq a _ => a
  | _ => .skip
def restG : CC := match i240.code with
  | .seq _ (.seq _ r) => r
  | _ => .skip
theorem gcd_code : i240 = ⟨false, 7, [some 1, some 0], .seq preG (.seq (.block 0 (.loop loopG)) restG), [.cell true 2 5]⟩ := rfl
theorem made_pos {n : Nat} (h : 0 < n) (H : Hp) (S : List Nat) : cG (.t (.one (.c (.v (.func (.func 97) ⟨[]⟩ ⟨[]⟩))))) [.t (.one (.c (.mag [n]))), .t (.one (.c (.v (.bool false))))] H S = some (.t (.agg [.c (.v (.bool false)), .c (.sl 1 [.vec [.int .u32 (Int.ofNat n)]])]), H, S, []) := by
  have h0 : (n == 0) = false := by simp only [beq_eq_false_iff_ne, ne_eq]; omega
  simp (maxSteps := 100000000) only [List.length_cons, List.length_nil, List.map_cons, List.map_nil, List.take_succ_cons, List.take_zero, List.drop_succ_cons, List.drop_zero, List.set_cons_zero, List.set_cons_succ, List.getElem?_cons_zero, List.getElem?_cons_succ, List.getElem?_nil, List.cons_append, List.nil_append, List.append_nil, Option.map_some, Option.map_none, Option.bind_some, Option.bind_none, ↓reduceIte, Nat.reduceBEq, Nat.reduceEqDiff, Nat.reducePow, Nat.blt, Nat.ble_eq, Nat.reduceLeDiff, Nat.reduceSucc, Nat.reduceAdd, Nat.reduceSub, Nat.reduceMul, Nat.reduceDiv, Nat.reduceMod, Nat.reduceLT, and_self, and_true, true_and, List.elem_nil, Bool.false_eq_true, oN_lt, oN_le, oN_gt, oN_ge, oN_beq, oN_bne, oN_sub, decide_true, decide_false, Nat.mul_one, Nat.one_mul, Nat.add_zero, Nat.zero_add, Nat.le_refl, not_true_eq_false, not_false_eq_true, Bool.not_true, Bool.not_false, bne_self_eq_false, beq_self_eq_true, Bool.and_self, Bool.and_true, Bool.true_and, Bool.and_false, Bool.false_and, IntKind.bits, Nat.lt_irrefl, loopN, evRf, evRs, mkRes, allT1, closeD, toVs, toV1, toV1s, fz, fzL, canon, fuelZ, fnOf, callB', callB, addS, ptrT, toT, setSeg, evIxS, evIxR, evPart, evAt, evExtract, evStore, evO, evAppend, evCopy, rowOf, blkW, intV_of, lim64, limu64, limu32, bM, V1.t1, evFn, evCode, Ft.tb, Ft.fn, tI, callN, inArgs, nilsT, setN, runR, stepO, wantO, kd, evA, evR, evOd, nth, cellsT, setO, okLo, evOff, offD, wi, evLd, blkOf, cellsAt, partT, evLen, magOf_zero, natT, plainT, plainD, evPk, ev2, ev1, vecT, pv, bi_add, bi_sub, bi_mul, bi_quo, bi_rem, bi_eql, bi_neq, bi_lss, bi_leq, bi_gtr, bi_geq, bi_and, bi_or32, bi_xor, List.filter_cons, List.filter_nil, List.elem_cons, nat_beq, i64_m1, Nat.reduceBNe, Option.isSome_some, Option.isSome_none, evSlc, evCap, evNilS, isNilT, boolT, evBslF, bsCells, unC, List.isEmpty_cons, List.isEmpty_nil, false_and, and_false, Nat.not_lt_zero, nS_beq, nS_bne, nS_lt, nS_le, nS_gt, nS_ge, notIn, nthI, List.any_nil, List.any_cons, Bool.false_or, Bool.or_false, Bool.or_true, Bool.true_or, Bool.or_self, Nat.min_def, Nat.sub_zero, Nat.zero_le, Nat.sub_self, cast_oN, si_shl, si_shr, b_ft, b_tf, n_ft, n_tf, n_ff, n_tt, wrap_if, wrap_i64, wrap_u32, wrap_u64, List.not_mem_nil, List.mem_cons, or_false, false_or, ofVal, ofL, packT, isCell, row0, row1, row2, row3, evPick, evSlc3, optNat, evBld, fillD, mapO, zipI, slOf, cG, tG, magOf_pos h, h0, i43, i48, i92, i94, i97, i112, i113, i114, i115, i124, i125, i137, i139, i143, i155, i156, i157, i158, i159, i160, i163, i182, i195, i196, i197, i219, i220, i221, i222, i224, i232, i233, i240, i241, i250, i251, i261, i262, i279, i280]
theorem made_zero (H : Hp) (S : List Nat) : cG (.t (.one (.c (.v (.func (.func 97) ⟨[]⟩ ⟨[]⟩))))) [.t (.one (.c (.mag [0]))), .t (.one (.c (.v (.bool false))))] H S = some (.t (.agg [.c (.v (.bool false)), .c (.sl 0 [])]), H, S, []) := by
  simp (maxSteps := 100000000) only [List.length_cons, List.length_nil, List.map_cons, List.map_nil, List.take_succ_cons, List.take_zero, List.drop_succ_cons, List.drop_zero, List.set_cons_zero, List.set_cons_succ, List.getElem?_cons_zero, List.getElem?_cons_succ, List.getElem?_nil, List.cons_append, List.nil_append, List.append_nil, Option.map_some, Option.map_none, Option.bind_some, Option.bind_none, ↓reduceIte, Nat.reduceBEq, Nat.reduceEqDiff, Nat.reducePow, Nat.blt, Nat.ble_eq, Nat.reduceLeDiff, Nat.reduceSucc, Nat.reduceAdd, Nat.reduceSub, Nat.reduceMul, Nat.reduceDiv, Nat.reduceMod, Nat.reduceLT, and_self, and_true, true_and, List.elem_nil, Bool.false_eq_true, oN_lt, oN_le, oN_gt, oN_ge, oN_beq, oN_bne, oN_sub, decide_true, decide_false, Nat.mul_one, Nat.one_mul, Nat.add_zero, Nat.zero_add, Nat.le_refl, not_true_eq_false, not_false_eq_true, Bool.not_true, Bool.not_false, bne_self_eq_false, beq_self_eq_true, Bool.and_self, Bool.and_true, Bool.true_and, Bool.and_false, Bool.false_and, IntKind.bits, Nat.lt_irrefl, loopN, evRf, evRs, mkRes, allT1, closeD, toVs, toV1, toV1s, fz, fzL, canon, fuelZ, fnOf, callB', callB, addS, ptrT, toT, setSeg, evIxS, evIxR, evPart, evAt, evExtract, evStore, evO, evAppend, evCopy, rowOf, blkW, intV_of, lim64, limu64, limu32, bM, V1.t1, evFn, evCode, Ft.tb, Ft.fn, tI, callN, inArgs, nilsT, setN, runR, stepO, wantO, kd, evA, evR, evOd, nth, cellsT, setO, okLo, evOff, offD, wi, evLd, blkOf, cellsAt, partT, evLen, magOf_zero, natT, plainT, plainD, evPk, ev2, ev1, vecT, pv, bi_add, bi_sub, bi_mul, bi_quo, bi_rem, bi_eql, bi_neq, bi_lss, bi_leq, bi_gtr, bi_geq, bi_and, bi_or32, bi_xor, List.filter_cons, List.filter_nil, List.elem_cons, nat_beq, i64_m1, Nat.reduceBNe, Option.isSome_some, Option.isSome_none, evSlc, evCap, evNilS, isNilT, boolT, evBslF, bsCells, unC, List.isEmpty_cons, List.isEmpty_nil, false_and, and_false, Nat.not_lt_zero, nS_beq, nS_bne, nS_lt, nS_le, nS_gt, nS_ge, notIn, nthI, List.any_nil, List.any_cons, Bool.false_or, Bool.or_false, Bool.or_true, Bool.true_or, Bool.or_self, Nat.min_def, Nat.sub_zero, Nat.zero_le, Nat.sub_self, cast_oN, si_shl, si_shr, b_ft, b_tf, n_ft, n_tf, n_ff, n_tt, wrap_if, wrap_i64, wrap_u32, wrap_u64, List.not_mem_nil, List.mem_cons, or_false, false_or, ofVal, ofL, packT, isCell, row0, row1, row2, row3, evPick, evSlc3, optNat, evBld, fillD, mapO, zipI, slOf, cG, tG, i43, i48, i92, i94, i97, i112, i113, i114, i115, i124, i125, i137, i139, i143, i155, i156, i157, i158, i159, i160, i163, i182, i195, i196, i197, i219, i220, i221, i222, i224, i232, i233, i240, i241, i250, i251, i261, i262, i279, i280]
theorem gcd_run (x y : Int) (fx : Fit x) (fy : Fit y) : ∃ r, bM cG fuelG i240 [sI x, sI y] = some [r] ∧ IsI r (gcdI x y) := by
  obtain ⟨z, E, t4, t6, W, h1, h2, h3⟩ := loop_G fuelG (.t (.agg [.c (.v (.bool (isNegI y))), .c (.mag [absI y])])) (.t (.agg [.c (.v (.bool (isNegI x))), .c (.mag [absI x])])) (some (.cells [.c (.v (.bool false)), .c (.v (.slice none 0 0))])) fuelG x y [] .nil .nil [] fy fx fy
  have h1' : loopN (evCode cG fuelG loopG) fuelG _ = _ := h1
  simp only [sB] at h1'
  have hg : gcdI x y = mkS false (absI z) := by
    unfold gcdI
    rw [h2, absI_eq, absI_eq]
    rfl
  rw [hg, gcd_code]
  rcases Nat.eq_zero_or_pos (absI z) with h0 | h0
  · refine ⟨rZ', ?_, ?_⟩
    · rw [h0] at h1'
      simp (maxSteps := 100000000) only [List.length_cons, List.length_nil, List.map_cons, List.map_nil, List.take_succ_cons, List.take_zero, List.drop_succ_cons, List.drop_zero, List.set_cons_zero, List.set_cons_succ, List.getElem?_cons_zero, List.getElem?_cons_succ, List.getElem?_nil, List.cons_append, List.nil_append, List.append_nil, Option.map_some, Option.map_none, Option.bind_some, Option.bind_none, ↓reduceIte, Nat.reduceBEq, Nat.reduceEqDiff, Nat.reducePow, Nat.blt, Nat.ble_eq, Nat.reduceLeDiff, Nat.reduceSucc, Nat.reduceAdd, Nat.reduceSub, Nat.reduceMul, Nat.reduceDiv, Nat.reduceMod, Nat.reduceLT, and_self, and_true, true_and, List.elem_nil, Bool.false_eq_true, oN_lt, oN_le, oN_gt, oN_ge, oN_beq, oN_bne, oN_sub, decide_true, decide_false, Nat.mul_one, Nat.one_mul, Nat.add_zero, Nat.zero_add, Nat.le_refl, not_true_eq_false, not_false_eq_true, Bool.not_true, Bool.not_false, bne_self_eq_false, beq_self_eq_true, Bool.and_self, Bool.and_true, Bool.true_and, Bool.and_false, Bool.false_and, IntKind.bits, Nat.lt_irrefl, evRf, evRs, mkRes, allT1, closeD, toVs, toV1, toV1s, fz, fzL, canon, fuelZ, fnOf, callB', callB, addS, ptrT, toT, setSeg, evIxS, evIxR, evPart, evAt, evExtract, evStore, evO, evAppend, evCopy, rowOf, blkW, intV_of, lim64, limu64, limu32, bM, V1.t1, evFn, evCode, Ft.tb, Ft.fn, tI, callN, inArgs, nilsT, setN, runR, stepO, wantO, kd, evA, evR, evOd, nth, cellsT, setO, okLo, evOff, offD, wi, evLd, blkOf, cellsAt, partT, evLen, magOf_zero, natT, plainT, plainD, evPk, ev2, ev1, vecT, pv, bi_add, bi_sub, bi_mul, bi_quo, bi_rem, bi_eql, bi_neq, bi_lss, bi_leq, bi_gtr, bi_geq, bi_and, bi_or32, bi_xor, List.filter_cons, List.filter_nil, List.elem_cons, nat_beq, i64_m1, Nat.reduceBNe, Option.isSome_some, Option.isSome_none, evSlc, evCap, evNilS, isNilT, boolT, evBslF, bsCells, unC, List.isEmpty_cons, List.isEmpty_nil, false_and, and_false, Nat.not_lt_zero, nS_beq, nS_bne, nS_lt, nS_le, nS_gt, nS_ge, notIn, nthI, List.any_nil, List.any_cons, Bool.false_or, Bool.or_false, Bool.or_true, Bool.true_or, Bool.or_self, Nat.min_def, Nat.sub_zero, Nat.zero_le, Nat.sub_self, cast_oN, si_shl, si_shr, b_ft, b_tf, n_ft, n_tf, n_ff, n_tt, wrap_if, wrap_i64, wrap_u32, wrap_u64, List.not_mem_nil, List.mem_cons, or_false, false_or, ofVal, ofL, packT, isCell, row0, row1, row2, row3, evPick, evSlc3, optNat, evBld, fillD, mapO, zipI, slOf, sI, h1', made_zero, preG, restG, i43, i48, i92, i94, i97, i112, i113, i114, i115, i124, i125, i137, i139, i143, i155, i156, i157, i158, i159, i160, i163, i182, i195, i196, i197, i219, i220, i221, i222, i224, i232, i233, i240, i241, i250, i251, i261, i262, i279, i280]
    · rw [h0]; exact isI_zero
  · refine ⟨rV' (absI z), ?_, isI_vec false h0 h3⟩
    simp (maxSteps := 100000000) only [List.length_cons, List.length_nil, List.map_cons, List.map_nil, List.take_succ_cons, List.take_zero, List.drop_succ_cons, List.drop_zero, List.set_cons_zero, List.set_cons_succ, List.getElem?_cons_zero, List.getElem?_cons_succ, List.getElem?_nil, List.cons_append, List.nil_append, List.append_nil, Option.map_some, Option.map_none, Option.bind_some, Option.bind_none, ↓reduceIte, Nat.reduceBEq, Nat.reduceEqDiff, Nat.reducePow, Nat.blt, Nat.ble_eq, Nat.reduceLeDiff, Nat.reduceSucc, Nat.reduceAdd, Nat.reduceSub, Nat.reduceMul, Nat.reduceDiv, Nat.reduceMod, Nat.reduceLT, and_self, and_true, true_and, List.elem_nil, Bool.false_eq_true, oN_lt, oN_le, oN_gt, oN_ge, oN_beq, oN_bne, oN_sub, decide_true, decide_false, Nat.mul_one, Nat.one_mul, Nat.add_zero, Nat.zero_add, Nat.le_refl, not_true_eq_false, not_false_eq_true, Bool.not_true, Bool.not_false, bne_self_eq_false, beq_self_eq_true, Bool.and_self, Bool.and_true, Bool.true_and, Bool.and_false, Bool.false_and, IntKind.bits, Nat.lt_irrefl, evRf, evRs, mkRes, allT1, closeD, toVs, toV1, toV1s, fz, fzL, canon, fuelZ, fnOf, callB', callB, addS, ptrT, toT, setSeg, evIxS, evIxR, evPart, evAt, evExtract, evStore, evO, evAppend, evCopy, rowOf, blkW, intV_of, lim64, limu64, limu32, bM, V1.t1, evFn, evCode, Ft.tb, Ft.fn, tI, callN, inArgs, nilsT, setN, runR, stepO, wantO, kd, evA, evR, evOd, nth, cellsT, setO, okLo, evOff, offD, wi, evLd, blkOf, cellsAt, partT, evLen, magOf_zero, natT, plainT, plainD, evPk, ev2, ev1, vecT, pv, bi_add, bi_sub, bi_mul, bi_quo, bi_rem, bi_eql, bi_neq, bi_lss, bi_leq, bi_gtr, bi_geq, bi_and, bi_or32, bi_xor, List.filter_cons, List.filter_nil, List.elem_cons, nat_beq, i64_m1, Nat.reduceBNe, Option.isSome_some, Option.isSome_none, evSlc, evCap, evNilS, isNilT, boolT, evBslF, bsCells, unC, List.isEmpty_cons, List.isEmpty_nil, false_and, and_false, Nat.not_lt_zero, nS_beq, nS_bne, nS_lt, nS_le, nS_gt, nS_ge, notIn, nthI, List.any_nil, List.any_cons, Bool.false_or, Bool.or_false, Bool.or_true, Bool.true_or, Bool.or_self, Nat.min_def, Nat.sub_zero, Nat.zero_le, Nat.sub_self, cast_oN, si_shl, si_shr, b_ft, b_tf, n_ft, n_tf, n_ff, n_tt, wrap_if, wrap_i64, wrap_u32, wrap_u64, List.not_mem_nil, List.mem_cons, or_false, false_or, ofVal, ofL, packT, isCell, row0, row1, row2, row3, evPick, evSlc3, optNat, evBld, fillD, mapO, zipI, slOf, sI, h1', made_pos h0, preG, restG, i43, i48, i92, i94, i97, i112, i113, i114, i115, i124, i125, i137, i139, i143, i155, i156, i157, i158, i159, i160, i163, i182, i195, i196, i197, i219, i220, i221, i222, i224, i232, i233, i240, i241, i250, i251, i261, i262, i279, i280]
theorem run_con2 {k : Cls} {t : Ft} (h : t.Ok Tryz.prog k Bts) {f : FuncId} {c : FnC} (hf : FnOk Tryz.prog Bts f c) (fl fl' n : Nat) : Con Tryz.prog k f (bM (callN t.tb fl n) fl' c) :=
  bM_ok (evFn_ok (callN_ok (by kernel_rfl) (Ft.tb_ok h) n) (by kernel_rfl) hf)
theorem nGcd_240 {k : Cls} : Con Tryz.prog k 240 nGcd := by
  have h : Con Tryz.prog k 240 (bM cG fuelG i240) := run_con2 tG_ok i240_ok 10 fuelG 8
  exact con_nat2 h fun x y fx fy _ => gcd_run x y fx fy
end Go.Proofs.YtcejidongpkpoaaGreat
namespace Go.Proofs.YtcejidongpkpoaaGreat
open Go Go.Mach Go.Flow
set_option maxRecDepth 100000
set_option maxHeartbeats 4000000

abbrev uV (n : Nat) : Value := .int .u32 (Int.ofNat n)
abbrev mV (n : Nat) : V1 := .one (.mag [n])
abbrev e0 : V1 := .one (.sl 0 [])
abbrev fV : V1 := .one (.v (.bool false))
theorem dv_0 {y : Nat} (hy : 0 < y) : runI i182 [mV 0, mV y] = some [e0, e0] := by
  simp (maxSteps := 100000000) only [List.length_cons, List.length_nil, List.map_cons, List.map_nil, List.take_succ_cons, List.take_zero, List.drop_succ_cons, List.drop_zero, List.set_cons_zero, List.set_cons_succ, List.getElem?_cons_zero, List.getElem?_cons_succ, List.getElem?_nil, List.cons_append, List.nil_append, List.append_nil, Option.map_some, Option.map_none, Option.bind_some, Option.bind_none, ↓reduceIte, Nat.reduceBEq, Nat.reduceEqDiff, Nat.reducePow, Nat.blt, Nat.ble_eq, Nat.reduceLeDiff, Nat.reduceSucc, Nat.reduceAdd, Nat.reduceSub, Nat.reduceMul, Nat.reduceDiv, Nat.reduceMod, Nat.reduceLT, and_self, and_true, true_and, List.elem_nil, Bool.false_eq_true, oN_lt, oN_le, oN_gt, oN_ge, oN_beq, oN_bne, oN_sub, decide_true, decide_false, Nat.mul_one, Nat.one_mul, Nat.add_zero, Nat.zero_add, Nat.le_refl, not_true_eq_false, not_false_eq_true, Bool.not_true, Bool.not_false, bne_self_eq_false, beq_self_eq_true, Bool.and_self, Bool.and_true, Bool.true_and, Bool.and_false, Bool.false_and, IntKind.bits, Nat.lt_irrefl, loopN, evRf, evRs, mkRes, allT1, closeD, toVs, toV1, toV1s, fz, fzL, canon, fuelZ, fnOf, callB', callB, addS, ptrT, toT, setSeg, evIxS, evIxR, evPart, evAt, evExtract, evStore, evO, evAppend, evCopy, rowOf, blkW, intV_of, lim64, limu64, limu32, bM, V1.t1, evFn, evCode, Ft.tb, Ft.fn, tI, callN, inArgs, nilsT, setN, runR, stepO, wantO, kd, evA, evR, evOd, nth, cellsT, setO, okLo, evOff, offD, wi, evLd, blkOf, cellsAt, partT, evLen, magOf_zero, natT, plainT, plainD, evPk, ev2, ev1, vecT, pv, bi_add, bi_sub, bi_mul, bi_quo, bi_rem, bi_eql, bi_neq, bi_lss, bi_leq, bi_gtr, bi_geq, bi_and, bi_or32, bi_xor, List.filter_cons, List.filter_nil, List.elem_cons, nat_beq, i64_m1, Nat.reduceBNe, Option.isSome_some, Option.isSome_none, evSlc, evCap, evNilS, isNilT, boolT, evBslF, bsCells, unC, List.isEmpty_cons, List.isEmpty_nil, false_and, and_false, Nat.not_lt_zero, nS_beq, nS_bne, nS_lt, nS_le, nS_gt, nS_ge, notIn, nthI, List.any_nil, List.any_cons, Bool.false_or, Bool.or_false, Bool.or_true, Bool.true_or, Bool.or_self, Nat.min_def, Nat.sub_zero, Nat.zero_le, Nat.sub_self, cast_oN, si_shl, si_shr, b_ft, b_tf, n_ft, n_tf, n_ff, n_tt, wrap_if, wrap_i64, wrap_u32, wrap_u64, List.not_mem_nil, List.mem_cons, or_false, false_or, ofVal, ofL, packT, isCell, row0, row1, row2, row3, evPick, evSlc3, optNat, evBld, fillD, mapO, zipI, slOf, sI, isNegI, absI, runI, isEmp_0, cloneM, magOf_pos hy, i43, i48, i92, i94, i97, i112, i113, i114, i115, i124, i125, i137, i139, i143, i155, i156, i157, i158, i159, i160, i163, i182, i195, i196, i197, i219, i220, i221, i222, i224, i232, i233, i240, i241, i250, i251, i261, i262, i279, i280]
theorem dv_lt {x y : Nat} (hx : 0 < x) (hy : 0 < y) (h : x < y) : runI i182 [mV x, mV y] = some [e0, .one (.sl 1 [.vec [uV x]])] := by
  simp (maxSteps := 100000000) only [List.length_cons, List.length_nil, List.map_cons, List.map_nil, List.take_succ_cons, List.take_zero, List.drop_succ_cons, List.drop_zero, List.set_cons_zero, List.set_cons_succ, List.getElem?_cons_zero, List.getElem?_cons_succ, List.getElem?_nil, List.cons_append, List.nil_append, List.append_nil, Option.map_some, Option.map_none, Option.bind_some, Option.bind_none, ↓reduceIte, Nat.reduceBEq, Nat.reduceEqDiff, Nat.reducePow, Nat.blt, Nat.ble_eq, Nat.reduceLeDiff, Nat.reduceSucc, Nat.reduceAdd, Nat.reduceSub, Nat.reduceMul, Nat.reduceDiv, Nat.reduceMod, Nat.reduceLT, and_self, and_true, true_and, List.elem_nil, Bool.false_eq_true, oN_lt, oN_le, oN_gt, oN_ge, oN_beq, oN_bne, oN_sub, decide_true, decide_false, Nat.mul_one, Nat.one_mul, Nat.add_zero, Nat.zero_add, Nat.le_refl, not_true_eq_false, not_false_eq_true, Bool.not_true, Bool.not_false, bne_self_eq_false, beq_self_eq_true, Bool.and_self, Bool.and_true, Bool.true_and, Bool.and_false, Bool.false_and, IntKind.bits, Nat.lt_irrefl, loopN, evRf, evRs, mkRes, allT1, closeD, toVs, toV1, toV1s, fz, fzL, canon, fuelZ, fnOf, callB', callB, addS, ptrT, toT, setSeg, evIxS, evIxR, evPart, evAt, evExtract, evStore, evO, evAppend, evCopy, rowOf, blkW, intV_of, lim64, limu64, limu32, bM, V1.t1, evFn, evCode, Ft.tb, Ft.fn, tI, callN, inArgs, nilsT, setN, runR, stepO, wantO, kd, evA, evR, evOd, nth, cellsT, setO, okLo, evOff, offD, wi, evLd, blkOf, cellsAt, partT, evLen, magOf_zero, natT, plainT, plainD, evPk, ev2, ev1, vecT, pv, bi_add, bi_sub, bi_mul, bi_quo, bi_rem, bi_eql, bi_neq, bi_lss, bi_leq, bi_gtr, bi_geq, bi_and, bi_or32, bi_xor, List.filter_cons, List.filter_nil, List.elem_cons, nat_beq, i64_m1, Nat.reduceBNe, Option.isSome_some, Option.isSome_none, evSlc, evCap, evNilS, isNilT, boolT, evBslF, bsCells, unC, List.isEmpty_cons, List.isEmpty_nil, false_and, and_false, Nat.not_lt_zero, nS_beq, nS_bne, nS_lt, nS_le, nS_gt, nS_ge, notIn, nthI, List.any_nil, List.any_cons, Bool.false_or, Bool.or_false, Bool.or_true, Bool.true_or, Bool.or_self, Nat.min_def, Nat.sub_zero, Nat.zero_le, Nat.sub_self, cast_oN, si_shl, si_shr, b_ft, b_tf, n_ft, n_tf, n_ff, n_tt, wrap_if, wrap_i64, wrap_u32, wrap_u64, List.not_mem_nil, List.mem_cons, or_false, false_or, ofVal, ofL, packT, isCell, row0, row1, row2, row3, evPick, evSlc3, optNat, evBld, fillD, mapO, zipI, slOf, sI, isNegI, absI, runI, isEmp_pos hx, cloneM, magOf_pos hx, magOf_pos hy, h, i43, i48, i92, i94, i97, i112, i113, i114, i115, i124, i125, i137, i139, i143, i155, i156, i157, i158, i159, i160, i163, i182, i195, i196, i197, i219, i220, i221, i222, i224, i232, i233, i240, i241, i250, i251, i261, i262, i279, i280]
theorem dv_eq {x : Nat} (hx : 0 < x) (h1 : x < 4294967296) : runI i182 [mV x, mV x] = some [.one (.sl 1 [.v (uV (x / x))]), .one (.sl 1 [.v (uV (x % x))])] := by
  have h0 : (x == 0) = false := by simp only [beq_eq_false_iff_ne, ne_eq]; omega
  have h2 : x < 18446744073709551616 := by omega
  have hq : x / x = 1 := Nat.div_self hx
  have hs : x % x = 0 := Nat.mod_self x
  rw [hq, hs]
  simp (maxSteps := 100000000) only [List.length_cons, List.length_nil, List.map_cons, List.map_nil, List.take_succ_cons, List.take_zero, List.drop_succ_cons, List.drop_zero, List.set_cons_zero, List.set_cons_succ, List.getElem?_cons_zero, List.getElem?_cons_succ, List.getElem?_nil, List.cons_append, List.nil_append, List.append_nil, Option.map_some, Option.map_none, Option.bind_some, Option.bind_none, ↓reduceIte, Nat.reduceBEq, Nat.reduceEqDiff, Nat.reducePow, Nat.blt, Nat.ble_eq, Nat.reduceLeDiff, Nat.reduceSucc, Nat.reduceAdd, Nat.reduceSub, Nat.reduceMul, Nat.reduceDiv, Nat.reduceMod, Nat.reduceLT, and_self, and_true, true_and, List.elem_nil, Bool.false_eq_true, oN_lt, oN_le, oN_gt, oN_ge, oN_beq, oN_bne, oN_sub, decide_true, decide_false, Nat.mul_one, Nat.one_mul, Nat.add_zero, Nat.zero_add, Nat.le_refl, not_true_eq_false, not_false_eq_true, Bool.not_true, Bool.not_false, bne_self_eq_false, beq_self_eq_true, Bool.and_self, Bool.and_true, Bool.true_and, Bool.and_false, Bool.false_and, IntKind.bits, Nat.lt_irrefl, loopN, evRf, evRs, mkRes, allT1, closeD, toVs, toV1, toV1s, fz, fzL, canon, fuelZ, fnOf, callB', callB, addS, ptrT, toT, setSeg, evIxS, evIxR, evPart, evAt, evExtract, evStore, evO, evAppend, evCopy, rowOf, blkW, intV_of, lim64, limu64, limu32, bM, V1.t1, evFn, evCode, Ft.tb, Ft.fn, tI, callN, inArgs, nilsT, setN, runR, stepO, wantO, kd, evA, evR, evOd, nth, cellsT, setO, okLo, evOff, offD, wi, evLd, blkOf, cellsAt, partT, evLen, magOf_zero, natT, plainT, plainD, evPk, ev2, ev1, vecT, pv, bi_add, bi_sub, bi_mul, bi_quo, bi_rem, bi_eql, bi_neq, bi_lss, bi_leq, bi_gtr, bi_geq, bi_and, bi_or32, bi_xor, List.filter_cons, List.filter_nil, List.elem_cons, nat_beq, i64_m1, Nat.reduceBNe, Option.isSome_some, Option.isSome_none, evSlc, evCap, evNilS, isNilT, boolT, evBslF, bsCells, unC, List.isEmpty_cons, List.isEmpty_nil, false_and, and_false, Nat.not_lt_zero, nS_beq, nS_bne, nS_lt, nS_le, nS_gt, nS_ge, notIn, nthI, List.any_nil, List.any_cons, Bool.false_or, Bool.or_false, Bool.or_true, Bool.true_or, Bool.or_self, Nat.min_def, Nat.sub_zero, Nat.zero_le, Nat.sub_self, cast_oN, si_shl, si_shr, b_ft, b_tf, n_ft, n_tf, n_ff, n_tt, wrap_if, wrap_i64, wrap_u32, wrap_u64, List.not_mem_nil, List.mem_cons, or_false, false_or, ofVal, ofL, packT, isCell, row0, row1, row2, row3, evPick, evSlc3, optNat, evBld, fillD, mapO, zipI, slOf, sI, isNegI, absI, runI, h0, h1, h2, magOf_pos hx, bi_or64 h2, hq, hs, i43, i48, i92, i94, i97, i112, i113, i114, i115, i124, i125, i137, i139, i143, i155, i156, i157, i158, i159, i160, i163, i182, i195, i196, i197, i219, i220, i221, i222, i224, i232, i233, i240, i241, i250, i251, i261, i262, i279, i280]
theorem dv_gt {x y : Nat} (hx : 0 < x) (hy : 0 < y) (h : y < x) (h1 : x < 4294967296) : runI i182 [mV x, mV y] = some [.one (.sl 1 [.v (uV (x / y))]), .one (.sl 1 [.v (uV (x % y))])] := by
  have h0 : (y == 0) = false := by simp only [beq_eq_false_iff_ne, ne_eq]; omega
  have h2 : x < 18446744073709551616 := by omega
  have h2' : y < 18446744073709551616 := by omega
  have hq := Nat.div_le_self x y
  have hr := Nat.mod_lt x hy
  have h4 : x / y < 4294967296 := by omega
  have h5 : x / y < 18446744073709551616 := by omega
  have h7 : x % y < 4294967296 := by omega
  have hn : (x < y) = False := eq_false (by omega)
  simp (maxSteps := 100000000) only [List.length_cons, List.length_nil, List.map_cons, List.map_nil, List.take_succ_cons, List.take_zero, List.drop_succ_cons, List.drop_zero, List.set_cons_zero, List.set_cons_succ, List.getElem?_cons_zero, List.getElem?_cons_succ, List.getElem?_nil, List.cons_append, List.nil_append, List.append_nil, Option.map_some, Option.map_none, Option.bind_some, Option.bind_none, ↓reduceIte, Nat.reduceBEq, Nat.reduceEqDiff, Nat.reducePow, Nat.blt, Nat.ble_eq, Nat.reduceLeDiff, Nat.reduceSucc, Nat.reduceAdd, Nat.reduceSub, Nat.reduceMul, Nat.reduceDiv, Nat.reduceMod, Nat.reduceLT, and_self, and_true, true_and, List.elem_nil, Bool.false_eq_true, oN_lt, oN_le, oN_gt, oN_ge, oN_beq, oN_bne, oN_sub, decide_true, decide_false, Nat.mul_one, Nat.one_mul, Nat.add_zero, Nat.zero_add, Nat.le_refl, not_true_eq_false, not_false_eq_true, Bool.not_true, Bool.not_false, bne_self_eq_false, beq_self_eq_true, Bool.and_self, Bool.and_true, Bool.true_and, Bool.and_false, Bool.false_and, IntKind.bits, Nat.lt_irrefl, loopN, evRf, evRs, mkRes, allT1, closeD, toVs, toV1, toV1s, fz, fzL, canon, fuelZ, fnOf, callB', callB, addS, ptrT, toT, setSeg, evIxS, evIxR, evPart, evAt, evExtract, evStore, evO, evAppend, evCopy, rowOf, blkW, intV_of, lim64, limu64, limu32, bM, V1.t1, evFn, evCode, Ft.tb, Ft.fn, tI, callN, inArgs, nilsT, setN, runR, stepO, wantO, kd, evA, evR, evOd, nth, cellsT, setO, okLo, evOff, offD, wi, evLd, blkOf, cellsAt, partT, evLen, magOf_zero, natT, plainT, plainD, evPk, ev2, ev1, vecT, pv, bi_add, bi_sub, bi_mul, bi_quo, bi_rem, bi_eql, bi_neq, bi_lss, bi_leq, bi_gtr, bi_geq, bi_and, bi_or32, bi_xor, List.filter_cons, List.filter_nil, List.elem_cons, nat_beq, i64_m1, Nat.reduceBNe, Option.isSome_some, Option.isSome_none, evSlc, evCap, evNilS, isNilT, boolT, evBslF, bsCells, unC, List.isEmpty_cons, List.isEmpty_nil, false_and, and_false, Nat.not_lt_zero, nS_beq, nS_bne, nS_lt, nS_le, nS_gt, nS_ge, notIn, nthI, List.any_nil, List.any_cons, Bool.false_or, Bool.or_false, Bool.or_true, Bool.true_or, Bool.or_self, Nat.min_def, Nat.sub_zero, Nat.zero_le, Nat.sub_self, cast_oN, si_shl, si_shr, b_ft, b_tf, n_ft, n_tf, n_ff, n_tt, wrap_if, wrap_i64, wrap_u32, wrap_u64, List.not_mem_nil, List.mem_cons, or_false, false_or, ofVal, ofL, packT, isCell, row0, row1, row2, row3, evPick, evSlc3, optNat, evBld, fillD, mapO, zipI, slOf, sI, isNegI, absI, runI, h, hn, h0, h1, h2, h2', h4, h5, h7, magOf_pos hx, magOf_pos hy, bi_or64 h2, i43, i48, i92, i94, i97, i112, i113, i114, i115, i124, i125, i137, i139, i143, i155, i156, i157, i158, i159, i160, i163, i182, i195, i196, i197, i219, i220, i221, i222, i224, i232, i233, i240, i241, i250, i251, i261, i262, i279, i280]
theorem nm_e : runI i155 [e0, fV] = some [rZ] := by
  simp (maxSteps := 100000000) only [List.length_cons, List.length_nil, List.map_cons, List.map_nil, List.take_succ_cons, List.take_zero, List.drop_succ_cons, List.drop_zero, List.set_cons_zero, List.set_cons_succ, List.getElem?_cons_zero, List.getElem?_cons_succ, List.getElem?_nil, List.cons_append, List.nil_append, List.append_nil, Option.map_some, Option.map_none, Option.bind_some, Option.bind_none, ↓reduceIte, Nat.reduceBEq, Nat.reduceEqDiff, Nat.reducePow, Nat.blt, Nat.ble_eq, Nat.reduceLeDiff, Nat.reduceSucc, Nat.reduceAdd, Nat.reduceSub, Nat.reduceMul, Nat.reduceDiv, Nat.reduceMod, Nat.reduceLT, and_self, and_true, true_and, List.elem_nil, Bool.false_eq_true, oN_lt, oN_le, oN_gt, oN_ge, oN_beq, oN_bne, oN_sub, decide_true, decide_false, Nat.mul_one, Nat.one_mul, Nat.add_zero, Nat.zero_add, Nat.le_refl, not_true_eq_false, not_false_eq_true, Bool.not_true, Bool.not_false, bne_self_eq_false, beq_self_eq_true, Bool.and_self, Bool.and_true, Bool.true_and, Bool.and_false, Bool.false_and, IntKind.bits, Nat.lt_irrefl, loopN, evRf, evRs, mkRes, allT1, closeD, toVs, toV1, toV1s, fz, fzL, canon, fuelZ, fnOf, callB', callB, addS, ptrT, toT, setSeg, evIxS, evIxR, evPart, evAt, evExtract, evStore, evO, evAppend, evCopy, rowOf, blkW, intV_of, lim64, limu64, limu32, bM, V1.t1, evFn, evCode, Ft.tb, Ft.fn, tI, callN, inArgs, nilsT, setN, runR, stepO, wantO, kd, evA, evR, evOd, nth, cellsT, setO, okLo, evOff, offD, wi, evLd, blkOf, cellsAt, partT, evLen, magOf_zero, natT, plainT, plainD, evPk, ev2, ev1, vecT, pv, bi_add, bi_sub, bi_mul, bi_quo, bi_rem, bi_eql, bi_neq, bi_lss, bi_leq, bi_gtr, bi_geq, bi_and, bi_or32, bi_xor, List.filter_cons, List.filter_nil, List.elem_cons, nat_beq, i64_m1, Nat.reduceBNe, Option.isSome_some, Option.isSome_none, evSlc, evCap, evNilS, isNilT, boolT, evBslF, bsCells, unC, List.isEmpty_cons, List.isEmpty_nil, false_and, and_false, Nat.not_lt_zero, nS_beq, nS_bne, nS_lt, nS_le, nS_gt, nS_ge, notIn, nthI, List.any_nil, List.any_cons, Bool.false_or, Bool.or_false, Bool.or_true, Bool.true_or, Bool.or_self, Nat.min_def, Nat.sub_zero, Nat.zero_le, Nat.sub_self, cast_oN, si_shl, si_shr, b_ft, b_tf, n_ft, n_tf, n_ff, n_tt, wrap_if, wrap_i64, wrap_u32, wrap_u64, List.not_mem_nil, List.mem_cons, or_false, false_or, ofVal, ofL, packT, isCell, row0, row1, row2, row3, evPick, evSlc3, optNat, evBld, fillD, mapO, zipI, slOf, sI, isNegI, absI, runI, i43, i48, i92, i94, i97, i112, i113, i114, i115, i124, i125, i137, i139, i143, i155, i156, i157, i158, i159, i160, i163, i182, i195, i196, i197, i219, i220, i221, i222, i224, i232, i233, i240, i241, i250, i251, i261, i262, i279, i280]
theorem nm_0 : runI i155 [.one (.sl 1 [.v (uV 0)]), fV] = some [rZ] := by
  simp (maxSteps := 100000000) only [List.length_cons, List.length_nil, List.map_cons, List.map_nil, List.take_succ_cons, List.take_zero, List.drop_succ_cons, List.drop_zero, List.set_cons_zero, List.set_cons_succ, List.getElem?_cons_zero, List.getElem?_cons_succ, List.getElem?_nil, List.cons_append, List.nil_append, List.append_nil, Option.map_some, Option.map_none, Option.bind_some, Option.bind_none, ↓reduceIte, Nat.reduceBEq, Nat.reduceEqDiff, Nat.reducePow, Nat.blt, Nat.ble_eq, Nat.reduceLeDiff, Nat.reduceSucc, Nat.reduceAdd, Nat.reduceSub, Nat.reduceMul, Nat.reduceDiv, Nat.reduceMod, Nat.reduceLT, and_self, and_true, true_and, List.elem_nil, Bool.false_eq_true, oN_lt, oN_le, oN_gt, oN_ge, oN_beq, oN_bne, oN_sub, decide_true, decide_false, Nat.mul_one, Nat.one_mul, Nat.add_zero, Nat.zero_add, Nat.le_refl, not_true_eq_false, not_false_eq_true, Bool.not_true, Bool.not_false, bne_self_eq_false, beq_self_eq_true, Bool.and_self, Bool.and_true, Bool.true_and, Bool.and_false, Bool.false_and, IntKind.bits, Nat.lt_irrefl, loopN, evRf, evRs, mkRes, allT1, closeD, toVs, toV1, toV1s, fz, fzL, canon, fuelZ, fnOf, callB', callB, addS, ptrT, toT, setSeg, evIxS, evIxR, evPart, evAt, evExtract, evStore, evO, evAppend, evCopy, rowOf, blkW, intV_of, lim64, limu64, limu32, bM, V1.t1, evFn, evCode, Ft.tb, Ft.fn, tI, callN, inArgs, nilsT, setN, runR, stepO, wantO, kd, evA, evR, evOd, nth, cellsT, setO, okLo, evOff, offD, wi, evLd, blkOf, cellsAt, partT, evLen, magOf_zero, natT, plainT, plainD, evPk, ev2, ev1, vecT, pv, bi_add, bi_sub, bi_mul, bi_quo, bi_rem, bi_eql, bi_neq, bi_lss, bi_leq, bi_gtr, bi_geq, bi_and, bi_or32, bi_xor, List.filter_cons, List.filter_nil, List.elem_cons, nat_beq, i64_m1, Nat.reduceBNe, Option.isSome_some, Option.isSome_none, evSlc, evCap, evNilS, isNilT, boolT, evBslF, bsCells, unC, List.isEmpty_cons, List.isEmpty_nil, false_and, and_false, Nat.not_lt_zero, nS_beq, nS_bne, nS_lt, nS_le, nS_gt, nS_ge, notIn, nthI, List.any_nil, List.any_cons, Bool.false_or, Bool.or_false, Bool.or_true, Bool.true_or, Bool.or_self, Nat.min_def, Nat.sub_zero, Nat.zero_le, Nat.sub_self, cast_oN, si_shl, si_shr, b_ft, b_tf, n_ft, n_tf, n_ff, n_tt, wrap_if, wrap_i64, wrap_u32, wrap_u64, List.not_mem_nil, List.mem_cons, or_false, false_or, ofVal, ofL, packT, isCell, row0, row1, row2, row3, evPick, evSlc3, optNat, evBld, fillD, mapO, zipI, slOf, sI, isNegI, absI, runI, i43, i48, i92, i94, i97, i112, i113, i114, i115, i124, i125, i137, i139, i143, i155, i156, i157, i158, i159, i160, i163, i182, i195, i196, i197, i219, i220, i221, i222, i224, i232, i233, i240, i241, i250, i251, i261, i262, i279, i280]
theorem nm_v {n : Nat} (h : 0 < n) : runI i155 [.one (.sl 1 [.v (uV n)]), fV] = some [rV false n] := by
  have h0 : (n != 0) = true := by simp only [bne_iff_ne, ne_eq]; omega
  simp (maxSteps := 100000000) only [List.length_cons, List.length_nil, List.map_cons, List.map_nil, List.take_succ_cons, List.take_zero, List.drop_succ_cons, List.drop_zero, List.set_cons_zero, List.set_cons_succ, List.getElem?_cons_zero, List.getElem?_cons_succ, List.getElem?_nil, List.cons_append, List.nil_append, List.append_nil, Option.map_some, Option.map_none, Option.bind_some, Option.bind_none, ↓reduceIte, Nat.reduceBEq, Nat.reduceEqDiff, Nat.reducePow, Nat.blt, Nat.ble_eq, Nat.reduceLeDiff, Nat.reduceSucc, Nat.reduceAdd, Nat.reduceSub, Nat.reduceMul, Nat.reduceDiv, Nat.reduceMod, Nat.reduceLT, and_self, and_true, true_and, List.elem_nil, Bool.false_eq_true, oN_lt, oN_le, oN_gt, oN_ge, oN_beq, oN_bne, oN_sub, decide_true, decide_false, Nat.mul_one, Nat.one_mul, Nat.add_zero, Nat.zero_add, Nat.le_refl, not_true_eq_false, not_false_eq_true, Bool.not_true, Bool.not_false, bne_self_eq_false, beq_self_eq_true, Bool.and_self, Bool.and_true, Bool.true_and, Bool.and_false, Bool.false_and, IntKind.bits, Nat.lt_irrefl, loopN, evRf, evRs, mkRes, allT1, closeD, toVs, toV1, toV1s, fz, fzL, canon, fuelZ, fnOf, callB', callB, addS, ptrT, toT, setSeg, evIxS, evIxR, evPart, evAt, evExtract, evStore, evO, evAppend, evCopy, rowOf, blkW, intV_of, lim64, limu64, limu32, bM, V1.t1, evFn, evCode, Ft.tb, Ft.fn, tI, callN, inArgs, nilsT, setN, runR, stepO, wantO, kd, evA, evR, evOd, nth, cellsT, setO, okLo, evOff, offD, wi, evLd, blkOf, cellsAt, partT, evLen, magOf_zero, natT, plainT, plainD, evPk, ev2, ev1, vecT, pv, bi_add, bi_sub, bi_mul, bi_quo, bi_rem, bi_eql, bi_neq, bi_lss, bi_leq, bi_gtr, bi_geq, bi_and, bi_or32, bi_xor, List.filter_cons, List.filter_nil, List.elem_cons, nat_beq, i64_m1, Nat.reduceBNe, Option.isSome_some, Option.isSome_none, evSlc, evCap, evNilS, isNilT, boolT, evBslF, bsCells, unC, List.isEmpty_cons, List.isEmpty_nil, false_and, and_false, Nat.not_lt_zero, nS_beq, nS_bne, nS_lt, nS_le, nS_gt, nS_ge, notIn, nthI, List.any_nil, List.any_cons, Bool.false_or, Bool.or_false, Bool.or_true, Bool.true_or, Bool.or_self, Nat.min_def, Nat.sub_zero, Nat.zero_le, Nat.sub_self, cast_oN, si_shl, si_shr, b_ft, b_tf, n_ft, n_tf, n_ff, n_tt, wrap_if, wrap_i64, wrap_u32, wrap_u64, List.not_mem_nil, List.mem_cons, or_false, false_or, ofVal, ofL, packT, isCell, row0, row1, row2, row3, evPick, evSlc3, optNat, evBld, fillD, mapO, zipI, slOf, sI, isNegI, absI, runI, h0, i43, i48, i92, i94, i97, i112, i113, i114, i115, i124, i125, i137, i139, i143, i155, i156, i157, i158, i159, i160, i163, i182, i195, i196, i197, i219, i220, i221, i222, i224, i232, i233, i240, i241, i250, i251, i261, i262, i279, i280]
theorem nm_w {n : Nat} (h : 0 < n) : runI i155 [.one (.sl 1 [.vec [uV n]]), fV] = some [.agg [.v (.bool false), .sl 1 [.vec [uV n]]]] := by
  have h0 : (n != 0) = true := by simp only [bne_iff_ne, ne_eq]; omega
  simp (maxSteps := 100000000) only [List.length_cons, List.length_nil, List.map_cons, List.map_nil, List.take_succ_cons, List.take_zero, List.drop_succ_cons, List.drop_zero, List.set_cons_zero, List.set_cons_succ, List.getElem?_cons_zero, List.getElem?_cons_succ, List.getElem?_nil, List.cons_append, List.nil_append, List.append_nil, Option.map_some, Option.map_none, Option.bind_some, Option.bind_none, ↓reduceIte, Nat.reduceBEq, Nat.reduceEqDiff, Nat.reducePow, Nat.blt, Nat.ble_eq, Nat.reduceLeDiff, Nat.reduceSucc, Nat.reduceAdd, Nat.reduceSub, Nat.reduceMul, Nat.reduceDiv, Nat.reduceMod, Nat.reduceLT, and_self, and_true, true_and, List.elem_nil, Bool.false_eq_true, oN_lt, oN_le, oN_gt, oN_ge, oN_beq, oN_bne, oN_sub, decide_true, decide_false, Nat.mul_one, Nat.one_mul, Nat.add_zero, Nat.zero_add, Nat.le_refl, not_true_eq_false, not_false_eq_true, Bool.not_true, Bool.not_false, bne_self_eq_false, beq_self_eq_true, Bool.and_self, Bool.and_true, Bool.true_and, Bool.and_false, Bool.false_and, IntKind.bits, Nat.lt_irrefl, loopN, evRf, evRs, mkRes, allT1, closeD, toVs, toV1, toV1s, fz, fzL, canon, fuelZ, fnOf, callB', callB, addS, ptrT, toT, setSeg, evIxS, evIxR, evPart, evAt, evExtract, evStore, evO, evAppend, evCopy, rowOf, blkW, intV_of, lim64, limu64, limu32, bM, V1.t1, evFn, evCode, Ft.tb, Ft.fn, tI, callN, inArgs, nilsT, setN, runR, stepO, wantO, kd, evA, evR, evOd, nth, cellsT, setO, okLo, evOff, offD, wi, evLd, blkOf, cellsAt, partT, evLen, magOf_zero, natT, plainT, plainD, evPk, ev2, ev1, vecT, pv, bi_add, bi_sub, bi_mul, bi_quo, bi_rem, bi_eql, bi_neq, bi_lss, bi_leq, bi_gtr, bi_geq, bi_and, bi_or32, bi_xor, List.filter_cons, List.filter_nil, List.elem_cons, nat_beq, i64_m1, Nat.reduceBNe, Option.isSome_some, Option.isSome_none, evSlc, evCap, evNilS, isNilT, boolT, evBslF, bsCells, unC, List.isEmpty_cons, List.isEmpty_nil, false_and, and_false, Nat.not_lt_zero, nS_beq, nS_bne, nS_lt, nS_le, nS_gt, nS_ge, notIn, nthI, List.any_nil, List.any_cons, Bool.false_or, Bool.or_false, Bool.or_true, Bool.true_or, Bool.or_self, Nat.min_def, Nat.sub_zero, Nat.zero_le, Nat.sub_self, cast_oN, si_shl, si_shr, b_ft, b_tf, n_ft, n_tf, n_ff, n_tt, wrap_if, wrap_i64, wrap_u32, wrap_u64, List.not_mem_nil, List.mem_cons, or_false, false_or, ofVal, ofL, packT, isCell, row0, row1, row2, row3, evPick, evSlc3, optNat, evBld, fillD, mapO, zipI, slOf, sI, isNegI, absI, runI, h0, i43, i48, i92, i94, i97, i112, i113, i114, i115, i124, i125, i137, i139, i143, i155, i156, i157, i158, i159, i160, i163, i182, i195, i196, i197, i219, i220, i221, i222, i224, i232, i233, i240, i241, i250, i251, i261, i262, i279, i280]

def mDiv : List V1 → Option (List V1)
  | [.one (.mag [x]), .one (.mag [y])] =>
    if 0 < y ∧ x < 4294967296 ∧ y < 4294967296 then
      (if x < y then (if x = 0 then some [e0, e0] else some [e0, .one (.sl 1 [.vec [uV x]])])
       else some [.one (.sl 1 [.v (uV (x / y))]), .one (.sl 1 [.v (uV (x % y))])])
    else none
  | _ => none
def mNorm : List V1 → Option (List V1)
  | [.one (.sl 0 []), .one (.v (.bool false))] => some [iV false 0]
  | [.one (.sl 1 [.v (.int .u32 (.ofNat n))]), .one (.v (.bool false))] => if n < 4294967296 then some [iV false n] else none
  | [.one (.sl 1 [.vec [.int .u32 (.ofNat n)]]), .one (.v (.bool false))] => if 0 < n ∧ n < 4294967296 then some [iV false n] else none
  | _ => none

theorem mDiv_con {k : Cls} : Con Tryz.prog k 182 mDiv := by
  refine con_lift (runI_con i182_ok) fun al rs h F w us hr => ?_
  refine ⟨al, rs, ?_, hr, fun w' u hu => hu⟩
  unfold mDiv at h
  split at h
  · rename_i x y
    split at h
    · rename_i hc
      split at h
      · rename_i hlt
        split at h
        · rename_i h0
          cases h
          subst h0
          exact dv_0 hc.1
        · rename_i h0
          cases h
          exact dv_lt (by omega) hc.1 hlt
      · rename_i hlt
        cases h
        rcases Nat.lt_or_ge y x with h | h
        · exact dv_gt (by omega) hc.1 h hc.2.1
        · have : x = y := by omega
          subst this
          exact dv_eq hc.1 hc.2.1
    · cases h
  · cases h

theorem isI_iV {r : V1} {n : Nat} (hn : 0 < n) (h : IsI r (mkS false n)) {k : Cls} {F : Nat → Prop} {w : World} {u : Value} (hu : RV k F w r u) : RV k F w (iV false n) u := by
  have := h k F w u hu
  rw [sI_mkS false hn] at this
  exact this
theorem isI_vec' (b : Bool) {n : Nat} (h : 0 < n) (h1 : n < 4294967296) : IsI (.agg [.v (.bool b), .sl 1 [.vec [.int .u32 (Int.ofNat n)]]]) (mkS b n) := by
  intro k F w u hu
  have hi : intsV (.agg [.v (.bool b), .sl 1 [.vec [.int .u32 (Int.ofNat n)]]]) = some [mkS b n] := by
    obtain ⟨m, rfl⟩ : ∃ m, n = m + 1 := ⟨n - 1, by omega⟩
    have e : (Nat.blt 0 (m + 1) && Nat.blt (m + 1) 4294967296) = true := by simp [h1]
    cases b <;> simp only [intsV, intsC, boolsC, magsC, u32s, e, if_true, sg1, sgI, revA] <;> rfl
  obtain ⟨z, hz, hr, _⟩ := intsV_ok hi hu
  simp [at1] at hz
  rw [hz]; exact hr
theorem mNorm_con {k : Cls} : Con Tryz.prog k 155 mNorm := by
  refine con_lift (runI_con i155_ok) fun al rs h F w us hr => ?_
  unfold mNorm at h
  split at h
  · cases h
    exact ⟨_, _, nm_e, hr, fun w' u hu => isI_zero k F w' u hu⟩
  · rename_i n
    split at h
    · rename_i hlt
      cases h
      rcases Nat.eq_zero_or_pos n with h0 | h0
      · subst h0
        exact ⟨_, _, nm_0, hr, fun w' u hu => isI_zero k F w' u hu⟩
      · exact ⟨_, _, nm_v h0, hr, fun w' u hu => isI_iV h0 (isI_pos false h0 hlt) (show RV k F w' _ u from hu)⟩
    · cases h
  · rename_i n
    split at h
    · rename_i hlt
      cases h
      exact ⟨_, _, nm_w hlt.1, hr, fun w' u hu => isI_iV hlt.1 (isI_vec' false hlt.1 hlt.2) (show RV k F w' _ u from hu)⟩
    · cases h
  · cases h
end Go.Proofs.YtcejidongpkpoaaGreat
namespace Go.Proofs.YtcejidongpkpoaaGreat
open Go Go.Mach Go.Flow
set_option maxRecDepth 100000
set_option maxHeartbeats 4000000

theorem dmH (x y : Int) (fx : Fit x) (fy : Fit y) (hy : y ≠ 0) (fq : Fit (divI x y)) (_ : Fit (modI x y)) : ∃ q r, runI i156 [sI x, sI y] = some [q, r, eR] ∧ IsI q (divI x y) ∧ IsI r (modI x y) := by
  unfold Fit divI modI at *
  rcases sgn_cases y with rfl | ⟨b2, n2, p2, rfl⟩
  · exact absurd rfl hy
  rw [abs_mkS] at fy
  rcases sgn_cases x with rfl | ⟨b1, n1, p1, rfl⟩
  · rw [sI_mkS b2 p2, show Int.ediv 0 (mkS b2 n2) = 0 from Int.zero_ediv _, show Int.emod 0 (mkS b2 n2) = 0 from Int.zero_emod _]
    exact ⟨_, _, dm_0 b2 p2, isI_zero, isI_zero⟩
  rw [abs_mkS] at fx
  have hm := Nat.mod_lt n1 p2
  rw [sI_mkS b1 p1, sI_mkS b2 p2]
  have hq : n1 / n2 ≤ n1 := Nat.div_le_self _ _
  rcases Nat.lt_trichotomy n1 n2 with hlt | heq | hgt
  · have hq0 : n1 / n2 = 0 := Nat.div_eq_of_lt hlt
    have hr0 : n1 % n2 = n1 := Nat.mod_eq_of_lt hlt
    have hrun := dm_lt b1 b2 p1 p2 hlt fy
    cases b1
    · obtain ⟨e1, e2⟩ := div_pos b2 (x := n1) p2
      rw [e1, e2, hq0, hr0]
      have : mkS b2 0 = 0 := by cases b2 <;> rfl
      rw [this]
      exact ⟨_, _, hrun, isI_zero, isI_vec false p1 fx⟩
    · obtain ⟨e1, e2⟩ := div_neg b2 p2 (x := n1) (by omega)
      rw [e1, e2, hq0, hr0]
      have : (true != b2) = !b2 := by cases b2 <;> rfl
      refine ⟨_, _, hrun, ?_, isI_pos _ (by omega) (by omega)⟩
      show IsI (rV (true != b2) 1) _
      rw [this]
      exact isI_pos _ (by omega) (by omega)
  · subst heq
    have hq1 : n1 / n1 = 1 := Nat.div_self p1
    have hr0 : n1 % n1 = 0 := Nat.mod_self n1
    have hrun := dm_eq b1 b2 p1 fx
    cases b1
    · obtain ⟨e1, e2⟩ := div_pos b2 (x := n1) p1
      rw [e1, e2, hq1, hr0]
      have : (false != b2) = b2 := by cases b2 <;> rfl
      rw [this] at hrun
      exact ⟨_, _, hrun, isI_pos _ (by omega) (by omega), isI_zero⟩
    · obtain ⟨e1, e2⟩ := div_neg0 b2 p1 hr0
      rw [e1, e2, hq1]
      exact ⟨_, _, hrun, isI_pos _ (by omega) (by omega), isI_zero⟩
  · have hq0 : 0 < n1 / n2 := Nat.div_pos (by omega) p2
    rcases Nat.eq_zero_or_pos (n1 % n2) with h0 | h0
    · have hrun := dm_gt0 b1 b2 p1 p2 hgt fx h0 hq0 (by omega)
      cases b1
      · obtain ⟨e1, e2⟩ := div_pos b2 (x := n1) p2
        rw [e1, e2, h0]
        have : (false != b2) = b2 := by cases b2 <;> rfl
        rw [this] at hrun
        exact ⟨_, _, hrun, isI_pos _ hq0 (by omega), isI_zero⟩
      · obtain ⟨e1, e2⟩ := div_neg0 b2 p2 h0
        rw [e1, e2]
        exact ⟨_, _, hrun, isI_pos _ hq0 (by omega), isI_zero⟩
    · cases b1
      · obtain ⟨e1, e2⟩ := div_pos b2 (x := n1) p2
        rw [e1, e2]
        exact ⟨_, _, dm_gt b2 p1 p2 hgt fx h0 hm hq0 (by omega), isI_pos _ hq0 (by omega), isI_pos _ h0 (by omega)⟩
      · obtain ⟨e1, e2⟩ := div_neg b2 p2 h0
        rw [e1, abs_mkS] at fq
        rw [e1, e2]
        exact ⟨_, _, dm_gtn b2 p1 p2 hgt fx h0 hm hq0 fq, isI_pos _ (by omega) fq, isI_pos _ (by omega) (by omega)⟩
theorem nDivMod_156 {k : Cls} : Con Tryz.prog k 156 nDivMod := con_dm (runI_con i156_ok) dmH

/-! ### Differences. -/
def tS : Ft := .n (.n .z 94 (.nat nAdd) none .z) 139 (.nat nNeg) none .z
theorem tS_ok {k : Cls} : tS.Ok Tryz.prog k Bts := ⟨⟨trivial, nAdd_94, trivial, trivial⟩, nNeg_139, trivial, trivial⟩
theorem intsC_s' (z : Int) : intsC (.v (.bool (isNegI z))) (.mag [absI z]) = some [z] := by
  match z with
  | .ofNat n => rfl
  | .negSucc n => rfl
theorem mkInt_s' {z : Int} (h : Fit z) : mkInt [z] = some (sI z) := by
  unfold mkInt
  have : Nat.blt (absI z) 4294967296 = true := by simpa [Fit] using h
  simp only [this, if_true]
  rfl
theorem nNeg_s {x : Int} (h : Fit (negI x)) : nNeg [.agg [.v (.bool (isNegI x)), .mag [absI x]]] = some [.agg [.v (.bool (isNegI (negI x))), .mag [absI (negI x)]]] := by
  simp only [nNeg, nat1, intsV, intsC_s', mapI, revA, mkInt_s' h]
  rfl
theorem nAdd_s {x y : Int} (h : Fit (addI x y)) : nAdd [.agg [.v (.bool (isNegI x)), .mag [absI x]], .agg [.v (.bool (isNegI y)), .mag [absI y]]] = some [.agg [.v (.bool (isNegI (addI x y))), .mag [absI (addI x y)]]] := by
  simp only [nAdd, nat2, intsV, intsC_s', bc, mkInt_s' h]
  rfl
theorem fit_neg {x : Int} (h : Fit x) : Fit (negI x) := by
  unfold Fit negI at *
  rcases sgn_cases x with rfl | ⟨b, n, p, rfl⟩
  · exact h
  · have e : - mkS b n = mkS (!b) n := by cases b <;> simp [mkS]
    rw [e, abs_mkS]
    rw [abs_mkS] at h
    exact h
theorem sub_run {x y : Int} (fy : Fit y) (h : Fit (subI x y)) : bM (callN tS.tb 10 8) 10 i143 [sI x, sI y] = some [sI (subI x y)] := by
  have e : addI x (negI y) = subI x y := by unfold addI negI subI; omega
  have h1 := nAdd_s (x := x) (y := negI y) (by rw [e]; exact h)
  rw [e] at h1
  simp (maxSteps := 100000000) only [List.length_cons, List.length_nil, List.map_cons, List.map_nil, List.take_succ_cons, List.take_zero, List.drop_succ_cons, List.drop_zero, List.set_cons_zero, List.set_cons_succ, List.getElem?_cons_zero, List.getElem?_cons_succ, List.getElem?_nil, List.cons_append, List.nil_append, List.append_nil, Option.map_some, Option.map_none, Option.bind_some, Option.bind_none, ↓reduceIte, Nat.reduceBEq, Nat.reduceEqDiff, Nat.reducePow, Nat.blt, Nat.ble_eq, Nat.reduceLeDiff, Nat.reduceSucc, Nat.reduceAdd, Nat.reduceSub, Nat.reduceMul, Nat.reduceDiv, Nat.reduceMod, Nat.reduceLT, and_self, and_true, true_and, List.elem_nil, Bool.false_eq_true, oN_lt, oN_le, oN_gt, oN_ge, oN_beq, oN_bne, oN_sub, decide_true, decide_false, Nat.mul_one, Nat.one_mul, Nat.add_zero, Nat.zero_add, Nat.le_refl, not_true_eq_false, not_false_eq_true, Bool.not_true, Bool.not_false, bne_self_eq_false, beq_self_eq_true, Bool.and_self, Bool.and_true, Bool.true_and, Bool.and_false, Bool.false_and, IntKind.bits, Nat.lt_irrefl, loopN, evRf, evRs, mkRes, allT1, closeD, toVs, toV1, toV1s, fz, fzL, canon, fuelZ, fnOf, callB', callB, addS, ptrT, toT, setSeg, evIxS, evIxR, evPart, evAt, evExtract, evStore, evO, evAppend, evCopy, rowOf, blkW, intV_of, lim64, limu64, limu32, bM, V1.t1, evFn, evCode, Ft.tb, Ft.fn, tI, callN, inArgs, nilsT, setN, runR, stepO, wantO, kd, evA, evR, evOd, nth, cellsT, setO, okLo, evOff, offD, wi, evLd, blkOf, cellsAt, partT, evLen, magOf_zero, natT, plainT, plainD, evPk, ev2, ev1, vecT, pv, bi_add, bi_sub, bi_mul, bi_quo, bi_rem, bi_eql, bi_neq, bi_lss, bi_leq, bi_gtr, bi_geq, bi_and, bi_or32, bi_xor, List.filter_cons, List.filter_nil, List.elem_cons, nat_beq, i64_m1, Nat.reduceBNe, Option.isSome_some, Option.isSome_none, evSlc, evCap, evNilS, isNilT, boolT, evBslF, bsCells, unC, List.isEmpty_cons, List.isEmpty_nil, false_and, and_false, Nat.not_lt_zero, nS_beq, nS_bne, nS_lt, nS_le, nS_gt, nS_ge, notIn, nthI, List.any_nil, List.any_cons, Bool.false_or, Bool.or_false, Bool.or_true, Bool.true_or, Bool.or_self, Nat.min_def, Nat.sub_zero, Nat.zero_le, Nat.sub_self, cast_oN, si_shl, si_shr, b_ft, b_tf, n_ft, n_tf, n_ff, n_tt, wrap_if, wrap_i64, wrap_u32, wrap_u64, List.not_mem_nil, List.mem_cons, or_false, false_or, ofVal, ofL, packT, isCell, row0, row1, row2, row3, evPick, evSlc3, optNat, evBld, fillD, mapO, zipI, slOf, sI, tS, nNeg_s (fit_neg fy), h1, i43, i48, i92, i94, i97, i112, i113, i114, i115, i124, i125, i137, i139, i143, i155, i156, i157, i158, i159, i160, i163, i182, i195, i196, i197, i219, i220, i221, i222, i224, i232, i233, i240, i241, i250, i251, i261, i262, i279, i280]
theorem nSub_143 {k : Cls} : Con Tryz.prog k 143 nSub := by
  have h : Con Tryz.prog k 143 (bM (callN tS.tb 10 8) 10 i143) := run_con (by kernel_rfl) tS_ok i143_ok 10 8
  exact con_nat2 h fun x y fx fy fxy => ⟨_, sub_run fy fxy, fun _ _ _ _ hu => hu⟩
end Go.Proofs.YtcejidongpkpoaaGreat
namespace Go.Proofs.YtcejidongpkpoaaGreat
open Go Go.Mach Go.Flow
set_option maxRecDepth 100000
set_option maxHeartbeats 4000000

def tD : Ft := .n (.n .z 155 (.nat mNorm) none .z) 182 (.nat mDiv) none .z
theorem tD_ok {k : Cls} : tD.Ok Tryz.prog k Bts := ⟨⟨trivial, mNorm_con, trivial, trivial⟩, mDiv_con, trivial, trivial⟩
def cD : CFn := callN tD.tb 10 8
def loopD : CC := match i115.code with
  | .seq _ (.seq _ (.seq (.block _ (.loop b)) _)) => b
  | _ => .skip
def preD : CC := match i115.code with
  | .seq a _ => a
  | _ => .skip
def preD2 : CC := match i115.code with
  | .seq _ (.seq a _) => a
  | _ => .skip
def restD : CC := match i115.code with
  | .seq _ (.seq _ (.seq _ r)) => r
  | _ => .skip
theorem gcdI_code : i115 = ⟨false, 9, [some 1, some 0], .seq preD (.seq preD2 (.seq (.block 0 (.loop loopD)) restD)), [.cell true 2 7]⟩ := rfl

abbrev mT (n : Nat) : T := .t (.one (.c (.mag [n])))
theorem div_D {x y : Nat} (hy : 0 < y) (fx : x < 4294967296) (fy : y < 4294967296) (H : Hp) (S : List Nat) :
    ∃ q r, cD (.t (.one (.c (.v (.func (.func 182) ⟨[]⟩ ⟨[]⟩))))) [mT x, mT y] H S = some (.tup [.one (.c q), .one (.c r)], H, S, []) ∧
      cD (.t (.one (.c (.v (.func (.func 155) ⟨[]⟩ ⟨[]⟩))))) [.t (.one (.c r)), .t (.one (.c (.v (.bool false))))] H S = some (.t (.agg [.c (.v (.bool false)), .c (.mag [x % y])]), H, S, []) := by
  rcases Nat.lt_or_ge x y with h | h
  · rw [Nat.mod_eq_of_lt h]
    rcases Nat.eq_zero_or_pos x with h0 | h0
    · subst h0
      refine ⟨.sl 0 [], .sl 0 [], ?_, ?_⟩
      · simp (maxSteps := 100000000) only [List.length_cons, List.length_nil, List.map_cons, List.map_nil, List.take_succ_cons, List.take_zero, List.drop_succ_cons, List.drop_zero, List.set_cons_zero, List.set_cons_succ, List.getElem?_cons_zero, List.getElem?_cons_succ, List.getElem?_nil, List.cons_append, List.nil_append, List.append_nil, Option.map_some, Option.map_none, Option.bind_some, Option.bind_none, ↓reduceIte, Nat.reduceBEq, Nat.reduceEqDiff, Nat.reducePow, Nat.blt, Nat.ble_eq, Nat.reduceLeDiff, Nat.reduceSucc, Nat.reduceAdd, Nat.reduceSub, Nat.reduceMul, Nat.reduceDiv, Nat.reduceMod, Nat.reduceLT, and_self, and_true, true_and, List.elem_nil, Bool.false_eq_true, oN_lt, oN_le, oN_gt, oN_ge, oN_beq, oN_bne, oN_sub, decide_true, decide_false, Nat.mul_one, Nat.one_mul, Nat.add_zero, Nat.zero_add, Nat.le_refl, not_true_eq_false, not_false_eq_true, Bool.not_true, Bool.not_false, bne_self_eq_false, beq_self_eq_true, Bool.and_self, Bool.and_true, Bool.true_and, Bool.and_false, Bool.false_and, IntKind.bits, Nat.lt_irrefl, loopN, evRf, evRs, mkRes, allT1, closeD, toVs, toV1, toV1s, fz, fzL, canon, fuelZ, fnOf, callB', callB, addS, ptrT, toT, setSeg, evIxS, evIxR, evPart, evAt, evExtract, evStore, evO, evAppend, evCopy, rowOf, blkW, intV_of, lim64, limu64, limu32, bM, V1.t1, evFn, evCode, Ft.tb, Ft.fn, tI, callN, inArgs, nilsT, setN, runR, stepO, wantO, kd, evA, evR, evOd, nth, cellsT, setO, okLo, evOff, offD, wi, evLd, blkOf, cellsAt, partT, evLen, magOf_zero, natT, plainT, plainD, evPk, ev2, ev1, vecT, pv, bi_add, bi_sub, bi_mul, bi_quo, bi_rem, bi_eql, bi_neq, bi_lss, bi_leq, bi_gtr, bi_geq, bi_and, bi_or32, bi_xor, List.filter_cons, List.filter_nil, List.elem_cons, nat_beq, i64_m1, Nat.reduceBNe, Option.isSome_some, Option.isSome_none, evSlc, evCap, evNilS, isNilT, boolT, evBslF, bsCells, unC, List.isEmpty_cons, List.isEmpty_nil, false_and, and_false, Nat.not_lt_zero, nS_beq, nS_bne, nS_lt, nS_le, nS_gt, nS_ge, notIn, nthI, List.any_nil, List.any_cons, Bool.false_or, Bool.or_false, Bool.or_true, Bool.true_or, Bool.or_self, Nat.min_def, Nat.sub_zero, Nat.zero_le, Nat.sub_self, cast_oN, si_shl, si_shr, b_ft, b_tf, n_ft, n_tf, n_ff, n_tt, wrap_if, wrap_i64, wrap_u32, wrap_u64, List.not_mem_nil, List.mem_cons, or_false, false_or, ofVal, ofL, packT, isCell, row0, row1, row2, row3, evPick, evSlc3, optNat, evBld, fillD, mapO, zipI, slOf, cD, tD, mDiv, hy, fy, i43, i48, i92, i94, i97, i112, i113, i114, i115, i124, i125, i137, i139, i143, i155, i156, i157, i158, i159, i160, i163, i182, i195, i196, i197, i219, i220, i221, i222, i224, i232, i233, i240, i241, i250, i251, i261, i262, i279, i280]
      · simp (maxSteps := 100000000) only [List.length_cons, List.length_nil, List.map_cons, List.map_nil, List.take_succ_cons, List.take_zero, List.drop_succ_cons, List.drop_zero, List.set_cons_zero, List.set_cons_succ, List.getElem?_cons_zero, List.getElem?_cons_succ, List.getElem?_nil, List.cons_append, List.nil_append, List.append_nil, Option.map_some, Option.map_none, Option.bind_some, Option.bind_none, ↓reduceIte, Nat.reduceBEq, Nat.reduceEqDiff, Nat.reducePow, Nat.blt, Nat.ble_eq, Nat.reduceLeDiff, Nat.reduceSucc, Nat.reduceAdd, Nat.reduceSub, Nat.reduceMul, Nat.reduceDiv, Nat.reduceMod, Nat.reduceLT, and_self, and_true, true_and, List.elem_nil, Bool.false_eq_true, oN_lt, oN_le, oN_gt, oN_ge, oN_beq, oN_bne, oN_sub, decide_true, decide_false, Nat.mul_one, Nat.one_mul, Nat.add_zero, Nat.zero_add, Nat.le_refl, not_true_eq_false, not_false_eq_true, Bool.not_true, Bool.not_false, bne_self_eq_false, beq_self_eq_true, Bool.and_self, Bool.and_true, Bool.true_and, Bool.and_false, Bool.false_and, IntKind.bits, Nat.lt_irrefl, loopN, evRf, evRs, mkRes, allT1, closeD, toVs, toV1, toV1s, fz, fzL, canon, fuelZ, fnOf, callB', callB, addS, ptrT, toT, setSeg, evIxS, evIxR, evPart, evAt, evExtract, evStore, evO, evAppend, evCopy, rowOf, blkW, intV_of, lim64, limu64, limu32, bM, V1.t1, evFn, evCode, Ft.tb, Ft.fn, tI, callN, inArgs, nilsT, setN, runR, stepO, wantO, kd, evA, evR, evOd, nth, cellsT, setO, okLo, evOff, offD, wi, evLd, blkOf, cellsAt, partT, evLen, magOf_zero, natT, plainT, plainD, evPk, ev2, ev1, vecT, pv, bi_add, bi_sub, bi_mul, bi_quo, bi_rem, bi_eql, bi_neq, bi_lss, bi_leq, bi_gtr, bi_geq, bi_and, bi_or32, bi_xor, List.filter_cons, List.filter_nil, List.elem_cons, nat_beq, i64_m1, Nat.reduceBNe, Option.isSome_some, Option.isSome_none, evSlc, evCap, evNilS, isNilT, boolT, evBslF, bsCells, unC, List.isEmpty_cons, List.isEmpty_nil, false_and, and_false, Nat.not_lt_zero, nS_beq, nS_bne, nS_lt, nS_le, nS_gt, nS_ge, notIn, nthI, List.any_nil, List.any_cons, Bool.false_or, Bool.or_false, Bool.or_true, Bool.true_or, Bool.or_self, Nat.min_def, Nat.sub_zero, Nat.zero_le, Nat.sub_self, cast_oN, si_shl, si_shr, b_ft, b_tf, n_ft, n_tf, n_ff, n_tt, wrap_if, wrap_i64, wrap_u32, wrap_u64, List.not_mem_nil, List.mem_cons, or_false, false_or, ofVal, ofL, packT, isCell, row0, row1, row2, row3, evPick, evSlc3, optNat, evBld, fillD, mapO, zipI, slOf, cD, tD, mNorm, i43, i48, i92, i94, i97, i112, i113, i114, i115, i124, i125, i137, i139, i143, i155, i156, i157, i158, i159, i160, i163, i182, i195, i196, i197, i219, i220, i221, i222, i224, i232, i233, i240, i241, i250, i251, i261, i262, i279, i280]
    · refine ⟨.sl 0 [], .sl 1 [.vec [uV x]], ?_, ?_⟩
      · have hne : (x = 0) = False := eq_false (by omega)
        simp (maxSteps := 100000000) only [List.length_cons, List.length_nil, List.map_cons, List.map_nil, List.take_succ_cons, List.take_zero, List.drop_succ_cons, List.drop_zero, List.set_cons_zero, List.set_cons_succ, List.getElem?_cons_zero, List.getElem?_cons_succ, List.getElem?_nil, List.cons_append, List.nil_append, List.append_nil, Option.map_some, Option.map_none, Option.bind_some, Option.bind_none, ↓reduceIte, Nat.reduceBEq, Nat.reduceEqDiff, Nat.reducePow, Nat.blt, Nat.ble_eq, Nat.reduceLeDiff, Nat.reduceSucc, Nat.reduceAdd, Nat.reduceSub, Nat.reduceMul, Nat.reduceDiv, Nat.reduceMod, Nat.reduceLT, and_self, and_true, true_and, List.elem_nil, Bool.false_eq_true, oN_lt, oN_le, oN_gt, oN_ge, oN_beq, oN_bne, oN_sub, decide_true, decide_false, Nat.mul_one, Nat.one_mul, Nat.add_zero, Nat.zero_add, Nat.le_refl, not_true_eq_false, not_false_eq_true, Bool.not_true, Bool.not_false, bne_self_eq_false, beq_self_eq_true, Bool.and_self, Bool.and_true, Bool.true_and, Bool.and_false, Bool.false_and, IntKind.bits, Nat.lt_irrefl, loopN, evRf, evRs, mkRes, allT1, closeD, toVs, toV1, toV1s, fz, fzL, canon, fuelZ, fnOf, callB', callB, addS, ptrT, toT, setSeg, evIxS, evIxR, evPart, evAt, evExtract, evStore, evO, evAppend, evCopy, rowOf, blkW, intV_of, lim64, limu64, limu32, bM, V1.t1, evFn, evCode, Ft.tb, Ft.fn, tI, callN, inArgs, nilsT, setN, runR, stepO, wantO, kd, evA, evR, evOd, nth, cellsT, setO, okLo, evOff, offD, wi, evLd, blkOf, cellsAt, partT, evLen, magOf_zero, natT, plainT, plainD, evPk, ev2, ev1, vecT, pv, bi_add, bi_sub, bi_mul, bi_quo, bi_rem, bi_eql, bi_neq, bi_lss, bi_leq, bi_gtr, bi_geq, bi_and, bi_or32, bi_xor, List.filter_cons, List.filter_nil, List.elem_cons, nat_beq, i64_m1, Nat.reduceBNe, Option.isSome_some, Option.isSome_none, evSlc, evCap, evNilS, isNilT, boolT, evBslF, bsCells, unC, List.isEmpty_cons, List.isEmpty_nil, false_and, and_false, Nat.not_lt_zero, nS_beq, nS_bne, nS_lt, nS_le, nS_gt, nS_ge, notIn, nthI, List.any_nil, List.any_cons, Bool.false_or, Bool.or_false, Bool.or_true, Bool.true_or, Bool.or_self, Nat.min_def, Nat.sub_zero, Nat.zero_le, Nat.sub_self, cast_oN, si_shl, si_shr, b_ft, b_tf, n_ft, n_tf, n_ff, n_tt, wrap_if, wrap_i64, wrap_u32, wrap_u64, List.not_mem_nil, List.mem_cons, or_false, false_or, ofVal, ofL, packT, isCell, row0, row1, row2, row3, evPick, evSlc3, optNat, evBld, fillD, mapO, zipI, slOf, cD, tD, mDiv, hy, fx, fy, h, hne, i43, i48, i92, i94, i97, i112, i113, i114, i115, i124, i125, i137, i139, i143, i155, i156, i157, i158, i159, i160, i163, i182, i195, i196, i197, i219, i220, i221, i222, i224, i232, i233, i240, i241, i250, i251, i261, i262, i279, i280]
      · simp (maxSteps := 100000000) only [List.length_cons, List.length_nil, List.map_cons, List.map_nil, List.take_succ_cons, List.take_zero, List.drop_succ_cons, List.drop_zero, List.set_cons_zero, List.set_cons_succ, List.getElem?_cons_zero, List.getElem?_cons_succ, List.getElem?_nil, List.cons_append, List.nil_append, List.append_nil, Option.map_some, Option.map_none, Option.bind_some, Option.bind_none, ↓reduceIte, Nat.reduceBEq, Nat.reduceEqDiff, Nat.reducePow, Nat.blt, Nat.ble_eq, Nat.reduceLeDiff, Nat.reduceSucc, Nat.reduceAdd, Nat.reduceSub, Nat.reduceMul, Nat.reduceDiv, Nat.reduceMod, Nat.reduceLT, and_self, and_true, true_and, List.elem_nil, Bool.false_eq_true, oN_lt, oN_le, oN_gt, oN_ge, oN_beq, oN_bne, oN_sub, decide_true, decide_false, Nat.mul_one, Nat.one_mul, Nat.add_zero, Nat.zero_add, Nat.le_refl, not_true_eq_false, not_false_eq_true, Bool.not_true, Bool.not_false, bne_self_eq_false, beq_self_eq_true, Bool.and_self, Bool.and_true, Bool.true_and, Bool.and_false, Bool.false_and, IntKind.bits, Nat.lt_irrefl, loopN, evRf, evRs, mkRes, allT1, closeD, toVs, toV1, toV1s, fz, fzL, canon, fuelZ, fnOf, callB', callB, addS, ptrT, toT, setSeg, evIxS, evIxR, evPart, evAt, evExtract, evStore, evO, evAppend, evCopy, rowOf, blkW, intV_of, lim64, limu64, limu32, bM, V1.t1, evFn, evCode, Ft.tb, Ft.fn, tI, callN, inArgs, nilsT, setN, runR, stepO, wantO, kd, evA, evR, evOd, nth, cellsT, setO, okLo, evOff, offD, wi, evLd, blkOf, cellsAt, partT, evLen, magOf_zero, natT, plainT, plainD, evPk, ev2, ev1, vecT, pv, bi_add, bi_sub, bi_mul, bi_quo, bi_rem, bi_eql, bi_neq, bi_lss, bi_leq, bi_gtr, bi_geq, bi_and, bi_or32, bi_xor, List.filter_cons, List.filter_nil, List.elem_cons, nat_beq, i64_m1, Nat.reduceBNe, Option.isSome_some, Option.isSome_none, evSlc, evCap, evNilS, isNilT, boolT, evBslF, bsCells, unC, List.isEmpty_cons, List.isEmpty_nil, false_and, and_false, Nat.not_lt_zero, nS_beq, nS_bne, nS_lt, nS_le, nS_gt, nS_ge, notIn, nthI, List.any_nil, List.any_cons, Bool.false_or, Bool.or_false, Bool.or_true, Bool.true_or, Bool.or_self, Nat.min_def, Nat.sub_zero, Nat.zero_le, Nat.sub_self, cast_oN, si_shl, si_shr, b_ft, b_tf, n_ft, n_tf, n_ff, n_tt, wrap_if, wrap_i64, wrap_u32, wrap_u64, List.not_mem_nil, List.mem_cons, or_false, false_or, ofVal, ofL, packT, isCell, row0, row1, row2, row3, evPick, evSlc3, optNat, evBld, fillD, mapO, zipI, slOf, cD, tD, mNorm, h0, fx, i43, i48, i92, i94, i97, i112, i113, i114, i115, i124, i125, i137, i139, i143, i155, i156, i157, i158, i159, i160, i163, i182, i195, i196, i197, i219, i220, i221, i222, i224, i232, i233, i240, i241, i250, i251, i261, i262, i279, i280]
  · refine ⟨.sl 1 [.v (uV (x / y))], .sl 1 [.v (uV (x % y))], ?_, ?_⟩
    · have hn : (x < y) = False := eq_false (by omega)
      simp (maxSteps := 100000000) only [List.length_cons, List.length_nil, List.map_cons, List.map_nil, List.take_succ_cons, List.take_zero, List.drop_succ_cons, List.drop_zero, List.set_cons_zero, List.set_cons_succ, List.getElem?_cons_zero, List.getElem?_cons_succ, List.getElem?_nil, List.cons_append, List.nil_append, List.append_nil, Option.map_some, Option.map_none, Option.bind_some, Option.bind_none, ↓reduceIte, Nat.reduceBEq, Nat.reduceEqDiff, Nat.reducePow, Nat.blt, Nat.ble_eq, Nat.reduceLeDiff, Nat.reduceSucc, Nat.reduceAdd, Nat.reduceSub, Nat.reduceMul, Nat.reduceDiv, Nat.reduceMod, Nat.reduceLT, and_self, and_true, true_and, List.elem_nil, Bool.false_eq_true, oN_lt, oN_le, oN_gt, oN_ge, oN_beq, oN_bne, oN_sub, decide_true, decide_false, Nat.mul_one, Nat.one_mul, Nat.add_zero, Nat.zero_add, Nat.le_refl, not_true_eq_false, not_false_eq_true, Bool.not_true, Bool.not_false, bne_self_eq_false, beq_self_eq_true, Bool.and_self, Bool.and_true, Bool.true_and, Bool.and_false, Bool.false_and, IntKind.bits, Nat.lt_irrefl, loopN, evRf, evRs, mkRes, allT1, closeD, toVs, toV1, toV1s, fz, fzL, canon, fuelZ, fnOf, callB', callB, addS, ptrT, toT, setSeg, evIxS, evIxR, evPart, evAt, evExtract, evStore, evO, evAppend, evCopy, rowOf, blkW, intV_of, lim64, limu64, limu32, bM, V1.t1, evFn, evCode, Ft.tb, Ft.fn, tI, callN, inArgs, nilsT, setN, runR, stepO, wantO, kd, evA, evR, evOd, nth, cellsT, setO, okLo, evOff, offD, wi, evLd, blkOf, cellsAt, partT, evLen, magOf_zero, natT, plainT, plainD, evPk, ev2, ev1, vecT, pv, bi_add, bi_sub, bi_mul, bi_quo, bi_rem, bi_eql, bi_neq, bi_lss, bi_leq, bi_gtr, bi_geq, bi_and, bi_or32, bi_xor, List.filter_cons, List.filter_nil, List.elem_cons, nat_beq, i64_m1, Nat.reduceBNe, Option.isSome_some, Option.isSome_none, evSlc, evCap, evNilS, isNilT, boolT, evBslF, bsCells, unC, List.isEmpty_cons, List.isEmpty_nil, false_and, and_false, Nat.not_lt_zero, nS_beq, nS_bne, nS_lt, nS_le, nS_gt, nS_ge, notIn, nthI, List.any_nil, List.any_cons, Bool.false_or, Bool.or_false, Bool.or_true, Bool.true_or, Bool.or_self, Nat.min_def, Nat.sub_zero, Nat.zero_le, Nat.sub_self, cast_oN, si_shl, si_shr, b_ft, b_tf, n_ft, n_tf, n_ff, n_tt, wrap_if, wrap_i64, wrap_u32, wrap_u64, List.not_mem_nil, List.mem_cons, or_false, false_or, ofVal, ofL, packT, isCell, row0, row1, row2, row3, evPick, evSlc3, optNat, evBld, fillD, mapO, zipI, slOf, cD, tD, mDiv, hy, fx, fy, hn, i43, i48, i92, i94, i97, i112, i113, i114, i115, i124, i125, i137, i139, i143, i155, i156, i157, i158, i159, i160, i163, i182, i195, i196, i197, i219, i220, i221, i222, i224, i232, i233, i240, i241, i250, i251, i261, i262, i279, i280]
    · have hr : x % y < 4294967296 := by have := Nat.mod_lt x hy; omega
      simp (maxSteps := 100000000) only [List.length_cons, List.length_nil, List.map_cons, List.map_nil, List.take_succ_cons, List.take_zero, List.drop_succ_cons, List.drop_zero, List.set_cons_zero, List.set_cons_succ, List.getElem?_cons_zero, List.getElem?_cons_succ, List.getElem?_nil, List.cons_append, List.nil_append, List.append_nil, Option.map_some, Option.map_none, Option.bind_some, Option.bind_none, ↓reduceIte, Nat.reduceBEq, Nat.reduceEqDiff, Nat.reducePow, Nat.blt, Nat.ble_eq, Nat.reduceLeDiff, Nat.reduceSucc, Nat.reduceAdd, Nat.reduceSub, Nat.reduceMul, Nat.reduceDiv, Nat.reduceMod, Nat.reduceLT, and_self, and_true, true_and, List.elem_nil, Bool.false_eq_true, oN_lt, oN_le, oN_gt, oN_ge, oN_beq, oN_bne, oN_sub, decide_true, decide_false, Nat.mul_one, Nat.one_mul, Nat.add_zero, Nat.zero_add, Nat.le_refl, not_true_eq_false, not_false_eq_true, Bool.not_true, Bool.not_false, bne_self_eq_false, beq_self_eq_true, Bool.and_self, Bool.and_true, Bool.true_and, Bool.and_false, Bool.false_and, IntKind.bits, Nat.lt_irrefl, loopN, evRf, evRs, mkRes, allT1, closeD, toVs, toV1, toV1s, fz, fzL, canon, fuelZ, fnOf, callB', callB, addS, ptrT, toT, setSeg, evIxS, evIxR, evPart, evAt, evExtract, evStore, evO, evAppend, evCopy, rowOf, blkW, intV_of, lim64, limu64, limu32, bM, V1.t1, evFn, evCode, Ft.tb, Ft.fn, tI, callN, inArgs, nilsT, setN, runR, stepO, wantO, kd, evA, evR, evOd, nth, cellsT, setO, okLo, evOff, offD, wi, evLd, blkOf, cellsAt, partT, evLen, magOf_zero, natT, plainT, plainD, evPk, ev2, ev1, vecT, pv, bi_add, bi_sub, bi_mul, bi_quo, bi_rem, bi_eql, bi_neq, bi_lss, bi_leq, bi_gtr, bi_geq, bi_and, bi_or32, bi_xor, List.filter_cons, List.filter_nil, List.elem_cons, nat_beq, i64_m1, Nat.reduceBNe, Option.isSome_some, Option.isSome_none, evSlc, evCap, evNilS, isNilT, boolT, evBslF, bsCells, unC, List.isEmpty_cons, List.isEmpty_nil, false_and, and_false, Nat.not_lt_zero, nS_beq, nS_bne, nS_lt, nS_le, nS_gt, nS_ge, notIn, nthI, List.any_nil, List.any_cons, Bool.false_or, Bool.or_false, Bool.or_true, Bool.true_or, Bool.or_self, Nat.min_def, Nat.sub_zero, Nat.zero_le, Nat.sub_self, cast_oN, si_shl, si_shr, b_ft, b_tf, n_ft, n_tf, n_ff, n_tt, wrap_if, wrap_i64, wrap_u32, wrap_u64, List.not_mem_nil, List.mem_cons, or_false, false_or, ofVal, ofL, packT, isCell, row0, row1, row2, row3, evPick, evSlc3, optNat, evBld, fillD, mapO, zipI, slOf, cD, tD, mNorm, hr, i43, i48, i92, i94, i97, i112, i113, i114, i115, i124, i125, i137, i139, i143, i155, i156, i157, i158, i159, i160, i163, i182, i195, i196, i197, i219, i220, i221, i222, i224, i232, i233, i240, i241, i250, i251, i261, i262, i279, i280]

theorem step_D {x y : Nat} (hy : 0 < y) (fx : x < 4294967296) (fy : y < 4294967296) (t0 t1 t6 t8 p2 p3 p7 : T) (H : Hp) (W : List Nat) (fl : Nat) :
    ∃ t6' t8', evCode cD fl loopD ⟨[t0, t1, p2, p3, mT y, mT x, t6, p7, t8], H, [], W, []⟩ = some (.normal, ⟨[t0, t1, p2, p3, mT (x % y), mT y, t6', p7, t8'], H, [], W, []⟩) := by
  obtain ⟨q, r, h1, h2⟩ := div_D hy fx fy H []
  simp (maxSteps := 100000000) only [List.length_cons, List.length_nil, List.map_cons, List.map_nil, List.take_succ_cons, List.take_zero, List.drop_succ_cons, List.drop_zero, List.set_cons_zero, List.set_cons_succ, List.getElem?_cons_zero, List.getElem?_cons_succ, List.getElem?_nil, List.cons_append, List.nil_append, List.append_nil, Option.map_some, Option.map_none, Option.bind_some, Option.bind_none, ↓reduceIte, Nat.reduceBEq, Nat.reduceEqDiff, Nat.reducePow, Nat.blt, Nat.ble_eq, Nat.reduceLeDiff, Nat.reduceSucc, Nat.reduceAdd, Nat.reduceSub, Nat.reduceMul, Nat.reduceDiv, Nat.reduceMod, Nat.reduceLT, and_self, and_true, true_and, List.elem_nil, Bool.false_eq_true, oN_lt, oN_le, oN_gt, oN_ge, oN_beq, oN_bne, oN_sub, decide_true, decide_false, Nat.mul_one, Nat.one_mul, Nat.add_zero, Nat.zero_add, Nat.le_refl, not_true_eq_false, not_false_eq_true, Bool.not_true, Bool.not_false, bne_self_eq_false, beq_self_eq_true, Bool.and_self, Bool.and_true, Bool.true_and, Bool.and_false, Bool.false_and, IntKind.bits, Nat.lt_irrefl, loopN, evRf, evRs, mkRes, allT1, closeD, toVs, toV1, toV1s, fz, fzL, canon, fuelZ, fnOf, callB', callB, addS, ptrT, toT, setSeg, evIxS, evIxR, evPart, evAt, evExtract, evStore, evO, evAppend, evCopy, rowOf, blkW, intV_of, lim64, limu64, limu32, bM, V1.t1, evFn, evCode, Ft.tb, Ft.fn, tI, callN, inArgs, nilsT, setN, runR, stepO, wantO, kd, evA, evR, evOd, nth, cellsT, setO, okLo, evOff, offD, wi, evLd, blkOf, cellsAt, partT, evLen, magOf_zero, natT, plainT, plainD, evPk, ev2, ev1, vecT, pv, bi_add, bi_sub, bi_mul, bi_quo, bi_rem, bi_eql, bi_neq, bi_lss, bi_leq, bi_gtr, bi_geq, bi_and, bi_or32, bi_xor, List.filter_cons, List.filter_nil, List.elem_cons, nat_beq, i64_m1, Nat.reduceBNe, Option.isSome_some, Option.isSome_none, evSlc, evCap, evNilS, isNilT, boolT, evBslF, bsCells, unC, List.isEmpty_cons, List.isEmpty_nil, false_and, and_false, Nat.not_lt_zero, nS_beq, nS_bne, nS_lt, nS_le, nS_gt, nS_ge, notIn, nthI, List.any_nil, List.any_cons, Bool.false_or, Bool.or_false, Bool.or_true, Bool.true_or, Bool.or_self, Nat.min_def, Nat.sub_zero, Nat.zero_le, Nat.sub_self, cast_oN, si_shl, si_shr, b_ft, b_tf, n_ft, n_tf, n_ff, n_tt, wrap_if, wrap_i64, wrap_u32, wrap_u64, List.not_mem_nil, List.mem_cons, or_false, false_or, ofVal, ofL, packT, isCell, row0, row1, row2, row3, evPick, evSlc3, optNat, evBld, fillD, mapO, zipI, slOf, loopD, h1, h2, magOf_pos hy, i43, i48, i92, i94, i97, i112, i113, i114, i115, i124, i125, i137, i139, i143, i155, i156, i157, i158, i159, i160, i163, i182, i195, i196, i197, i219, i220, i221, i222, i224, i232, i233, i240, i241, i250, i251, i261, i262, i279, i280]
  exact ⟨_, _, rfl⟩
theorem exit_D (x : Nat) (t0 t1 t6 t8 p2 p3 p7 : T) (H : Hp) (W : List Nat) (fl : Nat) :
    ∃ t8', evCode cD fl loopD ⟨[t0, t1, p2, p3, mT 0, mT x, t6, p7, t8], H, [], W, []⟩ = some (.exit 0, ⟨[t0, t1, p2, p3, mT 0, mT x, t6, p7, t8'], H, [], W, []⟩) := by
  simp (maxSteps := 100000000) only [List.length_cons, List.length_nil, List.map_cons, List.map_nil, List.take_succ_cons, List.take_zero, List.drop_succ_cons, List.drop_zero, List.set_cons_zero, List.set_cons_succ, List.getElem?_cons_zero, List.getElem?_cons_succ, List.getElem?_nil, List.cons_append, List.nil_append, List.append_nil, Option.map_some, Option.map_none, Option.bind_some, Option.bind_none, ↓reduceIte, Nat.reduceBEq, Nat.reduceEqDiff, Nat.reducePow, Nat.blt, Nat.ble_eq, Nat.reduceLeDiff, Nat.reduceSucc, Nat.reduceAdd, Nat.reduceSub, Nat.reduceMul, Nat.reduceDiv, Nat.reduceMod, Nat.reduceLT, and_self, and_true, true_and, List.elem_nil, Bool.false_eq_true, oN_lt, oN_le, oN_gt, oN_ge, oN_beq, oN_bne, oN_sub, decide_true, decide_false, Nat.mul_one, Nat.one_mul, Nat.add_zero, Nat.zero_add, Nat.le_refl, not_true_eq_false, not_false_eq_true, Bool.not_true, Bool.not_false, bne_self_eq_false, beq_self_eq_true, Bool.and_self, Bool.and_true, Bool.true_and, Bool.and_false, Bool.false_and, IntKind.bits, Nat.lt_irrefl, loopN, evRf, evRs, mkRes, allT1, closeD, toVs, toV1, toV1s, fz, fzL, canon, fuelZ, fnOf, callB', callB, addS, ptrT, toT, setSeg, evIxS, evIxR, evPart, evAt, evExtract, evStore, evO, evAppend, evCopy, rowOf, blkW, intV_of, lim64, limu64, limu32, bM, V1.t1, evFn, evCode, Ft.tb, Ft.fn, tI, callN, inArgs, nilsT, setN, runR, stepO, wantO, kd, evA, evR, evOd, nth, cellsT, setO, okLo, evOff, offD, wi, evLd, blkOf, cellsAt, partT, evLen, magOf_zero, natT, plainT, plainD, evPk, ev2, ev1, vecT, pv, bi_add, bi_sub, bi_mul, bi_quo, bi_rem, bi_eql, bi_neq, bi_lss, bi_leq, bi_gtr, bi_geq, bi_and, bi_or32, bi_xor, List.filter_cons, List.filter_nil, List.elem_cons, nat_beq, i64_m1, Nat.reduceBNe, Option.isSome_some, Option.isSome_none, evSlc, evCap, evNilS, isNilT, boolT, evBslF, bsCells, unC, List.isEmpty_cons, List.isEmpty_nil, false_and, and_false, Nat.not_lt_zero, nS_beq, nS_bne, nS_lt, nS_le, nS_gt, nS_ge, notIn, nthI, List.any_nil, List.any_cons, Bool.false_or, Bool.or_false, Bool.or_true, Bool.true_or, Bool.or_self, Nat.min_def, Nat.sub_zero, Nat.zero_le, Nat.sub_self, cast_oN, si_shl, si_shr, b_ft, b_tf, n_ft, n_tf, n_ff, n_tt, wrap_if, wrap_i64, wrap_u32, wrap_u64, List.not_mem_nil, List.mem_cons, or_false, false_or, ofVal, ofL, packT, isCell, row0, row1, row2, row3, evPick, evSlc3, optNat, evBld, fillD, mapO, zipI, slOf, loopD, i43, i48, i92, i94, i97, i112, i113, i114, i115, i124, i125, i137, i139, i143, i155, i156, i157, i158, i159, i160, i163, i182, i195, i196, i197, i219, i220, i221, i222, i224, i232, i233, i240, i241, i250, i251, i261, i262, i279, i280]
  exact ⟨_, rfl⟩
theorem loop_D (fl : Nat) (t0 t1 p2 p3 p7 : T) (H : Hp) (W : List Nat) : ∀ (n x y : Nat) (t6 t8 : T), y < n → x < 4294967296 → y < 4294967296 →
    ∃ t6' t8', loopN (evCode cD fl loopD) n ⟨[t0, t1, p2, p3, mT y, mT x, t6, p7, t8], H, [], W, []⟩ = some (.exit 0, ⟨[t0, t1, p2, p3, mT 0, mT (Nat.gcd x y), t6', p7, t8'], H, [], W, []⟩) := by
  intro n
  induction n with
  | zero => intro x y t6 t8 h; omega
  | succ n ih =>
    intro x y t6 t8 h fx fy
    rcases Nat.eq_zero_or_pos y with hy | hy
    · subst hy
      obtain ⟨t8', he⟩ := exit_D x t0 t1 t6 t8 p2 p3 p7 H W fl
      exact ⟨t6, t8', by rw [loopN, he, Nat.gcd_zero_right]⟩
    · have hm := Nat.mod_lt x hy
      obtain ⟨t6', t8', hs⟩ := step_D hy fx fy t0 t1 t6 t8 p2 p3 p7 H W fl
      obtain ⟨t6'', t8'', e⟩ := ih y (x % y) t6' t8' (by omega) fy (by omega)
      refine ⟨t6'', t8'', ?_⟩
      rw [loopN, hs]
      have e3 : Nat.gcd y (x % y) = Nat.gcd x y := by rw [Nat.gcd_comm y, ← Nat.gcd_rec, Nat.gcd_comm]
      rw [← e3]
      exact e
theorem gcdI_run (x y : Int) (fx : Fit x) (fy : Fit y) : ∃ r, bM cD fuelG i115 [sI x, sI y] = some [r] ∧ IsI r (gcdI x y) := by
  refine ⟨iV false (Nat.gcd (absI x) (absI y)), ?_, ?_⟩
  · obtain ⟨t6, t8, h1⟩ := loop_D fuelG (.t (.agg [.c (.v (.bool (isNegI y))), .c (.mag [absI y])])) (.t (.agg [.c (.v (.bool (isNegI x))), .c (.mag [absI x])])) (.t (.one (.ptr 1 0))) (.t (.one (.ptr 0 0))) (.t (.one (.ptr 2 0)))
      [some (.cells [.c (.v (.bool (isNegI x))), .c (.mag [absI x])]), some (.cells [.c (.v (.bool (isNegI y))), .c (.mag [absI y])]), some (.cells [.c (.v (.bool false)), .c (.v (.slice none 0 0))])] [] fuelG (absI x) (absI y) .nil .nil fy fx fy
    rw [gcdI_code]
    simp (maxSteps := 100000000) only [List.length_cons, List.length_nil, List.map_cons, List.map_nil, List.take_succ_cons, List.take_zero, List.drop_succ_cons, List.drop_zero, List.set_cons_zero, List.set_cons_succ, List.getElem?_cons_zero, List.getElem?_cons_succ, List.getElem?_nil, List.cons_append, List.nil_append, List.append_nil, Option.map_some, Option.map_none, Option.bind_some, Option.bind_none, ↓reduceIte, Nat.reduceBEq, Nat.reduceEqDiff, Nat.reducePow, Nat.blt, Nat.ble_eq, Nat.reduceLeDiff, Nat.reduceSucc, Nat.reduceAdd, Nat.reduceSub, Nat.reduceMul, Nat.reduceDiv, Nat.reduceMod, Nat.reduceLT, and_self, and_true, true_and, List.elem_nil, Bool.false_eq_true, oN_lt, oN_le, oN_gt, oN_ge, oN_beq, oN_bne, oN_sub, decide_true, decide_false, Nat.mul_one, Nat.one_mul, Nat.add_zero, Nat.zero_add, Nat.le_refl, not_true_eq_false, not_false_eq_true, Bool.not_true, Bool.not_false, bne_self_eq_false, beq_self_eq_true, Bool.and_self, Bool.and_true, Bool.true_and, Bool.and_false, Bool.false_and, IntKind.bits, Nat.lt_irrefl, evRf, evRs, mkRes, allT1, closeD, toVs, toV1, toV1s, fz, fzL, canon, fuelZ, fnOf, callB', callB, addS, ptrT, toT, setSeg, evIxS, evIxR, evPart, evAt, evExtract, evStore, evO, evAppend, evCopy, rowOf, blkW, intV_of, lim64, limu64, limu32, bM, V1.t1, evFn, evCode, Ft.tb, Ft.fn, tI, callN, inArgs, nilsT, setN, runR, stepO, wantO, kd, evA, evR, evOd, nth, cellsT, setO, okLo, evOff, offD, wi, evLd, blkOf, cellsAt, partT, evLen, magOf_zero, natT, plainT, plainD, evPk, ev2, ev1, vecT, pv, bi_add, bi_sub, bi_mul, bi_quo, bi_rem, bi_eql, bi_neq, bi_lss, bi_leq, bi_gtr, bi_geq, bi_and, bi_or32, bi_xor, List.filter_cons, List.filter_nil, List.elem_cons, nat_beq, i64_m1, Nat.reduceBNe, Option.isSome_some, Option.isSome_none, evSlc, evCap, evNilS, isNilT, boolT, evBslF, bsCells, unC, List.isEmpty_cons, List.isEmpty_nil, false_and, and_false, Nat.not_lt_zero, nS_beq, nS_bne, nS_lt, nS_le, nS_gt, nS_ge, notIn, nthI, List.any_nil, List.any_cons, Bool.false_or, Bool.or_false, Bool.or_true, Bool.true_or, Bool.or_self, Nat.min_def, Nat.sub_zero, Nat.zero_le, Nat.sub_self, cast_oN, si_shl, si_shr, b_ft, b_tf, n_ft, n_tf, n_ff, n_tt, wrap_if, wrap_i64, wrap_u32, wrap_u64, List.not_mem_nil, List.mem_cons, or_false, false_or, ofVal, ofL, packT, isCell, row0, row1, row2, row3, evPick, evSlc3, optNat, evBld, fillD, mapO, zipI, slOf, sI, h1, preD, preD2, restD, i43, i48, i92, i94, i97, i112, i113, i114, i115, i124, i125, i137, i139, i143, i155, i156, i157, i158, i159, i160, i163, i182, i195, i196, i197, i219, i220, i221, i222, i224, i232, i233, i240, i241, i250, i251, i261, i262, i279, i280]
  · intro k F w u hu
    have : gcdI x y = mkS false (Nat.gcd (absI x) (absI y)) := rfl
    rw [this]
    rcases Nat.eq_zero_or_pos (Nat.gcd (absI x) (absI y)) with h0 | h0
    · rw [h0] at hu ⊢; exact hu
    · rw [sI_mkS false h0]; exact hu
theorem nGcd_115 {k : Cls} : Con Tryz.prog k 115 nGcd := by
  have h : Con Tryz.prog k 115 (bM cD fuelG i115) := run_con2 tD_ok i115_ok 10 fuelG 8
  exact con_nat2 h fun x y fx fy _ => gcdI_run x y fx fy
end Go.Proofs.YtcejidongpkpoaaGreat
