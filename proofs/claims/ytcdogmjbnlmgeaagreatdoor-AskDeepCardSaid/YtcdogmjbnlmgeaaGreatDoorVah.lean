/-
  check.back: ahead of the passes and behind them.
-/
import Derived.Test.YtcdogmjbnlmgeaaGreatDoorVag
set_option linter.unusedSimpArgs false
set_option linter.unusedVariables false
set_option maxRecDepth 100000
namespace Go.Vam
open Go.Proofs Go.RowKit

noncomputable def c0_134 : Code := match Tryz.f134.body with
  | some (.seq a _) => a
  | _ => .skip
noncomputable def c1_134 : Code := match Tryz.f134.body with
  | some (.seq _ (.seq a _)) => a
  | _ => .skip
noncomputable def c2_134 : Code := match Tryz.f134.body with
  | some (.seq _ (.seq _ (.seq (.seq a _) _))) => a
  | _ => .skip
noncomputable def c17_134 : Code := match Tryz.f134.body with
  | some (.seq _ (.seq _ (.seq _ (.seq a _)))) => a
  | _ => .skip
noncomputable def c18_134 : Code := match Tryz.f134.body with
  | some (.seq _ (.seq _ (.seq _ (.seq _ (.seq (.seq a _) _))))) => a
  | _ => .skip
noncomputable def c25_134 : Code := match Tryz.f134.body with
  | some (.seq _ (.seq _ (.seq _ (.seq _ (.seq _ (.seq a _)))))) => a
  | _ => .skip
noncomputable def c27_134 : Code := match Tryz.f134.body with
  | some (.seq _ (.seq _ (.seq _ (.seq _ (.seq _ (.seq _ (.seq a _))))))) => a
  | _ => .skip
noncomputable def c28_134 : Code := match Tryz.f134.body with
  | some (.seq _ (.seq _ (.seq _ (.seq _ (.seq _ (.seq _ (.seq _ (.seq (.seq a _) _)))))))) => a
  | _ => .skip
noncomputable def c34_134 : Code := match Tryz.f134.body with
  | some (.seq _ (.seq _ (.seq _ (.seq _ (.seq _ (.seq _ (.seq _ (.seq _ a)))))))) => a
  | _ => .skip
theorem code134 : Tryz.f134.body = some (.seq c0_134 (.seq c1_134 (.seq (.seq c2_134 (.block 0 (.loop (L134 0)))) (.seq c17_134 (.seq (.seq c18_134 (.block 6 (.loop (L134 3)))) (.seq c25_134 (.seq c27_134 (.seq (.seq c28_134 (.block 8 (.loop (L134 4)))) c34_134)))))))) := by kernel_rfl

theorem zeroOf206 : zeroOf Tryz.prog 206 = some [.nilmap] := by kernel_rfl
theorem zeroOf3 : zeroOf Tryz.prog 3 = some [.int .i64 0] := by kernel_rfl
theorem size3 : sizeT Tryz.prog 3 = some 1 := by kernel_rfl
theorem agg3 : aggT Tryz.prog 3 = false := by kernel_rfl
theorem und3 : Tryz.prog.underlying 3 = some (.int .i64) := Tryz.underlying3

theorem st206 {st : St} {c : Nat} {x y : D} (h : st[c]? = some (.cells [x])) (hy : cellOk y = true) : storeD Tryz.prog 206 (.ptr c 0) y st = some (.undef, st.set c (.cells [y]), [c]) := by
  have hcs : y.cells = [y] := by cases y <;> first | rfl | cases hy
  unfold storeD
  simp [h, size206, hcs, hy]
theorem st3 {st : St} {c : Nat} {x y : D} (h : st[c]? = some (.cells [x])) (hy : cellOk y = true) : storeD Tryz.prog 3 (.ptr c 0) y st = some (.undef, st.set c (.cells [y]), [c]) := by
  have hcs : y.cells = [y] := by cases y <;> first | rfl | cases hy
  unfold storeD
  simp [h, size3, hcs, hy]
theorem ld3 {st : St} {c : Nat} {x : D} (h : st[c]? = some (.cells [x])) : loadD Tryz.prog 3 (.ptr c 0) st = some (x, .rd [c]) := by
  unfold loadD takeV
  simp [size3, und3, agg3, h]

section
variable {C : Cfg} {cf : CallF} {st : St} {e : Env} {hh : Bool} {N : Nat}

/-- Ahead of the passes. -/
theorem pre0_134 {Pw : Nat → Prop} (hP : C.P = Tryz.prog) {m : Nat} {src : List UInt8} (he : e = [.map m, .str src] ++ List.replicate 117 .undef) :
    ExW C hh cf N Pw c0_134 e st (fun y e' st' => y = .norm ∧ e'.length = 119 ∧ e'.getD 0 .undef = .map m ∧ e'.getD 1 .undef = .str src ∧ e'.getD 28 .undef = .undef ∧ st' = st) := by
  have hl : e.length = 119 := by rw [he]; rfl
  have e0 : e.getD 0 .undef = .map m := by rw [he]; rfl
  have e1 : e.getD 1 .undef = .str src := by rw [he]; rfl
  have e28 : e.getD 28 .undef = .undef := by rw [he]; rfl
  clear he
  refine exw_strip ?_
  obtain ⟨code, hcode⟩ : ∃ code, code = strip c0_134 := ⟨_, rfl⟩
  rw [← hcode]
  simp only [c0_134, Tryz.f134, loopsOf, Option.getD, List.append, List.getD, List.getElem?_cons_succ, List.getElem?_cons_zero, HAppend.hAppend, Append.append, strip, stripO, List.map_toArray, List.map_cons, List.map_nil] at hcode
  subst hcode
  repeat (first
    | refine exw_seq ?_ | refine exw_block ?_ | refine exw_regf ?_ | refine exw_skip ?_ | refine exw_exit ?_ | refine exw_ret ?_
    | refine opsf_q rfl (want_0 rfl) rfl (by simp only [stepQ, ev, putD, ofConst, ofScalar, binD, unD, hP, pureSem, Op.intCmp, Op.intArith, getD_set, List.length_set, ↓reduceIte, Nat.reduceEqDiff, Nat.reduceLT, decide_true, decide_false, Bool.true_and, Bool.and_true, Bool.not_true, Bool.not_false, Option.map_some, List.getElem?_cons_zero, List.getElem?_cons_succ, builtinQ, List.map_cons, List.map_nil, e0]; rfl) ?_
    | (refine opsf_q rfl (want_g rfl rfl rfl ?_) rfl (by simp only [stepQ, ev, putD, ofConst, ofScalar, binD, unD, hP, pureSem, Op.intCmp, Op.intArith, getD_set, List.length_set, ↓reduceIte, Nat.reduceEqDiff, Nat.reduceLT, decide_true, decide_false, Bool.true_and, Bool.and_true, Bool.not_true, Bool.not_false, Option.map_some, List.getElem?_cons_zero, List.getElem?_cons_succ, builtinQ, List.map_cons, List.map_nil, e0]; rfl) ?_; focus (simp only [stepQ, ev, putD, ofConst, ofScalar, binD, unD, hP, pureSem, Op.intCmp, Op.intArith, getD_set, List.length_set, ↓reduceIte, Nat.reduceEqDiff, Nat.reduceLT, decide_true, decide_false, Bool.true_and, Bool.and_true, Bool.not_true, Bool.not_false, Option.map_some, List.getElem?_cons_zero, List.getElem?_cons_succ, builtinQ, List.map_cons, List.map_nil, e0]; done))
    | (refine opsf_no rfl (want_f rfl rfl rfl ?_) ?_; focus (simp only [stepQ, ev, putD, ofConst, ofScalar, binD, unD, hP, pureSem, Op.intCmp, Op.intArith, getD_set, List.length_set, ↓reduceIte, Nat.reduceEqDiff, Nat.reduceLT, decide_true, decide_false, Bool.true_and, Bool.and_true, Bool.not_true, Bool.not_false, Option.map_some, List.getElem?_cons_zero, List.getElem?_cons_succ, builtinQ, List.map_cons, List.map_nil, e0]; done))
    | (refine opsf_no rfl (want_n rfl rfl rfl ?_) ?_; focus (simp only [stepQ, ev, putD, ofConst, ofScalar, binD, unD, hP, pureSem, Op.intCmp, Op.intArith, getD_set, List.length_set, ↓reduceIte, Nat.reduceEqDiff, Nat.reduceLT, decide_true, decide_false, Bool.true_and, Bool.and_true, Bool.not_true, Bool.not_false, Option.map_some, List.getElem?_cons_zero, List.getElem?_cons_succ, builtinQ, List.map_cons, List.map_nil, e0]; done))
    | refine opsf_l rfl (want_0 rfl) rfl (by simp only [stepL, stepQ, ev, putD, ofConst, ofScalar, binD, unD, hP, pureSem, Op.intCmp, Op.intArith, getD_set, List.length_set, ↓reduceIte, Nat.reduceEqDiff, Nat.reduceLT, decide_true, decide_false, Bool.true_and, Bool.and_true, Bool.not_true, Bool.not_false, Option.map_some, List.getElem?_cons_zero, List.getElem?_cons_succ, builtinQ, List.map_cons, List.map_nil, e0]; first | rfl | exact hup) (by first | exact hupV | simp) ?_
    | refine opsf_a rfl (want_0 rfl) rfl (by simp only [stepQ, ev, putD, ofConst, ofScalar, binD, unD, hP, pureSem, Op.intCmp, Op.intArith, getD_set, List.length_set, ↓reduceIte, Nat.reduceEqDiff, Nat.reduceLT, decide_true, decide_false, Bool.true_and, Bool.and_true, Bool.not_true, Bool.not_false, Option.map_some, List.getElem?_cons_zero, List.getElem?_cons_succ, builtinQ, List.map_cons, List.map_nil, e0]; rfl) ?_
    | refine opsf_nil (by decide) ?_
    | (refine exw_true ?_ ?_; focus (simp only [stepQ, ev, putD, ofConst, ofScalar, binD, unD, hP, pureSem, Op.intCmp, Op.intArith, getD_set, List.length_set, ↓reduceIte, Nat.reduceEqDiff, Nat.reduceLT, decide_true, decide_false, Bool.true_and, Bool.and_true, Bool.not_true, Bool.not_false, Option.map_some, List.getElem?_cons_zero, List.getElem?_cons_succ, builtinQ, List.map_cons, List.map_nil, e0]; done))
    | (refine exw_false ?_ ?_; focus (simp only [stepQ, ev, putD, ofConst, ofScalar, binD, unD, hP, pureSem, Op.intCmp, Op.intArith, getD_set, List.length_set, ↓reduceIte, Nat.reduceEqDiff, Nat.reduceLT, decide_true, decide_false, Bool.true_and, Bool.and_true, Bool.not_true, Bool.not_false, Option.map_some, List.getElem?_cons_zero, List.getElem?_cons_succ, builtinQ, List.map_cons, List.map_nil, e0]; done))
    | dsimp only)
  refine ⟨rfl, ?_, ?_, ?_, ?_, rfl⟩
  · simp only [putD, List.length_set]; exact hl
  all_goals simp only [stepQ, ev, putD, ofConst, ofScalar, binD, unD, hP, pureSem, Op.intCmp, Op.intArith, getD_set, List.length_set, ↓reduceIte, Nat.reduceEqDiff, Nat.reduceLT, decide_true, decide_false, Bool.true_and, Bool.and_true, Bool.not_true, Bool.not_false, Option.map_some, List.getElem?_cons_zero, List.getElem?_cons_succ, builtinQ, List.map_cons, List.map_nil, hl, e0, e1, e28]

theorem pre1_134 (hP : C.P = Tryz.prog) {m : Nat} {src : List UInt8} (hl : e.length = 119) (e0 : e.getD 0 .undef = .map m) (e1 : e.getD 1 .undef = .str src) (e28 : e.getD 28 .undef = .undef) :
    ExW C hh cf N (fun id => st.length ≤ id) c1_134 e st (fun y e' st' => y = .norm ∧ e'.length = 119 ∧ e'.getD 0 .undef = .map m ∧ e'.getD 1 .undef = .str src ∧ e'.getD 28 .undef = .undef ∧ e'.getD 5 .undef = .ptr (st.length + 1) 0 ∧ Sto st st' st.length (st.length + 1) [(src, 0)]) := by
  refine exw_strip ?_
  obtain ⟨code, hcode⟩ : ∃ code, code = strip c1_134 := ⟨_, rfl⟩
  rw [← hcode]
  simp only [c1_134, Tryz.f134, loopsOf, Option.getD, List.append, List.getD, List.getElem?_cons_succ, List.getElem?_cons_zero, HAppend.hAppend, Append.append, strip, stripO, List.map_toArray, List.map_cons, List.map_nil] at hcode
  subst hcode
  refine exw_regf ?_
  refine opsf_a rfl (want_0 rfl) rfl (by simp only [stepQ, ev, putD, ofConst, ofScalar, binD, unD, hP, pureSem, Op.intCmp, Op.intArith, getD_set, List.length_set, ↓reduceIte, Nat.reduceEqDiff, Nat.reduceLT, decide_true, decide_false, Bool.true_and, Bool.and_true, Bool.not_true, Bool.not_false, Option.map_some, List.getElem?_cons_zero, List.getElem?_cons_succ, builtinQ, List.map_cons, List.map_nil, hl]; rfl) ?_
  refine opsf_q rfl (want_0 rfl) rfl (by simp only [stepQ, ev, putD, ofConst, ofScalar, binD, unD, hP, pureSem, Op.intCmp, Op.intArith, getD_set, List.length_set, ↓reduceIte, Nat.reduceEqDiff, Nat.reduceLT, decide_true, decide_false, Bool.true_and, Bool.and_true, Bool.not_true, Bool.not_false, Option.map_some, List.getElem?_cons_zero, List.getElem?_cons_succ, builtinQ, List.map_cons, List.map_nil, hl, e1]; rfl) ?_
  have h1 : (st ++ [Obj.map []])[st.length]? = some (.map (encF [])) := by simp [encF]
  have hup := update_far (x := src) (d := 0) h1
  refine opsf_l rfl (want_0 rfl) rfl (by simp only [stepL]; simp only [stepQ, ev, putD, ofConst, ofScalar, binD, unD, hP, pureSem, Op.intCmp, Op.intArith, getD_set, List.length_set, ↓reduceIte, Nat.reduceEqDiff, Nat.reduceLT, decide_true, decide_false, Bool.true_and, Bool.and_true, Bool.not_true, Bool.not_false, Option.map_some, List.getElem?_cons_zero, List.getElem?_cons_succ, builtinQ, List.map_cons, List.map_nil, hl, e1]; exact hup) (by simp) ?_
  generalize hst1 : (st ++ [Obj.map []]).set st.length (.map (encF (setF src 0 []))) = st1
  have hst1' : st1 = st ++ [.map (encF [(src, 0)])] := by
    rw [← hst1]
    simp [List.set_append, setF]
  have hln : st1.length = st.length + 1 := by rw [hst1']; simp
  refine opsf_q rfl (want_0 rfl) rfl (by simp only [stepQ, ev, putD, ofConst, ofScalar, binD, unD, hP, pureSem, Op.intCmp, Op.intArith, getD_set, List.length_set, ↓reduceIte, Nat.reduceEqDiff, Nat.reduceLT, decide_true, decide_false, Bool.true_and, Bool.and_true, Bool.not_true, Bool.not_false, Option.map_some, List.getElem?_cons_zero, List.getElem?_cons_succ, builtinQ, List.map_cons, List.map_nil, hl, e1]; rfl) ?_
  refine opsf_a rfl (want_0 rfl) rfl (by simp only [stepQ, ev, putD, ofConst, ofScalar, binD, unD, hP, pureSem, Op.intCmp, Op.intArith, getD_set, List.length_set, ↓reduceIte, Nat.reduceEqDiff, Nat.reduceLT, decide_true, decide_false, Bool.true_and, Bool.and_true, Bool.not_true, Bool.not_false, Option.map_some, List.getElem?_cons_zero, List.getElem?_cons_succ, builtinQ, List.map_cons, List.map_nil, hl, e1, zeroOf206]; rfl) ?_
  have h2 : (st1 ++ [Obj.cells [.nilmap]])[st1.length]? = some (.cells [.nilmap]) := by simp
  have hup2 := st206 h2 (y := .map st.length) rfl
  refine opsf_l rfl (want_0 rfl) rfl (by simp only [stepL]; simp only [stepQ, ev, putD, ofConst, ofScalar, binD, unD, hP, pureSem, Op.intCmp, Op.intArith, getD_set, List.length_set, ↓reduceIte, Nat.reduceEqDiff, Nat.reduceLT, decide_true, decide_false, Bool.true_and, Bool.and_true, Bool.not_true, Bool.not_false, Option.map_some, List.getElem?_cons_zero, List.getElem?_cons_succ, builtinQ, List.map_cons, List.map_nil, hl, e1]; exact hup2) (by rw [hln]; simp) ?_
  refine opsf_nil (by decide) ?_
  have h3 : (st1 ++ [Obj.cells [D.nilmap]]).set st1.length (.cells [.map st.length]) = st ++ [.map (encF [(src, 0)]), .cells [.map st.length]] := by
    rw [hst1']
    simp [List.set_append]
  rw [h3]
  refine ⟨rfl, ?_, ?_, ?_, ?_, ?_, ⟨fun id hid => ?_, ?_, ?_, ?_⟩⟩
  · simp only [putD, List.length_set]; exact hl
  · simp only [stepQ, ev, putD, ofConst, ofScalar, binD, unD, hP, pureSem, Op.intCmp, Op.intArith, getD_set, List.length_set, ↓reduceIte, Nat.reduceEqDiff, Nat.reduceLT, decide_true, decide_false, Bool.true_and, Bool.and_true, Bool.not_true, Bool.not_false, Option.map_some, List.getElem?_cons_zero, List.getElem?_cons_succ, builtinQ, List.map_cons, List.map_nil, hl, e0, e1, e28]
  · simp only [stepQ, ev, putD, ofConst, ofScalar, binD, unD, hP, pureSem, Op.intCmp, Op.intArith, getD_set, List.length_set, ↓reduceIte, Nat.reduceEqDiff, Nat.reduceLT, decide_true, decide_false, Bool.true_and, Bool.and_true, Bool.not_true, Bool.not_false, Option.map_some, List.getElem?_cons_zero, List.getElem?_cons_succ, builtinQ, List.map_cons, List.map_nil, hl, e0, e1, e28]
  · simp only [stepQ, ev, putD, ofConst, ofScalar, binD, unD, hP, pureSem, Op.intCmp, Op.intArith, getD_set, List.length_set, ↓reduceIte, Nat.reduceEqDiff, Nat.reduceLT, decide_true, decide_false, Bool.true_and, Bool.and_true, Bool.not_true, Bool.not_false, Option.map_some, List.getElem?_cons_zero, List.getElem?_cons_succ, builtinQ, List.map_cons, List.map_nil, hl, e0, e1, e28]
  · simp only [stepQ, ev, putD, ofConst, ofScalar, binD, unD, hP, pureSem, Op.intCmp, Op.intArith, getD_set, List.length_set, ↓reduceIte, Nat.reduceEqDiff, Nat.reduceLT, decide_true, decide_false, Bool.true_and, Bool.and_true, Bool.not_true, Bool.not_false, Option.map_some, List.getElem?_cons_zero, List.getElem?_cons_succ, builtinQ, List.map_cons, List.map_nil, hl, e0, e1, e28, hln]
  · rw [List.getElem?_append_left hid]
  · simp
  · simp
  · simp

theorem pre2_134 {Pw : Nat → Prop} (hP : C.P = Tryz.prog) {m c : Nat} {src : List UInt8} (hl : e.length = 119) (e0 : e.getD 0 .undef = .map m) (e1 : e.getD 1 .undef = .str src) (e28 : e.getD 28 .undef = .undef) (e5 : e.getD 5 .undef = .ptr c 0) :
    ExW C hh cf N Pw c2_134 e st (fun y e' st' => y = .norm ∧ Env134 e' m src c true .undef ∧ st' = st) := by
  refine exw_strip ?_
  obtain ⟨code, hcode⟩ : ∃ code, code = strip c2_134 := ⟨_, rfl⟩
  rw [← hcode]
  simp only [c2_134, Tryz.f134, loopsOf, Option.getD, List.append, List.getD, List.getElem?_cons_succ, List.getElem?_cons_zero, HAppend.hAppend, Append.append, strip, stripO, List.map_toArray, List.map_cons, List.map_nil] at hcode
  subst hcode
  repeat (first
    | refine exw_seq ?_ | refine exw_block ?_ | refine exw_regf ?_ | refine exw_skip ?_ | refine exw_exit ?_ | refine exw_ret ?_
    | refine opsf_q rfl (want_0 rfl) rfl (by simp only [stepQ, ev, putD, ofConst, ofScalar, binD, unD, hP, pureSem, Op.intCmp, Op.intArith, getD_set, List.length_set, ↓reduceIte, Nat.reduceEqDiff, Nat.reduceLT, decide_true, decide_false, Bool.true_and, Bool.and_true, Bool.not_true, Bool.not_false, Option.map_some, List.getElem?_cons_zero, List.getElem?_cons_succ, builtinQ, List.map_cons, List.map_nil, e0]; rfl) ?_
    | (refine opsf_q rfl (want_g rfl rfl rfl ?_) rfl (by simp only [stepQ, ev, putD, ofConst, ofScalar, binD, unD, hP, pureSem, Op.intCmp, Op.intArith, getD_set, List.length_set, ↓reduceIte, Nat.reduceEqDiff, Nat.reduceLT, decide_true, decide_false, Bool.true_and, Bool.and_true, Bool.not_true, Bool.not_false, Option.map_some, List.getElem?_cons_zero, List.getElem?_cons_succ, builtinQ, List.map_cons, List.map_nil, e0]; rfl) ?_; focus (simp only [stepQ, ev, putD, ofConst, ofScalar, binD, unD, hP, pureSem, Op.intCmp, Op.intArith, getD_set, List.length_set, ↓reduceIte, Nat.reduceEqDiff, Nat.reduceLT, decide_true, decide_false, Bool.true_and, Bool.and_true, Bool.not_true, Bool.not_false, Option.map_some, List.getElem?_cons_zero, List.getElem?_cons_succ, builtinQ, List.map_cons, List.map_nil, e0]; done))
    | (refine opsf_no rfl (want_f rfl rfl rfl ?_) ?_; focus (simp only [stepQ, ev, putD, ofConst, ofScalar, binD, unD, hP, pureSem, Op.intCmp, Op.intArith, getD_set, List.length_set, ↓reduceIte, Nat.reduceEqDiff, Nat.reduceLT, decide_true, decide_false, Bool.true_and, Bool.and_true, Bool.not_true, Bool.not_false, Option.map_some, List.getElem?_cons_zero, List.getElem?_cons_succ, builtinQ, List.map_cons, List.map_nil, e0]; done))
    | (refine opsf_no rfl (want_n rfl rfl rfl ?_) ?_; focus (simp only [stepQ, ev, putD, ofConst, ofScalar, binD, unD, hP, pureSem, Op.intCmp, Op.intArith, getD_set, List.length_set, ↓reduceIte, Nat.reduceEqDiff, Nat.reduceLT, decide_true, decide_false, Bool.true_and, Bool.and_true, Bool.not_true, Bool.not_false, Option.map_some, List.getElem?_cons_zero, List.getElem?_cons_succ, builtinQ, List.map_cons, List.map_nil, e0]; done))
    | refine opsf_l rfl (want_0 rfl) rfl (by simp only [stepL, stepQ, ev, putD, ofConst, ofScalar, binD, unD, hP, pureSem, Op.intCmp, Op.intArith, getD_set, List.length_set, ↓reduceIte, Nat.reduceEqDiff, Nat.reduceLT, decide_true, decide_false, Bool.true_and, Bool.and_true, Bool.not_true, Bool.not_false, Option.map_some, List.getElem?_cons_zero, List.getElem?_cons_succ, builtinQ, List.map_cons, List.map_nil, e0]; first | rfl | exact hup) (by first | exact hupV | simp) ?_
    | refine opsf_a rfl (want_0 rfl) rfl (by simp only [stepQ, ev, putD, ofConst, ofScalar, binD, unD, hP, pureSem, Op.intCmp, Op.intArith, getD_set, List.length_set, ↓reduceIte, Nat.reduceEqDiff, Nat.reduceLT, decide_true, decide_false, Bool.true_and, Bool.and_true, Bool.not_true, Bool.not_false, Option.map_some, List.getElem?_cons_zero, List.getElem?_cons_succ, builtinQ, List.map_cons, List.map_nil, e0]; rfl) ?_
    | refine opsf_nil (by decide) ?_
    | (refine exw_true ?_ ?_; focus (simp only [stepQ, ev, putD, ofConst, ofScalar, binD, unD, hP, pureSem, Op.intCmp, Op.intArith, getD_set, List.length_set, ↓reduceIte, Nat.reduceEqDiff, Nat.reduceLT, decide_true, decide_false, Bool.true_and, Bool.and_true, Bool.not_true, Bool.not_false, Option.map_some, List.getElem?_cons_zero, List.getElem?_cons_succ, builtinQ, List.map_cons, List.map_nil, e0]; done))
    | (refine exw_false ?_ ?_; focus (simp only [stepQ, ev, putD, ofConst, ofScalar, binD, unD, hP, pureSem, Op.intCmp, Op.intArith, getD_set, List.length_set, ↓reduceIte, Nat.reduceEqDiff, Nat.reduceLT, decide_true, decide_false, Bool.true_and, Bool.and_true, Bool.not_true, Bool.not_false, Option.map_some, List.getElem?_cons_zero, List.getElem?_cons_succ, builtinQ, List.map_cons, List.map_nil, e0]; done))
    | dsimp only)
  refine ⟨rfl, ⟨?_, ?_, ?_, ?_, ?_, ?_⟩, rfl⟩
  · simp only [putD, List.length_set]; exact hl
  all_goals simp only [stepQ, ev, putD, ofConst, ofScalar, binD, unD, hP, pureSem, Op.intCmp, Op.intArith, getD_set, List.length_set, ↓reduceIte, Nat.reduceEqDiff, Nat.reduceLT, decide_true, decide_false, Bool.true_and, Bool.and_true, Bool.not_true, Bool.not_false, Option.map_some, List.getElem?_cons_zero, List.getElem?_cons_succ, builtinQ, List.map_cons, List.map_nil, hl, e0, e1, e28, e5]
end
end Go.Vam

set_option linter.unusedSimpArgs false
set_option linter.unusedVariables false
set_option maxRecDepth 100000
namespace Go.Vam
open Go.Proofs Go.RowKit

def getN (x : List UInt8) : Net → Option (List (List UInt8))
  | [] => none
  | p :: l => if p.1 == x then some p.2 else getN x l
abbrev rowsN (ns : List (List UInt8)) : List (List D) := ns.map fun x => [.str x]

theorem map158 : mapT Tryz.prog 158 = some (9, 41) := by kernel_rfl
theorem findD_net (x : List UInt8) : ∀ (all : Net) (i : Nat) (ns : List (List UInt8)), getN x all = some ns → ∃ j, findD Tryz.prog 9 (.str x) (encN all) i = some (some (j, .sl (rowsN ns) .none))
  | [], i, ns, h => by cases h
  | p :: l, i, ns, h => by
    have hc : encN (p :: l) = (.str p.1, .sl (rowsN p.2) .none) :: encN l := rfl
    rw [hc, findD, eqT_str]
    unfold getN at h
    by_cases hx : p.1 = x
    · subst hx
      simp only [beq_self_eq_true, if_true] at h ⊢
      cases h
      exact ⟨i, rfl⟩
    · have h1 : (x == p.1) = false := by simpa using fun e => hx e.symm
      have h2 : (p.1 == x) = false := by simpa using hx
      rw [h2] at h
      rw [h1]
      exact findD_net x l (i + 1) ns (by simpa using h)
theorem lookup_net {st : St} {m : Nat} {all : Net} {x : List UInt8} {ns : List (List UInt8)} (h : st[m]? = some (.map (encN all))) (hn : getN x all = some ns) : lookupD Tryz.prog 158 (.map m) (.str x) false st = some (.sl (rowsN ns) .none, .rd [m]) := by
  obtain ⟨j, hj⟩ := findD_net x all 0 ns hn
  unfold lookupD
  rw [map158]
  simp only [keyOk_str, if_true, h, hj]
  rfl

def stepB (look : List UInt8 → Option Nat) (b : Option Nat) (x : List UInt8) : Option Nat := match look x with
  | none => b
  | some d => match b with
    | none => some d
    | some m => if d < m then some d else some m
def encB : Option Nat → D
  | none => .int .i64 (-1)
  | some d => .int .i64 (d : Nat)

section
variable {C : Cfg} {cf : CallF} {st : St} {e : Env} {hh : Bool} {N : Nat}

theorem c17_run {Pw : Nat → Prop} (hP : C.P = Tryz.prog) (hl : e.length = 119) {m c : Nat} {src : List UInt8} (e0 : e.getD 0 .undef = .map m) (e1 : e.getD 1 .undef = .str src) (e5 : e.getD 5 .undef = .ptr c 0) (hPw : Pw st.length) :
    ExW C hh cf N Pw c17_134 e st (fun y e' st' => y = .norm ∧ e'.length = 119 ∧ e'.getD 0 .undef = .map m ∧ e'.getD 1 .undef = .str src ∧ e'.getD 5 .undef = .ptr c 0 ∧ e'.getD 15 .undef = .ptr st.length 0 ∧ st' = st ++ [.cells [encB none]]) := by
  refine exw_strip ?_
  obtain ⟨code, hcode⟩ : ∃ code, code = strip c17_134 := ⟨_, rfl⟩
  rw [← hcode]
  simp only [c17_134, Tryz.f134, loopsOf, Option.getD, List.append, List.getD, List.getElem?_cons_succ, List.getElem?_cons_zero, HAppend.hAppend, Append.append, strip, stripO, List.map_toArray, List.map_cons, List.map_nil] at hcode
  subst hcode
  refine exw_regf ?_
  refine opsf_a rfl (want_0 rfl) rfl (by simp only [stepQ, ev, putD, ofConst, ofScalar, binD, unD, hP, pureSem, Op.intCmp, Op.intArith, getD_set, List.length_set, ↓reduceIte, Nat.reduceEqDiff, Nat.reduceLT, decide_true, decide_false, Bool.true_and, Bool.and_true, Bool.not_true, Bool.not_false, Option.map_some, List.getElem?_cons_zero, List.getElem?_cons_succ, builtinQ, List.map_cons, List.map_nil, zeroOf3]; rfl) ?_
  have h2 : (st ++ [Obj.cells [.int .i64 0]])[st.length]? = some (.cells [.int .i64 0]) := by simp
  have hup2 := st3 h2 (y := .int .i64 (-1)) rfl
  refine opsf_l rfl (want_0 rfl) rfl (by simp only [stepL]; simp only [stepQ, ev, putD, ofConst, ofScalar, binD, unD, hP, pureSem, Op.intCmp, Op.intArith, getD_set, List.length_set, ↓reduceIte, Nat.reduceEqDiff, Nat.reduceLT, decide_true, decide_false, Bool.true_and, Bool.and_true, Bool.not_true, Bool.not_false, Option.map_some, List.getElem?_cons_zero, List.getElem?_cons_succ, builtinQ, List.map_cons, List.map_nil, hl]; exact hup2) (by simp; exact hPw) ?_
  refine opsf_nil (by decide) ?_
  have h3 : (st ++ [Obj.cells [.int .i64 0]]).set st.length (.cells [.int .i64 (-1)]) = st ++ [.cells [encB none]] := by
    simp [List.set_append, encB]
  rw [h3]
  refine ⟨rfl, ?_, ?_, ?_, ?_, ?_, rfl⟩
  · simp only [putD, List.length_set]; exact hl
  all_goals simp only [stepQ, ev, putD, ofConst, ofScalar, binD, unD, hP, pureSem, Op.intCmp, Op.intArith, getD_set, List.length_set, ↓reduceIte, Nat.reduceEqDiff, Nat.reduceLT, decide_true, decide_false, Bool.true_and, Bool.and_true, Bool.not_true, Bool.not_false, Option.map_some, List.getElem?_cons_zero, List.getElem?_cons_succ, builtinQ, List.map_cons, List.map_nil, hl, e0, e1, e5]

theorem c18_run {Pw : Nat → Prop} (hP : C.P = Tryz.prog) (hl : e.length = 119) {m c b : Nat} {src : List UInt8} {all : Net} {ns : List (List UInt8)} (e0 : e.getD 0 .undef = .map m) (e1 : e.getD 1 .undef = .str src) (e5 : e.getD 5 .undef = .ptr c 0) (e15 : e.getD 15 .undef = .ptr b 0)
    (hm : st[m]? = some (.map (encN all))) (hn : getN src all = some ns) :
    ExW C hh cf N Pw c18_134 e st (fun y e' st' => y = .norm ∧ e'.length = 119 ∧ e'.getD 0 .undef = .map m ∧ e'.getD 1 .undef = .str src ∧ e'.getD 5 .undef = .ptr c 0 ∧ e'.getD 15 .undef = .ptr b 0 ∧
      e'.getD 70 .undef = .sl (rowsN ns) .none ∧ e'.getD 71 .undef = .int .i64 (ns.length : Nat) ∧ e'.getD 72 .undef = .int .i64 0 ∧ st' = st) := by
  have hx := lookup_net hm hn
  have hlen : (rowsN ns).length = ns.length := by simp [rowsN]
  refine exw_strip ?_
  obtain ⟨code, hcode⟩ : ∃ code, code = strip c18_134 := ⟨_, rfl⟩
  rw [← hcode]
  simp only [c18_134, Tryz.f134, loopsOf, Option.getD, List.append, List.getD, List.getElem?_cons_succ, List.getElem?_cons_zero, HAppend.hAppend, Append.append, strip, stripO, List.map_toArray, List.map_cons, List.map_nil] at hcode
  subst hcode
  repeat (first
    | refine exw_seq ?_ | refine exw_block ?_ | refine exw_regf ?_ | refine exw_skip ?_ | refine exw_exit ?_ | refine exw_ret ?_
    | refine opsf_q rfl (want_0 rfl) rfl (by simp only [stepQ, ev, putD, ofConst, ofScalar, binD, unD, hP, pureSem, Op.intCmp, Op.intArith, getD_set, List.length_set, ↓reduceIte, Nat.reduceEqDiff, Nat.reduceLT, decide_true, decide_false, Bool.true_and, Bool.and_true, Bool.not_true, Bool.not_false, Option.map_some, List.getElem?_cons_zero, List.getElem?_cons_succ, builtinQ, List.map_cons, List.map_nil, hl, e0, e1, e5, hx, len41]; rfl) ?_
    | (refine opsf_q rfl (want_g rfl rfl rfl ?_) rfl (by simp only [stepQ, ev, putD, ofConst, ofScalar, binD, unD, hP, pureSem, Op.intCmp, Op.intArith, getD_set, List.length_set, ↓reduceIte, Nat.reduceEqDiff, Nat.reduceLT, decide_true, decide_false, Bool.true_and, Bool.and_true, Bool.not_true, Bool.not_false, Option.map_some, List.getElem?_cons_zero, List.getElem?_cons_succ, builtinQ, List.map_cons, List.map_nil, hl, e0, e1, e5, hx, len41]; rfl) ?_; focus (simp only [stepQ, ev, putD, ofConst, ofScalar, binD, unD, hP, pureSem, Op.intCmp, Op.intArith, getD_set, List.length_set, ↓reduceIte, Nat.reduceEqDiff, Nat.reduceLT, decide_true, decide_false, Bool.true_and, Bool.and_true, Bool.not_true, Bool.not_false, Option.map_some, List.getElem?_cons_zero, List.getElem?_cons_succ, builtinQ, List.map_cons, List.map_nil, hl, e0, e1, e5, hx, len41]; done))
    | (refine opsf_no rfl (want_f rfl rfl rfl ?_) ?_; focus (simp only [stepQ, ev, putD, ofConst, ofScalar, binD, unD, hP, pureSem, Op.intCmp, Op.intArith, getD_set, List.length_set, ↓reduceIte, Nat.reduceEqDiff, Nat.reduceLT, decide_true, decide_false, Bool.true_and, Bool.and_true, Bool.not_true, Bool.not_false, Option.map_some, List.getElem?_cons_zero, List.getElem?_cons_succ, builtinQ, List.map_cons, List.map_nil, hl, e0, e1, e5, hx, len41]; done))
    | (refine opsf_no rfl (want_n rfl rfl rfl ?_) ?_; focus (simp only [stepQ, ev, putD, ofConst, ofScalar, binD, unD, hP, pureSem, Op.intCmp, Op.intArith, getD_set, List.length_set, ↓reduceIte, Nat.reduceEqDiff, Nat.reduceLT, decide_true, decide_false, Bool.true_and, Bool.and_true, Bool.not_true, Bool.not_false, Option.map_some, List.getElem?_cons_zero, List.getElem?_cons_succ, builtinQ, List.map_cons, List.map_nil, hl, e0, e1, e5, hx, len41]; done))
    | refine opsf_l rfl (want_0 rfl) rfl (by simp only [stepL, stepQ, ev, putD, ofConst, ofScalar, binD, unD, hP, pureSem, Op.intCmp, Op.intArith, getD_set, List.length_set, ↓reduceIte, Nat.reduceEqDiff, Nat.reduceLT, decide_true, decide_false, Bool.true_and, Bool.and_true, Bool.not_true, Bool.not_false, Option.map_some, List.getElem?_cons_zero, List.getElem?_cons_succ, builtinQ, List.map_cons, List.map_nil, hl, e0, e1, e5, hx, len41]; first | rfl | exact hup) (by first | exact hupV | simp) ?_
    | refine opsf_a rfl (want_0 rfl) rfl (by simp only [stepQ, ev, putD, ofConst, ofScalar, binD, unD, hP, pureSem, Op.intCmp, Op.intArith, getD_set, List.length_set, ↓reduceIte, Nat.reduceEqDiff, Nat.reduceLT, decide_true, decide_false, Bool.true_and, Bool.and_true, Bool.not_true, Bool.not_false, Option.map_some, List.getElem?_cons_zero, List.getElem?_cons_succ, builtinQ, List.map_cons, List.map_nil, hl, e0, e1, e5, hx, len41]; rfl) ?_
    | refine opsf_nil (by decide) ?_
    | (refine exw_true ?_ ?_; focus (simp only [stepQ, ev, putD, ofConst, ofScalar, binD, unD, hP, pureSem, Op.intCmp, Op.intArith, getD_set, List.length_set, ↓reduceIte, Nat.reduceEqDiff, Nat.reduceLT, decide_true, decide_false, Bool.true_and, Bool.and_true, Bool.not_true, Bool.not_false, Option.map_some, List.getElem?_cons_zero, List.getElem?_cons_succ, builtinQ, List.map_cons, List.map_nil, hl, e0, e1, e5, hx, len41]; done))
    | (refine exw_false ?_ ?_; focus (simp only [stepQ, ev, putD, ofConst, ofScalar, binD, unD, hP, pureSem, Op.intCmp, Op.intArith, getD_set, List.length_set, ↓reduceIte, Nat.reduceEqDiff, Nat.reduceLT, decide_true, decide_false, Bool.true_and, Bool.and_true, Bool.not_true, Bool.not_false, Option.map_some, List.getElem?_cons_zero, List.getElem?_cons_succ, builtinQ, List.map_cons, List.map_nil, hl, e0, e1, e5, hx, len41]; done))
    | dsimp only)
  refine ⟨rfl, ?_, ?_, ?_, ?_, ?_, ?_, ?_, ?_, rfl⟩
  · simp only [putD, List.length_set]; exact hl
  all_goals simp only [stepQ, ev, putD, ofConst, ofScalar, binD, unD, hP, pureSem, Op.intCmp, Op.intArith, getD_set, List.length_set, ↓reduceIte, Nat.reduceEqDiff, Nat.reduceLT, decide_true, decide_false, Bool.true_and, Bool.and_true, Bool.not_true, Bool.not_false, Option.map_some, List.getElem?_cons_zero, List.getElem?_cons_succ, builtinQ, List.map_cons, List.map_nil, hl, e0, e1, e5, e15, hlen]

set_option maxHeartbeats 4000000 in
theorem round6 (hP : C.P = Tryz.prog) (hl : e.length = 119) {m c b f i : Nat} {src x : List UInt8} {far : Far} {best : Option Nat} {rows : List (List D)} {k : Nat} (e0 : e.getD 0 .undef = .map m) (e1 : e.getD 1 .undef = .str src) (e5 : e.getD 5 .undef = .ptr c 0) (e15 : e.getD 15 .undef = .ptr b 0)
    (e70 : e.getD 70 .undef = .sl rows .none) (e71 : e.getD 71 .undef = .int .i64 (k : Nat)) (e72 : e.getD 72 .undef = .int .i64 (i : Nat)) (hk : k < 2 ^ 62) (hik : i < k)
    (hi : rows[i]? = some [.str x]) (hc : st[c]? = some (.cells [.map f])) (hf : st[f]? = some (.map (encF far))) (hb : st[b]? = some (.cells [encB best])) :
    ExW C hh cf N (fun id => id = b) (L134 3) e st (fun y e' st' => y = .norm ∧ e'.length = 119 ∧ e'.getD 0 .undef = .map m ∧ e'.getD 1 .undef = .str src ∧ e'.getD 5 .undef = .ptr c 0 ∧ e'.getD 15 .undef = .ptr b 0 ∧
      e'.getD 70 .undef = .sl rows .none ∧ e'.getD 71 .undef = .int .i64 (k : Nat) ∧ e'.getD 72 .undef = .int .i64 ((i + 1 : Nat) : Int) ∧ At1 st b (.cells [encB (stepB (getF · far) best x)]) st') := by
  have hw := natAdd1 i (by omega)
  have hil : (i : Int) < (k : Int) := by omega
  have h1 := ia41 (gr := .none) hi
  have h2 := ld206 hc
  have h3 := ld3 hb
  have hx := lookup_far (x := x) hf
  refine exw_strip ?_
  obtain ⟨code, hcode⟩ : ∃ code, code = strip (L134 3) := ⟨_, rfl⟩
  rw [← hcode]
  simp only [L134, Tryz.f134, loopsOf, Option.getD, List.append, List.getD, List.getElem?_cons_succ, List.getElem?_cons_zero, HAppend.hAppend, Append.append, strip, stripO, List.map_toArray, List.map_cons, List.map_nil] at hcode
  subst hcode
  cases hgx : getF x far with
  | none =>
    rw [hgx] at hx
    dsimp only [getD'] at hx
    have hrel : stepB (getF · far) best x = best := by unfold stepB; simp [hgx]
    rw [hrel]
    repeat (first
      | refine exw_seq ?_ | refine exw_block ?_ | refine exw_regf ?_ | refine exw_skip ?_ | refine exw_exit ?_ | refine exw_ret ?_
      | refine opsf_q rfl (want_0 rfl) rfl (by simp only [stepQ, ev, putD, ofConst, ofScalar, binD, unD, hP, pureSem, Op.intCmp, Op.intArith, getD_set, List.length_set, ↓reduceIte, Nat.reduceEqDiff, Nat.reduceLT, decide_true, decide_false, Bool.true_and, Bool.and_true, Bool.not_true, Bool.not_false, Option.map_some, List.getElem?_cons_zero, List.getElem?_cons_succ, builtinQ, List.map_cons, List.map_nil, hl, e0, e1, e5, e15, e70, e71, e72, h1, h2, h3, ld9, hw, hil, hx]; rfl) ?_
      | (refine opsf_q rfl (want_g rfl rfl rfl ?_) rfl (by simp only [stepQ, ev, putD, ofConst, ofScalar, binD, unD, hP, pureSem, Op.intCmp, Op.intArith, getD_set, List.length_set, ↓reduceIte, Nat.reduceEqDiff, Nat.reduceLT, decide_true, decide_false, Bool.true_and, Bool.and_true, Bool.not_true, Bool.not_false, Option.map_some, List.getElem?_cons_zero, List.getElem?_cons_succ, builtinQ, List.map_cons, List.map_nil, hl, e0, e1, e5, e15, e70, e71, e72, h1, h2, h3, ld9, hw, hil, hx]; rfl) ?_; focus (simp only [stepQ, ev, putD, ofConst, ofScalar, binD, unD, hP, pureSem, Op.intCmp, Op.intArith, getD_set, List.length_set, ↓reduceIte, Nat.reduceEqDiff, Nat.reduceLT, decide_true, decide_false, Bool.true_and, Bool.and_true, Bool.not_true, Bool.not_false, Option.map_some, List.getElem?_cons_zero, List.getElem?_cons_succ, builtinQ, List.map_cons, List.map_nil, hl, e0, e1, e5, e15, e70, e71, e72, h1, h2, h3, ld9, hw, hil, hx]; done))
      | (refine opsf_no rfl (want_f rfl rfl rfl ?_) ?_; focus (simp only [stepQ, ev, putD, ofConst, ofScalar, binD, unD, hP, pureSem, Op.intCmp, Op.intArith, getD_set, List.length_set, ↓reduceIte, Nat.reduceEqDiff, Nat.reduceLT, decide_true, decide_false, Bool.true_and, Bool.and_true, Bool.not_true, Bool.not_false, Option.map_some, List.getElem?_cons_zero, List.getElem?_cons_succ, builtinQ, List.map_cons, List.map_nil, hl, e0, e1, e5, e15, e70, e71, e72, h1, h2, h3, ld9, hw, hil, hx]; done))
      | (refine opsf_no rfl (want_n rfl rfl rfl ?_) ?_; focus (simp only [stepQ, ev, putD, ofConst, ofScalar, binD, unD, hP, pureSem, Op.intCmp, Op.intArith, getD_set, List.length_set, ↓reduceIte, Nat.reduceEqDiff, Nat.reduceLT, decide_true, decide_false, Bool.true_and, Bool.and_true, Bool.not_true, Bool.not_false, Option.map_some, List.getElem?_cons_zero, List.getElem?_cons_succ, builtinQ, List.map_cons, List.map_nil, hl, e0, e1, e5, e15, e70, e71, e72, h1, h2, h3, ld9, hw, hil, hx]; done))
      | refine opsf_l rfl (want_0 rfl) rfl (by simp only [stepL, stepQ, ev, putD, ofConst, ofScalar, binD, unD, hP, pureSem, Op.intCmp, Op.intArith, getD_set, List.length_set, ↓reduceIte, Nat.reduceEqDiff, Nat.reduceLT, decide_true, decide_false, Bool.true_and, Bool.and_true, Bool.not_true, Bool.not_false, Option.map_some, List.getElem?_cons_zero, List.getElem?_cons_succ, builtinQ, List.map_cons, List.map_nil, hl, e0, e1, e5, e15, e70, e71, e72, h1, h2, h3, ld9, hw, hil, hx]; first | rfl | exact hup) (by first | exact hupV | simp) ?_
      | refine opsf_a rfl (want_0 rfl) rfl (by simp only [stepQ, ev, putD, ofConst, ofScalar, binD, unD, hP, pureSem, Op.intCmp, Op.intArith, getD_set, List.length_set, ↓reduceIte, Nat.reduceEqDiff, Nat.reduceLT, decide_true, decide_false, Bool.true_and, Bool.and_true, Bool.not_true, Bool.not_false, Option.map_some, List.getElem?_cons_zero, List.getElem?_cons_succ, builtinQ, List.map_cons, List.map_nil, hl, e0, e1, e5, e15, e70, e71, e72, h1, h2, h3, ld9, hw, hil, hx]; rfl) ?_
      | refine opsf_nil (by decide) ?_
      | (refine exw_true ?_ ?_; focus (simp only [stepQ, ev, putD, ofConst, ofScalar, binD, unD, hP, pureSem, Op.intCmp, Op.intArith, getD_set, List.length_set, ↓reduceIte, Nat.reduceEqDiff, Nat.reduceLT, decide_true, decide_false, Bool.true_and, Bool.and_true, Bool.not_true, Bool.not_false, Option.map_some, List.getElem?_cons_zero, List.getElem?_cons_succ, builtinQ, List.map_cons, List.map_nil, hl, e0, e1, e5, e15, e70, e71, e72, h1, h2, h3, ld9, hw, hil, hx]; done))
      | (refine exw_false ?_ ?_; focus (simp only [stepQ, ev, putD, ofConst, ofScalar, binD, unD, hP, pureSem, Op.intCmp, Op.intArith, getD_set, List.length_set, ↓reduceIte, Nat.reduceEqDiff, Nat.reduceLT, decide_true, decide_false, Bool.true_and, Bool.and_true, Bool.not_true, Bool.not_false, Option.map_some, List.getElem?_cons_zero, List.getElem?_cons_succ, builtinQ, List.map_cons, List.map_nil, hl, e0, e1, e5, e15, e70, e71, e72, h1, h2, h3, ld9, hw, hil, hx]; done))
      | dsimp only)
    refine ⟨rfl, ?_, ?_, ?_, ?_, ?_, ?_, ?_, ?_, At1.same hb⟩
    · simp only [putD, List.length_set]; exact hl
    all_goals simp only [stepQ, ev, putD, ofConst, ofScalar, binD, unD, hP, pureSem, Op.intCmp, Op.intArith, getD_set, List.length_set, ↓reduceIte, Nat.reduceEqDiff, Nat.reduceLT, decide_true, decide_false, Bool.true_and, Bool.and_true, Bool.not_true, Bool.not_false, Option.map_some, List.getElem?_cons_zero, List.getElem?_cons_succ, builtinQ, List.map_cons, List.map_nil, hl, e0, e1, e5, e15, e70, e71, e72]
  | some d =>
    rw [hgx] at hx
    dsimp only [getD'] at hx
    cases best with
    | none =>
      have hrel : stepB (getF · far) none x = some d := by unfold stepB; simp [hgx]
      rw [hrel]
      dsimp only [encB] at h3 hb
      have hup := st3 hb (y := encB (some d)) rfl
      dsimp only [encB] at hup
      have hneg : (-1 : Int) < 0 := by decide
      repeat (first
        | refine exw_seq ?_ | refine exw_block ?_ | refine exw_regf ?_ | refine exw_skip ?_ | refine exw_exit ?_ | refine exw_ret ?_
        | refine opsf_q rfl (want_0 rfl) rfl (by simp only [stepQ, ev, putD, ofConst, ofScalar, binD, unD, hP, pureSem, Op.intCmp, Op.intArith, getD_set, List.length_set, ↓reduceIte, Nat.reduceEqDiff, Nat.reduceLT, decide_true, decide_false, Bool.true_and, Bool.and_true, Bool.not_true, Bool.not_false, Option.map_some, List.getElem?_cons_zero, List.getElem?_cons_succ, builtinQ, List.map_cons, List.map_nil, hl, e0, e1, e5, e15, e70, e71, e72, h1, h2, h3, ld9, hw, hil, hx, hneg]; rfl) ?_
        | (refine opsf_q rfl (want_g rfl rfl rfl ?_) rfl (by simp only [stepQ, ev, putD, ofConst, ofScalar, binD, unD, hP, pureSem, Op.intCmp, Op.intArith, getD_set, List.length_set, ↓reduceIte, Nat.reduceEqDiff, Nat.reduceLT, decide_true, decide_false, Bool.true_and, Bool.and_true, Bool.not_true, Bool.not_false, Option.map_some, List.getElem?_cons_zero, List.getElem?_cons_succ, builtinQ, List.map_cons, List.map_nil, hl, e0, e1, e5, e15, e70, e71, e72, h1, h2, h3, ld9, hw, hil, hx, hneg]; rfl) ?_; focus (simp only [stepQ, ev, putD, ofConst, ofScalar, binD, unD, hP, pureSem, Op.intCmp, Op.intArith, getD_set, List.length_set, ↓reduceIte, Nat.reduceEqDiff, Nat.reduceLT, decide_true, decide_false, Bool.true_and, Bool.and_true, Bool.not_true, Bool.not_false, Option.map_some, List.getElem?_cons_zero, List.getElem?_cons_succ, builtinQ, List.map_cons, List.map_nil, hl, e0, e1, e5, e15, e70, e71, e72, h1, h2, h3, ld9, hw, hil, hx, hneg]; done))
        | (refine opsf_no rfl (want_f rfl rfl rfl ?_) ?_; focus (simp only [stepQ, ev, putD, ofConst, ofScalar, binD, unD, hP, pureSem, Op.intCmp, Op.intArith, getD_set, List.length_set, ↓reduceIte, Nat.reduceEqDiff, Nat.reduceLT, decide_true, decide_false, Bool.true_and, Bool.and_true, Bool.not_true, Bool.not_false, Option.map_some, List.getElem?_cons_zero, List.getElem?_cons_succ, builtinQ, List.map_cons, List.map_nil, hl, e0, e1, e5, e15, e70, e71, e72, h1, h2, h3, ld9, hw, hil, hx, hneg]; done))
        | (refine opsf_no rfl (want_n rfl rfl rfl ?_) ?_; focus (simp only [stepQ, ev, putD, ofConst, ofScalar, binD, unD, hP, pureSem, Op.intCmp, Op.intArith, getD_set, List.length_set, ↓reduceIte, Nat.reduceEqDiff, Nat.reduceLT, decide_true, decide_false, Bool.true_and, Bool.and_true, Bool.not_true, Bool.not_false, Option.map_some, List.getElem?_cons_zero, List.getElem?_cons_succ, builtinQ, List.map_cons, List.map_nil, hl, e0, e1, e5, e15, e70, e71, e72, h1, h2, h3, ld9, hw, hil, hx, hneg]; done))
        | refine opsf_l rfl (want_0 rfl) rfl (by simp only [stepL, stepQ, ev, putD, ofConst, ofScalar, binD, unD, hP, pureSem, Op.intCmp, Op.intArith, getD_set, List.length_set, ↓reduceIte, Nat.reduceEqDiff, Nat.reduceLT, decide_true, decide_false, Bool.true_and, Bool.and_true, Bool.not_true, Bool.not_false, Option.map_some, List.getElem?_cons_zero, List.getElem?_cons_succ, builtinQ, List.map_cons, List.map_nil, hl, e0, e1, e5, e15, e70, e71, e72, h1, h2, h3, ld9, hw, hil, hx, hneg]; first | rfl | exact hup) (by first | exact hupV | simp) ?_
        | refine opsf_a rfl (want_0 rfl) rfl (by simp only [stepQ, ev, putD, ofConst, ofScalar, binD, unD, hP, pureSem, Op.intCmp, Op.intArith, getD_set, List.length_set, ↓reduceIte, Nat.reduceEqDiff, Nat.reduceLT, decide_true, decide_false, Bool.true_and, Bool.and_true, Bool.not_true, Bool.not_false, Option.map_some, List.getElem?_cons_zero, List.getElem?_cons_succ, builtinQ, List.map_cons, List.map_nil, hl, e0, e1, e5, e15, e70, e71, e72, h1, h2, h3, ld9, hw, hil, hx, hneg]; rfl) ?_
        | refine opsf_nil (by decide) ?_
        | (refine exw_true ?_ ?_; focus (simp only [stepQ, ev, putD, ofConst, ofScalar, binD, unD, hP, pureSem, Op.intCmp, Op.intArith, getD_set, List.length_set, ↓reduceIte, Nat.reduceEqDiff, Nat.reduceLT, decide_true, decide_false, Bool.true_and, Bool.and_true, Bool.not_true, Bool.not_false, Option.map_some, List.getElem?_cons_zero, List.getElem?_cons_succ, builtinQ, List.map_cons, List.map_nil, hl, e0, e1, e5, e15, e70, e71, e72, h1, h2, h3, ld9, hw, hil, hx, hneg]; done))
        | (refine exw_false ?_ ?_; focus (simp only [stepQ, ev, putD, ofConst, ofScalar, binD, unD, hP, pureSem, Op.intCmp, Op.intArith, getD_set, List.length_set, ↓reduceIte, Nat.reduceEqDiff, Nat.reduceLT, decide_true, decide_false, Bool.true_and, Bool.and_true, Bool.not_true, Bool.not_false, Option.map_some, List.getElem?_cons_zero, List.getElem?_cons_succ, builtinQ, List.map_cons, List.map_nil, hl, e0, e1, e5, e15, e70, e71, e72, h1, h2, h3, ld9, hw, hil, hx, hneg]; done))
        | dsimp only)
      refine ⟨rfl, ?_, ?_, ?_, ?_, ?_, ?_, ?_, ?_, At1.set hb⟩
      · simp only [putD, List.length_set]; exact hl
      all_goals simp only [stepQ, ev, putD, ofConst, ofScalar, binD, unD, hP, pureSem, Op.intCmp, Op.intArith, getD_set, List.length_set, ↓reduceIte, Nat.reduceEqDiff, Nat.reduceLT, decide_true, decide_false, Bool.true_and, Bool.and_true, Bool.not_true, Bool.not_false, Option.map_some, List.getElem?_cons_zero, List.getElem?_cons_succ, builtinQ, List.map_cons, List.map_nil, hl, e0, e1, e5, e15, e70, e71, e72]
    | some q =>
      dsimp only [encB] at h3 hb
      have hneg : decide (((q : Nat) : Int) < 0) = false := by simp
      by_cases hlt : d < q
      · have hrel : stepB (getF · far) (some q) x = some d := by unfold stepB; simp [hgx, hlt]
        rw [hrel]
        have hup := st3 hb (y := encB (some d)) rfl
        dsimp only [encB] at hup
        have hlt2 : decide ((d : Int) < (q : Int)) = true := by simpa using hlt
        repeat (first
          | refine exw_seq ?_ | refine exw_block ?_ | refine exw_regf ?_ | refine exw_skip ?_ | refine exw_exit ?_ | refine exw_ret ?_
          | refine opsf_q rfl (want_0 rfl) rfl (by simp only [stepQ, ev, putD, ofConst, ofScalar, binD, unD, hP, pureSem, Op.intCmp, Op.intArith, getD_set, List.length_set, ↓reduceIte, Nat.reduceEqDiff, Nat.reduceLT, decide_true, decide_false, Bool.true_and, Bool.and_true, Bool.not_true, Bool.not_false, Option.map_some, List.getElem?_cons_zero, List.getElem?_cons_succ, builtinQ, List.map_cons, List.map_nil, hl, e0, e1, e5, e15, e70, e71, e72, h1, h2, h3, ld9, hw, hil, hx, hneg, hlt2]; rfl) ?_
          | (refine opsf_q rfl (want_g rfl rfl rfl ?_) rfl (by simp only [stepQ, ev, putD, ofConst, ofScalar, binD, unD, hP, pureSem, Op.intCmp, Op.intArith, getD_set, List.length_set, ↓reduceIte, Nat.reduceEqDiff, Nat.reduceLT, decide_true, decide_false, Bool.true_and, Bool.and_true, Bool.not_true, Bool.not_false, Option.map_some, List.getElem?_cons_zero, List.getElem?_cons_succ, builtinQ, List.map_cons, List.map_nil, hl, e0, e1, e5, e15, e70, e71, e72, h1, h2, h3, ld9, hw, hil, hx, hneg, hlt2]; rfl) ?_; focus (simp only [stepQ, ev, putD, ofConst, ofScalar, binD, unD, hP, pureSem, Op.intCmp, Op.intArith, getD_set, List.length_set, ↓reduceIte, Nat.reduceEqDiff, Nat.reduceLT, decide_true, decide_false, Bool.true_and, Bool.and_true, Bool.not_true, Bool.not_false, Option.map_some, List.getElem?_cons_zero, List.getElem?_cons_succ, builtinQ, List.map_cons, List.map_nil, hl, e0, e1, e5, e15, e70, e71, e72, h1, h2, h3, ld9, hw, hil, hx, hneg, hlt2]; done))
          | (refine opsf_no rfl (want_f rfl rfl rfl ?_) ?_; focus (simp only [stepQ, ev, putD, ofConst, ofScalar, binD, unD, hP, pureSem, Op.intCmp, Op.intArith, getD_set, List.length_set, ↓reduceIte, Nat.reduceEqDiff, Nat.reduceLT, decide_true, decide_false, Bool.true_and, Bool.and_true, Bool.not_true, Bool.not_false, Option.map_some, List.getElem?_cons_zero, List.getElem?_cons_succ, builtinQ, List.map_cons, List.map_nil, hl, e0, e1, e5, e15, e70, e71, e72, h1, h2, h3, ld9, hw, hil, hx, hneg, hlt2]; done))
          | (refine opsf_no rfl (want_n rfl rfl rfl ?_) ?_; focus (simp only [stepQ, ev, putD, ofConst, ofScalar, binD, unD, hP, pureSem, Op.intCmp, Op.intArith, getD_set, List.length_set, ↓reduceIte, Nat.reduceEqDiff, Nat.reduceLT, decide_true, decide_false, Bool.true_and, Bool.and_true, Bool.not_true, Bool.not_false, Option.map_some, List.getElem?_cons_zero, List.getElem?_cons_succ, builtinQ, List.map_cons, List.map_nil, hl, e0, e1, e5, e15, e70, e71, e72, h1, h2, h3, ld9, hw, hil, hx, hneg, hlt2]; done))
          | refine opsf_l rfl (want_0 rfl) rfl (by simp only [stepL, stepQ, ev, putD, ofConst, ofScalar, binD, unD, hP, pureSem, Op.intCmp, Op.intArith, getD_set, List.length_set, ↓reduceIte, Nat.reduceEqDiff, Nat.reduceLT, decide_true, decide_false, Bool.true_and, Bool.and_true, Bool.not_true, Bool.not_false, Option.map_some, List.getElem?_cons_zero, List.getElem?_cons_succ, builtinQ, List.map_cons, List.map_nil, hl, e0, e1, e5, e15, e70, e71, e72, h1, h2, h3, ld9, hw, hil, hx, hneg, hlt2]; first | rfl | exact hup) (by first | exact hupV | simp) ?_
          | refine opsf_a rfl (want_0 rfl) rfl (by simp only [stepQ, ev, putD, ofConst, ofScalar, binD, unD, hP, pureSem, Op.intCmp, Op.intArith, getD_set, List.length_set, ↓reduceIte, Nat.reduceEqDiff, Nat.reduceLT, decide_true, decide_false, Bool.true_and, Bool.and_true, Bool.not_true, Bool.not_false, Option.map_some, List.getElem?_cons_zero, List.getElem?_cons_succ, builtinQ, List.map_cons, List.map_nil, hl, e0, e1, e5, e15, e70, e71, e72, h1, h2, h3, ld9, hw, hil, hx, hneg, hlt2]; rfl) ?_
          | refine opsf_nil (by decide) ?_
          | (refine exw_true ?_ ?_; focus (simp only [stepQ, ev, putD, ofConst, ofScalar, binD, unD, hP, pureSem, Op.intCmp, Op.intArith, getD_set, List.length_set, ↓reduceIte, Nat.reduceEqDiff, Nat.reduceLT, decide_true, decide_false, Bool.true_and, Bool.and_true, Bool.not_true, Bool.not_false, Option.map_some, List.getElem?_cons_zero, List.getElem?_cons_succ, builtinQ, List.map_cons, List.map_nil, hl, e0, e1, e5, e15, e70, e71, e72, h1, h2, h3, ld9, hw, hil, hx, hneg, hlt2]; done))
          | (refine exw_false ?_ ?_; focus (simp only [stepQ, ev, putD, ofConst, ofScalar, binD, unD, hP, pureSem, Op.intCmp, Op.intArith, getD_set, List.length_set, ↓reduceIte, Nat.reduceEqDiff, Nat.reduceLT, decide_true, decide_false, Bool.true_and, Bool.and_true, Bool.not_true, Bool.not_false, Option.map_some, List.getElem?_cons_zero, List.getElem?_cons_succ, builtinQ, List.map_cons, List.map_nil, hl, e0, e1, e5, e15, e70, e71, e72, h1, h2, h3, ld9, hw, hil, hx, hneg, hlt2]; done))
          | dsimp only)
        refine ⟨rfl, ?_, ?_, ?_, ?_, ?_, ?_, ?_, ?_, At1.set hb⟩
        · simp only [putD, List.length_set]; exact hl
        all_goals simp only [stepQ, ev, putD, ofConst, ofScalar, binD, unD, hP, pureSem, Op.intCmp, Op.intArith, getD_set, List.length_set, ↓reduceIte, Nat.reduceEqDiff, Nat.reduceLT, decide_true, decide_false, Bool.true_and, Bool.and_true, Bool.not_true, Bool.not_false, Option.map_some, List.getElem?_cons_zero, List.getElem?_cons_succ, builtinQ, List.map_cons, List.map_nil, hl, e0, e1, e5, e15, e70, e71, e72]
      · have hrel : stepB (getF · far) (some q) x = some q := by unfold stepB; simp [hgx, hlt]
        rw [hrel]
        have hlt2 : decide ((d : Int) < (q : Int)) = false := by simp; omega
        repeat (first
          | refine exw_seq ?_ | refine exw_block ?_ | refine exw_regf ?_ | refine exw_skip ?_ | refine exw_exit ?_ | refine exw_ret ?_
          | refine opsf_q rfl (want_0 rfl) rfl (by simp only [stepQ, ev, putD, ofConst, ofScalar, binD, unD, hP, pureSem, Op.intCmp, Op.intArith, getD_set, List.length_set, ↓reduceIte, Nat.reduceEqDiff, Nat.reduceLT, decide_true, decide_false, Bool.true_and, Bool.and_true, Bool.not_true, Bool.not_false, Option.map_some, List.getElem?_cons_zero, List.getElem?_cons_succ, builtinQ, List.map_cons, List.map_nil, hl, e0, e1, e5, e15, e70, e71, e72, h1, h2, h3, ld9, hw, hil, hx, hneg, hlt2]; rfl) ?_
          | (refine opsf_q rfl (want_g rfl rfl rfl ?_) rfl (by simp only [stepQ, ev, putD, ofConst, ofScalar, binD, unD, hP, pureSem, Op.intCmp, Op.intArith, getD_set, List.length_set, ↓reduceIte, Nat.reduceEqDiff, Nat.reduceLT, decide_true, decide_false, Bool.true_and, Bool.and_true, Bool.not_true, Bool.not_false, Option.map_some, List.getElem?_cons_zero, List.getElem?_cons_succ, builtinQ, List.map_cons, List.map_nil, hl, e0, e1, e5, e15, e70, e71, e72, h1, h2, h3, ld9, hw, hil, hx, hneg, hlt2]; rfl) ?_; focus (simp only [stepQ, ev, putD, ofConst, ofScalar, binD, unD, hP, pureSem, Op.intCmp, Op.intArith, getD_set, List.length_set, ↓reduceIte, Nat.reduceEqDiff, Nat.reduceLT, decide_true, decide_false, Bool.true_and, Bool.and_true, Bool.not_true, Bool.not_false, Option.map_some, List.getElem?_cons_zero, List.getElem?_cons_succ, builtinQ, List.map_cons, List.map_nil, hl, e0, e1, e5, e15, e70, e71, e72, h1, h2, h3, ld9, hw, hil, hx, hneg, hlt2]; done))
          | (refine opsf_no rfl (want_f rfl rfl rfl ?_) ?_; focus (simp only [stepQ, ev, putD, ofConst, ofScalar, binD, unD, hP, pureSem, Op.intCmp, Op.intArith, getD_set, List.length_set, ↓reduceIte, Nat.reduceEqDiff, Nat.reduceLT, decide_true, decide_false, Bool.true_and, Bool.and_true, Bool.not_true, Bool.not_false, Option.map_some, List.getElem?_cons_zero, List.getElem?_cons_succ, builtinQ, List.map_cons, List.map_nil, hl, e0, e1, e5, e15, e70, e71, e72, h1, h2, h3, ld9, hw, hil, hx, hneg, hlt2]; done))
          | (refine opsf_no rfl (want_n rfl rfl rfl ?_) ?_; focus (simp only [stepQ, ev, putD, ofConst, ofScalar, binD, unD, hP, pureSem, Op.intCmp, Op.intArith, getD_set, List.length_set, ↓reduceIte, Nat.reduceEqDiff, Nat.reduceLT, decide_true, decide_false, Bool.true_and, Bool.and_true, Bool.not_true, Bool.not_false, Option.map_some, List.getElem?_cons_zero, List.getElem?_cons_succ, builtinQ, List.map_cons, List.map_nil, hl, e0, e1, e5, e15, e70, e71, e72, h1, h2, h3, ld9, hw, hil, hx, hneg, hlt2]; done))
          | refine opsf_l rfl (want_0 rfl) rfl (by simp only [stepL, stepQ, ev, putD, ofConst, ofScalar, binD, unD, hP, pureSem, Op.intCmp, Op.intArith, getD_set, List.length_set, ↓reduceIte, Nat.reduceEqDiff, Nat.reduceLT, decide_true, decide_false, Bool.true_and, Bool.and_true, Bool.not_true, Bool.not_false, Option.map_some, List.getElem?_cons_zero, List.getElem?_cons_succ, builtinQ, List.map_cons, List.map_nil, hl, e0, e1, e5, e15, e70, e71, e72, h1, h2, h3, ld9, hw, hil, hx, hneg, hlt2]; first | rfl | exact hup) (by first | exact hupV | simp) ?_
          | refine opsf_a rfl (want_0 rfl) rfl (by simp only [stepQ, ev, putD, ofConst, ofScalar, binD, unD, hP, pureSem, Op.intCmp, Op.intArith, getD_set, List.length_set, ↓reduceIte, Nat.reduceEqDiff, Nat.reduceLT, decide_true, decide_false, Bool.true_and, Bool.and_true, Bool.not_true, Bool.not_false, Option.map_some, List.getElem?_cons_zero, List.getElem?_cons_succ, builtinQ, List.map_cons, List.map_nil, hl, e0, e1, e5, e15, e70, e71, e72, h1, h2, h3, ld9, hw, hil, hx, hneg, hlt2]; rfl) ?_
          | refine opsf_nil (by decide) ?_
          | (refine exw_true ?_ ?_; focus (simp only [stepQ, ev, putD, ofConst, ofScalar, binD, unD, hP, pureSem, Op.intCmp, Op.intArith, getD_set, List.length_set, ↓reduceIte, Nat.reduceEqDiff, Nat.reduceLT, decide_true, decide_false, Bool.true_and, Bool.and_true, Bool.not_true, Bool.not_false, Option.map_some, List.getElem?_cons_zero, List.getElem?_cons_succ, builtinQ, List.map_cons, List.map_nil, hl, e0, e1, e5, e15, e70, e71, e72, h1, h2, h3, ld9, hw, hil, hx, hneg, hlt2]; done))
          | (refine exw_false ?_ ?_; focus (simp only [stepQ, ev, putD, ofConst, ofScalar, binD, unD, hP, pureSem, Op.intCmp, Op.intArith, getD_set, List.length_set, ↓reduceIte, Nat.reduceEqDiff, Nat.reduceLT, decide_true, decide_false, Bool.true_and, Bool.and_true, Bool.not_true, Bool.not_false, Option.map_some, List.getElem?_cons_zero, List.getElem?_cons_succ, builtinQ, List.map_cons, List.map_nil, hl, e0, e1, e5, e15, e70, e71, e72, h1, h2, h3, ld9, hw, hil, hx, hneg, hlt2]; done))
          | dsimp only)
        refine ⟨rfl, ?_, ?_, ?_, ?_, ?_, ?_, ?_, ?_, At1.same hb⟩
        · simp only [putD, List.length_set]; exact hl
        all_goals simp only [stepQ, ev, putD, ofConst, ofScalar, binD, unD, hP, pureSem, Op.intCmp, Op.intArith, getD_set, List.length_set, ↓reduceIte, Nat.reduceEqDiff, Nat.reduceLT, decide_true, decide_false, Bool.true_and, Bool.and_true, Bool.not_true, Bool.not_false, Option.map_some, List.getElem?_cons_zero, List.getElem?_cons_succ, builtinQ, List.map_cons, List.map_nil, hl, e0, e1, e5, e15, e70, e71, e72]

theorem end6 {Pw : Nat → Prop} (hP : C.P = Tryz.prog) (hl : e.length = 119) {k : Nat} (e71 : e.getD 71 .undef = .int .i64 (k : Nat)) (e72 : e.getD 72 .undef = .int .i64 (k : Nat)) :
    ExW C hh cf N Pw (L134 3) e st (fun y e' st' => y = .exit 6 ∧ e' = e.set 73 (.bool false) ∧ st' = st) := by
  have hil : ¬ (k : Int) < (k : Int) := by omega
  refine exw_strip ?_
  obtain ⟨code, hcode⟩ : ∃ code, code = strip (L134 3) := ⟨_, rfl⟩
  rw [← hcode]
  simp only [L134, Tryz.f134, loopsOf, Option.getD, List.append, List.getD, List.getElem?_cons_succ, List.getElem?_cons_zero, HAppend.hAppend, Append.append, strip, stripO, List.map_toArray, List.map_cons, List.map_nil] at hcode
  subst hcode
  repeat (first
    | refine exw_seq ?_ | refine exw_block ?_ | refine exw_regf ?_ | refine exw_skip ?_ | refine exw_exit ?_ | refine exw_ret ?_
    | refine opsf_q rfl (want_0 rfl) rfl (by simp only [stepQ, ev, putD, ofConst, ofScalar, binD, unD, hP, pureSem, Op.intCmp, Op.intArith, getD_set, List.length_set, ↓reduceIte, Nat.reduceEqDiff, Nat.reduceLT, decide_true, decide_false, Bool.true_and, Bool.and_true, Bool.not_true, Bool.not_false, Option.map_some, List.getElem?_cons_zero, List.getElem?_cons_succ, builtinQ, List.map_cons, List.map_nil, hl, e71, e72, hil]; rfl) ?_
    | (refine opsf_q rfl (want_g rfl rfl rfl ?_) rfl (by simp only [stepQ, ev, putD, ofConst, ofScalar, binD, unD, hP, pureSem, Op.intCmp, Op.intArith, getD_set, List.length_set, ↓reduceIte, Nat.reduceEqDiff, Nat.reduceLT, decide_true, decide_false, Bool.true_and, Bool.and_true, Bool.not_true, Bool.not_false, Option.map_some, List.getElem?_cons_zero, List.getElem?_cons_succ, builtinQ, List.map_cons, List.map_nil, hl, e71, e72, hil]; rfl) ?_; focus (simp only [stepQ, ev, putD, ofConst, ofScalar, binD, unD, hP, pureSem, Op.intCmp, Op.intArith, getD_set, List.length_set, ↓reduceIte, Nat.reduceEqDiff, Nat.reduceLT, decide_true, decide_false, Bool.true_and, Bool.and_true, Bool.not_true, Bool.not_false, Option.map_some, List.getElem?_cons_zero, List.getElem?_cons_succ, builtinQ, List.map_cons, List.map_nil, hl, e71, e72, hil]; done))
    | (refine opsf_no rfl (want_f rfl rfl rfl ?_) ?_; focus (simp only [stepQ, ev, putD, ofConst, ofScalar, binD, unD, hP, pureSem, Op.intCmp, Op.intArith, getD_set, List.length_set, ↓reduceIte, Nat.reduceEqDiff, Nat.reduceLT, decide_true, decide_false, Bool.true_and, Bool.and_true, Bool.not_true, Bool.not_false, Option.map_some, List.getElem?_cons_zero, List.getElem?_cons_succ, builtinQ, List.map_cons, List.map_nil, hl, e71, e72, hil]; done))
    | (refine opsf_no rfl (want_n rfl rfl rfl ?_) ?_; focus (simp only [stepQ, ev, putD, ofConst, ofScalar, binD, unD, hP, pureSem, Op.intCmp, Op.intArith, getD_set, List.length_set, ↓reduceIte, Nat.reduceEqDiff, Nat.reduceLT, decide_true, decide_false, Bool.true_and, Bool.and_true, Bool.not_true, Bool.not_false, Option.map_some, List.getElem?_cons_zero, List.getElem?_cons_succ, builtinQ, List.map_cons, List.map_nil, hl, e71, e72, hil]; done))
    | refine opsf_l rfl (want_0 rfl) rfl (by simp only [stepL, stepQ, ev, putD, ofConst, ofScalar, binD, unD, hP, pureSem, Op.intCmp, Op.intArith, getD_set, List.length_set, ↓reduceIte, Nat.reduceEqDiff, Nat.reduceLT, decide_true, decide_false, Bool.true_and, Bool.and_true, Bool.not_true, Bool.not_false, Option.map_some, List.getElem?_cons_zero, List.getElem?_cons_succ, builtinQ, List.map_cons, List.map_nil, hl, e71, e72, hil]; first | rfl | exact hup) (by first | exact hupV | simp) ?_
    | refine opsf_a rfl (want_0 rfl) rfl (by simp only [stepQ, ev, putD, ofConst, ofScalar, binD, unD, hP, pureSem, Op.intCmp, Op.intArith, getD_set, List.length_set, ↓reduceIte, Nat.reduceEqDiff, Nat.reduceLT, decide_true, decide_false, Bool.true_and, Bool.and_true, Bool.not_true, Bool.not_false, Option.map_some, List.getElem?_cons_zero, List.getElem?_cons_succ, builtinQ, List.map_cons, List.map_nil, hl, e71, e72, hil]; rfl) ?_
    | refine opsf_nil (by decide) ?_
    | (refine exw_true ?_ ?_; focus (simp only [stepQ, ev, putD, ofConst, ofScalar, binD, unD, hP, pureSem, Op.intCmp, Op.intArith, getD_set, List.length_set, ↓reduceIte, Nat.reduceEqDiff, Nat.reduceLT, decide_true, decide_false, Bool.true_and, Bool.and_true, Bool.not_true, Bool.not_false, Option.map_some, List.getElem?_cons_zero, List.getElem?_cons_succ, builtinQ, List.map_cons, List.map_nil, hl, e71, e72, hil]; done))
    | (refine exw_false ?_ ?_; focus (simp only [stepQ, ev, putD, ofConst, ofScalar, binD, unD, hP, pureSem, Op.intCmp, Op.intArith, getD_set, List.length_set, ↓reduceIte, Nat.reduceEqDiff, Nat.reduceLT, decide_true, decide_false, Bool.true_and, Bool.and_true, Bool.not_true, Bool.not_false, Option.map_some, List.getElem?_cons_zero, List.getElem?_cons_succ, builtinQ, List.map_cons, List.map_nil, hl, e71, e72, hil]; done))
    | dsimp only)
  exact ⟨rfl, rfl, rfl⟩
end
end Go.Vam
