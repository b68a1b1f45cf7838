/-
  check.back: the way; its law.
-/
import Derived.Test.YtcdogmjbnlmgeaaGreatDoorVah
set_option linter.unusedSimpArgs false
set_option linter.unusedVariables false
set_option maxRecDepth 100000
namespace Go.Vam
open Go.Proofs Go.RowKit

noncomputable def C0 : Cfg := { P := Tryz.prog }

theorem ids_nil {V : Ids} (h : ∀ id ∈ V, False) : V = [] := List.eq_nil_iff_forall_not_mem.2 h

/-- A call that tells a scalar and turns nothing. -/
theorem run_of_exw {cf : CallF} {N : Nat} {f : FuncId} {fn : Func} {c : Code} {args : List D} {st : St} {v : D} (hfn : Tryz.prog.funcs[f]? = some fn) (hb : fn.body = some c) (hv : scal v = true)
    (h : ExW C0 false cf N (fun _ => False) c (args ++ List.replicate (fn.ntmps - args.length) .undef) st (fun y e' st' => y = .ret ∧ resOf C0.P e' st fn.results.toList = some [v] ∧ st' = st)) : run C0 cf N f args st = some (v, st, []) := by
  obtain ⟨y, e', st', V, h1, h2, rfl, h3, hst⟩ := h.ex
  rw [hst] at h1
  have hV := ids_nil h2
  subst hV
  have hf : frzArgs st [v] = some ([v], st) := by
    cases v <;> first | rfl | cases hv
  have hfin : finish st.length v st [] = some (v, st, []) := by
    rw [finish_scal (by cases v <;> first | rfl | cases hv) rfl, List.take_length]
  unfold run
  have hP : C0.P = Tryz.prog := rfl
  rw [hP, hfn]
  dsimp only
  rw [hb]
  dsimp only
  have hh : C0.hnd.contains f = false := rfl
  have ho : C0.ords f = fun _ => none := rfl
  rw [hh, ho, h1]
  dsimp only
  rw [hP] at h3
  rw [h3]
  dsimp only
  have hz : frzRes C0 f [v] st = some ([v], st) := by
    unfold frzRes
    exact hf
  rw [hz]
  dsimp only
  rw [frozenIds_self]
  exact hfin

noncomputable def b189 : Code := match Tryz.f189.body with
  | some c => c
  | none => .skip
noncomputable def b149 : Code := match Tryz.f149.body with
  | some c => c
  | none => .skip
theorem body189 : Tryz.f189.body = some b189 := by kernel_rfl
theorem body149 : Tryz.f149.body = some b149 := by kernel_rfl

set_option maxHeartbeats 4000000 in
theorem clo189 {cf : CallF} {N : Nat} {st : St} {c b f : Nat} {far : Far} {q : Nat} (x : List UInt8) (hc : st[c]? = some (.cells [.map f])) (hf : st[f]? = some (.map (encF far))) (hb : st[b]? = some (.cells [encB (some q)])) :
    run C0 cf N 189 [.str x, .ptr c 0, .ptr b 0] st = some (.bool (getF x far == some q), st, []) := by
  refine run_of_exw Tryz.func189 body189 rfl ?_
  generalize he : ([D.str x, .ptr c 0, .ptr b 0] ++ List.replicate (Tryz.f189.ntmps - [D.str x, .ptr c 0, .ptr b 0].length) .undef) = e
  have hl : e.length = 19 := by rw [← he]; rfl
  have e0 : e.getD 0 .undef = .str x := by rw [← he]; rfl
  have e1 : e.getD 1 .undef = .ptr c 0 := by rw [← he]; rfl
  have e2 : e.getD 2 .undef = .ptr b 0 := by rw [← he]; rfl
  clear he
  have hP : C0.P = Tryz.prog := rfl
  have h2 := ld206 hc
  have h3 := ld3 hb
  dsimp only [encB] at h3
  have hx := lookup_far (x := x) hf
  have hres : Tryz.f189.results.toList = [.tmp 4] := by kernel_rfl
  rw [hres]
  refine exw_strip ?_
  obtain ⟨code, hcode⟩ : ∃ code, code = strip b189 := ⟨_, rfl⟩
  rw [← hcode]
  simp only [b189, Tryz.f189, loopsOf, Option.getD, List.append, List.getD, List.getElem?_cons_succ, List.getElem?_cons_zero, HAppend.hAppend, Append.append, strip, stripO, List.map_toArray, List.map_cons, List.map_nil] at hcode
  subst hcode
  cases hgx : getF x far with
  | none =>
    rw [hgx] at hx
    dsimp only [getD'] at hx
    repeat (first
      | refine exw_seq ?_ | refine exw_block ?_ | refine exw_regf ?_ | refine exw_skip ?_ | refine exw_exit ?_ | refine exw_ret ?_
      | refine opsf_q rfl (want_0 rfl) rfl (by simp only [stepQ, ev, putD, ofConst, ofScalar, binD, unD, hP, pureSem, Op.intCmp, Op.intArith, getD_set, List.length_set, ↓reduceIte, Nat.reduceEqDiff, Nat.reduceLT, decide_true, decide_false, Bool.true_and, Bool.and_true, Bool.not_true, Bool.not_false, Option.map_some, List.getElem?_cons_zero, List.getElem?_cons_succ, builtinQ, List.map_cons, List.map_nil, hl, e0, e1, e2, h2, h3, hx]; rfl) ?_
      | (refine opsf_q rfl (want_g rfl rfl rfl ?_) rfl (by simp only [stepQ, ev, putD, ofConst, ofScalar, binD, unD, hP, pureSem, Op.intCmp, Op.intArith, getD_set, List.length_set, ↓reduceIte, Nat.reduceEqDiff, Nat.reduceLT, decide_true, decide_false, Bool.true_and, Bool.and_true, Bool.not_true, Bool.not_false, Option.map_some, List.getElem?_cons_zero, List.getElem?_cons_succ, builtinQ, List.map_cons, List.map_nil, hl, e0, e1, e2, h2, h3, hx]; rfl) ?_; focus (simp only [stepQ, ev, putD, ofConst, ofScalar, binD, unD, hP, pureSem, Op.intCmp, Op.intArith, getD_set, List.length_set, ↓reduceIte, Nat.reduceEqDiff, Nat.reduceLT, decide_true, decide_false, Bool.true_and, Bool.and_true, Bool.not_true, Bool.not_false, Option.map_some, List.getElem?_cons_zero, List.getElem?_cons_succ, builtinQ, List.map_cons, List.map_nil, hl, e0, e1, e2, h2, h3, hx]; done))
      | (refine opsf_no rfl (want_f rfl rfl rfl ?_) ?_; focus (simp only [stepQ, ev, putD, ofConst, ofScalar, binD, unD, hP, pureSem, Op.intCmp, Op.intArith, getD_set, List.length_set, ↓reduceIte, Nat.reduceEqDiff, Nat.reduceLT, decide_true, decide_false, Bool.true_and, Bool.and_true, Bool.not_true, Bool.not_false, Option.map_some, List.getElem?_cons_zero, List.getElem?_cons_succ, builtinQ, List.map_cons, List.map_nil, hl, e0, e1, e2, h2, h3, hx]; done))
      | (refine opsf_no rfl (want_n rfl rfl rfl ?_) ?_; focus (simp only [stepQ, ev, putD, ofConst, ofScalar, binD, unD, hP, pureSem, Op.intCmp, Op.intArith, getD_set, List.length_set, ↓reduceIte, Nat.reduceEqDiff, Nat.reduceLT, decide_true, decide_false, Bool.true_and, Bool.and_true, Bool.not_true, Bool.not_false, Option.map_some, List.getElem?_cons_zero, List.getElem?_cons_succ, builtinQ, List.map_cons, List.map_nil, hl, e0, e1, e2, h2, h3, hx]; done))
      | refine opsf_l rfl (want_0 rfl) rfl (by simp only [stepL, stepQ, ev, putD, ofConst, ofScalar, binD, unD, hP, pureSem, Op.intCmp, Op.intArith, getD_set, List.length_set, ↓reduceIte, Nat.reduceEqDiff, Nat.reduceLT, decide_true, decide_false, Bool.true_and, Bool.and_true, Bool.not_true, Bool.not_false, Option.map_some, List.getElem?_cons_zero, List.getElem?_cons_succ, builtinQ, List.map_cons, List.map_nil, hl, e0, e1, e2, h2, h3, hx]; first | rfl | exact hup) (by first | exact hupV | simp) ?_
      | refine opsf_a rfl (want_0 rfl) rfl (by simp only [stepQ, ev, putD, ofConst, ofScalar, binD, unD, hP, pureSem, Op.intCmp, Op.intArith, getD_set, List.length_set, ↓reduceIte, Nat.reduceEqDiff, Nat.reduceLT, decide_true, decide_false, Bool.true_and, Bool.and_true, Bool.not_true, Bool.not_false, Option.map_some, List.getElem?_cons_zero, List.getElem?_cons_succ, builtinQ, List.map_cons, List.map_nil, hl, e0, e1, e2, h2, h3, hx]; rfl) ?_
      | refine opsf_nil (by decide) ?_
      | (refine exw_true ?_ ?_; focus (simp only [stepQ, ev, putD, ofConst, ofScalar, binD, unD, hP, pureSem, Op.intCmp, Op.intArith, getD_set, List.length_set, ↓reduceIte, Nat.reduceEqDiff, Nat.reduceLT, decide_true, decide_false, Bool.true_and, Bool.and_true, Bool.not_true, Bool.not_false, Option.map_some, List.getElem?_cons_zero, List.getElem?_cons_succ, builtinQ, List.map_cons, List.map_nil, hl, e0, e1, e2, h2, h3, hx]; done))
      | (refine exw_false ?_ ?_; focus (simp only [stepQ, ev, putD, ofConst, ofScalar, binD, unD, hP, pureSem, Op.intCmp, Op.intArith, getD_set, List.length_set, ↓reduceIte, Nat.reduceEqDiff, Nat.reduceLT, decide_true, decide_false, Bool.true_and, Bool.and_true, Bool.not_true, Bool.not_false, Option.map_some, List.getElem?_cons_zero, List.getElem?_cons_succ, builtinQ, List.map_cons, List.map_nil, hl, e0, e1, e2, h2, h3, hx]; done))
      | dsimp only)
    refine ⟨rfl, ?_, rfl⟩
    simp only [stepQ, ev, putD, ofConst, ofScalar, binD, unD, hP, pureSem, Op.intCmp, Op.intArith, getD_set, List.length_set, ↓reduceIte, Nat.reduceEqDiff, Nat.reduceLT, decide_true, decide_false, Bool.true_and, Bool.and_true, Bool.not_true, Bool.not_false, Option.map_some, List.getElem?_cons_zero, List.getElem?_cons_succ, builtinQ, List.map_cons, List.map_nil, resOf, hl]
    rfl
  | some d =>
    rw [hgx] at hx
    dsimp only [getD'] at hx
    have hcmp : (some d == some q) = decide (d = q) := by
      by_cases h : d = q <;> simp [h]
    have hcmp3 : ((d : Int) == (q : Int)) = decide (d = q) := by
      by_cases h : d = q
      · simp [h]
      · rw [decide_eq_false h, beq_eq_false_iff_ne]
        exact fun he => h (by exact_mod_cast he)
    repeat (first
      | refine exw_seq ?_ | refine exw_block ?_ | refine exw_regf ?_ | refine exw_skip ?_ | refine exw_exit ?_ | refine exw_ret ?_
      | refine opsf_q rfl (want_0 rfl) rfl (by simp only [stepQ, ev, putD, ofConst, ofScalar, binD, unD, hP, pureSem, Op.intCmp, Op.intArith, getD_set, List.length_set, ↓reduceIte, Nat.reduceEqDiff, Nat.reduceLT, decide_true, decide_false, Bool.true_and, Bool.and_true, Bool.not_true, Bool.not_false, Option.map_some, List.getElem?_cons_zero, List.getElem?_cons_succ, builtinQ, List.map_cons, List.map_nil, hl, e0, e1, e2, h2, h3, hx]; rfl) ?_
      | (refine opsf_q rfl (want_g rfl rfl rfl ?_) rfl (by simp only [stepQ, ev, putD, ofConst, ofScalar, binD, unD, hP, pureSem, Op.intCmp, Op.intArith, getD_set, List.length_set, ↓reduceIte, Nat.reduceEqDiff, Nat.reduceLT, decide_true, decide_false, Bool.true_and, Bool.and_true, Bool.not_true, Bool.not_false, Option.map_some, List.getElem?_cons_zero, List.getElem?_cons_succ, builtinQ, List.map_cons, List.map_nil, hl, e0, e1, e2, h2, h3, hx]; rfl) ?_; focus (simp only [stepQ, ev, putD, ofConst, ofScalar, binD, unD, hP, pureSem, Op.intCmp, Op.intArith, getD_set, List.length_set, ↓reduceIte, Nat.reduceEqDiff, Nat.reduceLT, decide_true, decide_false, Bool.true_and, Bool.and_true, Bool.not_true, Bool.not_false, Option.map_some, List.getElem?_cons_zero, List.getElem?_cons_succ, builtinQ, List.map_cons, List.map_nil, hl, e0, e1, e2, h2, h3, hx]; done))
      | (refine opsf_no rfl (want_f rfl rfl rfl ?_) ?_; focus (simp only [stepQ, ev, putD, ofConst, ofScalar, binD, unD, hP, pureSem, Op.intCmp, Op.intArith, getD_set, List.length_set, ↓reduceIte, Nat.reduceEqDiff, Nat.reduceLT, decide_true, decide_false, Bool.true_and, Bool.and_true, Bool.not_true, Bool.not_false, Option.map_some, List.getElem?_cons_zero, List.getElem?_cons_succ, builtinQ, List.map_cons, List.map_nil, hl, e0, e1, e2, h2, h3, hx]; done))
      | (refine opsf_no rfl (want_n rfl rfl rfl ?_) ?_; focus (simp only [stepQ, ev, putD, ofConst, ofScalar, binD, unD, hP, pureSem, Op.intCmp, Op.intArith, getD_set, List.length_set, ↓reduceIte, Nat.reduceEqDiff, Nat.reduceLT, decide_true, decide_false, Bool.true_and, Bool.and_true, Bool.not_true, Bool.not_false, Option.map_some, List.getElem?_cons_zero, List.getElem?_cons_succ, builtinQ, List.map_cons, List.map_nil, hl, e0, e1, e2, h2, h3, hx]; done))
      | refine opsf_l rfl (want_0 rfl) rfl (by simp only [stepL, stepQ, ev, putD, ofConst, ofScalar, binD, unD, hP, pureSem, Op.intCmp, Op.intArith, getD_set, List.length_set, ↓reduceIte, Nat.reduceEqDiff, Nat.reduceLT, decide_true, decide_false, Bool.true_and, Bool.and_true, Bool.not_true, Bool.not_false, Option.map_some, List.getElem?_cons_zero, List.getElem?_cons_succ, builtinQ, List.map_cons, List.map_nil, hl, e0, e1, e2, h2, h3, hx]; first | rfl | exact hup) (by first | exact hupV | simp) ?_
      | refine opsf_a rfl (want_0 rfl) rfl (by simp only [stepQ, ev, putD, ofConst, ofScalar, binD, unD, hP, pureSem, Op.intCmp, Op.intArith, getD_set, List.length_set, ↓reduceIte, Nat.reduceEqDiff, Nat.reduceLT, decide_true, decide_false, Bool.true_and, Bool.and_true, Bool.not_true, Bool.not_false, Option.map_some, List.getElem?_cons_zero, List.getElem?_cons_succ, builtinQ, List.map_cons, List.map_nil, hl, e0, e1, e2, h2, h3, hx]; rfl) ?_
      | refine opsf_nil (by decide) ?_
      | (refine exw_true ?_ ?_; focus (simp only [stepQ, ev, putD, ofConst, ofScalar, binD, unD, hP, pureSem, Op.intCmp, Op.intArith, getD_set, List.length_set, ↓reduceIte, Nat.reduceEqDiff, Nat.reduceLT, decide_true, decide_false, Bool.true_and, Bool.and_true, Bool.not_true, Bool.not_false, Option.map_some, List.getElem?_cons_zero, List.getElem?_cons_succ, builtinQ, List.map_cons, List.map_nil, hl, e0, e1, e2, h2, h3, hx]; done))
      | (refine exw_false ?_ ?_; focus (simp only [stepQ, ev, putD, ofConst, ofScalar, binD, unD, hP, pureSem, Op.intCmp, Op.intArith, getD_set, List.length_set, ↓reduceIte, Nat.reduceEqDiff, Nat.reduceLT, decide_true, decide_false, Bool.true_and, Bool.and_true, Bool.not_true, Bool.not_false, Option.map_some, List.getElem?_cons_zero, List.getElem?_cons_succ, builtinQ, List.map_cons, List.map_nil, hl, e0, e1, e2, h2, h3, hx]; done))
      | dsimp only)
    refine ⟨rfl, ?_, rfl⟩
    simp only [stepQ, ev, putD, ofConst, ofScalar, binD, unD, hP, pureSem, Op.intCmp, Op.intArith, getD_set, List.length_set, ↓reduceIte, Nat.reduceEqDiff, Nat.reduceLT, decide_true, decide_false, Bool.true_and, Bool.and_true, Bool.not_true, Bool.not_false, Option.map_some, List.getElem?_cons_zero, List.getElem?_cons_succ, builtinQ, List.map_cons, List.map_nil, resOf, hl, hcmp, hcmp3]

set_option maxHeartbeats 4000000 in
/-- Where the first one is that is so far away. -/
theorem index149 {cf : CallF} {N : Nat} {st : St} {clo : D} {p : List UInt8 → Bool} (ns : List (List UInt8)) (hN : ns.length < N) (hns : ns.length < 2 ^ 62) {g : FuncId} {caps : List D} (hclo : clo = .func g [] caps) (hb : hasBody Tryz.prog g = true)
    (hcf : ∀ x ∈ ns, cf g (.str x :: caps) st = some (.bool (p x), st, [])) {i : Nat} (hi : ns.findIdx? p = some i) :
    run C0 cf N 149 [.sl (rowsN ns) .none, clo] st = some (.int .i64 (i : Nat), st, []) := by
  obtain ⟨hin, hpi, hbefore⟩ := List.findIdx?_eq_some_iff_getElem.1 hi
  refine run_of_exw Tryz.func149 body149 rfl ?_
  generalize he : ([D.sl (rowsN ns) .none, clo] ++ List.replicate (Tryz.f149.ntmps - [D.sl (rowsN ns) .none, clo].length) .undef) = e
  have hl : e.length = 19 := by rw [← he]; rfl
  have e0 : e.getD 0 .undef = .sl (rowsN ns) .none := by rw [← he]; rfl
  have e1 : e.getD 1 .undef = clo := by rw [← he]; rfl
  clear he
  have hP : C0.P = Tryz.prog := rfl
  have hlen : (rowsN ns).length = ns.length := by simp [rowsN]
  have hres : Tryz.f149.results.toList = [.tmp 4] := by kernel_rfl
  rw [hres]
  refine exw_strip ?_
  obtain ⟨code, hcode⟩ : ∃ code, code = strip b149 := ⟨_, rfl⟩
  rw [← hcode]
  simp only [b149, Tryz.f149, loopsOf, Option.getD, List.append, List.getD, List.getElem?_cons_succ, List.getElem?_cons_zero, HAppend.hAppend, Append.append, strip, stripO, List.map_toArray, List.map_cons, List.map_nil] at hcode
  subst hcode
  refine exw_seq (exw_regf ?_)
  refine opsf_q rfl (want_0 rfl) rfl (by simp only [stepQ, ev, putD, ofConst, ofScalar, binD, unD, hP, pureSem, Op.intCmp, Op.intArith, getD_set, List.length_set, ↓reduceIte, Nat.reduceEqDiff, Nat.reduceLT, decide_true, decide_false, Bool.true_and, Bool.and_true, Bool.not_true, Bool.not_false, Option.map_some, List.getElem?_cons_zero, List.getElem?_cons_succ, builtinQ, List.map_cons, List.map_nil, hl]; rfl) ?_
  refine opsf_nil (by decide) ?_
  dsimp only
  refine exw_seq (exw_seq (exw_regf ?_))
  repeat (first
    | refine exw_seq ?_ | refine exw_block ?_ | refine exw_regf ?_ | refine exw_skip ?_ | refine exw_exit ?_ | refine exw_ret ?_
    | refine opsf_q rfl (want_0 rfl) rfl (by simp only [stepQ, ev, putD, ofConst, ofScalar, binD, unD, hP, pureSem, Op.intCmp, Op.intArith, getD_set, List.length_set, ↓reduceIte, Nat.reduceEqDiff, Nat.reduceLT, decide_true, decide_false, Bool.true_and, Bool.and_true, Bool.not_true, Bool.not_false, Option.map_some, List.getElem?_cons_zero, List.getElem?_cons_succ, builtinQ, List.map_cons, List.map_nil, hl, e0, len41, hlen]; rfl) ?_
    | (refine opsf_q rfl (want_g rfl rfl rfl ?_) rfl (by simp only [stepQ, ev, putD, ofConst, ofScalar, binD, unD, hP, pureSem, Op.intCmp, Op.intArith, getD_set, List.length_set, ↓reduceIte, Nat.reduceEqDiff, Nat.reduceLT, decide_true, decide_false, Bool.true_and, Bool.and_true, Bool.not_true, Bool.not_false, Option.map_some, List.getElem?_cons_zero, List.getElem?_cons_succ, builtinQ, List.map_cons, List.map_nil, hl, e0, len41, hlen]; rfl) ?_; focus (simp only [stepQ, ev, putD, ofConst, ofScalar, binD, unD, hP, pureSem, Op.intCmp, Op.intArith, getD_set, List.length_set, ↓reduceIte, Nat.reduceEqDiff, Nat.reduceLT, decide_true, decide_false, Bool.true_and, Bool.and_true, Bool.not_true, Bool.not_false, Option.map_some, List.getElem?_cons_zero, List.getElem?_cons_succ, builtinQ, List.map_cons, List.map_nil, hl, e0, len41, hlen]; done))
    | (refine opsf_no rfl (want_f rfl rfl rfl ?_) ?_; focus (simp only [stepQ, ev, putD, ofConst, ofScalar, binD, unD, hP, pureSem, Op.intCmp, Op.intArith, getD_set, List.length_set, ↓reduceIte, Nat.reduceEqDiff, Nat.reduceLT, decide_true, decide_false, Bool.true_and, Bool.and_true, Bool.not_true, Bool.not_false, Option.map_some, List.getElem?_cons_zero, List.getElem?_cons_succ, builtinQ, List.map_cons, List.map_nil, hl, e0, len41, hlen]; done))
    | (refine opsf_no rfl (want_n rfl rfl rfl ?_) ?_; focus (simp only [stepQ, ev, putD, ofConst, ofScalar, binD, unD, hP, pureSem, Op.intCmp, Op.intArith, getD_set, List.length_set, ↓reduceIte, Nat.reduceEqDiff, Nat.reduceLT, decide_true, decide_false, Bool.true_and, Bool.and_true, Bool.not_true, Bool.not_false, Option.map_some, List.getElem?_cons_zero, List.getElem?_cons_succ, builtinQ, List.map_cons, List.map_nil, hl, e0, len41, hlen]; done))
    | refine opsf_l rfl (want_0 rfl) rfl (by simp only [stepL, stepQ, ev, putD, ofConst, ofScalar, binD, unD, hP, pureSem, Op.intCmp, Op.intArith, getD_set, List.length_set, ↓reduceIte, Nat.reduceEqDiff, Nat.reduceLT, decide_true, decide_false, Bool.true_and, Bool.and_true, Bool.not_true, Bool.not_false, Option.map_some, List.getElem?_cons_zero, List.getElem?_cons_succ, builtinQ, List.map_cons, List.map_nil, hl, e0, len41, hlen]; first | rfl | exact hup) (by first | exact hupV | simp) ?_
    | refine opsf_a rfl (want_0 rfl) rfl (by simp only [stepQ, ev, putD, ofConst, ofScalar, binD, unD, hP, pureSem, Op.intCmp, Op.intArith, getD_set, List.length_set, ↓reduceIte, Nat.reduceEqDiff, Nat.reduceLT, decide_true, decide_false, Bool.true_and, Bool.and_true, Bool.not_true, Bool.not_false, Option.map_some, List.getElem?_cons_zero, List.getElem?_cons_succ, builtinQ, List.map_cons, List.map_nil, hl, e0, len41, hlen]; rfl) ?_
    | refine opsf_nil (by decide) ?_
    | (refine exw_true ?_ ?_; focus (simp only [stepQ, ev, putD, ofConst, ofScalar, binD, unD, hP, pureSem, Op.intCmp, Op.intArith, getD_set, List.length_set, ↓reduceIte, Nat.reduceEqDiff, Nat.reduceLT, decide_true, decide_false, Bool.true_and, Bool.and_true, Bool.not_true, Bool.not_false, Option.map_some, List.getElem?_cons_zero, List.getElem?_cons_succ, builtinQ, List.map_cons, List.map_nil, hl, e0, len41, hlen]; done))
    | (refine exw_false ?_ ?_; focus (simp only [stepQ, ev, putD, ofConst, ofScalar, binD, unD, hP, pureSem, Op.intCmp, Op.intArith, getD_set, List.length_set, ↓reduceIte, Nat.reduceEqDiff, Nat.reduceLT, decide_true, decide_false, Bool.true_and, Bool.and_true, Bool.not_true, Bool.not_false, Option.map_some, List.getElem?_cons_zero, List.getElem?_cons_succ, builtinQ, List.map_cons, List.map_nil, hl, e0, len41, hlen]; done))
    | dsimp only)
  refine exw_loop (fun k e' st' => ∃ j, k = i - j ∧ j ≤ i ∧ e'.length = 19 ∧ e'.getD 0 .undef = .sl (rowsN ns) .none ∧ e'.getD 1 .undef = clo ∧ e'.getD 7 .undef = .int .i64 (ns.length : Nat) ∧ e'.getD 8 .undef = .int .i64 (j : Nat) ∧ st' = st) i (by omega) ⟨0, rfl, Nat.zero_le _, ?_, ?_, ?_, ?_, ?_, rfl⟩ ?_
  · simp only [putD, List.length_set]; exact hl
  · simp only [stepQ, ev, putD, ofConst, ofScalar, binD, unD, hP, pureSem, Op.intCmp, Op.intArith, getD_set, List.length_set, ↓reduceIte, Nat.reduceEqDiff, Nat.reduceLT, decide_true, decide_false, Bool.true_and, Bool.and_true, Bool.not_true, Bool.not_false, Option.map_some, List.getElem?_cons_zero, List.getElem?_cons_succ, builtinQ, List.map_cons, List.map_nil, hl, e0]
  · simp only [stepQ, ev, putD, ofConst, ofScalar, binD, unD, hP, pureSem, Op.intCmp, Op.intArith, getD_set, List.length_set, ↓reduceIte, Nat.reduceEqDiff, Nat.reduceLT, decide_true, decide_false, Bool.true_and, Bool.and_true, Bool.not_true, Bool.not_false, Option.map_some, List.getElem?_cons_zero, List.getElem?_cons_succ, builtinQ, List.map_cons, List.map_nil, hl, e1]
  · simp only [stepQ, ev, putD, ofConst, ofScalar, binD, unD, hP, pureSem, Op.intCmp, Op.intArith, getD_set, List.length_set, ↓reduceIte, Nat.reduceEqDiff, Nat.reduceLT, decide_true, decide_false, Bool.true_and, Bool.and_true, Bool.not_true, Bool.not_false, Option.map_some, List.getElem?_cons_zero, List.getElem?_cons_succ, builtinQ, List.map_cons, List.map_nil, hl, hlen]
  · simp only [stepQ, ev, putD, ofConst, ofScalar, binD, unD, hP, pureSem, Op.intCmp, Op.intArith, getD_set, List.length_set, ↓reduceIte, Nat.reduceEqDiff, Nat.reduceLT, decide_true, decide_false, Bool.true_and, Bool.and_true, Bool.not_true, Bool.not_false, Option.map_some, List.getElem?_cons_zero, List.getElem?_cons_succ, builtinQ, List.map_cons, List.map_nil, hl]
    rfl
  clear hl e0 e1
  rintro k e' st' ⟨j, rfl, hji, hl, e0, e1, e7, e8, hst⟩
  subst hst
  have hjn : j < ns.length := by omega
  have hw := natAdd1 j (by omega)
  have hil : (j : Int) < (ns.length : Int) := by omega
  have hx : ns[j]? = some ns[j] := List.getElem?_eq_getElem hjn
  have h1 : indexAddrD Tryz.prog 41 (.sl (rowsN ns) .none) (.int .i64 (j : Int)) = some (.eptr [.str ns[j]], .pure) := ia41 (by rw [rowsN, List.getElem?_map, hx]; rfl)
  have hc := hcf ns[j] (List.getElem_mem hjn)
  have hcall : callD C0 cf g [] caps [.str ns[j]] st' = some (.bool (p ns[j]), st', []) := by
    unfold callD
    have h2 : C0.byRef.contains g = false := rfl
    rw [hP, hb, h2]
    have h3 : frzArgs st' [.str ns[j]] = some ([.str ns[j]], st') := rfl
    simp only [Bool.not_true, Bool.false_eq_true, if_false, h3, List.nil_append, List.cons_append, hc]
    rfl
  have hup := hcall
  by_cases hpj : p ns[j] = true
  · have hij : j = i := by
      rcases Nat.lt_or_ge j i with h | h
      · exact absurd hpj (hbefore j h)
      · omega
    subst hij
    rw [hpj] at hup
    repeat (first
      | refine exw_seq ?_ | refine exw_block ?_ | refine exw_regf ?_ | refine exw_skip ?_ | refine exw_exit ?_ | refine exw_ret ?_
      | refine opsf_q rfl (want_0 rfl) rfl (by simp only [stepQ, ev, putD, ofConst, ofScalar, binD, unD, hP, pureSem, Op.intCmp, Op.intArith, getD_set, List.length_set, ↓reduceIte, Nat.reduceEqDiff, Nat.reduceLT, decide_true, decide_false, Bool.true_and, Bool.and_true, Bool.not_true, Bool.not_false, Option.map_some, List.getElem?_cons_zero, List.getElem?_cons_succ, builtinQ, List.map_cons, List.map_nil, hl, e0, e1, e7, e8, hil, hw, h1, ld9, hclo]; rfl) ?_
      | (refine opsf_q rfl (want_g rfl rfl rfl ?_) rfl (by simp only [stepQ, ev, putD, ofConst, ofScalar, binD, unD, hP, pureSem, Op.intCmp, Op.intArith, getD_set, List.length_set, ↓reduceIte, Nat.reduceEqDiff, Nat.reduceLT, decide_true, decide_false, Bool.true_and, Bool.and_true, Bool.not_true, Bool.not_false, Option.map_some, List.getElem?_cons_zero, List.getElem?_cons_succ, builtinQ, List.map_cons, List.map_nil, hl, e0, e1, e7, e8, hil, hw, h1, ld9, hclo]; rfl) ?_; focus (simp only [stepQ, ev, putD, ofConst, ofScalar, binD, unD, hP, pureSem, Op.intCmp, Op.intArith, getD_set, List.length_set, ↓reduceIte, Nat.reduceEqDiff, Nat.reduceLT, decide_true, decide_false, Bool.true_and, Bool.and_true, Bool.not_true, Bool.not_false, Option.map_some, List.getElem?_cons_zero, List.getElem?_cons_succ, builtinQ, List.map_cons, List.map_nil, hl, e0, e1, e7, e8, hil, hw, h1, ld9, hclo]; done))
      | (refine opsf_no rfl (want_f rfl rfl rfl ?_) ?_; focus (simp only [stepQ, ev, putD, ofConst, ofScalar, binD, unD, hP, pureSem, Op.intCmp, Op.intArith, getD_set, List.length_set, ↓reduceIte, Nat.reduceEqDiff, Nat.reduceLT, decide_true, decide_false, Bool.true_and, Bool.and_true, Bool.not_true, Bool.not_false, Option.map_some, List.getElem?_cons_zero, List.getElem?_cons_succ, builtinQ, List.map_cons, List.map_nil, hl, e0, e1, e7, e8, hil, hw, h1, ld9, hclo]; done))
      | (refine opsf_no rfl (want_n rfl rfl rfl ?_) ?_; focus (simp only [stepQ, ev, putD, ofConst, ofScalar, binD, unD, hP, pureSem, Op.intCmp, Op.intArith, getD_set, List.length_set, ↓reduceIte, Nat.reduceEqDiff, Nat.reduceLT, decide_true, decide_false, Bool.true_and, Bool.and_true, Bool.not_true, Bool.not_false, Option.map_some, List.getElem?_cons_zero, List.getElem?_cons_succ, builtinQ, List.map_cons, List.map_nil, hl, e0, e1, e7, e8, hil, hw, h1, ld9, hclo]; done))
      | refine opsf_l rfl (want_0 rfl) rfl (by simp only [stepL, stepQ, ev, putD, ofConst, ofScalar, binD, unD, hP, pureSem, Op.intCmp, Op.intArith, getD_set, List.length_set, ↓reduceIte, Nat.reduceEqDiff, Nat.reduceLT, decide_true, decide_false, Bool.true_and, Bool.and_true, Bool.not_true, Bool.not_false, Option.map_some, List.getElem?_cons_zero, List.getElem?_cons_succ, builtinQ, List.map_cons, List.map_nil, hl, e0, e1, e7, e8, hil, hw, h1, ld9, hclo]; first | rfl | exact hup) (by first | exact hupV | simp) ?_
      | refine opsf_a rfl (want_0 rfl) rfl (by simp only [stepQ, ev, putD, ofConst, ofScalar, binD, unD, hP, pureSem, Op.intCmp, Op.intArith, getD_set, List.length_set, ↓reduceIte, Nat.reduceEqDiff, Nat.reduceLT, decide_true, decide_false, Bool.true_and, Bool.and_true, Bool.not_true, Bool.not_false, Option.map_some, List.getElem?_cons_zero, List.getElem?_cons_succ, builtinQ, List.map_cons, List.map_nil, hl, e0, e1, e7, e8, hil, hw, h1, ld9, hclo]; rfl) ?_
      | refine opsf_nil (by decide) ?_
      | (refine exw_true ?_ ?_; focus (simp only [stepQ, ev, putD, ofConst, ofScalar, binD, unD, hP, pureSem, Op.intCmp, Op.intArith, getD_set, List.length_set, ↓reduceIte, Nat.reduceEqDiff, Nat.reduceLT, decide_true, decide_false, Bool.true_and, Bool.and_true, Bool.not_true, Bool.not_false, Option.map_some, List.getElem?_cons_zero, List.getElem?_cons_succ, builtinQ, List.map_cons, List.map_nil, hl, e0, e1, e7, e8, hil, hw, h1, ld9, hclo]; done))
      | (refine exw_false ?_ ?_; focus (simp only [stepQ, ev, putD, ofConst, ofScalar, binD, unD, hP, pureSem, Op.intCmp, Op.intArith, getD_set, List.length_set, ↓reduceIte, Nat.reduceEqDiff, Nat.reduceLT, decide_true, decide_false, Bool.true_and, Bool.and_true, Bool.not_true, Bool.not_false, Option.map_some, List.getElem?_cons_zero, List.getElem?_cons_succ, builtinQ, List.map_cons, List.map_nil, hl, e0, e1, e7, e8, hil, hw, h1, ld9, hclo]; done))
      | dsimp only)
    refine ⟨rfl, ?_, rfl⟩
    simp only [stepQ, ev, putD, ofConst, ofScalar, binD, unD, hP, pureSem, Op.intCmp, Op.intArith, getD_set, List.length_set, ↓reduceIte, Nat.reduceEqDiff, Nat.reduceLT, decide_true, decide_false, Bool.true_and, Bool.and_true, Bool.not_true, Bool.not_false, Option.map_some, List.getElem?_cons_zero, List.getElem?_cons_succ, builtinQ, List.map_cons, List.map_nil, resOf, hl]
  · have hji2 : j < i := by
      rcases Nat.lt_or_ge j i with h | h
      · exact h
      · have : j = i := by omega
        subst this
        exact absurd hpi hpj
    rw [show p ns[j] = false from by simpa using hpj] at hup
    repeat (first
      | refine exw_seq ?_ | refine exw_block ?_ | refine exw_regf ?_ | refine exw_skip ?_ | refine exw_exit ?_ | refine exw_ret ?_
      | refine opsf_q rfl (want_0 rfl) rfl (by simp only [stepQ, ev, putD, ofConst, ofScalar, binD, unD, hP, pureSem, Op.intCmp, Op.intArith, getD_set, List.length_set, ↓reduceIte, Nat.reduceEqDiff, Nat.reduceLT, decide_true, decide_false, Bool.true_and, Bool.and_true, Bool.not_true, Bool.not_false, Option.map_some, List.getElem?_cons_zero, List.getElem?_cons_succ, builtinQ, List.map_cons, List.map_nil, hl, e0, e1, e7, e8, hil, hw, h1, ld9, hclo]; rfl) ?_
      | (refine opsf_q rfl (want_g rfl rfl rfl ?_) rfl (by simp only [stepQ, ev, putD, ofConst, ofScalar, binD, unD, hP, pureSem, Op.intCmp, Op.intArith, getD_set, List.length_set, ↓reduceIte, Nat.reduceEqDiff, Nat.reduceLT, decide_true, decide_false, Bool.true_and, Bool.and_true, Bool.not_true, Bool.not_false, Option.map_some, List.getElem?_cons_zero, List.getElem?_cons_succ, builtinQ, List.map_cons, List.map_nil, hl, e0, e1, e7, e8, hil, hw, h1, ld9, hclo]; rfl) ?_; focus (simp only [stepQ, ev, putD, ofConst, ofScalar, binD, unD, hP, pureSem, Op.intCmp, Op.intArith, getD_set, List.length_set, ↓reduceIte, Nat.reduceEqDiff, Nat.reduceLT, decide_true, decide_false, Bool.true_and, Bool.and_true, Bool.not_true, Bool.not_false, Option.map_some, List.getElem?_cons_zero, List.getElem?_cons_succ, builtinQ, List.map_cons, List.map_nil, hl, e0, e1, e7, e8, hil, hw, h1, ld9, hclo]; done))
      | (refine opsf_no rfl (want_f rfl rfl rfl ?_) ?_; focus (simp only [stepQ, ev, putD, ofConst, ofScalar, binD, unD, hP, pureSem, Op.intCmp, Op.intArith, getD_set, List.length_set, ↓reduceIte, Nat.reduceEqDiff, Nat.reduceLT, decide_true, decide_false, Bool.true_and, Bool.and_true, Bool.not_true, Bool.not_false, Option.map_some, List.getElem?_cons_zero, List.getElem?_cons_succ, builtinQ, List.map_cons, List.map_nil, hl, e0, e1, e7, e8, hil, hw, h1, ld9, hclo]; done))
      | (refine opsf_no rfl (want_n rfl rfl rfl ?_) ?_; focus (simp only [stepQ, ev, putD, ofConst, ofScalar, binD, unD, hP, pureSem, Op.intCmp, Op.intArith, getD_set, List.length_set, ↓reduceIte, Nat.reduceEqDiff, Nat.reduceLT, decide_true, decide_false, Bool.true_and, Bool.and_true, Bool.not_true, Bool.not_false, Option.map_some, List.getElem?_cons_zero, List.getElem?_cons_succ, builtinQ, List.map_cons, List.map_nil, hl, e0, e1, e7, e8, hil, hw, h1, ld9, hclo]; done))
      | refine opsf_l rfl (want_0 rfl) rfl (by simp only [stepL, stepQ, ev, putD, ofConst, ofScalar, binD, unD, hP, pureSem, Op.intCmp, Op.intArith, getD_set, List.length_set, ↓reduceIte, Nat.reduceEqDiff, Nat.reduceLT, decide_true, decide_false, Bool.true_and, Bool.and_true, Bool.not_true, Bool.not_false, Option.map_some, List.getElem?_cons_zero, List.getElem?_cons_succ, builtinQ, List.map_cons, List.map_nil, hl, e0, e1, e7, e8, hil, hw, h1, ld9, hclo]; first | rfl | exact hup) (by first | exact hupV | simp) ?_
      | refine opsf_a rfl (want_0 rfl) rfl (by simp only [stepQ, ev, putD, ofConst, ofScalar, binD, unD, hP, pureSem, Op.intCmp, Op.intArith, getD_set, List.length_set, ↓reduceIte, Nat.reduceEqDiff, Nat.reduceLT, decide_true, decide_false, Bool.true_and, Bool.and_true, Bool.not_true, Bool.not_false, Option.map_some, List.getElem?_cons_zero, List.getElem?_cons_succ, builtinQ, List.map_cons, List.map_nil, hl, e0, e1, e7, e8, hil, hw, h1, ld9, hclo]; rfl) ?_
      | refine opsf_nil (by decide) ?_
      | (refine exw_true ?_ ?_; focus (simp only [stepQ, ev, putD, ofConst, ofScalar, binD, unD, hP, pureSem, Op.intCmp, Op.intArith, getD_set, List.length_set, ↓reduceIte, Nat.reduceEqDiff, Nat.reduceLT, decide_true, decide_false, Bool.true_and, Bool.and_true, Bool.not_true, Bool.not_false, Option.map_some, List.getElem?_cons_zero, List.getElem?_cons_succ, builtinQ, List.map_cons, List.map_nil, hl, e0, e1, e7, e8, hil, hw, h1, ld9, hclo]; done))
      | (refine exw_false ?_ ?_; focus (simp only [stepQ, ev, putD, ofConst, ofScalar, binD, unD, hP, pureSem, Op.intCmp, Op.intArith, getD_set, List.length_set, ↓reduceIte, Nat.reduceEqDiff, Nat.reduceLT, decide_true, decide_false, Bool.true_and, Bool.and_true, Bool.not_true, Bool.not_false, Option.map_some, List.getElem?_cons_zero, List.getElem?_cons_succ, builtinQ, List.map_cons, List.map_nil, hl, e0, e1, e7, e8, hil, hw, h1, ld9, hclo]; done))
      | dsimp only)
    refine ⟨i - (j + 1), by omega, j + 1, rfl, by omega, ?_, ?_, ?_, ?_, ?_, rfl⟩
    · simp only [putD, List.length_set]; exact hl
    all_goals simp only [stepQ, ev, putD, ofConst, ofScalar, binD, unD, hP, pureSem, Op.intCmp, Op.intArith, getD_set, List.length_set, ↓reduceIte, Nat.reduceEqDiff, Nat.reduceLT, decide_true, decide_false, Bool.true_and, Bool.and_true, Bool.not_true, Bool.not_false, Option.map_some, List.getElem?_cons_zero, List.getElem?_cons_succ, builtinQ, List.map_cons, List.map_nil, hl, e0, e1, e7, e8, hclo]
end Go.Vam

set_option linter.unusedSimpArgs false
set_option linter.unusedVariables false
set_option maxRecDepth 100000
namespace Go.Vam
open Go.Proofs Go.RowKit

def wayP (all : Net) (look : List UInt8 → Option Nat) : Nat → List UInt8 → Option (List (List UInt8))
  | 0, _ => some []
  | q + 1, a => match getN a all with
    | none => none
    | some ns => match ns.findIdx? (fun x => look x == some (q + 1)) with
      | none => none
      | some i => match ns[i]? with
        | none => none
        | some x => (wayP all look q x).map (x :: ·)

/-- A row that grows. -/
def GrT (n0 : Nat) (gr : Gr) (st : St) : Prop := gr = .exact ∨ ∃ id gen, gr = .tok id gen ∧ n0 ≤ id ∧ st[id]? = some (.tok gen)

theorem elemB41 : sliceElem Tryz.prog 41 = some 9 := by kernel_rfl
theorem bytes9 : bytesT Tryz.prog 9 = some 16 := by kernel_rfl
theorem hasZero9 : hasZero Tryz.prog 9 1 = true := by kernel_rfl
theorem zeroOf9 : zeroOf Tryz.prog 9 = some [.str []] := by kernel_rfl

theorem append134 {n0 : Nat} {gr : Gr} {st : St} (hgr : GrT n0 gr st) (hn0 : n0 ≤ st.length) {out : List (List UInt8)} (x : List UInt8) (hne : out ≠ []) (hlen : out.length < 2 ^ 30) :
    ∃ gr' st1 V, appendD Tryz.prog false 41 (.sl (rowsN out) gr) (.sl [[.str x]] .exact) st = some (.sl (rowsN (out ++ [x])) gr', st1, V) ∧ GrT n0 gr' st1 ∧ (∀ id ∈ V, n0 ≤ id) ∧ (∀ (id : Nat) (o : Obj), st[id]? = some o → (∀ k, o ≠ .tok k) → st1[id]? = some o) ∧
      (∀ id, id < n0 → st1[id]? = st[id]?) ∧ st.length ≤ st1.length := by
  have hb : ∀ r ∈ rowsN out, (r.length == 1) = true := fun r hr => by
    obtain ⟨y, _, rfl⟩ := List.mem_map.1 hr
    rfl
  have hall : (rowsN out).all (fun r => r.length == 1) = true := List.all_eq_true.2 hb
  have hlr : (rowsN out).length = out.length := by simp [rowsN]
  have h1 : (out.length + 1) * 16 ≤ maxAll := by unfold maxAll; omega
  have h2 : out.length + 1 ≤ maxAll := by unfold maxAll; omega
  have hro : rowsN (out ++ [x]) = rowsN out ++ [[.str x]] := by simp [rowsN]
  rcases hgr with rfl | ⟨id, gen, rfl, hid, hst⟩
  · refine ⟨.tok st.length 0, st ++ [.tok 0], [], ?_, .inr ⟨st.length, 0, rfl, hn0, by simp⟩, by simp, fun id o h _ => ?_, fun id h => ?_, by simp⟩
    · unfold appendD
      rw [elemB41, hro]
      dsimp only
      rw [size9, bytes9]
      simp [rowsOf, cellOk, hasZero9, hlr, h1, h2, hall]
    · rw [List.getElem?_append_left (List.getElem?_eq_some_iff.1 h).1]; exact h
    · rw [List.getElem?_append_left (by omega)]
  · have hil : id < st.length := (List.getElem?_eq_some_iff.1 hst).1
    refine ⟨.tok id (gen + 1), st.set id (.tok (gen + 1)), [id], ?_, .inr ⟨id, gen + 1, rfl, hid, by simp [hil]⟩, by simpa using hid, fun i o h hk => ?_, fun i h => ?_, by simp⟩
    · unfold appendD
      rw [elemB41, hro]
      dsimp only
      rw [size9, bytes9]
      simp [rowsOf, cellOk, hasZero9, hlr, h1, h2, hall, hst, hne]
    · rw [List.getElem?_set]
      split
      · rename_i he
        subst he
        rw [hst] at h
        cases h
        exact absurd rfl (hk gen)
      · exact h
    · rw [List.getElem?_set, if_neg (by omega)]

theorem natSub1 (j : Nat) (hj : j < 2 ^ 62) : IntKind.wrap .i64 (((j + 1 : Nat) : Int) - 1) = (j : Int) := by
  show (if (true && decide (((((j + 1 : Nat) : Int) - 1) % 18446744073709551616) ≥ 9223372036854775808)) = true then _ else _) = _
  simp [IntKind.bits]
  omega

theorem frz_func {st : St} {g : FuncId} {caps : List D} {l : List D} : frzArgs st (.func g [] caps :: l) = (frzArgs st l).map fun p => (.func g [] caps :: p.1, p.2) := frzArgs_fz rfl

section
variable {cf : CallF} {N : Nat} {st0 st : St} {e : Env}

set_option maxHeartbeats 4000000 in
theorem round8 (hcf189 : ∀ (st : St) (c b f : Nat) (far : Far) (q : Nat) (x : List UInt8), st[c]? = some (.cells [.map f]) → st[f]? = some (.map (encF far)) → st[b]? = some (.cells [encB (some q)]) → ∀ ns : List (List UInt8), ns.length < 2 ^ 30 → ∀ i, ns.findIdx? (fun x => getF x far == some q) = some i →
      cf 149 [.sl (rowsN ns) .none, .func 189 [] [.ptr c 0, .ptr b 0]] st = some (.int .i64 (i : Nat), st, []))
    {all : Net} (hns : ∀ p ∈ all, p.2.length < 2 ^ 30) {m f c b q i : Nat} {far : Far} {gr : Gr} {out ns : List (List UInt8)} {a x : List UInt8} (hl : e.length = 119) (e0 : e.getD 0 .undef = .map m) (e5 : e.getD 5 .undef = .ptr c 0) (e15 : e.getD 15 .undef = .ptr b 0) (e20 : e.getD 20 .undef = .sl (rowsN out) gr) (e21 : e.getD 21 .undef = .str a)
    (hm : st[m]? = some (.map (encN all))) (hml : m < st0.length) (hS : Sto st0 st f c far) (hb0 : st0.length ≤ b) (hb : st[b]? = some (.cells [encB (some (q + 1))])) (hq : q < 2 ^ 62) (hgr : GrT st0.length gr st) (hne : out ≠ []) (hout : out.length < 2 ^ 30) (hcb : c ≠ b)
    (hga : getN a all = some ns) (hfi : ns.findIdx? (fun x => getF x far == some (q + 1)) = some i) (hx : ns[i]? = some x) (hnl : ns.length < 2 ^ 30) :
    ExW C0 false cf N (fun id => st0.length ≤ id) (L134 4) e st (fun y e' st' => y = .norm ∧ e'.length = 119 ∧ e'.getD 0 .undef = .map m ∧ e'.getD 5 .undef = .ptr c 0 ∧ e'.getD 15 .undef = .ptr b 0 ∧ e'.getD 21 .undef = .str x ∧
      Sto st0 st' f c far ∧ st'[b]? = some (.cells [encB (some q)]) ∧ ∃ gr', e'.getD 20 .undef = .sl (rowsN (out ++ [x])) gr' ∧ GrT st0.length gr' st') := by
  have hP : C0.P = Tryz.prog := rfl
  have h2 := ld3 hb
  dsimp only [encB] at h2
  have hgt : decide (((q + 1 : Nat) : Int) > 0) = true := by
    rw [decide_eq_true_eq]
    omega
  have hlk := lookup_net hm hga
  have hw := natSub1 q hq
  have hidx : indexAddrD Tryz.prog 41 (.sl (rowsN ns) .none) (.int .i64 (i : Int)) = some (.eptr [.str x], .pure) := ia41 (by rw [rowsN, List.getElem?_map, hx]; rfl)
  have hbody : hasBody Tryz.prog 149 = true := by kernel_rfl
  have hup : callD C0 cf 149 [] [] [.sl (rowsN ns) .none, .func 189 [] [.ptr c 0, .ptr b 0]] st = some (.int .i64 (i : Nat), st, []) := by
    unfold callD
    have h3 : C0.byRef.contains 149 = false := rfl
    rw [hP, hbody, h3]
    have h4 : frzArgs st [.sl (rowsN ns) .none, .func 189 [] [.ptr c 0, .ptr b 0]] = some ([.sl (rowsN ns) .none, .func 189 [] [.ptr c 0, .ptr b 0]], st) := by
      rw [frzArgs_sl, frz_func, frzArgs_nil]
      rfl
    have h5 := hcf189 st c b f far (q + 1) x hS.c_ hS.f_ hb ns hnl i hfi
    simp only [Bool.not_true, Bool.false_eq_true, if_false, h4, List.nil_append, List.append_nil, h5]
    rfl
  obtain ⟨gr', st1, V, happ, hg1, hV, hkeep, hpre, hlen1⟩ := append134 hgr hS.len x hne hout
  have hb1 := hkeep b _ hb (fun k h => by cases h)
  have h6 := ld3 hb1
  dsimp only [encB] at h6
  have hup3 := st3 hb1 (y := encB (some q)) rfl
  dsimp only [encB] at hup3
  have hslim : slimParts st [(0, D.str x)] = some [(0, .str x)] := rfl
  have hu9 : ∀ h : St, builtinL Tryz.prog false .append #[41, 41] [.sl (rowsN out) gr, .sl [[.str x]] .exact] st = appendD Tryz.prog false 41 (.sl (rowsN out) gr) (.sl [[.str x]] .exact) st := fun _ => by
    unfold builtinL
    dsimp only
    rw [und41]
  have hup2 : builtinL Tryz.prog false .append #[41, 41] [.sl (rowsN out) gr, .sl [[.str x]] .exact] st = some (.sl (rowsN (out ++ [x])) gr', st1, V) := (hu9 st).trans happ
  have hS1 : Sto st0 st1 f c far := ⟨fun id hid => (hpre id hid).trans (hS.old id hid), by have := hS.len; omega, hkeep c _ hS.c_ (fun k h => by cases h), hkeep f _ hS.f_ (fun k h => by cases h)⟩
  refine exw_strip ?_
  obtain ⟨code, hcode⟩ : ∃ code, code = strip (L134 4) := ⟨_, rfl⟩
  rw [← hcode]
  simp only [L134, Tryz.f134, loopsOf, Option.getD, List.append, List.getD, List.getElem?_cons_succ, List.getElem?_cons_zero, HAppend.hAppend, Append.append, strip, stripO, List.map_toArray, List.map_cons, List.map_nil] at hcode
  subst hcode
  repeat (first
    | refine exw_seq ?_ | refine exw_block ?_ | refine exw_regf ?_ | refine exw_skip ?_ | refine exw_exit ?_ | refine exw_ret ?_
    | refine opsf_q rfl (want_0 rfl) rfl (by simp only [stepQ, ev, putD, ofConst, ofScalar, binD, unD, hP, pureSem, Op.intCmp, Op.intArith, getD_set, List.length_set, ↓reduceIte, Nat.reduceEqDiff, Nat.reduceLT, decide_true, decide_false, Bool.true_and, Bool.and_true, Bool.not_true, Bool.not_false, Option.map_some, List.getElem?_cons_zero, List.getElem?_cons_succ, builtinQ, List.map_cons, List.map_nil, hl, e0, e5, e15, e20, e21, h2, hgt, hlk, hidx, ld9, elemB41, size9, zeroOf9, hslim]; rfl) ?_
    | (refine opsf_q rfl (want_g rfl rfl rfl ?_) rfl (by simp only [stepQ, ev, putD, ofConst, ofScalar, binD, unD, hP, pureSem, Op.intCmp, Op.intArith, getD_set, List.length_set, ↓reduceIte, Nat.reduceEqDiff, Nat.reduceLT, decide_true, decide_false, Bool.true_and, Bool.and_true, Bool.not_true, Bool.not_false, Option.map_some, List.getElem?_cons_zero, List.getElem?_cons_succ, builtinQ, List.map_cons, List.map_nil, hl, e0, e5, e15, e20, e21, h2, hgt, hlk, hidx, ld9, elemB41, size9, zeroOf9, hslim]; rfl) ?_; focus (simp only [stepQ, ev, putD, ofConst, ofScalar, binD, unD, hP, pureSem, Op.intCmp, Op.intArith, getD_set, List.length_set, ↓reduceIte, Nat.reduceEqDiff, Nat.reduceLT, decide_true, decide_false, Bool.true_and, Bool.and_true, Bool.not_true, Bool.not_false, Option.map_some, List.getElem?_cons_zero, List.getElem?_cons_succ, builtinQ, List.map_cons, List.map_nil, hl, e0, e5, e15, e20, e21, h2, hgt, hlk, hidx, ld9, elemB41, size9, zeroOf9, hslim]; done))
    | (refine opsf_no rfl (want_f rfl rfl rfl ?_) ?_; focus (simp only [stepQ, ev, putD, ofConst, ofScalar, binD, unD, hP, pureSem, Op.intCmp, Op.intArith, getD_set, List.length_set, ↓reduceIte, Nat.reduceEqDiff, Nat.reduceLT, decide_true, decide_false, Bool.true_and, Bool.and_true, Bool.not_true, Bool.not_false, Option.map_some, List.getElem?_cons_zero, List.getElem?_cons_succ, builtinQ, List.map_cons, List.map_nil, hl, e0, e5, e15, e20, e21, h2, hgt, hlk, hidx, ld9, elemB41, size9, zeroOf9, hslim]; done))
    | (refine opsf_no rfl (want_n rfl rfl rfl ?_) ?_; focus (simp only [stepQ, ev, putD, ofConst, ofScalar, binD, unD, hP, pureSem, Op.intCmp, Op.intArith, getD_set, List.length_set, ↓reduceIte, Nat.reduceEqDiff, Nat.reduceLT, decide_true, decide_false, Bool.true_and, Bool.and_true, Bool.not_true, Bool.not_false, Option.map_some, List.getElem?_cons_zero, List.getElem?_cons_succ, builtinQ, List.map_cons, List.map_nil, hl, e0, e5, e15, e20, e21, h2, hgt, hlk, hidx, ld9, elemB41, size9, zeroOf9, hslim]; done))
    | refine opsf_l rfl (want_0 rfl) rfl (by simp only [stepL, stepQ, ev, putD, ofConst, ofScalar, binD, unD, hP, pureSem, Op.intCmp, Op.intArith, getD_set, List.length_set, ↓reduceIte, Nat.reduceEqDiff, Nat.reduceLT, decide_true, decide_false, Bool.true_and, Bool.and_true, Bool.not_true, Bool.not_false, Option.map_some, List.getElem?_cons_zero, List.getElem?_cons_succ, builtinQ, List.map_cons, List.map_nil, hl, e0, e5, e15, e20, e21, h2, hgt, hlk, hidx, ld9, elemB41, size9, zeroOf9, hslim]; first | exact hup | exact hup2 | exact hup3 | rfl) (by first | exact hupV | exact hV2 | exact hV | (simp; done)) ?_
    | refine opsf_a rfl (want_0 rfl) rfl (by simp only [stepQ, ev, putD, ofConst, ofScalar, binD, unD, hP, pureSem, Op.intCmp, Op.intArith, getD_set, List.length_set, ↓reduceIte, Nat.reduceEqDiff, Nat.reduceLT, decide_true, decide_false, Bool.true_and, Bool.and_true, Bool.not_true, Bool.not_false, Option.map_some, List.getElem?_cons_zero, List.getElem?_cons_succ, builtinQ, List.map_cons, List.map_nil, hl, e0, e5, e15, e20, e21, h2, hgt, hlk, hidx, ld9, elemB41, size9, zeroOf9, hslim]; rfl) ?_
    | refine opsf_nil (by decide) ?_
    | (refine exw_true ?_ ?_; focus (simp only [stepQ, ev, putD, ofConst, ofScalar, binD, unD, hP, pureSem, Op.intCmp, Op.intArith, getD_set, List.length_set, ↓reduceIte, Nat.reduceEqDiff, Nat.reduceLT, decide_true, decide_false, Bool.true_and, Bool.and_true, Bool.not_true, Bool.not_false, Option.map_some, List.getElem?_cons_zero, List.getElem?_cons_succ, builtinQ, List.map_cons, List.map_nil, hl, e0, e5, e15, e20, e21, h2, hgt, hlk, hidx, ld9, elemB41, size9, zeroOf9, hslim]; done))
    | (refine exw_false ?_ ?_; focus (simp only [stepQ, ev, putD, ofConst, ofScalar, binD, unD, hP, pureSem, Op.intCmp, Op.intArith, getD_set, List.length_set, ↓reduceIte, Nat.reduceEqDiff, Nat.reduceLT, decide_true, decide_false, Bool.true_and, Bool.and_true, Bool.not_true, Bool.not_false, Option.map_some, List.getElem?_cons_zero, List.getElem?_cons_succ, builtinQ, List.map_cons, List.map_nil, hl, e0, e5, e15, e20, e21, h2, hgt, hlk, hidx, ld9, elemB41, size9, zeroOf9, hslim]; done))
    | dsimp only)
  have hV2 : ∀ id ∈ [b], st0.length ≤ id := by simpa using hb0
  repeat (first
    | refine exw_seq ?_ | refine exw_block ?_ | refine exw_regf ?_ | refine exw_skip ?_ | refine exw_exit ?_ | refine exw_ret ?_
    | refine opsf_q rfl (want_0 rfl) rfl (by simp only [stepQ, ev, putD, ofConst, ofScalar, binD, unD, hP, pureSem, Op.intCmp, Op.intArith, getD_set, List.length_set, ↓reduceIte, Nat.reduceEqDiff, Nat.reduceLT, decide_true, decide_false, Bool.true_and, Bool.and_true, Bool.not_true, Bool.not_false, Option.map_some, List.getElem?_cons_zero, List.getElem?_cons_succ, builtinQ, List.map_cons, List.map_nil, hl, e15, h6, hw]; rfl) ?_
    | (refine opsf_q rfl (want_g rfl rfl rfl ?_) rfl (by simp only [stepQ, ev, putD, ofConst, ofScalar, binD, unD, hP, pureSem, Op.intCmp, Op.intArith, getD_set, List.length_set, ↓reduceIte, Nat.reduceEqDiff, Nat.reduceLT, decide_true, decide_false, Bool.true_and, Bool.and_true, Bool.not_true, Bool.not_false, Option.map_some, List.getElem?_cons_zero, List.getElem?_cons_succ, builtinQ, List.map_cons, List.map_nil, hl, e15, h6, hw]; rfl) ?_; focus (simp only [stepQ, ev, putD, ofConst, ofScalar, binD, unD, hP, pureSem, Op.intCmp, Op.intArith, getD_set, List.length_set, ↓reduceIte, Nat.reduceEqDiff, Nat.reduceLT, decide_true, decide_false, Bool.true_and, Bool.and_true, Bool.not_true, Bool.not_false, Option.map_some, List.getElem?_cons_zero, List.getElem?_cons_succ, builtinQ, List.map_cons, List.map_nil, hl, e15, h6, hw]; done))
    | (refine opsf_no rfl (want_f rfl rfl rfl ?_) ?_; focus (simp only [stepQ, ev, putD, ofConst, ofScalar, binD, unD, hP, pureSem, Op.intCmp, Op.intArith, getD_set, List.length_set, ↓reduceIte, Nat.reduceEqDiff, Nat.reduceLT, decide_true, decide_false, Bool.true_and, Bool.and_true, Bool.not_true, Bool.not_false, Option.map_some, List.getElem?_cons_zero, List.getElem?_cons_succ, builtinQ, List.map_cons, List.map_nil, hl, e15, h6, hw]; done))
    | (refine opsf_no rfl (want_n rfl rfl rfl ?_) ?_; focus (simp only [stepQ, ev, putD, ofConst, ofScalar, binD, unD, hP, pureSem, Op.intCmp, Op.intArith, getD_set, List.length_set, ↓reduceIte, Nat.reduceEqDiff, Nat.reduceLT, decide_true, decide_false, Bool.true_and, Bool.and_true, Bool.not_true, Bool.not_false, Option.map_some, List.getElem?_cons_zero, List.getElem?_cons_succ, builtinQ, List.map_cons, List.map_nil, hl, e15, h6, hw]; done))
    | refine opsf_l rfl (want_0 rfl) rfl (by simp only [stepL, stepQ, ev, putD, ofConst, ofScalar, binD, unD, hP, pureSem, Op.intCmp, Op.intArith, getD_set, List.length_set, ↓reduceIte, Nat.reduceEqDiff, Nat.reduceLT, decide_true, decide_false, Bool.true_and, Bool.and_true, Bool.not_true, Bool.not_false, Option.map_some, List.getElem?_cons_zero, List.getElem?_cons_succ, builtinQ, List.map_cons, List.map_nil, hl, e15, h6, hw]; first | exact hup | exact hup2 | exact hup3 | rfl) (by first | exact hupV | exact hV2 | exact hV | (simp; done)) ?_
    | refine opsf_a rfl (want_0 rfl) rfl (by simp only [stepQ, ev, putD, ofConst, ofScalar, binD, unD, hP, pureSem, Op.intCmp, Op.intArith, getD_set, List.length_set, ↓reduceIte, Nat.reduceEqDiff, Nat.reduceLT, decide_true, decide_false, Bool.true_and, Bool.and_true, Bool.not_true, Bool.not_false, Option.map_some, List.getElem?_cons_zero, List.getElem?_cons_succ, builtinQ, List.map_cons, List.map_nil, hl, e15, h6, hw]; rfl) ?_
    | refine opsf_nil (by decide) ?_
    | (refine exw_true ?_ ?_; focus (simp only [stepQ, ev, putD, ofConst, ofScalar, binD, unD, hP, pureSem, Op.intCmp, Op.intArith, getD_set, List.length_set, ↓reduceIte, Nat.reduceEqDiff, Nat.reduceLT, decide_true, decide_false, Bool.true_and, Bool.and_true, Bool.not_true, Bool.not_false, Option.map_some, List.getElem?_cons_zero, List.getElem?_cons_succ, builtinQ, List.map_cons, List.map_nil, hl, e15, h6, hw]; done))
    | (refine exw_false ?_ ?_; focus (simp only [stepQ, ev, putD, ofConst, ofScalar, binD, unD, hP, pureSem, Op.intCmp, Op.intArith, getD_set, List.length_set, ↓reduceIte, Nat.reduceEqDiff, Nat.reduceLT, decide_true, decide_false, Bool.true_and, Bool.and_true, Bool.not_true, Bool.not_false, Option.map_some, List.getElem?_cons_zero, List.getElem?_cons_succ, builtinQ, List.map_cons, List.map_nil, hl, e15, h6, hw]; done))
    | dsimp only)
  refine ⟨rfl, ?_, ?_, ?_, ?_, ?_, ⟨fun id hid => ?_, ?_, ?_, ?_⟩, ?_, gr', ?_, ?_⟩
  · simp only [putD, List.length_set]; exact hl
  · simp only [stepQ, ev, putD, ofConst, ofScalar, binD, unD, hP, pureSem, Op.intCmp, Op.intArith, getD_set, List.length_set, ↓reduceIte, Nat.reduceEqDiff, Nat.reduceLT, decide_true, decide_false, Bool.true_and, Bool.and_true, Bool.not_true, Bool.not_false, Option.map_some, List.getElem?_cons_zero, List.getElem?_cons_succ, builtinQ, List.map_cons, List.map_nil, hl, e0]
  · simp only [stepQ, ev, putD, ofConst, ofScalar, binD, unD, hP, pureSem, Op.intCmp, Op.intArith, getD_set, List.length_set, ↓reduceIte, Nat.reduceEqDiff, Nat.reduceLT, decide_true, decide_false, Bool.true_and, Bool.and_true, Bool.not_true, Bool.not_false, Option.map_some, List.getElem?_cons_zero, List.getElem?_cons_succ, builtinQ, List.map_cons, List.map_nil, hl, e5]
  · simp only [stepQ, ev, putD, ofConst, ofScalar, binD, unD, hP, pureSem, Op.intCmp, Op.intArith, getD_set, List.length_set, ↓reduceIte, Nat.reduceEqDiff, Nat.reduceLT, decide_true, decide_false, Bool.true_and, Bool.and_true, Bool.not_true, Bool.not_false, Option.map_some, List.getElem?_cons_zero, List.getElem?_cons_succ, builtinQ, List.map_cons, List.map_nil, hl, e15]
  · simp only [stepQ, ev, putD, ofConst, ofScalar, binD, unD, hP, pureSem, Op.intCmp, Op.intArith, getD_set, List.length_set, ↓reduceIte, Nat.reduceEqDiff, Nat.reduceLT, decide_true, decide_false, Bool.true_and, Bool.and_true, Bool.not_true, Bool.not_false, Option.map_some, List.getElem?_cons_zero, List.getElem?_cons_succ, builtinQ, List.map_cons, List.map_nil, hl, e0]
  · rw [List.getElem?_set, if_neg (by omega)]; exact hS1.old id hid
  · rw [List.length_set]; exact hS1.len
  · rw [List.getElem?_set, if_neg (fun h => hcb h.symm)]; exact hS1.c_
  · rw [List.getElem?_set]
    split
    · rename_i he
      subst he
      have := hS1.f_
      rw [hb1] at this
      cases this
    · exact hS1.f_
  · rw [List.getElem?_set, if_pos rfl, if_pos (List.getElem?_eq_some_iff.1 hb1).1]
    rfl
  · simp only [stepQ, ev, putD, ofConst, ofScalar, binD, unD, hP, pureSem, Op.intCmp, Op.intArith, getD_set, List.length_set, ↓reduceIte, Nat.reduceEqDiff, Nat.reduceLT, decide_true, decide_false, Bool.true_and, Bool.and_true, Bool.not_true, Bool.not_false, Option.map_some, List.getElem?_cons_zero, List.getElem?_cons_succ, builtinQ, List.map_cons, List.map_nil, hl]
  · rcases hg1 with h | ⟨id, gen, h1, h2, h3⟩
    · exact .inl h
    · refine .inr ⟨id, gen, h1, h2, ?_⟩
      rw [List.getElem?_set]
      split
      · rename_i he
        subst he
        rw [hb1] at h3
        cases h3
      · exact h3

theorem end8 {hh : Bool} {Pw : Nat → Prop} {b : Nat} (hl : e.length = 119) (e15 : e.getD 15 .undef = .ptr b 0) (hb : st[b]? = some (.cells [encB (some 0)])) :
    ExW C0 hh cf N Pw (L134 4) e st (fun y e' st' => y = .exit 8 ∧ e'.getD 20 .undef = e.getD 20 .undef ∧ e'.length = 119 ∧ st' = st) := by
  have hP : C0.P = Tryz.prog := rfl
  have h2 := ld3 hb
  dsimp only [encB] at h2
  have hgt : decide (((0 : Nat) : Int) > 0) = false := by decide
  refine exw_strip ?_
  obtain ⟨code, hcode⟩ : ∃ code, code = strip (L134 4) := ⟨_, rfl⟩
  rw [← hcode]
  simp only [L134, Tryz.f134, loopsOf, Option.getD, List.append, List.getD, List.getElem?_cons_succ, List.getElem?_cons_zero, HAppend.hAppend, Append.append, strip, stripO, List.map_toArray, List.map_cons, List.map_nil] at hcode
  subst hcode
  repeat (first
    | refine exw_seq ?_ | refine exw_block ?_ | refine exw_regf ?_ | refine exw_skip ?_ | refine exw_exit ?_ | refine exw_ret ?_
    | refine opsf_q rfl (want_0 rfl) rfl (by simp only [stepQ, ev, putD, ofConst, ofScalar, binD, unD, hP, pureSem, Op.intCmp, Op.intArith, getD_set, List.length_set, ↓reduceIte, Nat.reduceEqDiff, Nat.reduceLT, decide_true, decide_false, Bool.true_and, Bool.and_true, Bool.not_true, Bool.not_false, Option.map_some, List.getElem?_cons_zero, List.getElem?_cons_succ, builtinQ, List.map_cons, List.map_nil, hl, e15, h2, hgt]; rfl) ?_
    | (refine opsf_q rfl (want_g rfl rfl rfl ?_) rfl (by simp only [stepQ, ev, putD, ofConst, ofScalar, binD, unD, hP, pureSem, Op.intCmp, Op.intArith, getD_set, List.length_set, ↓reduceIte, Nat.reduceEqDiff, Nat.reduceLT, decide_true, decide_false, Bool.true_and, Bool.and_true, Bool.not_true, Bool.not_false, Option.map_some, List.getElem?_cons_zero, List.getElem?_cons_succ, builtinQ, List.map_cons, List.map_nil, hl, e15, h2, hgt]; rfl) ?_; focus (simp only [stepQ, ev, putD, ofConst, ofScalar, binD, unD, hP, pureSem, Op.intCmp, Op.intArith, getD_set, List.length_set, ↓reduceIte, Nat.reduceEqDiff, Nat.reduceLT, decide_true, decide_false, Bool.true_and, Bool.and_true, Bool.not_true, Bool.not_false, Option.map_some, List.getElem?_cons_zero, List.getElem?_cons_succ, builtinQ, List.map_cons, List.map_nil, hl, e15, h2, hgt]; done))
    | (refine opsf_no rfl (want_f rfl rfl rfl ?_) ?_; focus (simp only [stepQ, ev, putD, ofConst, ofScalar, binD, unD, hP, pureSem, Op.intCmp, Op.intArith, getD_set, List.length_set, ↓reduceIte, Nat.reduceEqDiff, Nat.reduceLT, decide_true, decide_false, Bool.true_and, Bool.and_true, Bool.not_true, Bool.not_false, Option.map_some, List.getElem?_cons_zero, List.getElem?_cons_succ, builtinQ, List.map_cons, List.map_nil, hl, e15, h2, hgt]; done))
    | (refine opsf_no rfl (want_n rfl rfl rfl ?_) ?_; focus (simp only [stepQ, ev, putD, ofConst, ofScalar, binD, unD, hP, pureSem, Op.intCmp, Op.intArith, getD_set, List.length_set, ↓reduceIte, Nat.reduceEqDiff, Nat.reduceLT, decide_true, decide_false, Bool.true_and, Bool.and_true, Bool.not_true, Bool.not_false, Option.map_some, List.getElem?_cons_zero, List.getElem?_cons_succ, builtinQ, List.map_cons, List.map_nil, hl, e15, h2, hgt]; done))
    | refine opsf_l rfl (want_0 rfl) rfl (by simp only [stepL, stepQ, ev, putD, ofConst, ofScalar, binD, unD, hP, pureSem, Op.intCmp, Op.intArith, getD_set, List.length_set, ↓reduceIte, Nat.reduceEqDiff, Nat.reduceLT, decide_true, decide_false, Bool.true_and, Bool.and_true, Bool.not_true, Bool.not_false, Option.map_some, List.getElem?_cons_zero, List.getElem?_cons_succ, builtinQ, List.map_cons, List.map_nil, hl, e15, h2, hgt]; first | exact hup | exact hup2 | exact hup3 | rfl) (by first | exact hupV | exact hV2 | exact hV | (simp; done)) ?_
    | refine opsf_a rfl (want_0 rfl) rfl (by simp only [stepQ, ev, putD, ofConst, ofScalar, binD, unD, hP, pureSem, Op.intCmp, Op.intArith, getD_set, List.length_set, ↓reduceIte, Nat.reduceEqDiff, Nat.reduceLT, decide_true, decide_false, Bool.true_and, Bool.and_true, Bool.not_true, Bool.not_false, Option.map_some, List.getElem?_cons_zero, List.getElem?_cons_succ, builtinQ, List.map_cons, List.map_nil, hl, e15, h2, hgt]; rfl) ?_
    | refine opsf_nil (by decide) ?_
    | (refine exw_true ?_ ?_; focus (simp only [stepQ, ev, putD, ofConst, ofScalar, binD, unD, hP, pureSem, Op.intCmp, Op.intArith, getD_set, List.length_set, ↓reduceIte, Nat.reduceEqDiff, Nat.reduceLT, decide_true, decide_false, Bool.true_and, Bool.and_true, Bool.not_true, Bool.not_false, Option.map_some, List.getElem?_cons_zero, List.getElem?_cons_succ, builtinQ, List.map_cons, List.map_nil, hl, e15, h2, hgt]; done))
    | (refine exw_false ?_ ?_; focus (simp only [stepQ, ev, putD, ofConst, ofScalar, binD, unD, hP, pureSem, Op.intCmp, Op.intArith, getD_set, List.length_set, ↓reduceIte, Nat.reduceEqDiff, Nat.reduceLT, decide_true, decide_false, Bool.true_and, Bool.and_true, Bool.not_true, Bool.not_false, Option.map_some, List.getElem?_cons_zero, List.getElem?_cons_succ, builtinQ, List.map_cons, List.map_nil, hl, e15, h2, hgt]; done))
    | dsimp only)
  refine ⟨rfl, ?_, ?_, rfl⟩
  · simp only [stepQ, ev, putD, ofConst, ofScalar, binD, unD, hP, pureSem, Op.intCmp, Op.intArith, getD_set, List.length_set, ↓reduceIte, Nat.reduceEqDiff, Nat.reduceLT, decide_true, decide_false, Bool.true_and, Bool.and_true, Bool.not_true, Bool.not_false, Option.map_some, List.getElem?_cons_zero, List.getElem?_cons_succ, builtinQ, List.map_cons, List.map_nil, hl]
  · simp only [putD, List.length_set]; exact hl

theorem c25_run {C : Cfg} {hh : Bool} {Pw : Nat → Prop} (hP : C.P = Tryz.prog) {b : Nat} {best : Option Nat} (hl : e.length = 119) {m c : Nat} {src : List UInt8} (e0 : e.getD 0 .undef = .map m) (e1 : e.getD 1 .undef = .str src) (e5 : e.getD 5 .undef = .ptr c 0) (e15 : e.getD 15 .undef = .ptr b 0) (hb : st[b]? = some (.cells [encB best])) :
    ExW C hh cf N Pw c25_134 e st (fun y e' st' => st' = st ∧ e'.length = 119 ∧ ((best = none ∧ y = .ret ∧ e'.getD 4 .undef = .nilsl) ∨ (∃ q, best = some q ∧ y = .norm ∧ e'.getD 0 .undef = .map m ∧ e'.getD 1 .undef = .str src ∧ e'.getD 5 .undef = .ptr c 0 ∧ e'.getD 15 .undef = .ptr b 0))) := by
  have h2 := ld3 hb
  cases best with
  | none =>
    dsimp only [encB] at h2
    have hneg : decide ((-1 : Int) < 0) = true := by decide
    refine exw_strip ?_
    obtain ⟨code, hcode⟩ : ∃ code, code = strip c25_134 := ⟨_, rfl⟩
    rw [← hcode]
    simp only [c25_134, Tryz.f134, loopsOf, Option.getD, List.append, List.getD, List.getElem?_cons_succ, List.getElem?_cons_zero, HAppend.hAppend, Append.append, strip, stripO, List.map_toArray, List.map_cons, List.map_nil] at hcode
    subst hcode
    repeat (first
      | refine exw_seq ?_ | refine exw_block ?_ | refine exw_regf ?_ | refine exw_skip ?_ | refine exw_exit ?_ | refine exw_ret ?_
      | refine opsf_q rfl (want_0 rfl) rfl (by simp only [stepQ, ev, putD, ofConst, ofScalar, binD, unD, hP, pureSem, Op.intCmp, Op.intArith, getD_set, List.length_set, ↓reduceIte, Nat.reduceEqDiff, Nat.reduceLT, decide_true, decide_false, Bool.true_and, Bool.and_true, Bool.not_true, Bool.not_false, Option.map_some, List.getElem?_cons_zero, List.getElem?_cons_succ, builtinQ, List.map_cons, List.map_nil, hl, e15, h2, hneg]; rfl) ?_
      | (refine opsf_q rfl (want_g rfl rfl rfl ?_) rfl (by simp only [stepQ, ev, putD, ofConst, ofScalar, binD, unD, hP, pureSem, Op.intCmp, Op.intArith, getD_set, List.length_set, ↓reduceIte, Nat.reduceEqDiff, Nat.reduceLT, decide_true, decide_false, Bool.true_and, Bool.and_true, Bool.not_true, Bool.not_false, Option.map_some, List.getElem?_cons_zero, List.getElem?_cons_succ, builtinQ, List.map_cons, List.map_nil, hl, e15, h2, hneg]; rfl) ?_; focus (simp only [stepQ, ev, putD, ofConst, ofScalar, binD, unD, hP, pureSem, Op.intCmp, Op.intArith, getD_set, List.length_set, ↓reduceIte, Nat.reduceEqDiff, Nat.reduceLT, decide_true, decide_false, Bool.true_and, Bool.and_true, Bool.not_true, Bool.not_false, Option.map_some, List.getElem?_cons_zero, List.getElem?_cons_succ, builtinQ, List.map_cons, List.map_nil, hl, e15, h2, hneg]; done))
      | (refine opsf_no rfl (want_f rfl rfl rfl ?_) ?_; focus (simp only [stepQ, ev, putD, ofConst, ofScalar, binD, unD, hP, pureSem, Op.intCmp, Op.intArith, getD_set, List.length_set, ↓reduceIte, Nat.reduceEqDiff, Nat.reduceLT, decide_true, decide_false, Bool.true_and, Bool.and_true, Bool.not_true, Bool.not_false, Option.map_some, List.getElem?_cons_zero, List.getElem?_cons_succ, builtinQ, List.map_cons, List.map_nil, hl, e15, h2, hneg]; done))
      | (refine opsf_no rfl (want_n rfl rfl rfl ?_) ?_; focus (simp only [stepQ, ev, putD, ofConst, ofScalar, binD, unD, hP, pureSem, Op.intCmp, Op.intArith, getD_set, List.length_set, ↓reduceIte, Nat.reduceEqDiff, Nat.reduceLT, decide_true, decide_false, Bool.true_and, Bool.and_true, Bool.not_true, Bool.not_false, Option.map_some, List.getElem?_cons_zero, List.getElem?_cons_succ, builtinQ, List.map_cons, List.map_nil, hl, e15, h2, hneg]; done))
      | refine opsf_l rfl (want_0 rfl) rfl (by simp only [stepL, stepQ, ev, putD, ofConst, ofScalar, binD, unD, hP, pureSem, Op.intCmp, Op.intArith, getD_set, List.length_set, ↓reduceIte, Nat.reduceEqDiff, Nat.reduceLT, decide_true, decide_false, Bool.true_and, Bool.and_true, Bool.not_true, Bool.not_false, Option.map_some, List.getElem?_cons_zero, List.getElem?_cons_succ, builtinQ, List.map_cons, List.map_nil, hl, e15, h2, hneg]; first | exact hup | exact hup2 | exact hup3 | rfl) (by first | exact hupV | exact hV2 | exact hV | (simp; done)) ?_
      | refine opsf_a rfl (want_0 rfl) rfl (by simp only [stepQ, ev, putD, ofConst, ofScalar, binD, unD, hP, pureSem, Op.intCmp, Op.intArith, getD_set, List.length_set, ↓reduceIte, Nat.reduceEqDiff, Nat.reduceLT, decide_true, decide_false, Bool.true_and, Bool.and_true, Bool.not_true, Bool.not_false, Option.map_some, List.getElem?_cons_zero, List.getElem?_cons_succ, builtinQ, List.map_cons, List.map_nil, hl, e15, h2, hneg]; rfl) ?_
      | refine opsf_nil (by decide) ?_
      | (refine exw_true ?_ ?_; focus (simp only [stepQ, ev, putD, ofConst, ofScalar, binD, unD, hP, pureSem, Op.intCmp, Op.intArith, getD_set, List.length_set, ↓reduceIte, Nat.reduceEqDiff, Nat.reduceLT, decide_true, decide_false, Bool.true_and, Bool.and_true, Bool.not_true, Bool.not_false, Option.map_some, List.getElem?_cons_zero, List.getElem?_cons_succ, builtinQ, List.map_cons, List.map_nil, hl, e15, h2, hneg]; done))
      | (refine exw_false ?_ ?_; focus (simp only [stepQ, ev, putD, ofConst, ofScalar, binD, unD, hP, pureSem, Op.intCmp, Op.intArith, getD_set, List.length_set, ↓reduceIte, Nat.reduceEqDiff, Nat.reduceLT, decide_true, decide_false, Bool.true_and, Bool.and_true, Bool.not_true, Bool.not_false, Option.map_some, List.getElem?_cons_zero, List.getElem?_cons_succ, builtinQ, List.map_cons, List.map_nil, hl, e15, h2, hneg]; done))
      | dsimp only)
    refine ⟨rfl, ?_, .inl ⟨rfl, rfl, ?_⟩⟩
    · simp only [putD, List.length_set]; exact hl
    · simp only [stepQ, ev, putD, ofConst, ofScalar, binD, unD, hP, pureSem, Op.intCmp, Op.intArith, getD_set, List.length_set, ↓reduceIte, Nat.reduceEqDiff, Nat.reduceLT, decide_true, decide_false, Bool.true_and, Bool.and_true, Bool.not_true, Bool.not_false, Option.map_some, List.getElem?_cons_zero, List.getElem?_cons_succ, builtinQ, List.map_cons, List.map_nil, hl]
  | some q =>
    dsimp only [encB] at h2
    have hneg : decide (((q : Nat) : Int) < 0) = false := by simp
    refine exw_strip ?_
    obtain ⟨code, hcode⟩ : ∃ code, code = strip c25_134 := ⟨_, rfl⟩
    rw [← hcode]
    simp only [c25_134, Tryz.f134, loopsOf, Option.getD, List.append, List.getD, List.getElem?_cons_succ, List.getElem?_cons_zero, HAppend.hAppend, Append.append, strip, stripO, List.map_toArray, List.map_cons, List.map_nil] at hcode
    subst hcode
    repeat (first
      | refine exw_seq ?_ | refine exw_block ?_ | refine exw_regf ?_ | refine exw_skip ?_ | refine exw_exit ?_ | refine exw_ret ?_
      | refine opsf_q rfl (want_0 rfl) rfl (by simp only [stepQ, ev, putD, ofConst, ofScalar, binD, unD, hP, pureSem, Op.intCmp, Op.intArith, getD_set, List.length_set, ↓reduceIte, Nat.reduceEqDiff, Nat.reduceLT, decide_true, decide_false, Bool.true_and, Bool.and_true, Bool.not_true, Bool.not_false, Option.map_some, List.getElem?_cons_zero, List.getElem?_cons_succ, builtinQ, List.map_cons, List.map_nil, hl, e15, h2, hneg]; rfl) ?_
      | (refine opsf_q rfl (want_g rfl rfl rfl ?_) rfl (by simp only [stepQ, ev, putD, ofConst, ofScalar, binD, unD, hP, pureSem, Op.intCmp, Op.intArith, getD_set, List.length_set, ↓reduceIte, Nat.reduceEqDiff, Nat.reduceLT, decide_true, decide_false, Bool.true_and, Bool.and_true, Bool.not_true, Bool.not_false, Option.map_some, List.getElem?_cons_zero, List.getElem?_cons_succ, builtinQ, List.map_cons, List.map_nil, hl, e15, h2, hneg]; rfl) ?_; focus (simp only [stepQ, ev, putD, ofConst, ofScalar, binD, unD, hP, pureSem, Op.intCmp, Op.intArith, getD_set, List.length_set, ↓reduceIte, Nat.reduceEqDiff, Nat.reduceLT, decide_true, decide_false, Bool.true_and, Bool.and_true, Bool.not_true, Bool.not_false, Option.map_some, List.getElem?_cons_zero, List.getElem?_cons_succ, builtinQ, List.map_cons, List.map_nil, hl, e15, h2, hneg]; done))
      | (refine opsf_no rfl (want_f rfl rfl rfl ?_) ?_; focus (simp only [stepQ, ev, putD, ofConst, ofScalar, binD, unD, hP, pureSem, Op.intCmp, Op.intArith, getD_set, List.length_set, ↓reduceIte, Nat.reduceEqDiff, Nat.reduceLT, decide_true, decide_false, Bool.true_and, Bool.and_true, Bool.not_true, Bool.not_false, Option.map_some, List.getElem?_cons_zero, List.getElem?_cons_succ, builtinQ, List.map_cons, List.map_nil, hl, e15, h2, hneg]; done))
      | (refine opsf_no rfl (want_n rfl rfl rfl ?_) ?_; focus (simp only [stepQ, ev, putD, ofConst, ofScalar, binD, unD, hP, pureSem, Op.intCmp, Op.intArith, getD_set, List.length_set, ↓reduceIte, Nat.reduceEqDiff, Nat.reduceLT, decide_true, decide_false, Bool.true_and, Bool.and_true, Bool.not_true, Bool.not_false, Option.map_some, List.getElem?_cons_zero, List.getElem?_cons_succ, builtinQ, List.map_cons, List.map_nil, hl, e15, h2, hneg]; done))
      | refine opsf_l rfl (want_0 rfl) rfl (by simp only [stepL, stepQ, ev, putD, ofConst, ofScalar, binD, unD, hP, pureSem, Op.intCmp, Op.intArith, getD_set, List.length_set, ↓reduceIte, Nat.reduceEqDiff, Nat.reduceLT, decide_true, decide_false, Bool.true_and, Bool.and_true, Bool.not_true, Bool.not_false, Option.map_some, List.getElem?_cons_zero, List.getElem?_cons_succ, builtinQ, List.map_cons, List.map_nil, hl, e15, h2, hneg]; first | exact hup | exact hup2 | exact hup3 | rfl) (by first | exact hupV | exact hV2 | exact hV | (simp; done)) ?_
      | refine opsf_a rfl (want_0 rfl) rfl (by simp only [stepQ, ev, putD, ofConst, ofScalar, binD, unD, hP, pureSem, Op.intCmp, Op.intArith, getD_set, List.length_set, ↓reduceIte, Nat.reduceEqDiff, Nat.reduceLT, decide_true, decide_false, Bool.true_and, Bool.and_true, Bool.not_true, Bool.not_false, Option.map_some, List.getElem?_cons_zero, List.getElem?_cons_succ, builtinQ, List.map_cons, List.map_nil, hl, e15, h2, hneg]; rfl) ?_
      | refine opsf_nil (by decide) ?_
      | (refine exw_true ?_ ?_; focus (simp only [stepQ, ev, putD, ofConst, ofScalar, binD, unD, hP, pureSem, Op.intCmp, Op.intArith, getD_set, List.length_set, ↓reduceIte, Nat.reduceEqDiff, Nat.reduceLT, decide_true, decide_false, Bool.true_and, Bool.and_true, Bool.not_true, Bool.not_false, Option.map_some, List.getElem?_cons_zero, List.getElem?_cons_succ, builtinQ, List.map_cons, List.map_nil, hl, e15, h2, hneg]; done))
      | (refine exw_false ?_ ?_; focus (simp only [stepQ, ev, putD, ofConst, ofScalar, binD, unD, hP, pureSem, Op.intCmp, Op.intArith, getD_set, List.length_set, ↓reduceIte, Nat.reduceEqDiff, Nat.reduceLT, decide_true, decide_false, Bool.true_and, Bool.and_true, Bool.not_true, Bool.not_false, Option.map_some, List.getElem?_cons_zero, List.getElem?_cons_succ, builtinQ, List.map_cons, List.map_nil, hl, e15, h2, hneg]; done))
      | dsimp only)
    refine ⟨rfl, ?_, .inr ⟨q, rfl, rfl, ?_, ?_, ?_, ?_⟩⟩
    · simp only [putD, List.length_set]; exact hl
    all_goals simp only [stepQ, ev, putD, ofConst, ofScalar, binD, unD, hP, pureSem, Op.intCmp, Op.intArith, getD_set, List.length_set, ↓reduceIte, Nat.reduceEqDiff, Nat.reduceLT, decide_true, decide_false, Bool.true_and, Bool.and_true, Bool.not_true, Bool.not_false, Option.map_some, List.getElem?_cons_zero, List.getElem?_cons_succ, builtinQ, List.map_cons, List.map_nil, hl, e0, e1, e5, e15]

theorem c27_run {C : Cfg} {Pw : Nat → Prop} (hP : C.P = Tryz.prog) {b : Nat} (hl : e.length = 119) {m c : Nat} {src : List UInt8} (e0 : e.getD 0 .undef = .map m) (e1 : e.getD 1 .undef = .str src) (e5 : e.getD 5 .undef = .ptr c 0) (e15 : e.getD 15 .undef = .ptr b 0) :
    ExW C false cf N Pw c27_134 e st (fun y e' st' => y = .norm ∧ st' = st ∧ e'.length = 119 ∧ e'.getD 0 .undef = .map m ∧ e'.getD 1 .undef = .str src ∧ e'.getD 5 .undef = .ptr c 0 ∧ e'.getD 15 .undef = .ptr b 0 ∧ e'.getD 20 .undef = .sl (rowsN [src]) .exact) := by
  have hslim : slimParts st [(0, D.str src)] = some [(0, .str src)] := rfl
  refine exw_strip ?_
  obtain ⟨code, hcode⟩ : ∃ code, code = strip c27_134 := ⟨_, rfl⟩
  rw [← hcode]
  simp only [c27_134, Tryz.f134, loopsOf, Option.getD, List.append, List.getD, List.getElem?_cons_succ, List.getElem?_cons_zero, HAppend.hAppend, Append.append, strip, stripO, List.map_toArray, List.map_cons, List.map_nil] at hcode
  subst hcode
  repeat (first
    | refine exw_seq ?_ | refine exw_block ?_ | refine exw_regf ?_ | refine exw_skip ?_ | refine exw_exit ?_ | refine exw_ret ?_
    | refine opsf_q rfl (want_0 rfl) rfl (by simp only [stepQ, ev, putD, ofConst, ofScalar, binD, unD, hP, pureSem, Op.intCmp, Op.intArith, getD_set, List.length_set, ↓reduceIte, Nat.reduceEqDiff, Nat.reduceLT, decide_true, decide_false, Bool.true_and, Bool.and_true, Bool.not_true, Bool.not_false, Option.map_some, List.getElem?_cons_zero, List.getElem?_cons_succ, builtinQ, List.map_cons, List.map_nil, hl, e1, elemB41, size9, zeroOf9, hslim]; rfl) ?_
    | (refine opsf_q rfl (want_g rfl rfl rfl ?_) rfl (by simp only [stepQ, ev, putD, ofConst, ofScalar, binD, unD, hP, pureSem, Op.intCmp, Op.intArith, getD_set, List.length_set, ↓reduceIte, Nat.reduceEqDiff, Nat.reduceLT, decide_true, decide_false, Bool.true_and, Bool.and_true, Bool.not_true, Bool.not_false, Option.map_some, List.getElem?_cons_zero, List.getElem?_cons_succ, builtinQ, List.map_cons, List.map_nil, hl, e1, elemB41, size9, zeroOf9, hslim]; rfl) ?_; focus (simp only [stepQ, ev, putD, ofConst, ofScalar, binD, unD, hP, pureSem, Op.intCmp, Op.intArith, getD_set, List.length_set, ↓reduceIte, Nat.reduceEqDiff, Nat.reduceLT, decide_true, decide_false, Bool.true_and, Bool.and_true, Bool.not_true, Bool.not_false, Option.map_some, List.getElem?_cons_zero, List.getElem?_cons_succ, builtinQ, List.map_cons, List.map_nil, hl, e1, elemB41, size9, zeroOf9, hslim]; done))
    | (refine opsf_no rfl (want_f rfl rfl rfl ?_) ?_; focus (simp only [stepQ, ev, putD, ofConst, ofScalar, binD, unD, hP, pureSem, Op.intCmp, Op.intArith, getD_set, List.length_set, ↓reduceIte, Nat.reduceEqDiff, Nat.reduceLT, decide_true, decide_false, Bool.true_and, Bool.and_true, Bool.not_true, Bool.not_false, Option.map_some, List.getElem?_cons_zero, List.getElem?_cons_succ, builtinQ, List.map_cons, List.map_nil, hl, e1, elemB41, size9, zeroOf9, hslim]; done))
    | (refine opsf_no rfl (want_n rfl rfl rfl ?_) ?_; focus (simp only [stepQ, ev, putD, ofConst, ofScalar, binD, unD, hP, pureSem, Op.intCmp, Op.intArith, getD_set, List.length_set, ↓reduceIte, Nat.reduceEqDiff, Nat.reduceLT, decide_true, decide_false, Bool.true_and, Bool.and_true, Bool.not_true, Bool.not_false, Option.map_some, List.getElem?_cons_zero, List.getElem?_cons_succ, builtinQ, List.map_cons, List.map_nil, hl, e1, elemB41, size9, zeroOf9, hslim]; done))
    | refine opsf_l rfl (want_0 rfl) rfl (by simp only [stepL, stepQ, ev, putD, ofConst, ofScalar, binD, unD, hP, pureSem, Op.intCmp, Op.intArith, getD_set, List.length_set, ↓reduceIte, Nat.reduceEqDiff, Nat.reduceLT, decide_true, decide_false, Bool.true_and, Bool.and_true, Bool.not_true, Bool.not_false, Option.map_some, List.getElem?_cons_zero, List.getElem?_cons_succ, builtinQ, List.map_cons, List.map_nil, hl, e1, elemB41, size9, zeroOf9, hslim]; first | exact hup | exact hup2 | exact hup3 | rfl) (by first | exact hupV | exact hV2 | exact hV | (simp; done)) ?_
    | refine opsf_a rfl (want_0 rfl) rfl (by simp only [stepQ, ev, putD, ofConst, ofScalar, binD, unD, hP, pureSem, Op.intCmp, Op.intArith, getD_set, List.length_set, ↓reduceIte, Nat.reduceEqDiff, Nat.reduceLT, decide_true, decide_false, Bool.true_and, Bool.and_true, Bool.not_true, Bool.not_false, Option.map_some, List.getElem?_cons_zero, List.getElem?_cons_succ, builtinQ, List.map_cons, List.map_nil, hl, e1, elemB41, size9, zeroOf9, hslim]; rfl) ?_
    | refine opsf_nil (by decide) ?_
    | (refine exw_true ?_ ?_; focus (simp only [stepQ, ev, putD, ofConst, ofScalar, binD, unD, hP, pureSem, Op.intCmp, Op.intArith, getD_set, List.length_set, ↓reduceIte, Nat.reduceEqDiff, Nat.reduceLT, decide_true, decide_false, Bool.true_and, Bool.and_true, Bool.not_true, Bool.not_false, Option.map_some, List.getElem?_cons_zero, List.getElem?_cons_succ, builtinQ, List.map_cons, List.map_nil, hl, e1, elemB41, size9, zeroOf9, hslim]; done))
    | (refine exw_false ?_ ?_; focus (simp only [stepQ, ev, putD, ofConst, ofScalar, binD, unD, hP, pureSem, Op.intCmp, Op.intArith, getD_set, List.length_set, ↓reduceIte, Nat.reduceEqDiff, Nat.reduceLT, decide_true, decide_false, Bool.true_and, Bool.and_true, Bool.not_true, Bool.not_false, Option.map_some, List.getElem?_cons_zero, List.getElem?_cons_succ, builtinQ, List.map_cons, List.map_nil, hl, e1, elemB41, size9, zeroOf9, hslim]; done))
    | dsimp only)
  refine ⟨rfl, rfl, ?_, ?_, ?_, ?_, ?_, ?_⟩
  · simp only [putD, List.length_set]; exact hl
  all_goals simp only [stepQ, ev, putD, ofConst, ofScalar, binD, unD, hP, pureSem, Op.intCmp, Op.intArith, getD_set, List.length_set, ↓reduceIte, Nat.reduceEqDiff, Nat.reduceLT, decide_true, decide_false, Bool.true_and, Bool.and_true, Bool.not_true, Bool.not_false, Option.map_some, List.getElem?_cons_zero, List.getElem?_cons_succ, builtinQ, List.map_cons, List.map_nil, hl, e0, e1, e5, e15]
  rfl

theorem c28_run {C : Cfg} {hh : Bool} {Pw : Nat → Prop} (hP : C.P = Tryz.prog) {b : Nat} (hl : e.length = 119) {m c : Nat} {src : List UInt8} {d : D} (e0 : e.getD 0 .undef = .map m) (e1 : e.getD 1 .undef = .str src) (e5 : e.getD 5 .undef = .ptr c 0) (e15 : e.getD 15 .undef = .ptr b 0) (e20 : e.getD 20 .undef = d) :
    ExW C hh cf N Pw c28_134 e st (fun y e' st' => y = .norm ∧ st' = st ∧ e'.length = 119 ∧ e'.getD 0 .undef = .map m ∧ e'.getD 5 .undef = .ptr c 0 ∧ e'.getD 15 .undef = .ptr b 0 ∧ e'.getD 20 .undef = d ∧ e'.getD 21 .undef = .str src) := by
  refine exw_strip ?_
  obtain ⟨code, hcode⟩ : ∃ code, code = strip c28_134 := ⟨_, rfl⟩
  rw [← hcode]
  simp only [c28_134, Tryz.f134, loopsOf, Option.getD, List.append, List.getD, List.getElem?_cons_succ, List.getElem?_cons_zero, HAppend.hAppend, Append.append, strip, stripO, List.map_toArray, List.map_cons, List.map_nil] at hcode
  subst hcode
  repeat (first
    | refine exw_seq ?_ | refine exw_block ?_ | refine exw_regf ?_ | refine exw_skip ?_ | refine exw_exit ?_ | refine exw_ret ?_
    | refine opsf_q rfl (want_0 rfl) rfl (by simp only [stepQ, ev, putD, ofConst, ofScalar, binD, unD, hP, pureSem, Op.intCmp, Op.intArith, getD_set, List.length_set, ↓reduceIte, Nat.reduceEqDiff, Nat.reduceLT, decide_true, decide_false, Bool.true_and, Bool.and_true, Bool.not_true, Bool.not_false, Option.map_some, List.getElem?_cons_zero, List.getElem?_cons_succ, builtinQ, List.map_cons, List.map_nil, hl, e1]; rfl) ?_
    | (refine opsf_q rfl (want_g rfl rfl rfl ?_) rfl (by simp only [stepQ, ev, putD, ofConst, ofScalar, binD, unD, hP, pureSem, Op.intCmp, Op.intArith, getD_set, List.length_set, ↓reduceIte, Nat.reduceEqDiff, Nat.reduceLT, decide_true, decide_false, Bool.true_and, Bool.and_true, Bool.not_true, Bool.not_false, Option.map_some, List.getElem?_cons_zero, List.getElem?_cons_succ, builtinQ, List.map_cons, List.map_nil, hl, e1]; rfl) ?_; focus (simp only [stepQ, ev, putD, ofConst, ofScalar, binD, unD, hP, pureSem, Op.intCmp, Op.intArith, getD_set, List.length_set, ↓reduceIte, Nat.reduceEqDiff, Nat.reduceLT, decide_true, decide_false, Bool.true_and, Bool.and_true, Bool.not_true, Bool.not_false, Option.map_some, List.getElem?_cons_zero, List.getElem?_cons_succ, builtinQ, List.map_cons, List.map_nil, hl, e1]; done))
    | (refine opsf_no rfl (want_f rfl rfl rfl ?_) ?_; focus (simp only [stepQ, ev, putD, ofConst, ofScalar, binD, unD, hP, pureSem, Op.intCmp, Op.intArith, getD_set, List.length_set, ↓reduceIte, Nat.reduceEqDiff, Nat.reduceLT, decide_true, decide_false, Bool.true_and, Bool.and_true, Bool.not_true, Bool.not_false, Option.map_some, List.getElem?_cons_zero, List.getElem?_cons_succ, builtinQ, List.map_cons, List.map_nil, hl, e1]; done))
    | (refine opsf_no rfl (want_n rfl rfl rfl ?_) ?_; focus (simp only [stepQ, ev, putD, ofConst, ofScalar, binD, unD, hP, pureSem, Op.intCmp, Op.intArith, getD_set, List.length_set, ↓reduceIte, Nat.reduceEqDiff, Nat.reduceLT, decide_true, decide_false, Bool.true_and, Bool.and_true, Bool.not_true, Bool.not_false, Option.map_some, List.getElem?_cons_zero, List.getElem?_cons_succ, builtinQ, List.map_cons, List.map_nil, hl, e1]; done))
    | refine opsf_l rfl (want_0 rfl) rfl (by simp only [stepL, stepQ, ev, putD, ofConst, ofScalar, binD, unD, hP, pureSem, Op.intCmp, Op.intArith, getD_set, List.length_set, ↓reduceIte, Nat.reduceEqDiff, Nat.reduceLT, decide_true, decide_false, Bool.true_and, Bool.and_true, Bool.not_true, Bool.not_false, Option.map_some, List.getElem?_cons_zero, List.getElem?_cons_succ, builtinQ, List.map_cons, List.map_nil, hl, e1]; first | exact hup | exact hup2 | exact hup3 | rfl) (by first | exact hupV | exact hV2 | exact hV | (simp; done)) ?_
    | refine opsf_a rfl (want_0 rfl) rfl (by simp only [stepQ, ev, putD, ofConst, ofScalar, binD, unD, hP, pureSem, Op.intCmp, Op.intArith, getD_set, List.length_set, ↓reduceIte, Nat.reduceEqDiff, Nat.reduceLT, decide_true, decide_false, Bool.true_and, Bool.and_true, Bool.not_true, Bool.not_false, Option.map_some, List.getElem?_cons_zero, List.getElem?_cons_succ, builtinQ, List.map_cons, List.map_nil, hl, e1]; rfl) ?_
    | refine opsf_nil (by decide) ?_
    | (refine exw_true ?_ ?_; focus (simp only [stepQ, ev, putD, ofConst, ofScalar, binD, unD, hP, pureSem, Op.intCmp, Op.intArith, getD_set, List.length_set, ↓reduceIte, Nat.reduceEqDiff, Nat.reduceLT, decide_true, decide_false, Bool.true_and, Bool.and_true, Bool.not_true, Bool.not_false, Option.map_some, List.getElem?_cons_zero, List.getElem?_cons_succ, builtinQ, List.map_cons, List.map_nil, hl, e1]; done))
    | (refine exw_false ?_ ?_; focus (simp only [stepQ, ev, putD, ofConst, ofScalar, binD, unD, hP, pureSem, Op.intCmp, Op.intArith, getD_set, List.length_set, ↓reduceIte, Nat.reduceEqDiff, Nat.reduceLT, decide_true, decide_false, Bool.true_and, Bool.and_true, Bool.not_true, Bool.not_false, Option.map_some, List.getElem?_cons_zero, List.getElem?_cons_succ, builtinQ, List.map_cons, List.map_nil, hl, e1]; done))
    | dsimp only)
  refine ⟨rfl, rfl, ?_, ?_, ?_, ?_, ?_, ?_⟩
  · simp only [putD, List.length_set]; exact hl
  all_goals simp only [stepQ, ev, putD, ofConst, ofScalar, binD, unD, hP, pureSem, Op.intCmp, Op.intArith, getD_set, List.length_set, ↓reduceIte, Nat.reduceEqDiff, Nat.reduceLT, decide_true, decide_false, Bool.true_and, Bool.and_true, Bool.not_true, Bool.not_false, Option.map_some, List.getElem?_cons_zero, List.getElem?_cons_succ, builtinQ, List.map_cons, List.map_nil, hl, e0, e1, e5, e15, e20]

theorem c34_run {C : Cfg} {hh : Bool} {Pw : Nat → Prop} (hP : C.P = Tryz.prog) (hl : e.length = 119) :
    ExW C hh cf N Pw c34_134 e st (fun y e' st' => y = .ret ∧ st' = st ∧ e'.length = 119 ∧ e'.getD 4 .undef = e.getD 20 .undef) := by
  refine exw_strip ?_
  obtain ⟨code, hcode⟩ : ∃ code, code = strip c34_134 := ⟨_, rfl⟩
  rw [← hcode]
  simp only [c34_134, Tryz.f134, loopsOf, Option.getD, List.append, List.getD, List.getElem?_cons_succ, List.getElem?_cons_zero, HAppend.hAppend, Append.append, strip, stripO, List.map_toArray, List.map_cons, List.map_nil] at hcode
  subst hcode
  repeat (first
    | refine exw_seq ?_ | refine exw_block ?_ | refine exw_regf ?_ | refine exw_skip ?_ | refine exw_exit ?_ | refine exw_ret ?_
    | refine opsf_q rfl (want_0 rfl) rfl (by simp only [stepQ, ev, putD, ofConst, ofScalar, binD, unD, hP, pureSem, Op.intCmp, Op.intArith, getD_set, List.length_set, ↓reduceIte, Nat.reduceEqDiff, Nat.reduceLT, decide_true, decide_false, Bool.true_and, Bool.and_true, Bool.not_true, Bool.not_false, Option.map_some, List.getElem?_cons_zero, List.getElem?_cons_succ, builtinQ, List.map_cons, List.map_nil, hl]; rfl) ?_
    | (refine opsf_q rfl (want_g rfl rfl rfl ?_) rfl (by simp only [stepQ, ev, putD, ofConst, ofScalar, binD, unD, hP, pureSem, Op.intCmp, Op.intArith, getD_set, List.length_set, ↓reduceIte, Nat.reduceEqDiff, Nat.reduceLT, decide_true, decide_false, Bool.true_and, Bool.and_true, Bool.not_true, Bool.not_false, Option.map_some, List.getElem?_cons_zero, List.getElem?_cons_succ, builtinQ, List.map_cons, List.map_nil, hl]; rfl) ?_; focus (simp only [stepQ, ev, putD, ofConst, ofScalar, binD, unD, hP, pureSem, Op.intCmp, Op.intArith, getD_set, List.length_set, ↓reduceIte, Nat.reduceEqDiff, Nat.reduceLT, decide_true, decide_false, Bool.true_and, Bool.and_true, Bool.not_true, Bool.not_false, Option.map_some, List.getElem?_cons_zero, List.getElem?_cons_succ, builtinQ, List.map_cons, List.map_nil, hl]; done))
    | (refine opsf_no rfl (want_f rfl rfl rfl ?_) ?_; focus (simp only [stepQ, ev, putD, ofConst, ofScalar, binD, unD, hP, pureSem, Op.intCmp, Op.intArith, getD_set, List.length_set, ↓reduceIte, Nat.reduceEqDiff, Nat.reduceLT, decide_true, decide_false, Bool.true_and, Bool.and_true, Bool.not_true, Bool.not_false, Option.map_some, List.getElem?_cons_zero, List.getElem?_cons_succ, builtinQ, List.map_cons, List.map_nil, hl]; done))
    | (refine opsf_no rfl (want_n rfl rfl rfl ?_) ?_; focus (simp only [stepQ, ev, putD, ofConst, ofScalar, binD, unD, hP, pureSem, Op.intCmp, Op.intArith, getD_set, List.length_set, ↓reduceIte, Nat.reduceEqDiff, Nat.reduceLT, decide_true, decide_false, Bool.true_and, Bool.and_true, Bool.not_true, Bool.not_false, Option.map_some, List.getElem?_cons_zero, List.getElem?_cons_succ, builtinQ, List.map_cons, List.map_nil, hl]; done))
    | refine opsf_l rfl (want_0 rfl) rfl (by simp only [stepL, stepQ, ev, putD, ofConst, ofScalar, binD, unD, hP, pureSem, Op.intCmp, Op.intArith, getD_set, List.length_set, ↓reduceIte, Nat.reduceEqDiff, Nat.reduceLT, decide_true, decide_false, Bool.true_and, Bool.and_true, Bool.not_true, Bool.not_false, Option.map_some, List.getElem?_cons_zero, List.getElem?_cons_succ, builtinQ, List.map_cons, List.map_nil, hl]; first | exact hup | exact hup2 | exact hup3 | rfl) (by first | exact hupV | exact hV2 | exact hV | (simp; done)) ?_
    | refine opsf_a rfl (want_0 rfl) rfl (by simp only [stepQ, ev, putD, ofConst, ofScalar, binD, unD, hP, pureSem, Op.intCmp, Op.intArith, getD_set, List.length_set, ↓reduceIte, Nat.reduceEqDiff, Nat.reduceLT, decide_true, decide_false, Bool.true_and, Bool.and_true, Bool.not_true, Bool.not_false, Option.map_some, List.getElem?_cons_zero, List.getElem?_cons_succ, builtinQ, List.map_cons, List.map_nil, hl]; rfl) ?_
    | refine opsf_nil (by decide) ?_
    | (refine exw_true ?_ ?_; focus (simp only [stepQ, ev, putD, ofConst, ofScalar, binD, unD, hP, pureSem, Op.intCmp, Op.intArith, getD_set, List.length_set, ↓reduceIte, Nat.reduceEqDiff, Nat.reduceLT, decide_true, decide_false, Bool.true_and, Bool.and_true, Bool.not_true, Bool.not_false, Option.map_some, List.getElem?_cons_zero, List.getElem?_cons_succ, builtinQ, List.map_cons, List.map_nil, hl]; done))
    | (refine exw_false ?_ ?_; focus (simp only [stepQ, ev, putD, ofConst, ofScalar, binD, unD, hP, pureSem, Op.intCmp, Op.intArith, getD_set, List.length_set, ↓reduceIte, Nat.reduceEqDiff, Nat.reduceLT, decide_true, decide_false, Bool.true_and, Bool.and_true, Bool.not_true, Bool.not_false, Option.map_some, List.getElem?_cons_zero, List.getElem?_cons_succ, builtinQ, List.map_cons, List.map_nil, hl]; done))
    | dsimp only)
  refine ⟨rfl, rfl, ?_, ?_⟩
  · simp only [putD, List.length_set]; exact hl
  · simp only [stepQ, ev, putD, ofConst, ofScalar, binD, unD, hP, pureSem, Op.intCmp, Op.intArith, getD_set, List.length_set, ↓reduceIte, Nat.reduceEqDiff, Nat.reduceLT, decide_true, decide_false, Bool.true_and, Bool.and_true, Bool.not_true, Bool.not_false, Option.map_some, List.getElem?_cons_zero, List.getElem?_cons_succ, builtinQ, List.map_cons, List.map_nil, hl]
end
end Go.Vam

set_option linter.unusedSimpArgs false
set_option linter.unusedVariables false
set_option maxRecDepth 100000
namespace Go.Vam
open Go.Proofs Go.RowKit

section
variable {cf : CallF} {N : Nat} {st0 st : St} {e : Env}

theorem loop6 {C : Cfg} {hh : Bool} (hP : C.P = Tryz.prog) {all : Net} {m f c b : Nat} {src : List UInt8} {far : Far} {ns : List (List UInt8)} (hN : ns.length < N) (hl : e.length = 119) (e0 : e.getD 0 .undef = .map m) (e1 : e.getD 1 .undef = .str src) (e5 : e.getD 5 .undef = .ptr c 0) (e15 : e.getD 15 .undef = .ptr b 0)
    (e70 : e.getD 70 .undef = .sl (rowsN ns) .none) (e71 : e.getD 71 .undef = .int .i64 (ns.length : Nat)) (e72 : e.getD 72 .undef = .int .i64 0) (hk : ns.length < 2 ^ 62)
    (hc : st[c]? = some (.cells [.map f])) (hf : st[f]? = some (.map (encF far))) (hb : st[b]? = some (.cells [encB none])) (hcb : c ≠ b) (hfb : f ≠ b) :
    ExW C hh cf N (fun id => id = b) (.block 6 (.loop (L134 3))) e st (fun y e' st' => y = .norm ∧ e'.length = 119 ∧ e'.getD 0 .undef = .map m ∧ e'.getD 1 .undef = .str src ∧ e'.getD 5 .undef = .ptr c 0 ∧ e'.getD 15 .undef = .ptr b 0 ∧ At1 st b (.cells [encB (ns.foldl (stepB (getF · far)) none)]) st') := by
  refine exw_block ?_
  refine exw_loop (fun k e' st' => ∃ i, k = ns.length - i ∧ i ≤ ns.length ∧ e'.length = 119 ∧ e'.getD 0 .undef = .map m ∧ e'.getD 1 .undef = .str src ∧ e'.getD 5 .undef = .ptr c 0 ∧ e'.getD 15 .undef = .ptr b 0 ∧
      e'.getD 70 .undef = .sl (rowsN ns) .none ∧ e'.getD 71 .undef = .int .i64 (ns.length : Nat) ∧ e'.getD 72 .undef = .int .i64 (i : Nat) ∧ At1 st b (.cells [encB ((ns.take i).foldl (stepB (getF · far)) none)]) st') ns.length hN ⟨0, rfl, Nat.zero_le _, hl, e0, e1, e5, e15, e70, e71, e72, At1.same hb⟩ ?_
  rintro k e' st' ⟨i, rfl, hi, hl, e0, e1, e5, e15, e70, e71, e72, hst⟩
  rcases Nat.lt_or_ge i ns.length with hlt | hge
  · obtain ⟨x, hx⟩ : ∃ x, ns[i]? = some x := ⟨_, List.getElem?_eq_getElem hlt⟩
    refine (round6 hP hl (x := x) e0 e1 e5 e15 e70 e71 e72 hk hlt (by rw [rowsN, List.getElem?_map, hx]; rfl) (by rw [hst.ne c hcb]; exact hc) (by rw [hst.ne f hfb]; exact hf) hst.at_).mono ?_
    rintro y e2 st2 ⟨rfl, g1, g2, g3, g4, g5, g6, g7, g8, g9⟩
    refine ⟨ns.length - (i + 1), by omega, i + 1, rfl, by omega, g1, g2, g3, g4, g5, g6, g7, g8, hst.trans ?_⟩
    have ht : ns.take (i + 1) = ns.take i ++ [x] := by
      rw [List.take_add_one, hx]
      rfl
    rw [ht, List.foldl_append]
    exact g9
  · have hin : i = ns.length := by omega
    subst hin
    refine (end6 hP hl e71 e72).mono ?_
    rintro y e2 st2 ⟨rfl, rfl, rfl⟩
    rw [List.take_length] at hst
    refine ⟨rfl, ?_, ?_, ?_, ?_, ?_, hst⟩
    · rw [List.length_set]; exact hl
    all_goals rw [getD_set, if_neg (by decide)]
    · exact e0
    · exact e1
    · exact e5
    · exact e15

theorem loop8 (hcf189 : ∀ (st : St) (c b f : Nat) (far : Far) (q : Nat) (x : List UInt8), st[c]? = some (.cells [.map f]) → st[f]? = some (.map (encF far)) → st[b]? = some (.cells [encB (some q)]) → ∀ ns : List (List UInt8), ns.length < 2 ^ 30 → ∀ i, ns.findIdx? (fun x => getF x far == some q) = some i →
      cf 149 [.sl (rowsN ns) .none, .func 189 [] [.ptr c 0, .ptr b 0]] st = some (.int .i64 (i : Nat), st, []))
    {all : Net} (hns : ∀ p ∈ all, p.2.length < 2 ^ 30) {m f c b q : Nat} {far : Far} {src : List UInt8} {total : List (List UInt8)} (hN : q < N) (hq : q < 2 ^ 62) (hl : e.length = 119) (e0 : e.getD 0 .undef = .map m) (e5 : e.getD 5 .undef = .ptr c 0) (e15 : e.getD 15 .undef = .ptr b 0) (e20 : e.getD 20 .undef = .sl (rowsN [src]) .exact) (e21 : e.getD 21 .undef = .str src)
    (hm : st0[m]? = some (.map (encN all))) (hS : Sto st0 st f c far) (hb0 : st0.length ≤ b) (hb : st[b]? = some (.cells [encB (some q)])) (hcb : c ≠ b) (hway : wayP all (getF · far) q src = some total) (htot : total.length < 2 ^ 29) :
    ExW C0 false cf N (fun id => st0.length ≤ id) (.block 8 (.loop (L134 4))) e st (fun y e' st' => y = .norm ∧ e'.length = 119 ∧ (∀ id, id < st0.length → st'[id]? = st0[id]?) ∧ st0.length ≤ st'.length ∧ ∃ gr, e'.getD 20 .undef = .sl (rowsN (src :: total)) gr) := by
  have hml : m < st0.length := (List.getElem?_eq_some_iff.1 hm).1
  refine exw_block ?_
  refine exw_loop (fun k e' st' => ∃ a out rest gr, k < 2 ^ 62 ∧ wayP all (getF · far) k a = some rest ∧ out ++ rest = src :: total ∧ out ≠ [] ∧ e'.length = 119 ∧ e'.getD 0 .undef = .map m ∧ e'.getD 5 .undef = .ptr c 0 ∧ e'.getD 15 .undef = .ptr b 0 ∧ e'.getD 20 .undef = .sl (rowsN out) gr ∧ e'.getD 21 .undef = .str a ∧
      Sto st0 st' f c far ∧ st'[b]? = some (.cells [encB (some k)]) ∧ GrT st0.length gr st') q hN ⟨src, [src], total, .exact, hq, hway, rfl, by simp, hl, e0, e5, e15, e20, e21, hS, hb, .inl rfl⟩ ?_
  rintro k e' st' ⟨a, out, rest, gr, hk, hw, hout, hne, hl, e0, e5, e15, e20, e21, hS, hb, hgr⟩
  cases k with
  | zero =>
    refine (end8 hl e15 hb).mono ?_
    rintro y e2 st2 ⟨rfl, g1, g2, rfl⟩
    cases hw
    rw [List.append_nil] at hout
    refine ⟨rfl, g2, hS.old, hS.len, gr, ?_⟩
    rw [g1, e20, hout]
  | succ k =>
    unfold wayP at hw
    cases hga : getN a all with
    | none => rw [hga] at hw; cases hw
    | some ns =>
      rw [hga] at hw
      dsimp only at hw
      cases hfi : ns.findIdx? (fun x => getF x far == some (k + 1)) with
      | none => rw [hfi] at hw; cases hw
      | some i =>
        rw [hfi] at hw
        dsimp only at hw
        cases hx : ns[i]? with
        | none => rw [hx] at hw; cases hw
        | some x =>
          rw [hx] at hw
          dsimp only at hw
          cases hw2 : wayP all (getF · far) k x with
          | none => rw [hw2] at hw; cases hw
          | some rest2 =>
            rw [hw2] at hw
            cases hw
            have hnl : ns.length < 2 ^ 30 := by
              have : ∃ p ∈ all, p.2 = ns := by
                clear hns hm hw2 hway hx hfi
                induction all with
                | nil => cases hga
                | cons p l ih =>
                  unfold getN at hga
                  split at hga
                  · cases hga
                    exact ⟨p, by simp, rfl⟩
                  · obtain ⟨p', h1, h2⟩ := ih hga
                    exact ⟨p', by simp [h1], h2⟩
              obtain ⟨p, h1, rfl⟩ := this
              exact hns p h1
            have hol : out.length < 2 ^ 30 := by
              have := congrArg List.length hout
              simp at this
              omega
            refine (round8 hcf189 hns hl e0 e5 e15 e20 e21 ((hS.old m hml).trans hm) hml hS hb0 hb (by omega) hgr hne hol hcb hga hfi hx hnl).mono ?_
            rintro y e2 st2 ⟨rfl, g1, g2, g3, g4, g5, g6, g7, gr', g8, g9⟩
            refine ⟨k, by omega, x, out ++ [x], rest2, gr', by omega, hw2, by rw [List.append_assoc]; exact hout, by simp, g1, g2, g3, g4, g8, g5, g6, g7, g9⟩

theorem foldB_mem (look : List UInt8 → Option Nat) : ∀ (ns : List (List UInt8)) (b : Option Nat) (q : Nat), ns.foldl (stepB look) b = some q → b = some q ∨ ∃ x, look x = some q
  | [], b, q, h => .inl h
  | x :: ns, b, q, h => by
    rcases foldB_mem look ns _ q h with h1 | h1
    · unfold stepB at h1
      split at h1
      · exact .inl h1
      · rename_i d hd
        split at h1
        · cases h1
          exact .inr ⟨x, hd⟩
        · split at h1
          · cases h1
            exact .inr ⟨x, hd⟩
          · exact .inl h1
    · exact .inr h1

theorem getN_mem {x : List UInt8} {all : Net} {ns : List (List UInt8)} (h : getN x all = some ns) : ∃ p ∈ all, p.2 = ns := by
  induction all with
  | nil => cases h
  | cons p l ih =>
    unfold getN at h
    split at h
    · cases h
      exact ⟨p, by simp, rfl⟩
    · obtain ⟨p', h1, h2⟩ := ih h
      exact ⟨p', by simp [h1], h2⟩

noncomputable def tail134 : Code := .seq c17_134 (.seq (.seq c18_134 (.block 6 (.loop (L134 3)))) (.seq c25_134 (.seq c27_134 (.seq (.seq c28_134 (.block 8 (.loop (L134 4)))) c34_134))))

theorem tail_run (hcf189 : ∀ (st : St) (c b f : Nat) (far : Far) (q : Nat) (x : List UInt8), st[c]? = some (.cells [.map f]) → st[f]? = some (.map (encF far)) → st[b]? = some (.cells [encB (some q)]) → ∀ ns : List (List UInt8), ns.length < 2 ^ 30 → ∀ i, ns.findIdx? (fun x => getF x far == some q) = some i →
      cf 149 [.sl (rowsN ns) .none, .func 189 [] [.ptr c 0, .ptr b 0]] st = some (.int .i64 (i : Nat), st, []))
    {all : Net} (hsz : all.length < 2 ^ 30) (hns : ∀ p ∈ all, p.2.length < 2 ^ 30) (hN : 2 ^ 30 ≤ N) {m f c : Nat} {far : Far} {src : List UInt8} {ns : List (List UInt8)} {idR : D} {t : Bool} (hE : Env134 e m src c t idR) (hm : st0[m]? = some (.map (encN all))) (hS : Sto st0 st f c far) (hg : Good all src far)
    (hn : getN src all = some ns) {v : D} (hv : (ns.foldl (stepB (getF · far)) none = none ∧ v = .nilsl) ∨ ∃ q rest, ns.foldl (stepB (getF · far)) none = some q ∧ wayP all (getF · far) q src = some rest ∧ rest.length < 2 ^ 29 ∧ v = .sl (rowsN (src :: rest)) .none) :
    ExW C0 false cf N (fun id => st0.length ≤ id) tail134 e st (fun y e' st' => y = .ret ∧ e'.length = 119 ∧ (∀ id, id < st0.length → st'[id]? = st0[id]?) ∧ st0.length ≤ st'.length ∧ (e'.getD 4 .undef = v ∨ ∃ rows gr, e'.getD 4 .undef = .sl rows gr ∧ v = .sl rows .none)) := by
  have hP : C0.P = Tryz.prog := rfl
  have hml : m < st0.length := (List.getElem?_eq_some_iff.1 hm).1
  have hcl : c < st.length := (List.getElem?_eq_some_iff.1 hS.c_).1
  have hfl : f < st.length := (List.getElem?_eq_some_iff.1 hS.f_).1
  have hnl : ns.length < 2 ^ 30 := by
    obtain ⟨p, h1, rfl⟩ := getN_mem hn
    exact hns p h1
  unfold tail134
  refine exw_seq ((c17_run hP hE.len hE.e0 hE.e1 hE.e5 hS.len).mono ?_)
  rintro y e1 st1 ⟨rfl, l1, a0, a1, a5, a15, rfl⟩
  have hS1 : Sto st0 (st ++ [.cells [encB none]]) f c far := hS.app
  dsimp only
  refine exw_seq (exw_seq ((c18_run hP l1 a0 a1 a5 a15 ((hS1.old m hml).trans hm) hn).mono ?_))
  rintro y e2 st2 ⟨rfl, l2, b0, b1, b5, b15, b70, b71, b72, rfl⟩
  dsimp only
  have hb : (st ++ [Obj.cells [encB none]])[st.length]? = some (.cells [encB none]) := by simp
  obtain ⟨y6, e6, st6, V6, x1, x2, x3⟩ := (loop6 (N := N) (cf := cf) (hh := false) (all := all) hP (by omega) l2 b0 b1 b5 b15 b70 b71 b72 (by omega) hS1.c_ hS1.f_ hb (by omega) (by omega)).ex
  refine ⟨⟨y6, e6, st6, V6, x1, fun id hid => by rw [x2 id hid]; exact hS.len, ?_⟩⟩
  obtain ⟨rfl, l6, d0, d1, d5, d15, hat⟩ := x3
  have hS6 : Sto st0 st6 f c far := ⟨fun id hid => (hat.ne id (by have := hS.len; omega)).trans (hS1.old id hid), by rw [hat.len]; exact hS1.len, (hat.ne c (by omega)).trans hS1.c_, (hat.ne f (by omega)).trans hS1.f_⟩
  generalize hbest : ns.foldl (stepB (getF · far)) none = best at hat hv
  dsimp only
  refine exw_seq ((c25_run hP l6 d0 d1 d5 d15 hat.at_).mono ?_)
  rintro y e7 st7 ⟨rfl, l7, h7⟩
  rcases h7 with ⟨rfl, rfl, h4⟩ | ⟨q, rfl, rfl, f0, f1, f5, f15⟩
  · rcases hv with ⟨_, rfl⟩ | ⟨q, rest, h, _⟩
    · exact ⟨rfl, l7, hS6.old, hS6.len, .inl h4⟩
    · cases h
  · rcases hv with ⟨h, _⟩ | ⟨q', rest, h, hway, hrest, rfl⟩
    · cases h
    cases h
    have hq : q ≤ all.length := by
      rcases foldB_mem _ _ _ _ hbest with h | ⟨x, h⟩
      · cases h
      · have := hg.small x q h
        omega
    dsimp only
    refine exw_seq ((c27_run hP l7 f0 f1 f5 f15).mono ?_)
    rintro y e8 st8 ⟨rfl, rfl, l8, k0, k1, k5, k15, k20⟩
    dsimp only
    refine exw_seq (exw_seq ((c28_run hP l8 k0 k1 k5 k15 k20).mono ?_))
    rintro y e9 st9 ⟨rfl, rfl, l9, n0, n5, n15, n20, n21⟩
    dsimp only
    have hS9 : Sto st0 st9 f c far := hS6
    refine (loop8 hcf189 hns (by omega) (by omega) l9 n0 n5 n15 n20 n21 hm hS6 hS.len hat.at_ (by omega) hway hrest).mono ?_
    rintro y e10 st10 ⟨rfl, l10, hold, hlen, gr, g20⟩
    dsimp only
    refine (c34_run hP l10).mono ?_
    rintro y e11 st11 ⟨rfl, rfl, l11, g4⟩
    exact ⟨rfl, l11, hold, hlen, .inr ⟨_, gr, g4.trans g20, rfl⟩⟩
end
end Go.Vam

set_option linter.unusedSimpArgs false
set_option linter.unusedVariables false
set_option maxRecDepth 100000
namespace Go.Vam
open Go.Proofs Go.RowKit

def decRow : List D → Option (List UInt8)
  | [.str s] => some s
  | _ => none
def decRows : List (List D) → Option (List (List UInt8))
  | [] => some []
  | r :: l => match decRow r, decRows l with
    | some x, some xs => some (x :: xs)
    | _, _ => none
def decNet : List (D × D) → Option Net
  | [] => some []
  | (.str n, .sl rows .none) :: l => match decRows rows, decNet l with
    | some ns, some all => some ((n, ns) :: all)
    | _, _ => none
  | _ => none

theorem decRow_eq {r : List D} {x : List UInt8} (h : decRow r = some x) : r = [.str x] := by
  unfold decRow at h
  split at h
  · cases h; rfl
  · cases h
theorem decRows_eq : ∀ {rows : List (List D)} {ns : List (List UInt8)}, decRows rows = some ns → rows = rowsN ns
  | [], ns, h => by cases h; rfl
  | r :: l, ns, h => by
    unfold decRows at h
    split at h
    · rename_i x xs h1 h2
      cases h
      rw [decRow_eq h1, decRows_eq h2]
      rfl
    · cases h
theorem decNet_eq : ∀ {es : List (D × D)} {all : Net}, decNet es = some all → es = encN all
  | [], all, h => by cases h; rfl
  | p :: l, all, h => by
    unfold decNet at h
    split at h
    · rename_i heq
      cases heq
    · rename_i n rows l' heq
      cases heq
      split at h
      · rename_i ns all' h1 h2
        cases h
        rw [decNet_eq h2, decRows_eq h1]
        rfl
      · cases h
    · cases h

theorem arr_twoB {α : Type} {A : Array α} (h : A.size = 2) : ∃ x y, A = #[x, y] := by
  refine ⟨A[0], A[1], ?_⟩
  apply Array.ext_getElem?
  intro j
  match j with
  | 0 => simp
  | 1 => simp
  | j + 2 => rw [Array.getElem?_eq_none (by omega)]; rfl
theorem ref_rowsN (n : Nat) (l : List (List UInt8)) : refLL n (rowsN l) = false := by
  rw [refLL_iff]
  intro i r j d hi hj
  rw [rowsN, List.getElem?_map] at hi
  cases hl : l[i]? with
  | none => rw [hl] at hi; cases hi
  | some x =>
    rw [hl] at hi
    cases hi
    match j with
    | 0 => cases hj; rfl
    | j + 1 => simp at hj
theorem sl_weak {g : G} {rows : List (List D)} {gr : Gr} {x : Value} (h : VR g (.sl rows gr) x) : VR g (.sl rows .none) x := by
  cases h with
  | slNil h => exact .slNil (fun _ _ h => by cases h)
  | sl hsz hI hv hcap hgr => exact .sl hsz hI hv hcap trivial

/-- check.back. -/
def backP (all : Net) (src : List UInt8) : Option D := match farP all (all.length + 2) [(src, 0)], getN src all with
  | some far, some ns =>
    if decide (all.length < 2 ^ 30) && all.all (fun p => decide (p.2.length < 2 ^ 30)) then
      match ns.foldl (stepB (getF · far)) none with
      | none => some .nilsl
      | some q => match wayP all (getF · far) q src with
        | some rest => if rest.length < 2 ^ 29 then some (.sl (rowsN (src :: rest)) .none) else none
        | none => none
    else none
  | _, _ => none
def natBack : Native := fun _ args st => match args with
  | [.map m, .str src] => match st[m]? with
    | some (.map es) => match decNet es with
      | some all => match backP all src with
        | some v => some (v, st, [])
        | none => none
      | none => none
    | _ => none
  | _ => none

theorem natBack_keeps (cf : CallF) : Keeps (natBack cf) := by
  intro args st v st' W h
  unfold natBack at h
  split at h
  · split at h
    · split at h
      · split at h
        · cases h
          exact ⟨Nat.le_refl _, fun _ _ _ => rfl⟩
        · cases h
      · cases h
    · cases h
  · cases h

theorem ordsIn_none : ∀ (c : Code), OrdsIn (fun _ => none) c := by
  intro c
  induction c with
  | region id ops d => exact fun _ => ⟨fun l h => (by cases h), fun l h => (by cases h)⟩
  | seq a b iha ihb => exact ⟨iha, ihb⟩
  | cond c a b iha ihb => exact ⟨iha, ihb⟩
  | block id b ih => exact ih
  | loop b ih => exact ih
  | _ => exact trivial

noncomputable def cfB (n : Nat) : CallF := callN C0 (fun _ => none) (2 ^ 30) n

theorem ctxB {β : Nat → Nat → Option Value} {C : Cfg} {cf : CallF} (hP : C.P = Tryz.prog) (hX : Ctx C cf β) (n : Nat) : Ctx C0 (cfB n) β :=
  callN_sound (C := C0) (by have := hX.count; rw [hP] at this; exact this) (fun f x h => by cases h) (fun f fn c _ _ => ordsIn_none c) (by have := hX.mixed; rw [hP] at this; exact this) ⟨fun f nt h => (by cases h), fun f nt h => (by cases h)⟩ (2 ^ 30) n

theorem index_cfB (st : St) (c b f : Nat) (far : Far) (q : Nat) (x : List UInt8) (hc : st[c]? = some (.cells [.map f])) (hf : st[f]? = some (.map (encF far))) (hb : st[b]? = some (.cells [encB (some q)])) (ns : List (List UInt8)) (hns : ns.length < 2 ^ 30) (i : Nat) (hi : ns.findIdx? (fun x => getF x far == some q) = some i) :
    cfB 2 149 [.sl (rowsN ns) .none, .func 189 [] [.ptr c 0, .ptr b 0]] st = some (.int .i64 (i : Nat), st, []) := by
  unfold cfB
  rw [callN_succ rfl]
  refine index149 ns hns (by omega) rfl (by kernel_rfl) (p := fun x => getF x far == some q) (fun y hy => ?_) hi
  rw [callN_succ rfl]
  exact clo189 y hc hf hb

theorem natBack_just {C : Cfg} (hP : C.P = Tryz.prog) {β : Nat → Nat → Option Value} (cf : CallF) (hX : Ctx C cf β) : Just Tryz.prog β 134 (natBack cf) := by
  intro args st v st' W h g w A hb hs hA
  unfold natBack at h
  split at h
  case h_2 => cases h
  rename_i m src
  split at h
  case h_2 => cases h
  rename_i es hst
  split at h
  case h_2 => cases h
  rename_i all hnet
  split at h
  case h_2 => cases h
  rename_i v0 hback
  cases h
  cases decNet_eq hnet
  unfold backP at hback
  split at hback
  case h_2 => cases hback
  rename_i far0 ns hfar hns
  split at hback
  case isFalse => cases hback
  rename_i hlim
  rw [Bool.and_eq_true] at hlim
  obtain ⟨hsz, hnl⟩ := hlim
  have hsz : all.length < 2 ^ 30 := by simpa using hsz
  have hnl : ∀ p ∈ all, p.2.length < 2 ^ 30 := by simpa using hnl
  obtain ⟨hg0, hc0⟩ := farP_good _ _ _ (good_start rfl) hfar
  obtain ⟨va, vb, rfl⟩ := arr_twoB (A := A) (by simpa using hA.size)
  have hva : VR g (.map m) va := hA.at_ 0 _ _ rfl rfl
  cases hva with
  | map hls =>
  rename_i cm
  refine calls_of_wp Tryz.func134 code134 ?_
  have hntm : Tryz.f134.ntmps = 119 := by kernel_rfl
  rw [hntm]
  generalize ha0 : ({ tmps := #[.map (some cm), vb] ++ Array.replicate (119 - (#[Value.map (some cm), vb] : Array Value).size) undef, defers := [] } : Act) = a0
  have hE : VRs g ([D.map m, .str src] ++ List.replicate 117 .undef) a0.tmps := by
    rw [← ha0]
    refine hA.append ⟨by simp, fun j d x hj hx => ?_⟩
    rw [List.getElem?_replicate] at hj
    split at hj
    · cases hj; exact .undef x
    · cases hj
  have hd0 : a0.defers = [] := by rw [← ha0]
  clear ha0
  have hS := At.start hs hE
  rw [hd0] at hS
  have hX0 := ctxB hP hX 2
  have hP0 : C0.P = Tryz.prog := rfl
  rw [← hP0]
  refine wp_seq (wp_of_exw hX0 hb (ordsIn_none _) hS (pre0_134 (N := 0) (hh := false) (Pw := fun id => st.length ≤ id) hP0 rfl) ?_)
  rintro x e1 st1 W1 a1 w1 g1 hA1 hW1 ⟨rfl, l1, p0, p1, p28, rfl⟩
  show Code.wp _ _ _ _ _
  refine wp_seq (wp_of_exw hX0 hb (ordsIn_none _) hA1 (pre1_134 (N := 0) (hh := false) hP0 l1 p0 p1 p28) ?_)
  rintro x e2 st2 W2 a2 w2 g2 hA2 hW2 ⟨rfl, l2, q0, q1, q28, q5, hS2⟩
  show Code.wp _ _ _ _ _
  refine wp_seq (wp_seq (wp_of_exw hX0 hb (ordsIn_none _) hA2 (pre2_134 (N := 0) (hh := false) (Pw := fun id => st1.length ≤ id) hP0 l2 q0 q1 q28 q5) ?_))
  rintro x e3 st3 W3 a3 w3 g3 hA3 hW3 ⟨rfl, hE3, rfl⟩
  have hWold : ∀ id ∈ W3, st1.length ≤ id := fun i hid => (hW3 i hid).elim (fun h => (hW2 i h).elim (fun h => (hW1 i h).elim (fun h => by cases h) id) id) id
  show Code.wp _ _ _ _ _
  refine wp_block (wp_of_loopAt ?_)
  refine outer134 hP0 hX0 hb (all := all) (src := src) (by omega) (fun p hp => by have := hnl p hp; omega) hst (f := st1.length) (c := st1.length + 1) (Nat.le_refl _) (by omega) (by omega) hls ?_ _ [(src, 0)] true e3 st3 W3 a3 w3 g3 .undef rfl (good_start rfl) (fun h => by cases h) hE3 hS2 hWold hA3
  rintro far e4 st4 W4 a4 w4 g4 idR hg hc hE4 hS4 hW4 hA4
  show Code.wp _ _ _ _ _
  have hlook : (getF · far) = (getF · far0) := funext fun n => look_eq hg hc hg0 hc0 n
  refine wp_of_exw hX0 hb (ordsIn_none _) hA4 (tail_run (N := 2 ^ 30) index_cfB hsz hnl (Nat.le_refl _) hE4 hst hS4 hg hns (v := v) ?_) ?_
  · rw [hlook]
    split at hback
    · rename_i hbest
      cases hback
      exact .inl ⟨hbest, rfl⟩
    · rename_i q hbest
      split at hback
      · rename_i rest hway
        split at hback
        · rename_i hlt
          cases hback
          exact .inr ⟨q, rest, hbest, hway, hlt, rfl⟩
        · cases hback
      · cases hback
  rintro x e5 st5 W5 a5 w5 g5 hA5 hW5 ⟨rfl, l5, hold, hlen, hres⟩
  have hWn : ∀ id ∈ W5, st1.length ≤ id := fun i hid => (hW5 i hid).elim (hW4 i) id
  have hst5 : st5.take st1.length = st1 := by
    apply List.ext_getElem?
    intro i
    rw [List.getElem?_take]
    split
    · rename_i hi
      exact hold i hi
    · rename_i hi
      rw [List.getElem?_eq_none (by omega)]
  have hfil : W5.filter (· < st1.length) = [] := by
    rw [List.filter_eq_nil_iff]
    intro id hid
    have := hWn id hid
    simp
    omega
  have hrv : refD st1.length v = false := by
    rcases hres with h | ⟨rows, gr, h, rfl⟩
    · split at hback
      · cases hback; rfl
      · split at hback
        · split at hback
          · cases hback
            exact ref_rowsN _ _
          · cases hback
        · cases hback
    · split at hback
      · cases hback
      · split at hback
        · split at hback
          · cases hback
            exact ref_rowsN _ _
          · cases hback
        · cases hback
  have hfin : finish st1.length v st5 W5 = some (v, st1, []) := by
    rw [finish_scal hrv hfil, hst5]
  have hr4 : resOf Tryz.prog e5 st5 Tryz.f134.results.toList = some [e5.getD 4 .undef] := by
    have : Tryz.f134.results.toList = [.tmp 4] := by kernel_rfl
    rw [this]
    rfl
  obtain ⟨B, h1, h2⟩ := results_run (P := Tryz.prog) hA5.sim hA5.env hr4
  have h3 := oneOf_VR h2
  have hv5 : VR g5 v (if h : B.toArray.size = 1 then B.toArray[0] else .tuple B.toArray) := by
    rcases hres with h | ⟨rows, gr, h, rfl⟩
    · rw [h] at h3
      exact h3
    · rw [h] at h3
      exact sl_weak h3
  obtain ⟨g3, h4, h5, h6, h7⟩ := finish_sound hfin hs hA5.sim hA5.step hA5.free hA5.k hv5
  exact ⟨hA5.defers, _, h1, _, g3, rfl, h4, h5, h6, h7⟩
end Go.Vam
