/-
  AskDeep: its run.
-/
import Derived.Test.YtcdogmjbnlmgeaaGreatDoorVbb
set_option linter.unusedSimpArgs false
set_option linter.unusedVariables false
set_option maxRecDepth 1000000
namespace Go.Vam
open Go.Proofs Go.RowKit

section
variable {cf : CallF} {N : Nat}

theorem heads41 {k : Nat} (hk : k < 4) : indexAddrD Tryz.prog 41 (.sl [[.str [100, 101, 112, 115, 40]], [.str [114, 100, 101, 112, 115, 40]], [.str [40]], [.str [108, 101, 116, 32, 97, 32, 61, 32, 120, 32, 105, 110, 32]]] .exact) (.int .i64 (k : Int)) = some (.eptr [.str (headD k)], .pure) := by
  have : k = 0 ∨ k = 1 ∨ k = 2 ∨ k = 3 := by omega
  rcases this with rfl | rfl | rfl | rfl <;> exact ia41 rfl
theorem tails41 {k : Nat} (hk : k < 4) : indexAddrD Tryz.prog 41 (.sl [[.str [41]], [.str [41]], [.str [41]], [.str []]] .exact) (.int .i64 (k : Int)) = some (.eptr [.str (tailD k)], .pure) := by
  have : k = 0 ∨ k = 1 ∨ k = 2 ∨ k = 3 := by omega
  rcases this with rfl | rfl | rfl | rfl <;> exact ia41 rfl

theorem bs41 {o : Oper} {ρ : Operand → D} {st : St} {parts : Array (Nat × Operand)} {a b c d : List UInt8} (ho : o.op = .buildSlice 41 4 parts) (hp : parts.toList.map (fun p => (p.1, ρ p.2)) = [(0, .str a), (1, .str b), (2, .str c), (3, .str d)]) :
    stepQ Tryz.prog false o ρ st = some (.sl [[.str a], [.str b], [.str c], [.str d]] .exact, .rd []) := by
  have h1 : sliceElem Tryz.prog 41 = some 9 := by kernel_rfl
  have h2 : zeroOf Tryz.prog 9 = some [.str []] := by kernel_rfl
  have h3 : (parts.toList.flatMap fun p => arrIds (ρ p.2)) = [] := by
    have : (parts.toList.flatMap fun p => arrIds (ρ p.2)) = (parts.toList.map (fun p => (p.1, ρ p.2))).flatMap fun p => arrIds p.2 := by
      rw [List.flatMap_map]
    rw [this, hp]
    rfl
  unfold stepQ
  rw [ho]
  dsimp only
  rw [h1]
  dsimp only
  rw [size9, h2, hp, h3]
  rfl

set_option maxHeartbeats 8000000 in
theorem head6 (hN : 50 ≤ N) {k n : Nat} (hk : k < 4) (hn : n < 40) {x y : Int} (hx : (x % 40).toNat = n) (hy : (y % 4).toNat = k) {cs : List D} (hcs : cs.length = 7) (hok : cs.all cellOk = true) (h12 : cf 12 [.str (textD k n)] [] = some (.tup [.agg cs, errD (mostD k n)], [], []))
    (h9 : cf 9 [] [] = some (.bool true, [], [])) {e : Env} (hl : e.length = 69) (e0 : e.getD 0 .undef = .int .i64 x) (e1 : e.getD 1 .undef = .int .i64 y) :
    ExW C1 false cf N (fun id => 0 ≤ id) (strip (H6 T6)) e [] (fun y e' st' => y = .ret ∧ e'.getD 4 .undef = .bool true) := by
  have hP : C1.P = Tryz.prog := rfl
  have htail : ∀ {e : Env}, e.length = 69 → e.getD 0 .undef = .int .i64 (n : Nat) → e.getD 1 .undef = .int .i64 y → e.getD 8 .undef = .str (textD k n) →
      ExW C1 false cf N (fun id => 0 ≤ id) (strip T6) e [] (fun y e' st' => y = .ret ∧ e'.getD 4 .undef = .bool true) := fun h1 h2 h3 h4 => tail6 hk hn hy hcs hok h12 h1 h2 h3 h4
  obtain ⟨T, hT⟩ : ∃ T, T = T6 := ⟨_, rfl⟩
  rw [← hT] at htail ⊢
  obtain ⟨code, hcode⟩ : ∃ code, code = strip (H6 T) := ⟨_, rfl⟩
  rw [← hcode]
  simp only [H6, b6, undraw, Tryz.f6, loopsOf, Option.getD, List.append, List.getD, List.getElem?_cons_succ, List.getElem?_cons_zero, HAppend.hAppend, Append.append, strip, stripO, List.map_toArray, List.map_cons, List.map_nil] at hcode
  subst hcode
  obtain ⟨p1, p2⟩ := rem_posQ x 40 (by omega) (by omega)
  rw [hx] at p2
  obtain ⟨q1, q2⟩ := rem_posQ y 4 (by omega) (by omega)
  rw [hy] at q2
  have hbody : hasBody Tryz.prog 9 = true := by kernel_rfl
  have hb9 : C1.byRef.contains 9 = false := rfl
  have hup : callD C1 cf 9 [] [] [] [] = some (.bool true, [], []) := by
    unfold callD
    rw [hP, hbody, hb9]
    have h4 : frzArgs [] [] = some ([], []) := rfl
    simp only [Bool.not_true, Bool.false_eq_true, if_false, h4, List.nil_append, List.append_nil, h9]
    rfl
  have i1 := heads41 hk
  have i2 := tails41 hk
  repeat (first
    | (refine opsf_q rfl (want_0 rfl) rfl (bs41 rfl rfl) ?_)
    | refine exw_seq ?_ | refine exw_block ?_ | refine exw_regf ?_ | refine exw_skip ?_ | refine exw_exit ?_ | refine exw_ret ?_
    | refine opsf_q rfl (want_0 rfl) rfl (by simp only [stepQ, ev, putD, ofConst, ofScalar, binD, unD, hP, pureSem, Op.intCmp, Op.intArith, getD_set, List.length_set, ↓reduceIte, Nat.reduceEqDiff, Nat.reduceLT, decide_true, decide_false, Bool.true_and, Bool.and_true, Bool.not_true, Bool.not_false, Option.map_some, List.getElem?_cons_zero, List.getElem?_cons_succ, builtinQ, List.map_cons, List.map_nil, hl, e0, e1, p1, p2, q1, q2, i1, i2, ld9]; rfl) ?_
    | (refine opsf_q rfl (want_g rfl rfl rfl ?_) rfl (by simp only [stepQ, ev, putD, ofConst, ofScalar, binD, unD, hP, pureSem, Op.intCmp, Op.intArith, getD_set, List.length_set, ↓reduceIte, Nat.reduceEqDiff, Nat.reduceLT, decide_true, decide_false, Bool.true_and, Bool.and_true, Bool.not_true, Bool.not_false, Option.map_some, List.getElem?_cons_zero, List.getElem?_cons_succ, builtinQ, List.map_cons, List.map_nil, hl, e0, e1, p1, p2, q1, q2, i1, i2, ld9]; rfl) ?_; focus (simp only [stepQ, ev, putD, ofConst, ofScalar, binD, unD, hP, pureSem, Op.intCmp, Op.intArith, getD_set, List.length_set, ↓reduceIte, Nat.reduceEqDiff, Nat.reduceLT, decide_true, decide_false, Bool.true_and, Bool.and_true, Bool.not_true, Bool.not_false, Option.map_some, List.getElem?_cons_zero, List.getElem?_cons_succ, builtinQ, List.map_cons, List.map_nil, hl, e0, e1, p1, p2, q1, q2, i1, i2, ld9]; done))
    | (refine opsf_no rfl (want_f rfl rfl rfl ?_) ?_; focus (simp only [stepQ, ev, putD, ofConst, ofScalar, binD, unD, hP, pureSem, Op.intCmp, Op.intArith, getD_set, List.length_set, ↓reduceIte, Nat.reduceEqDiff, Nat.reduceLT, decide_true, decide_false, Bool.true_and, Bool.and_true, Bool.not_true, Bool.not_false, Option.map_some, List.getElem?_cons_zero, List.getElem?_cons_succ, builtinQ, List.map_cons, List.map_nil, hl, e0, e1, p1, p2, q1, q2, i1, i2, ld9]; done))
    | (refine opsf_no rfl (want_n rfl rfl rfl ?_) ?_; focus (simp only [stepQ, ev, putD, ofConst, ofScalar, binD, unD, hP, pureSem, Op.intCmp, Op.intArith, getD_set, List.length_set, ↓reduceIte, Nat.reduceEqDiff, Nat.reduceLT, decide_true, decide_false, Bool.true_and, Bool.and_true, Bool.not_true, Bool.not_false, Option.map_some, List.getElem?_cons_zero, List.getElem?_cons_succ, builtinQ, List.map_cons, List.map_nil, hl, e0, e1, p1, p2, q1, q2, i1, i2, ld9]; done))
    | refine opsf_l rfl (want_0 rfl) rfl (by simp only [stepL, stepQ, ev, putD, ofConst, ofScalar, binD, unD, hP, pureSem, Op.intCmp, Op.intArith, getD_set, List.length_set, ↓reduceIte, Nat.reduceEqDiff, Nat.reduceLT, decide_true, decide_false, Bool.true_and, Bool.and_true, Bool.not_true, Bool.not_false, Option.map_some, List.getElem?_cons_zero, List.getElem?_cons_succ, builtinQ, List.map_cons, List.map_nil, hl, e0, e1, p1, p2, q1, q2, i1, i2, ld9]; first | exact hup | exact hup2 | exact hup3 | exact hup4 | exact hup5 | exact hup6 | exact hup7 | rfl) (by first | exact hupV | exact hV2 | exact hV | (simp; done)) ?_
    | refine opsf_a rfl (want_0 rfl) rfl (by simp only [stepQ, ev, putD, ofConst, ofScalar, binD, unD, hP, pureSem, Op.intCmp, Op.intArith, getD_set, List.length_set, ↓reduceIte, Nat.reduceEqDiff, Nat.reduceLT, decide_true, decide_false, Bool.true_and, Bool.and_true, Bool.not_true, Bool.not_false, Option.map_some, List.getElem?_cons_zero, List.getElem?_cons_succ, builtinQ, List.map_cons, List.map_nil, hl, e0, e1, p1, p2, q1, q2, i1, i2, ld9]; rfl) ?_
    | refine opsf_nil (by decide) ?_
    | (refine exw_true ?_ ?_; focus (simp only [stepQ, ev, putD, ofConst, ofScalar, binD, unD, hP, pureSem, Op.intCmp, Op.intArith, getD_set, List.length_set, ↓reduceIte, Nat.reduceEqDiff, Nat.reduceLT, decide_true, decide_false, Bool.true_and, Bool.and_true, Bool.not_true, Bool.not_false, Option.map_some, List.getElem?_cons_zero, List.getElem?_cons_succ, builtinQ, List.map_cons, List.map_nil, hl, e0, e1, p1, p2, q1, q2, i1, i2, ld9]; done))
    | (refine exw_false ?_ ?_; focus (simp only [stepQ, ev, putD, ofConst, ofScalar, binD, unD, hP, pureSem, Op.intCmp, Op.intArith, getD_set, List.length_set, ↓reduceIte, Nat.reduceEqDiff, Nat.reduceLT, decide_true, decide_false, Bool.true_and, Bool.and_true, Bool.not_true, Bool.not_false, Option.map_some, List.getElem?_cons_zero, List.getElem?_cons_succ, builtinQ, List.map_cons, List.map_nil, hl, e0, e1, p1, p2, q1, q2, i1, i2, ld9]; done))
    | dsimp only)
  refine exw_loop (fun m e' st' => ∃ i, i + m = n ∧ st' = [] ∧ e'.length = 69 ∧ e'.getD 0 .undef = .int .i64 (n : Nat) ∧ e'.getD 1 .undef = .int .i64 y ∧ e'.getD 6 .undef = .str (headD k) ∧ e'.getD 7 .undef = .str (tailD k) ∧ e'.getD 8 .undef = .str (textD k i) ∧ e'.getD 9 .undef = .int .i64 (i : Nat)) n (by omega) ⟨0, by omega, rfl, by simp only [putD, List.length_set]; exact hl, ?_, ?_, ?_, ?_, ?_, ?_⟩ ?_
  · simp only [stepQ, ev, putD, ofConst, ofScalar, binD, unD, hP, pureSem, Op.intCmp, Op.intArith, getD_set, List.length_set, ↓reduceIte, Nat.reduceEqDiff, Nat.reduceLT, decide_true, decide_false, Bool.true_and, Bool.and_true, Bool.not_true, Bool.not_false, Option.map_some, List.getElem?_cons_zero, List.getElem?_cons_succ, builtinQ, List.map_cons, List.map_nil, hl, e0, e1, e1]
  · simp only [stepQ, ev, putD, ofConst, ofScalar, binD, unD, hP, pureSem, Op.intCmp, Op.intArith, getD_set, List.length_set, ↓reduceIte, Nat.reduceEqDiff, Nat.reduceLT, decide_true, decide_false, Bool.true_and, Bool.and_true, Bool.not_true, Bool.not_false, Option.map_some, List.getElem?_cons_zero, List.getElem?_cons_succ, builtinQ, List.map_cons, List.map_nil, hl, e0, e1, e1]
  · simp only [stepQ, ev, putD, ofConst, ofScalar, binD, unD, hP, pureSem, Op.intCmp, Op.intArith, getD_set, List.length_set, ↓reduceIte, Nat.reduceEqDiff, Nat.reduceLT, decide_true, decide_false, Bool.true_and, Bool.and_true, Bool.not_true, Bool.not_false, Option.map_some, List.getElem?_cons_zero, List.getElem?_cons_succ, builtinQ, List.map_cons, List.map_nil, hl, e0, e1, e1]
  · simp only [stepQ, ev, putD, ofConst, ofScalar, binD, unD, hP, pureSem, Op.intCmp, Op.intArith, getD_set, List.length_set, ↓reduceIte, Nat.reduceEqDiff, Nat.reduceLT, decide_true, decide_false, Bool.true_and, Bool.and_true, Bool.not_true, Bool.not_false, Option.map_some, List.getElem?_cons_zero, List.getElem?_cons_succ, builtinQ, List.map_cons, List.map_nil, hl, e0, e1, e1]
  · simp only [stepQ, ev, putD, ofConst, ofScalar, binD, unD, hP, pureSem, Op.intCmp, Op.intArith, getD_set, List.length_set, ↓reduceIte, Nat.reduceEqDiff, Nat.reduceLT, decide_true, decide_false, Bool.true_and, Bool.and_true, Bool.not_true, Bool.not_false, Option.map_some, List.getElem?_cons_zero, List.getElem?_cons_succ, builtinQ, List.map_cons, List.map_nil, hl, e0, e1, textD]
  · simp only [stepQ, ev, putD, ofConst, ofScalar, binD, unD, hP, pureSem, Op.intCmp, Op.intArith, getD_set, List.length_set, ↓reduceIte, Nat.reduceEqDiff, Nat.reduceLT, decide_true, decide_false, Bool.true_and, Bool.and_true, Bool.not_true, Bool.not_false, Option.map_some, List.getElem?_cons_zero, List.getElem?_cons_succ, builtinQ, List.map_cons, List.map_nil, hl, e0, e1]; rfl
  rintro m e2 st2 ⟨i, him, rfl, l2, a0, a1, a6, a7, a8, a9⟩
  clear hl e0 e1 i1 i2
  have hlen := textD_len k i
  have hh : (headD k).length ≤ 13 := by
    unfold headD
    split <;> simp
  have ht : (tailD k).length ≤ 1 := by
    unfold tailD
    split <;> simp
  by_cases hi : i < n
  · have dlt : decide ((i : Int) < (n : Int)) = true := decide_eq_true (by omega)
    have hs1 : strOp .add (headD k) (textD k i) = some (.str (headD k ++ textD k i)) := by
      unfold strOp
      dsimp only
      rw [if_pos (by omega)]
    have hs2 : strOp .add (headD k ++ textD k i) (tailD k) = some (.str (headD k ++ textD k i ++ tailD k)) := by
      unfold strOp
      dsimp only
      rw [if_pos (by rw [List.length_append]; omega)]
    have hw1 : IntKind.wrap .i64 ((i : Int) + 1) = ((i + 1 : Nat) : Int) := natAdd1 i (by omega)
    repeat (first
      | refine exw_seq ?_ | refine exw_block ?_ | refine exw_regf ?_ | refine exw_skip ?_ | refine exw_exit ?_ | refine exw_ret ?_
      | refine opsf_q rfl (want_0 rfl) rfl (by simp only [stepQ, ev, putD, ofConst, ofScalar, binD, unD, hP, pureSem, Op.intCmp, Op.intArith, getD_set, List.length_set, ↓reduceIte, Nat.reduceEqDiff, Nat.reduceLT, decide_true, decide_false, Bool.true_and, Bool.and_true, Bool.not_true, Bool.not_false, Option.map_some, List.getElem?_cons_zero, List.getElem?_cons_succ, builtinQ, List.map_cons, List.map_nil, l2, a0, a1, a6, a7, a8, a9, dlt, hs1, hs2, hw1]; rfl) ?_
      | (refine opsf_q rfl (want_g rfl rfl rfl ?_) rfl (by simp only [stepQ, ev, putD, ofConst, ofScalar, binD, unD, hP, pureSem, Op.intCmp, Op.intArith, getD_set, List.length_set, ↓reduceIte, Nat.reduceEqDiff, Nat.reduceLT, decide_true, decide_false, Bool.true_and, Bool.and_true, Bool.not_true, Bool.not_false, Option.map_some, List.getElem?_cons_zero, List.getElem?_cons_succ, builtinQ, List.map_cons, List.map_nil, l2, a0, a1, a6, a7, a8, a9, dlt, hs1, hs2, hw1]; rfl) ?_; focus (simp only [stepQ, ev, putD, ofConst, ofScalar, binD, unD, hP, pureSem, Op.intCmp, Op.intArith, getD_set, List.length_set, ↓reduceIte, Nat.reduceEqDiff, Nat.reduceLT, decide_true, decide_false, Bool.true_and, Bool.and_true, Bool.not_true, Bool.not_false, Option.map_some, List.getElem?_cons_zero, List.getElem?_cons_succ, builtinQ, List.map_cons, List.map_nil, l2, a0, a1, a6, a7, a8, a9, dlt, hs1, hs2, hw1]; done))
      | (refine opsf_no rfl (want_f rfl rfl rfl ?_) ?_; focus (simp only [stepQ, ev, putD, ofConst, ofScalar, binD, unD, hP, pureSem, Op.intCmp, Op.intArith, getD_set, List.length_set, ↓reduceIte, Nat.reduceEqDiff, Nat.reduceLT, decide_true, decide_false, Bool.true_and, Bool.and_true, Bool.not_true, Bool.not_false, Option.map_some, List.getElem?_cons_zero, List.getElem?_cons_succ, builtinQ, List.map_cons, List.map_nil, l2, a0, a1, a6, a7, a8, a9, dlt, hs1, hs2, hw1]; done))
      | (refine opsf_no rfl (want_n rfl rfl rfl ?_) ?_; focus (simp only [stepQ, ev, putD, ofConst, ofScalar, binD, unD, hP, pureSem, Op.intCmp, Op.intArith, getD_set, List.length_set, ↓reduceIte, Nat.reduceEqDiff, Nat.reduceLT, decide_true, decide_false, Bool.true_and, Bool.and_true, Bool.not_true, Bool.not_false, Option.map_some, List.getElem?_cons_zero, List.getElem?_cons_succ, builtinQ, List.map_cons, List.map_nil, l2, a0, a1, a6, a7, a8, a9, dlt, hs1, hs2, hw1]; done))
      | refine opsf_l rfl (want_0 rfl) rfl (by simp only [stepL, stepQ, ev, putD, ofConst, ofScalar, binD, unD, hP, pureSem, Op.intCmp, Op.intArith, getD_set, List.length_set, ↓reduceIte, Nat.reduceEqDiff, Nat.reduceLT, decide_true, decide_false, Bool.true_and, Bool.and_true, Bool.not_true, Bool.not_false, Option.map_some, List.getElem?_cons_zero, List.getElem?_cons_succ, builtinQ, List.map_cons, List.map_nil, l2, a0, a1, a6, a7, a8, a9, dlt, hs1, hs2, hw1]; first | exact hup | exact hup2 | exact hup3 | exact hup4 | exact hup5 | exact hup6 | exact hup7 | rfl) (by first | exact hupV | exact hV2 | exact hV | (simp; done)) ?_
      | refine opsf_a rfl (want_0 rfl) rfl (by simp only [stepQ, ev, putD, ofConst, ofScalar, binD, unD, hP, pureSem, Op.intCmp, Op.intArith, getD_set, List.length_set, ↓reduceIte, Nat.reduceEqDiff, Nat.reduceLT, decide_true, decide_false, Bool.true_and, Bool.and_true, Bool.not_true, Bool.not_false, Option.map_some, List.getElem?_cons_zero, List.getElem?_cons_succ, builtinQ, List.map_cons, List.map_nil, l2, a0, a1, a6, a7, a8, a9, dlt, hs1, hs2, hw1]; rfl) ?_
      | refine opsf_nil (by decide) ?_
      | (refine exw_true ?_ ?_; focus (simp only [stepQ, ev, putD, ofConst, ofScalar, binD, unD, hP, pureSem, Op.intCmp, Op.intArith, getD_set, List.length_set, ↓reduceIte, Nat.reduceEqDiff, Nat.reduceLT, decide_true, decide_false, Bool.true_and, Bool.and_true, Bool.not_true, Bool.not_false, Option.map_some, List.getElem?_cons_zero, List.getElem?_cons_succ, builtinQ, List.map_cons, List.map_nil, l2, a0, a1, a6, a7, a8, a9, dlt, hs1, hs2, hw1]; done))
      | (refine exw_false ?_ ?_; focus (simp only [stepQ, ev, putD, ofConst, ofScalar, binD, unD, hP, pureSem, Op.intCmp, Op.intArith, getD_set, List.length_set, ↓reduceIte, Nat.reduceEqDiff, Nat.reduceLT, decide_true, decide_false, Bool.true_and, Bool.and_true, Bool.not_true, Bool.not_false, Option.map_some, List.getElem?_cons_zero, List.getElem?_cons_succ, builtinQ, List.map_cons, List.map_nil, l2, a0, a1, a6, a7, a8, a9, dlt, hs1, hs2, hw1]; done))
      | dsimp only)
    refine ⟨m - 1, by omega, i + 1, by omega, rfl, by simp only [putD, List.length_set]; exact l2, ?_, ?_, ?_, ?_, ?_, ?_⟩
    all_goals simp only [stepQ, ev, putD, ofConst, ofScalar, binD, unD, hP, pureSem, Op.intCmp, Op.intArith, getD_set, List.length_set, ↓reduceIte, Nat.reduceEqDiff, Nat.reduceLT, decide_true, decide_false, Bool.true_and, Bool.and_true, Bool.not_true, Bool.not_false, Option.map_some, List.getElem?_cons_zero, List.getElem?_cons_succ, builtinQ, List.map_cons, List.map_nil, l2, a0, a1, a6, a7, a8, a9, textD]
  · have hin : i = n := by omega
    subst hin
    have dlt : decide ((i : Int) < (i : Int)) = false := decide_eq_false (by omega)
    repeat (first
      | refine exw_seq ?_ | refine exw_block ?_ | refine exw_regf ?_ | refine exw_skip ?_ | refine exw_exit ?_ | refine exw_ret ?_
      | refine opsf_q rfl (want_0 rfl) rfl (by simp only [stepQ, ev, putD, ofConst, ofScalar, binD, unD, hP, pureSem, Op.intCmp, Op.intArith, getD_set, List.length_set, ↓reduceIte, Nat.reduceEqDiff, Nat.reduceLT, decide_true, decide_false, Bool.true_and, Bool.and_true, Bool.not_true, Bool.not_false, Option.map_some, List.getElem?_cons_zero, List.getElem?_cons_succ, builtinQ, List.map_cons, List.map_nil, l2, a0, a1, a6, a7, a8, a9, dlt]; rfl) ?_
      | (refine opsf_q rfl (want_g rfl rfl rfl ?_) rfl (by simp only [stepQ, ev, putD, ofConst, ofScalar, binD, unD, hP, pureSem, Op.intCmp, Op.intArith, getD_set, List.length_set, ↓reduceIte, Nat.reduceEqDiff, Nat.reduceLT, decide_true, decide_false, Bool.true_and, Bool.and_true, Bool.not_true, Bool.not_false, Option.map_some, List.getElem?_cons_zero, List.getElem?_cons_succ, builtinQ, List.map_cons, List.map_nil, l2, a0, a1, a6, a7, a8, a9, dlt]; rfl) ?_; focus (simp only [stepQ, ev, putD, ofConst, ofScalar, binD, unD, hP, pureSem, Op.intCmp, Op.intArith, getD_set, List.length_set, ↓reduceIte, Nat.reduceEqDiff, Nat.reduceLT, decide_true, decide_false, Bool.true_and, Bool.and_true, Bool.not_true, Bool.not_false, Option.map_some, List.getElem?_cons_zero, List.getElem?_cons_succ, builtinQ, List.map_cons, List.map_nil, l2, a0, a1, a6, a7, a8, a9, dlt]; done))
      | (refine opsf_no rfl (want_f rfl rfl rfl ?_) ?_; focus (simp only [stepQ, ev, putD, ofConst, ofScalar, binD, unD, hP, pureSem, Op.intCmp, Op.intArith, getD_set, List.length_set, ↓reduceIte, Nat.reduceEqDiff, Nat.reduceLT, decide_true, decide_false, Bool.true_and, Bool.and_true, Bool.not_true, Bool.not_false, Option.map_some, List.getElem?_cons_zero, List.getElem?_cons_succ, builtinQ, List.map_cons, List.map_nil, l2, a0, a1, a6, a7, a8, a9, dlt]; done))
      | (refine opsf_no rfl (want_n rfl rfl rfl ?_) ?_; focus (simp only [stepQ, ev, putD, ofConst, ofScalar, binD, unD, hP, pureSem, Op.intCmp, Op.intArith, getD_set, List.length_set, ↓reduceIte, Nat.reduceEqDiff, Nat.reduceLT, decide_true, decide_false, Bool.true_and, Bool.and_true, Bool.not_true, Bool.not_false, Option.map_some, List.getElem?_cons_zero, List.getElem?_cons_succ, builtinQ, List.map_cons, List.map_nil, l2, a0, a1, a6, a7, a8, a9, dlt]; done))
      | refine opsf_l rfl (want_0 rfl) rfl (by simp only [stepL, stepQ, ev, putD, ofConst, ofScalar, binD, unD, hP, pureSem, Op.intCmp, Op.intArith, getD_set, List.length_set, ↓reduceIte, Nat.reduceEqDiff, Nat.reduceLT, decide_true, decide_false, Bool.true_and, Bool.and_true, Bool.not_true, Bool.not_false, Option.map_some, List.getElem?_cons_zero, List.getElem?_cons_succ, builtinQ, List.map_cons, List.map_nil, l2, a0, a1, a6, a7, a8, a9, dlt]; first | exact hup | exact hup2 | exact hup3 | exact hup4 | exact hup5 | exact hup6 | exact hup7 | rfl) (by first | exact hupV | exact hV2 | exact hV | (simp; done)) ?_
      | refine opsf_a rfl (want_0 rfl) rfl (by simp only [stepQ, ev, putD, ofConst, ofScalar, binD, unD, hP, pureSem, Op.intCmp, Op.intArith, getD_set, List.length_set, ↓reduceIte, Nat.reduceEqDiff, Nat.reduceLT, decide_true, decide_false, Bool.true_and, Bool.and_true, Bool.not_true, Bool.not_false, Option.map_some, List.getElem?_cons_zero, List.getElem?_cons_succ, builtinQ, List.map_cons, List.map_nil, l2, a0, a1, a6, a7, a8, a9, dlt]; rfl) ?_
      | refine opsf_nil (by decide) ?_
      | (refine exw_true ?_ ?_; focus (simp only [stepQ, ev, putD, ofConst, ofScalar, binD, unD, hP, pureSem, Op.intCmp, Op.intArith, getD_set, List.length_set, ↓reduceIte, Nat.reduceEqDiff, Nat.reduceLT, decide_true, decide_false, Bool.true_and, Bool.and_true, Bool.not_true, Bool.not_false, Option.map_some, List.getElem?_cons_zero, List.getElem?_cons_succ, builtinQ, List.map_cons, List.map_nil, l2, a0, a1, a6, a7, a8, a9, dlt]; done))
      | (refine exw_false ?_ ?_; focus (simp only [stepQ, ev, putD, ofConst, ofScalar, binD, unD, hP, pureSem, Op.intCmp, Op.intArith, getD_set, List.length_set, ↓reduceIte, Nat.reduceEqDiff, Nat.reduceLT, decide_true, decide_false, Bool.true_and, Bool.and_true, Bool.not_true, Bool.not_false, Option.map_some, List.getElem?_cons_zero, List.getElem?_cons_succ, builtinQ, List.map_cons, List.map_nil, l2, a0, a1, a6, a7, a8, a9, dlt]; done))
      | dsimp only)
    simp only [if_true]
    refine htail (by simp only [putD, List.length_set]; exact l2) ?_ ?_ ?_
    all_goals simp only [stepQ, ev, putD, ofConst, ofScalar, binD, unD, hP, pureSem, Op.intCmp, Op.intArith, getD_set, List.length_set, ↓reduceIte, Nat.reduceEqDiff, Nat.reduceLT, decide_true, decide_false, Bool.true_and, Bool.and_true, Bool.not_true, Bool.not_false, Option.map_some, List.getElem?_cons_zero, List.getElem?_cons_succ, builtinQ, List.map_cons, List.map_nil, l2, a0, a1, a6, a7, a8, a9]

/-- AskDeep's run. -/
theorem run6 (hN : 50 ≤ N) (h12 : ∀ k n, k < 4 → n < 40 → ∃ cs, cs.length = 7 ∧ cs.all cellOk = true ∧ cf 12 [.str (textD k n)] [] = some (.tup [.agg cs, errD (mostD k n)], [], []))
    (h9 : cf 9 [] [] = some (.bool true, [], [])) (x y : Int) : run C1 cf N 6 [.int .i64 x, .int .i64 y] [] = some (.bool true, [], []) := by
  have hx := Int.emod_nonneg x (show (40 : Int) ≠ 0 by decide)
  have hx2 := Int.emod_lt_of_pos x (show (0 : Int) < 40 by decide)
  have hy := Int.emod_nonneg y (show (4 : Int) ≠ 0 by decide)
  have hy2 := Int.emod_lt_of_pos y (show (0 : Int) < 4 by decide)
  obtain ⟨cs, h1, h2, h3⟩ := h12 (y % 4).toNat (x % 40).toNat (by omega) (by omega)
  refine run1_of_exw Tryz.func6 body6 rfl rfl rfl canU6 rfl (fun ds h => (by cases h)) (fun h => (by cases h)) ?_
  rw [code6]
  refine (exw_strip (head6 (cf := cf) hN (by omega) (by omega) rfl rfl h1 h2 h3 h9 rfl rfl rfl)).mono ?_
  rintro y e' st' ⟨rfl, h4⟩
  refine ⟨rfl, ?_, st', rfl⟩
  show resOf C1.P e' st' [.tmp 4] = _
  simp only [resOf, h4, Option.map_some]
end
end Go.Vam
