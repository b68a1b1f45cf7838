/-
  AskDeep: its run behind the loop.
-/
import Derived.Test.YtcdogmjbnlmgeaaGreatDoorVba
import Derived.Test.YtcdogmjbnlmgeaaGreatDoorVai
set_option linter.unusedSimpArgs false
set_option linter.unusedVariables false
set_option maxRecDepth 1000000
namespace Go.Vam
open Go.Proofs Go.RowKit

noncomputable def b6 : Code := match Tryz.f6.body with
  | some c => c
  | none => .skip
theorem body6 : Tryz.f6.body = some b6 := by kernel_rfl
theorem canU6 : canU (C1.ords 6) b6 = true := by kernel_rfl

theorem size29 : sizeT Tryz.prog 29 = some 7 := by kernel_rfl
theorem size32 : sizeT Tryz.prog 32 = some 2 := by kernel_rfl
theorem agg32 : aggT Tryz.prog 32 = true := by kernel_rfl
theorem und32 : (Tryz.prog.underlying 32).isSome = true := by kernel_rfl
theorem zero32 : zeroOf Tryz.prog 32 = some [.int .i64 0, .int .i64 0] := by kernel_rfl
theorem zero29 : ∃ z, zeroOf Tryz.prog 29 = some z ∧ z.length = 7 := by
  have h : (zeroOf Tryz.prog 29).map List.length = some 7 := by kernel_rfl
  exact Option.map_eq_some_iff.1 h
theorem build32 : buildD Tryz.prog 32 [] = some (.agg [.int .i64 0, .int .i64 0]) := by kernel_rfl
theorem build32b : buildD Tryz.prog 32 [(0, .int .i64 4), (1, .int .i64 (-1))] = some (.agg [.int .i64 4, .int .i64 (-1)]) := by kernel_rfl
theorem eq32a : eqD Tryz.prog 32 (.agg [.int .i64 4, .int .i64 (-1)]) (.agg [.int .i64 4, .int .i64 (-1)]) = some true := by kernel_rfl
theorem eq32b : eqD Tryz.prog 32 (.agg [.int .i64 0, .int .i64 0]) (.agg [.int .i64 0, .int .i64 0]) = some true := by kernel_rfl
theorem headsBuilt : ∀ ps : List (Nat × D), ps = [(0, D.str (headD 0)), (1, .str (headD 1)), (2, .str (headD 2)), (3, .str (headD 3))] →
    fillD (fun i => some (i * 1, 1)) (rep [.str []] 4) ps = some [.str (headD 0), .str (headD 1), .str (headD 2), .str (headD 3)] := by
  rintro ps rfl
  rfl

theorem textD_len (k : Nat) : ∀ n, (textD k n).length ≤ 1 + 20 * n
  | 0 => by simp [textD]
  | n + 1 => by
    have ih := textD_len k n
    have h1 : (headD k).length ≤ 13 := by
      unfold headD
      split <;> simp
    have h2 : (tailD k).length ≤ 1 := by
      unfold tailD
      split <;> simp
    simp only [textD, List.length_append]
    omega

section
variable {cf : CallF} {N : Nat}
theorem rem_pos (x : Int) (m : Int) (hm : 0 < m) (hm2 : m < 2 ^ 30) : ∃ a : Int, Op.intDiv .rem .i64 x m = pure (.int .i64 a) ∧ IntKind.wrap .i64 (a + m) = a + m ∧ Op.intDiv .rem .i64 (a + m) m = pure (.int .i64 ((x % m).toNat : Nat)) := by
  refine ⟨x.tmod m, ?_, ?_, ?_⟩
  · unfold Op.intDiv
    rw [if_neg (by omega)]
  · have h1 := Int.tmod_lt_of_pos x hm
    have h2 : -m < x.tmod m := Int.lt_tmod_of_pos x hm
    show (if (true && decide (((x.tmod m + m) % 18446744073709551616) ≥ 9223372036854775808)) = true then _ else _) = _
    simp [IntKind.bits]
    omega
  · have h1 := Int.tmod_lt_of_pos x hm
    have h2 : -m < x.tmod m := Int.lt_tmod_of_pos x hm
    unfold Op.intDiv
    rw [if_neg (by omega)]
    dsimp only
    have h3 : (x.tmod m + m).tmod m = x % m := by
      rw [Int.tmod_eq_emod_of_nonneg (by omega), Int.add_emod_right]
      rw [Int.tmod_eq_emod]
      split
      · simp
      · rw [Int.natAbs_of_nonneg (by omega), Int.sub_emod, Int.emod_self]
        simp
    rw [h3, Int.toNat_of_nonneg (Int.emod_nonneg x (by omega))]

theorem rem_posQ (x : Int) (m : Int) (hm : 0 < m) (hm2 : m < 2 ^ 30) : IntKind.wrap .i64 (x.tmod m + m) = x.tmod m + m ∧ (x.tmod m + m).tmod m = ((x % m).toNat : Nat) := by
  obtain ⟨a, h1, h2, h3⟩ := rem_pos x m hm hm2
  unfold Op.intDiv at h1 h3
  rw [if_neg (by omega)] at h1 h3
  injection h1 with h1
  injection h1 with _ h1
  subst h1
  injection h3 with h3
  injection h3 with _ h3
  exact ⟨h2, h3⟩

noncomputable def T6 : Code := match undraw b6 with
  | .seq _ (.seq _ (.seq _ (.seq _ (.seq _ (.seq _ (.seq _ t)))))) => t
  | _ => .skip
noncomputable def H6 (t : Code) : Code := match undraw b6 with
  | .seq a (.seq b (.seq c (.seq d (.seq e (.seq f (.seq g _)))))) => .seq a (.seq b (.seq c (.seq d (.seq e (.seq f (.seq g t))))))
  | _ => .skip
theorem code6 : undraw b6 = H6 T6 := by kernel_rfl

theorem lenS9 (s : List UInt8) (st : St) : lenD Tryz.prog 9 (.str s) st = some (.int .i64 s.length, .pure) := by
  unfold lenD
  rw [show Tryz.prog.underlying 9 = some .string from Tryz.underlying9]
theorem ld32 {st : St} {c : Nat} {x y : D} (h : st[c]? = some (.cells [x, y])) : loadD Tryz.prog 32 (.ptr c 0) st = some (.agg [x, y], .rd [c]) := by
  unfold loadD takeV
  simp [size32, und32, agg32, h]
theorem st32 {st : St} {c : Nat} {x y x' y' : D} (h : st[c]? = some (.cells [x, y])) (hx : cellOk x' = true) (hy : cellOk y' = true) : storeD Tryz.prog 32 (.ptr c 0) (.agg [x', y']) st = some (.undef, st.set c (.cells [x', y']), [c]) := by
  unfold storeD
  simp [h, size32, D.cells, hx, hy]
theorem st29 {st : St} {c : Nat} {z cs : List D} (h : st[c]? = some (.cells z)) (hz : z.length = 7) (hc : cs.length = 7) (hok : cs.all cellOk = true) : storeD Tryz.prog 29 (.ptr c 0) (.agg cs) st = some (.undef, st.set c (.cells cs), [c]) := by
  unfold storeD
  simp only [h, size29, D.cells, hc, hok, hz]
  simp [hz, ← hc]
  rw [List.drop_eq_nil_of_le (by omega), List.append_nil]

set_option maxHeartbeats 8000000 in
/-- Behind the loop. -/
theorem tail6 {k n : Nat} (hk : k < 4) (hn : n < 40) {y : Int} (hy : (y % 4).toNat = k) {cs : List D} (hcs : cs.length = 7) (hok : cs.all cellOk = true) (h12 : cf 12 [.str (textD k n)] [] = some (.tup [.agg cs, errD (mostD k n)], [], []))
    {e : Env} (hl : e.length = 69) (e0 : e.getD 0 .undef = .int .i64 (n : Nat)) (e1 : e.getD 1 .undef = .int .i64 y) (e8 : e.getD 8 .undef = .str (textD k n)) :
    ExW C1 false cf N (fun id => 0 ≤ id) (strip T6) e [] (fun y e' st' => y = .ret ∧ e'.getD 4 .undef = .bool true) := by
  have hP : C1.P = Tryz.prog := rfl
  obtain ⟨code, hcode⟩ : ∃ code, code = strip T6 := ⟨_, rfl⟩
  rw [← hcode]
  simp only [T6, b6, undraw, Tryz.f6, loopsOf, Option.getD, List.append, List.getD, List.getElem?_cons_succ, List.getElem?_cons_zero, HAppend.hAppend, Append.append, strip, stripO, List.map_toArray, List.map_cons, List.map_nil] at hcode
  subst hcode
  obtain ⟨q1, q2⟩ := rem_posQ y 4 (by omega) (by omega)
  rw [hy] at q2
  obtain ⟨z, hz, hz7⟩ := zero29
  have hbody : hasBody Tryz.prog 12 = true := by kernel_rfl
  have hb12 : C1.byRef.contains 12 = false := rfl
  have hup : callD C1 cf 12 [] [] [.str (textD k n)] [] = some (.tup [.agg cs, errD (mostD k n)], [], []) := by
    unfold callD
    rw [hP, hbody, hb12]
    have h4 : frzArgs [] [.str (textD k n)] = some ([.str (textD k n)], []) := rfl
    simp only [Bool.not_true, Bool.false_eq_true, if_false, h4, List.nil_append, List.append_nil, h12]
    rfl
  have hw1 : IntKind.wrap .i64 ((n : Int) + 1) = ((n + 1 : Nat) : Int) := natAdd1 n (by omega)
  have hlen := lenS9 (textD k n)
  have hup2 := st29 (st := [.cells z, .cells [.int .i64 0, .int .i64 0]]) (c := 0) rfl hz7 hcs hok
  have hup3 := st32 (st := [.cells cs, .cells [.int .i64 0, .int .i64 0], .cells [.int .i64 0, .int .i64 0]]) (c := 2) (x' := .int .i64 0) (y' := .int .i64 0) rfl rfl rfl
  have hup4 := st32 (st := [.cells cs, .cells [.int .i64 0, .int .i64 0]]) (c := 1) (x' := .int .i64 0) (y' := .int .i64 0) rfl rfl rfl
  have hup5 := st32 (st := [.cells cs, .cells [.int .i64 0, .int .i64 0]]) (c := 1) (x' := .int .i64 4) (y' := .int .i64 (-1)) rfl rfl rfl
  have hup6 := st32 (st := [.cells cs, .cells [.int .i64 4, .int .i64 (-1)], .cells [.int .i64 0, .int .i64 0]]) (c := 2) (x' := .int .i64 0) (y' := .int .i64 0) rfl rfl rfl
  have hup7 := st32 (st := [.cells cs, .cells [.int .i64 4, .int .i64 (-1)], .cells [.int .i64 0, .int .i64 0]]) (c := 2) (x' := .int .i64 4) (y' := .int .i64 (-1)) rfl rfl rfl
  have hl1 := ld32 (st := [.cells cs, .cells [.int .i64 4, .int .i64 (-1)], .cells [.int .i64 4, .int .i64 (-1)]]) (c := 1) rfl
  have hl2 := ld32 (st := [.cells cs, .cells [.int .i64 4, .int .i64 (-1)], .cells [.int .i64 4, .int .i64 (-1)]]) (c := 2) rfl
  have hl3 := ld32 (st := [.cells cs, .cells [.int .i64 0, .int .i64 0], .cells [.int .i64 0, .int .i64 0]]) (c := 1) rfl
  have hl4 := ld32 (st := [.cells cs, .cells [.int .i64 0, .int .i64 0], .cells [.int .i64 0, .int .i64 0]]) (c := 2) rfl
  by_cases h4 : 400 < (textD k n).length
  · have hm : mostD k n = true := by
      unfold mostD
      rw [Nat.blt_eq.mpr h4]
      rfl
    rw [hm] at hup
    dsimp only [errD] at hup
    have d4 : decide (((textD k n).length : Int) > 400) = true := decide_eq_true (by omega)
    by_cases hk2 : k = 2
    · have d2 : ((k : Int) == 2) = true := beq_iff_eq.2 (by omega)
      repeat (first
        | refine exw_seq ?_ | refine exw_block ?_ | refine exw_regf ?_ | refine exw_skip ?_ | refine exw_exit ?_ | refine exw_ret ?_
        | refine opsf_q rfl (want_0 rfl) rfl (by simp only [stepQ, ev, putD, ofConst, ofScalar, binD, unD, hP, pureSem, Op.intCmp, Op.intArith, getD_set, List.length_set, ↓reduceIte, Nat.reduceEqDiff, Nat.reduceLT, decide_true, decide_false, Bool.true_and, Bool.and_true, Bool.not_true, Bool.not_false, Option.map_some, List.getElem?_cons_zero, List.getElem?_cons_succ, builtinQ, List.map_cons, List.map_nil, hl, e0, e1, e8, q1, q2, d4, d2, hlen, zero32, hz, hw1, build32, build32b, hl1, hl2, hl3, hl4, eq32a, eq32b, List.nil_append, List.cons_append, List.length_cons, List.length_nil, Nat.zero_add, List.set_cons_zero, List.set_cons_succ]; rfl) ?_
        | (refine opsf_q rfl (want_g rfl rfl rfl ?_) rfl (by simp only [stepQ, ev, putD, ofConst, ofScalar, binD, unD, hP, pureSem, Op.intCmp, Op.intArith, getD_set, List.length_set, ↓reduceIte, Nat.reduceEqDiff, Nat.reduceLT, decide_true, decide_false, Bool.true_and, Bool.and_true, Bool.not_true, Bool.not_false, Option.map_some, List.getElem?_cons_zero, List.getElem?_cons_succ, builtinQ, List.map_cons, List.map_nil, hl, e0, e1, e8, q1, q2, d4, d2, hlen, zero32, hz, hw1, build32, build32b, hl1, hl2, hl3, hl4, eq32a, eq32b, List.nil_append, List.cons_append, List.length_cons, List.length_nil, Nat.zero_add, List.set_cons_zero, List.set_cons_succ]; rfl) ?_; focus (simp only [stepQ, ev, putD, ofConst, ofScalar, binD, unD, hP, pureSem, Op.intCmp, Op.intArith, getD_set, List.length_set, ↓reduceIte, Nat.reduceEqDiff, Nat.reduceLT, decide_true, decide_false, Bool.true_and, Bool.and_true, Bool.not_true, Bool.not_false, Option.map_some, List.getElem?_cons_zero, List.getElem?_cons_succ, builtinQ, List.map_cons, List.map_nil, hl, e0, e1, e8, q1, q2, d4, d2, hlen, zero32, hz, hw1, build32, build32b, hl1, hl2, hl3, hl4, eq32a, eq32b, List.nil_append, List.cons_append, List.length_cons, List.length_nil, Nat.zero_add, List.set_cons_zero, List.set_cons_succ]; done))
        | (refine opsf_no rfl (want_f rfl rfl rfl ?_) ?_; focus (simp only [stepQ, ev, putD, ofConst, ofScalar, binD, unD, hP, pureSem, Op.intCmp, Op.intArith, getD_set, List.length_set, ↓reduceIte, Nat.reduceEqDiff, Nat.reduceLT, decide_true, decide_false, Bool.true_and, Bool.and_true, Bool.not_true, Bool.not_false, Option.map_some, List.getElem?_cons_zero, List.getElem?_cons_succ, builtinQ, List.map_cons, List.map_nil, hl, e0, e1, e8, q1, q2, d4, d2, hlen, zero32, hz, hw1, build32, build32b, hl1, hl2, hl3, hl4, eq32a, eq32b, List.nil_append, List.cons_append, List.length_cons, List.length_nil, Nat.zero_add, List.set_cons_zero, List.set_cons_succ]; done))
        | (refine opsf_no rfl (want_n rfl rfl rfl ?_) ?_; focus (simp only [stepQ, ev, putD, ofConst, ofScalar, binD, unD, hP, pureSem, Op.intCmp, Op.intArith, getD_set, List.length_set, ↓reduceIte, Nat.reduceEqDiff, Nat.reduceLT, decide_true, decide_false, Bool.true_and, Bool.and_true, Bool.not_true, Bool.not_false, Option.map_some, List.getElem?_cons_zero, List.getElem?_cons_succ, builtinQ, List.map_cons, List.map_nil, hl, e0, e1, e8, q1, q2, d4, d2, hlen, zero32, hz, hw1, build32, build32b, hl1, hl2, hl3, hl4, eq32a, eq32b, List.nil_append, List.cons_append, List.length_cons, List.length_nil, Nat.zero_add, List.set_cons_zero, List.set_cons_succ]; done))
        | refine opsf_l rfl (want_0 rfl) rfl (by simp only [stepL, stepQ, ev, putD, ofConst, ofScalar, binD, unD, hP, pureSem, Op.intCmp, Op.intArith, getD_set, List.length_set, ↓reduceIte, Nat.reduceEqDiff, Nat.reduceLT, decide_true, decide_false, Bool.true_and, Bool.and_true, Bool.not_true, Bool.not_false, Option.map_some, List.getElem?_cons_zero, List.getElem?_cons_succ, builtinQ, List.map_cons, List.map_nil, hl, e0, e1, e8, q1, q2, d4, d2, hlen, zero32, hz, hw1, build32, build32b, hl1, hl2, hl3, hl4, eq32a, eq32b, List.nil_append, List.cons_append, List.length_cons, List.length_nil, Nat.zero_add, List.set_cons_zero, List.set_cons_succ]; first | exact hup | exact hup2 | exact hup3 | exact hup4 | exact hup5 | exact hup6 | exact hup7 | rfl) (by first | exact hupV | exact hV2 | exact hV | (simp; done)) ?_
        | refine opsf_a rfl (want_0 rfl) rfl (by simp only [stepQ, ev, putD, ofConst, ofScalar, binD, unD, hP, pureSem, Op.intCmp, Op.intArith, getD_set, List.length_set, ↓reduceIte, Nat.reduceEqDiff, Nat.reduceLT, decide_true, decide_false, Bool.true_and, Bool.and_true, Bool.not_true, Bool.not_false, Option.map_some, List.getElem?_cons_zero, List.getElem?_cons_succ, builtinQ, List.map_cons, List.map_nil, hl, e0, e1, e8, q1, q2, d4, d2, hlen, zero32, hz, hw1, build32, build32b, hl1, hl2, hl3, hl4, eq32a, eq32b, List.nil_append, List.cons_append, List.length_cons, List.length_nil, Nat.zero_add, List.set_cons_zero, List.set_cons_succ]; rfl) ?_
        | refine opsf_nil (by decide) ?_
        | (refine exw_true ?_ ?_; focus (simp only [stepQ, ev, putD, ofConst, ofScalar, binD, unD, hP, pureSem, Op.intCmp, Op.intArith, getD_set, List.length_set, ↓reduceIte, Nat.reduceEqDiff, Nat.reduceLT, decide_true, decide_false, Bool.true_and, Bool.and_true, Bool.not_true, Bool.not_false, Option.map_some, List.getElem?_cons_zero, List.getElem?_cons_succ, builtinQ, List.map_cons, List.map_nil, hl, e0, e1, e8, q1, q2, d4, d2, hlen, zero32, hz, hw1, build32, build32b, hl1, hl2, hl3, hl4, eq32a, eq32b, List.nil_append, List.cons_append, List.length_cons, List.length_nil, Nat.zero_add, List.set_cons_zero, List.set_cons_succ]; done))
        | (refine exw_false ?_ ?_; focus (simp only [stepQ, ev, putD, ofConst, ofScalar, binD, unD, hP, pureSem, Op.intCmp, Op.intArith, getD_set, List.length_set, ↓reduceIte, Nat.reduceEqDiff, Nat.reduceLT, decide_true, decide_false, Bool.true_and, Bool.and_true, Bool.not_true, Bool.not_false, Option.map_some, List.getElem?_cons_zero, List.getElem?_cons_succ, builtinQ, List.map_cons, List.map_nil, hl, e0, e1, e8, q1, q2, d4, d2, hlen, zero32, hz, hw1, build32, build32b, hl1, hl2, hl3, hl4, eq32a, eq32b, List.nil_append, List.cons_append, List.length_cons, List.length_nil, Nat.zero_add, List.set_cons_zero, List.set_cons_succ]; done))
        | dsimp only)
      exact ⟨rfl, by simp only [stepQ, ev, putD, ofConst, ofScalar, binD, unD, hP, pureSem, Op.intCmp, Op.intArith, getD_set, List.length_set, ↓reduceIte, Nat.reduceEqDiff, Nat.reduceLT, decide_true, decide_false, Bool.true_and, Bool.and_true, Bool.not_true, Bool.not_false, Option.map_some, List.getElem?_cons_zero, List.getElem?_cons_succ, builtinQ, List.map_cons, List.map_nil, hl]⟩
    · have d2 : ((k : Int) == 2) = false := beq_eq_false_iff_ne.2 (by omega)
      repeat (first
        | refine exw_seq ?_ | refine exw_block ?_ | refine exw_regf ?_ | refine exw_skip ?_ | refine exw_exit ?_ | refine exw_ret ?_
        | refine opsf_q rfl (want_0 rfl) rfl (by simp only [stepQ, ev, putD, ofConst, ofScalar, binD, unD, hP, pureSem, Op.intCmp, Op.intArith, getD_set, List.length_set, ↓reduceIte, Nat.reduceEqDiff, Nat.reduceLT, decide_true, decide_false, Bool.true_and, Bool.and_true, Bool.not_true, Bool.not_false, Option.map_some, List.getElem?_cons_zero, List.getElem?_cons_succ, builtinQ, List.map_cons, List.map_nil, hl, e0, e1, e8, q1, q2, d4, d2, hlen, zero32, hz, hw1, build32, build32b, hl1, hl2, hl3, hl4, eq32a, eq32b, List.nil_append, List.cons_append, List.length_cons, List.length_nil, Nat.zero_add, List.set_cons_zero, List.set_cons_succ]; rfl) ?_
        | (refine opsf_q rfl (want_g rfl rfl rfl ?_) rfl (by simp only [stepQ, ev, putD, ofConst, ofScalar, binD, unD, hP, pureSem, Op.intCmp, Op.intArith, getD_set, List.length_set, ↓reduceIte, Nat.reduceEqDiff, Nat.reduceLT, decide_true, decide_false, Bool.true_and, Bool.and_true, Bool.not_true, Bool.not_false, Option.map_some, List.getElem?_cons_zero, List.getElem?_cons_succ, builtinQ, List.map_cons, List.map_nil, hl, e0, e1, e8, q1, q2, d4, d2, hlen, zero32, hz, hw1, build32, build32b, hl1, hl2, hl3, hl4, eq32a, eq32b, List.nil_append, List.cons_append, List.length_cons, List.length_nil, Nat.zero_add, List.set_cons_zero, List.set_cons_succ]; rfl) ?_; focus (simp only [stepQ, ev, putD, ofConst, ofScalar, binD, unD, hP, pureSem, Op.intCmp, Op.intArith, getD_set, List.length_set, ↓reduceIte, Nat.reduceEqDiff, Nat.reduceLT, decide_true, decide_false, Bool.true_and, Bool.and_true, Bool.not_true, Bool.not_false, Option.map_some, List.getElem?_cons_zero, List.getElem?_cons_succ, builtinQ, List.map_cons, List.map_nil, hl, e0, e1, e8, q1, q2, d4, d2, hlen, zero32, hz, hw1, build32, build32b, hl1, hl2, hl3, hl4, eq32a, eq32b, List.nil_append, List.cons_append, List.length_cons, List.length_nil, Nat.zero_add, List.set_cons_zero, List.set_cons_succ]; done))
        | (refine opsf_no rfl (want_f rfl rfl rfl ?_) ?_; focus (simp only [stepQ, ev, putD, ofConst, ofScalar, binD, unD, hP, pureSem, Op.intCmp, Op.intArith, getD_set, List.length_set, ↓reduceIte, Nat.reduceEqDiff, Nat.reduceLT, decide_true, decide_false, Bool.true_and, Bool.and_true, Bool.not_true, Bool.not_false, Option.map_some, List.getElem?_cons_zero, List.getElem?_cons_succ, builtinQ, List.map_cons, List.map_nil, hl, e0, e1, e8, q1, q2, d4, d2, hlen, zero32, hz, hw1, build32, build32b, hl1, hl2, hl3, hl4, eq32a, eq32b, List.nil_append, List.cons_append, List.length_cons, List.length_nil, Nat.zero_add, List.set_cons_zero, List.set_cons_succ]; done))
        | (refine opsf_no rfl (want_n rfl rfl rfl ?_) ?_; focus (simp only [stepQ, ev, putD, ofConst, ofScalar, binD, unD, hP, pureSem, Op.intCmp, Op.intArith, getD_set, List.length_set, ↓reduceIte, Nat.reduceEqDiff, Nat.reduceLT, decide_true, decide_false, Bool.true_and, Bool.and_true, Bool.not_true, Bool.not_false, Option.map_some, List.getElem?_cons_zero, List.getElem?_cons_succ, builtinQ, List.map_cons, List.map_nil, hl, e0, e1, e8, q1, q2, d4, d2, hlen, zero32, hz, hw1, build32, build32b, hl1, hl2, hl3, hl4, eq32a, eq32b, List.nil_append, List.cons_append, List.length_cons, List.length_nil, Nat.zero_add, List.set_cons_zero, List.set_cons_succ]; done))
        | refine opsf_l rfl (want_0 rfl) rfl (by simp only [stepL, stepQ, ev, putD, ofConst, ofScalar, binD, unD, hP, pureSem, Op.intCmp, Op.intArith, getD_set, List.length_set, ↓reduceIte, Nat.reduceEqDiff, Nat.reduceLT, decide_true, decide_false, Bool.true_and, Bool.and_true, Bool.not_true, Bool.not_false, Option.map_some, List.getElem?_cons_zero, List.getElem?_cons_succ, builtinQ, List.map_cons, List.map_nil, hl, e0, e1, e8, q1, q2, d4, d2, hlen, zero32, hz, hw1, build32, build32b, hl1, hl2, hl3, hl4, eq32a, eq32b, List.nil_append, List.cons_append, List.length_cons, List.length_nil, Nat.zero_add, List.set_cons_zero, List.set_cons_succ]; first | exact hup | exact hup2 | exact hup3 | exact hup4 | exact hup5 | exact hup6 | exact hup7 | rfl) (by first | exact hupV | exact hV2 | exact hV | (simp; done)) ?_
        | refine opsf_a rfl (want_0 rfl) rfl (by simp only [stepQ, ev, putD, ofConst, ofScalar, binD, unD, hP, pureSem, Op.intCmp, Op.intArith, getD_set, List.length_set, ↓reduceIte, Nat.reduceEqDiff, Nat.reduceLT, decide_true, decide_false, Bool.true_and, Bool.and_true, Bool.not_true, Bool.not_false, Option.map_some, List.getElem?_cons_zero, List.getElem?_cons_succ, builtinQ, List.map_cons, List.map_nil, hl, e0, e1, e8, q1, q2, d4, d2, hlen, zero32, hz, hw1, build32, build32b, hl1, hl2, hl3, hl4, eq32a, eq32b, List.nil_append, List.cons_append, List.length_cons, List.length_nil, Nat.zero_add, List.set_cons_zero, List.set_cons_succ]; rfl) ?_
        | refine opsf_nil (by decide) ?_
        | (refine exw_true ?_ ?_; focus (simp only [stepQ, ev, putD, ofConst, ofScalar, binD, unD, hP, pureSem, Op.intCmp, Op.intArith, getD_set, List.length_set, ↓reduceIte, Nat.reduceEqDiff, Nat.reduceLT, decide_true, decide_false, Bool.true_and, Bool.and_true, Bool.not_true, Bool.not_false, Option.map_some, List.getElem?_cons_zero, List.getElem?_cons_succ, builtinQ, List.map_cons, List.map_nil, hl, e0, e1, e8, q1, q2, d4, d2, hlen, zero32, hz, hw1, build32, build32b, hl1, hl2, hl3, hl4, eq32a, eq32b, List.nil_append, List.cons_append, List.length_cons, List.length_nil, Nat.zero_add, List.set_cons_zero, List.set_cons_succ]; done))
        | (refine exw_false ?_ ?_; focus (simp only [stepQ, ev, putD, ofConst, ofScalar, binD, unD, hP, pureSem, Op.intCmp, Op.intArith, getD_set, List.length_set, ↓reduceIte, Nat.reduceEqDiff, Nat.reduceLT, decide_true, decide_false, Bool.true_and, Bool.and_true, Bool.not_true, Bool.not_false, Option.map_some, List.getElem?_cons_zero, List.getElem?_cons_succ, builtinQ, List.map_cons, List.map_nil, hl, e0, e1, e8, q1, q2, d4, d2, hlen, zero32, hz, hw1, build32, build32b, hl1, hl2, hl3, hl4, eq32a, eq32b, List.nil_append, List.cons_append, List.length_cons, List.length_nil, Nat.zero_add, List.set_cons_zero, List.set_cons_succ]; done))
        | dsimp only)
      exact ⟨rfl, by simp only [stepQ, ev, putD, ofConst, ofScalar, binD, unD, hP, pureSem, Op.intCmp, Op.intArith, getD_set, List.length_set, ↓reduceIte, Nat.reduceEqDiff, Nat.reduceLT, decide_true, decide_false, Bool.true_and, Bool.and_true, Bool.not_true, Bool.not_false, Option.map_some, List.getElem?_cons_zero, List.getElem?_cons_succ, builtinQ, List.map_cons, List.map_nil, hl]⟩
  · have hb4 : Nat.blt 400 (textD k n).length = false := by
      cases hx : Nat.blt 400 (textD k n).length with
      | false => rfl
      | true => exact absurd (Nat.blt_eq.mp hx) h4
    have d4 : decide (((textD k n).length : Int) > 400) = false := decide_eq_false (by omega)
    by_cases hk2 : k = 2
    · have hm : mostD k n = false := by
        unfold mostD
        rw [hb4, hk2]
        rfl
      rw [hm] at hup
      dsimp only [errD] at hup
      have d2 : ((k : Int) == 2) = true := beq_iff_eq.2 (by omega)
      have d30 : decide ((1 : Int) > 30) = false := rfl
      repeat (first
        | refine exw_seq ?_ | refine exw_block ?_ | refine exw_regf ?_ | refine exw_skip ?_ | refine exw_exit ?_ | refine exw_ret ?_
        | refine opsf_q rfl (want_0 rfl) rfl (by simp only [stepQ, ev, putD, ofConst, ofScalar, binD, unD, hP, pureSem, Op.intCmp, Op.intArith, getD_set, List.length_set, ↓reduceIte, Nat.reduceEqDiff, Nat.reduceLT, decide_true, decide_false, Bool.true_and, Bool.and_true, Bool.not_true, Bool.not_false, Option.map_some, List.getElem?_cons_zero, List.getElem?_cons_succ, builtinQ, List.map_cons, List.map_nil, hl, e0, e1, e8, q1, q2, d4, d2, d30, hlen, zero32, hz, hw1, build32, build32b, hl1, hl2, hl3, hl4, eq32a, eq32b, List.nil_append, List.cons_append, List.length_cons, List.length_nil, Nat.zero_add, List.set_cons_zero, List.set_cons_succ]; rfl) ?_
        | (refine opsf_q rfl (want_g rfl rfl rfl ?_) rfl (by simp only [stepQ, ev, putD, ofConst, ofScalar, binD, unD, hP, pureSem, Op.intCmp, Op.intArith, getD_set, List.length_set, ↓reduceIte, Nat.reduceEqDiff, Nat.reduceLT, decide_true, decide_false, Bool.true_and, Bool.and_true, Bool.not_true, Bool.not_false, Option.map_some, List.getElem?_cons_zero, List.getElem?_cons_succ, builtinQ, List.map_cons, List.map_nil, hl, e0, e1, e8, q1, q2, d4, d2, d30, hlen, zero32, hz, hw1, build32, build32b, hl1, hl2, hl3, hl4, eq32a, eq32b, List.nil_append, List.cons_append, List.length_cons, List.length_nil, Nat.zero_add, List.set_cons_zero, List.set_cons_succ]; rfl) ?_; focus (simp only [stepQ, ev, putD, ofConst, ofScalar, binD, unD, hP, pureSem, Op.intCmp, Op.intArith, getD_set, List.length_set, ↓reduceIte, Nat.reduceEqDiff, Nat.reduceLT, decide_true, decide_false, Bool.true_and, Bool.and_true, Bool.not_true, Bool.not_false, Option.map_some, List.getElem?_cons_zero, List.getElem?_cons_succ, builtinQ, List.map_cons, List.map_nil, hl, e0, e1, e8, q1, q2, d4, d2, d30, hlen, zero32, hz, hw1, build32, build32b, hl1, hl2, hl3, hl4, eq32a, eq32b, List.nil_append, List.cons_append, List.length_cons, List.length_nil, Nat.zero_add, List.set_cons_zero, List.set_cons_succ]; done))
        | (refine opsf_no rfl (want_f rfl rfl rfl ?_) ?_; focus (simp only [stepQ, ev, putD, ofConst, ofScalar, binD, unD, hP, pureSem, Op.intCmp, Op.intArith, getD_set, List.length_set, ↓reduceIte, Nat.reduceEqDiff, Nat.reduceLT, decide_true, decide_false, Bool.true_and, Bool.and_true, Bool.not_true, Bool.not_false, Option.map_some, List.getElem?_cons_zero, List.getElem?_cons_succ, builtinQ, List.map_cons, List.map_nil, hl, e0, e1, e8, q1, q2, d4, d2, d30, hlen, zero32, hz, hw1, build32, build32b, hl1, hl2, hl3, hl4, eq32a, eq32b, List.nil_append, List.cons_append, List.length_cons, List.length_nil, Nat.zero_add, List.set_cons_zero, List.set_cons_succ]; done))
        | (refine opsf_no rfl (want_n rfl rfl rfl ?_) ?_; focus (simp only [stepQ, ev, putD, ofConst, ofScalar, binD, unD, hP, pureSem, Op.intCmp, Op.intArith, getD_set, List.length_set, ↓reduceIte, Nat.reduceEqDiff, Nat.reduceLT, decide_true, decide_false, Bool.true_and, Bool.and_true, Bool.not_true, Bool.not_false, Option.map_some, List.getElem?_cons_zero, List.getElem?_cons_succ, builtinQ, List.map_cons, List.map_nil, hl, e0, e1, e8, q1, q2, d4, d2, d30, hlen, zero32, hz, hw1, build32, build32b, hl1, hl2, hl3, hl4, eq32a, eq32b, List.nil_append, List.cons_append, List.length_cons, List.length_nil, Nat.zero_add, List.set_cons_zero, List.set_cons_succ]; done))
        | refine opsf_l rfl (want_0 rfl) rfl (by simp only [stepL, stepQ, ev, putD, ofConst, ofScalar, binD, unD, hP, pureSem, Op.intCmp, Op.intArith, getD_set, List.length_set, ↓reduceIte, Nat.reduceEqDiff, Nat.reduceLT, decide_true, decide_false, Bool.true_and, Bool.and_true, Bool.not_true, Bool.not_false, Option.map_some, List.getElem?_cons_zero, List.getElem?_cons_succ, builtinQ, List.map_cons, List.map_nil, hl, e0, e1, e8, q1, q2, d4, d2, d30, hlen, zero32, hz, hw1, build32, build32b, hl1, hl2, hl3, hl4, eq32a, eq32b, List.nil_append, List.cons_append, List.length_cons, List.length_nil, Nat.zero_add, List.set_cons_zero, List.set_cons_succ]; first | exact hup | exact hup2 | exact hup3 | exact hup4 | exact hup5 | exact hup6 | exact hup7 | rfl) (by first | exact hupV | exact hV2 | exact hV | (simp; done)) ?_
        | refine opsf_a rfl (want_0 rfl) rfl (by simp only [stepQ, ev, putD, ofConst, ofScalar, binD, unD, hP, pureSem, Op.intCmp, Op.intArith, getD_set, List.length_set, ↓reduceIte, Nat.reduceEqDiff, Nat.reduceLT, decide_true, decide_false, Bool.true_and, Bool.and_true, Bool.not_true, Bool.not_false, Option.map_some, List.getElem?_cons_zero, List.getElem?_cons_succ, builtinQ, List.map_cons, List.map_nil, hl, e0, e1, e8, q1, q2, d4, d2, d30, hlen, zero32, hz, hw1, build32, build32b, hl1, hl2, hl3, hl4, eq32a, eq32b, List.nil_append, List.cons_append, List.length_cons, List.length_nil, Nat.zero_add, List.set_cons_zero, List.set_cons_succ]; rfl) ?_
        | refine opsf_nil (by decide) ?_
        | (refine exw_true ?_ ?_; focus (simp only [stepQ, ev, putD, ofConst, ofScalar, binD, unD, hP, pureSem, Op.intCmp, Op.intArith, getD_set, List.length_set, ↓reduceIte, Nat.reduceEqDiff, Nat.reduceLT, decide_true, decide_false, Bool.true_and, Bool.and_true, Bool.not_true, Bool.not_false, Option.map_some, List.getElem?_cons_zero, List.getElem?_cons_succ, builtinQ, List.map_cons, List.map_nil, hl, e0, e1, e8, q1, q2, d4, d2, d30, hlen, zero32, hz, hw1, build32, build32b, hl1, hl2, hl3, hl4, eq32a, eq32b, List.nil_append, List.cons_append, List.length_cons, List.length_nil, Nat.zero_add, List.set_cons_zero, List.set_cons_succ]; done))
        | (refine exw_false ?_ ?_; focus (simp only [stepQ, ev, putD, ofConst, ofScalar, binD, unD, hP, pureSem, Op.intCmp, Op.intArith, getD_set, List.length_set, ↓reduceIte, Nat.reduceEqDiff, Nat.reduceLT, decide_true, decide_false, Bool.true_and, Bool.and_true, Bool.not_true, Bool.not_false, Option.map_some, List.getElem?_cons_zero, List.getElem?_cons_succ, builtinQ, List.map_cons, List.map_nil, hl, e0, e1, e8, q1, q2, d4, d2, d30, hlen, zero32, hz, hw1, build32, build32b, hl1, hl2, hl3, hl4, eq32a, eq32b, List.nil_append, List.cons_append, List.length_cons, List.length_nil, Nat.zero_add, List.set_cons_zero, List.set_cons_succ]; done))
        | dsimp only)
      exact ⟨rfl, by simp only [stepQ, ev, putD, ofConst, ofScalar, binD, unD, hP, pureSem, Op.intCmp, Op.intArith, getD_set, List.length_set, ↓reduceIte, Nat.reduceEqDiff, Nat.reduceLT, decide_true, decide_false, Bool.true_and, Bool.and_true, Bool.not_true, Bool.not_false, Option.map_some, List.getElem?_cons_zero, List.getElem?_cons_succ, builtinQ, List.map_cons, List.map_nil, hl]⟩
    · have d2 : ((k : Int) == 2) = false := beq_eq_false_iff_ne.2 (by omega)
      have hb2 : Nat.beq k 2 = false := by
        cases hx : Nat.beq k 2 with
        | false => rfl
        | true => exact absurd (Nat.eq_of_beq_eq_true hx) hk2
      by_cases h30 : 30 < n + 1
      · have hm : mostD k n = true := by
          unfold mostD
          rw [hb4, hb2]
          simp only [Bool.false_or, Bool.false_eq_true, if_false]
          exact Nat.blt_eq.mpr h30
        rw [hm] at hup
        dsimp only [errD] at hup
        have d30 : decide (((n + 1 : Nat) : Int) > 30) = true := decide_eq_true (by omega)
        repeat (first
          | refine exw_seq ?_ | refine exw_block ?_ | refine exw_regf ?_ | refine exw_skip ?_ | refine exw_exit ?_ | refine exw_ret ?_
          | refine opsf_q rfl (want_0 rfl) rfl (by simp only [stepQ, ev, putD, ofConst, ofScalar, binD, unD, hP, pureSem, Op.intCmp, Op.intArith, getD_set, List.length_set, ↓reduceIte, Nat.reduceEqDiff, Nat.reduceLT, decide_true, decide_false, Bool.true_and, Bool.and_true, Bool.not_true, Bool.not_false, Option.map_some, List.getElem?_cons_zero, List.getElem?_cons_succ, builtinQ, List.map_cons, List.map_nil, hl, e0, e1, e8, q1, q2, d4, d2, d30, hlen, zero32, hz, hw1, build32, build32b, hl1, hl2, hl3, hl4, eq32a, eq32b, List.nil_append, List.cons_append, List.length_cons, List.length_nil, Nat.zero_add, List.set_cons_zero, List.set_cons_succ]; rfl) ?_
          | (refine opsf_q rfl (want_g rfl rfl rfl ?_) rfl (by simp only [stepQ, ev, putD, ofConst, ofScalar, binD, unD, hP, pureSem, Op.intCmp, Op.intArith, getD_set, List.length_set, ↓reduceIte, Nat.reduceEqDiff, Nat.reduceLT, decide_true, decide_false, Bool.true_and, Bool.and_true, Bool.not_true, Bool.not_false, Option.map_some, List.getElem?_cons_zero, List.getElem?_cons_succ, builtinQ, List.map_cons, List.map_nil, hl, e0, e1, e8, q1, q2, d4, d2, d30, hlen, zero32, hz, hw1, build32, build32b, hl1, hl2, hl3, hl4, eq32a, eq32b, List.nil_append, List.cons_append, List.length_cons, List.length_nil, Nat.zero_add, List.set_cons_zero, List.set_cons_succ]; rfl) ?_; focus (simp only [stepQ, ev, putD, ofConst, ofScalar, binD, unD, hP, pureSem, Op.intCmp, Op.intArith, getD_set, List.length_set, ↓reduceIte, Nat.reduceEqDiff, Nat.reduceLT, decide_true, decide_false, Bool.true_and, Bool.and_true, Bool.not_true, Bool.not_false, Option.map_some, List.getElem?_cons_zero, List.getElem?_cons_succ, builtinQ, List.map_cons, List.map_nil, hl, e0, e1, e8, q1, q2, d4, d2, d30, hlen, zero32, hz, hw1, build32, build32b, hl1, hl2, hl3, hl4, eq32a, eq32b, List.nil_append, List.cons_append, List.length_cons, List.length_nil, Nat.zero_add, List.set_cons_zero, List.set_cons_succ]; done))
          | (refine opsf_no rfl (want_f rfl rfl rfl ?_) ?_; focus (simp only [stepQ, ev, putD, ofConst, ofScalar, binD, unD, hP, pureSem, Op.intCmp, Op.intArith, getD_set, List.length_set, ↓reduceIte, Nat.reduceEqDiff, Nat.reduceLT, decide_true, decide_false, Bool.true_and, Bool.and_true, Bool.not_true, Bool.not_false, Option.map_some, List.getElem?_cons_zero, List.getElem?_cons_succ, builtinQ, List.map_cons, List.map_nil, hl, e0, e1, e8, q1, q2, d4, d2, d30, hlen, zero32, hz, hw1, build32, build32b, hl1, hl2, hl3, hl4, eq32a, eq32b, List.nil_append, List.cons_append, List.length_cons, List.length_nil, Nat.zero_add, List.set_cons_zero, List.set_cons_succ]; done))
          | (refine opsf_no rfl (want_n rfl rfl rfl ?_) ?_; focus (simp only [stepQ, ev, putD, ofConst, ofScalar, binD, unD, hP, pureSem, Op.intCmp, Op.intArith, getD_set, List.length_set, ↓reduceIte, Nat.reduceEqDiff, Nat.reduceLT, decide_true, decide_false, Bool.true_and, Bool.and_true, Bool.not_true, Bool.not_false, Option.map_some, List.getElem?_cons_zero, List.getElem?_cons_succ, builtinQ, List.map_cons, List.map_nil, hl, e0, e1, e8, q1, q2, d4, d2, d30, hlen, zero32, hz, hw1, build32, build32b, hl1, hl2, hl3, hl4, eq32a, eq32b, List.nil_append, List.cons_append, List.length_cons, List.length_nil, Nat.zero_add, List.set_cons_zero, List.set_cons_succ]; done))
          | refine opsf_l rfl (want_0 rfl) rfl (by simp only [stepL, stepQ, ev, putD, ofConst, ofScalar, binD, unD, hP, pureSem, Op.intCmp, Op.intArith, getD_set, List.length_set, ↓reduceIte, Nat.reduceEqDiff, Nat.reduceLT, decide_true, decide_false, Bool.true_and, Bool.and_true, Bool.not_true, Bool.not_false, Option.map_some, List.getElem?_cons_zero, List.getElem?_cons_succ, builtinQ, List.map_cons, List.map_nil, hl, e0, e1, e8, q1, q2, d4, d2, d30, hlen, zero32, hz, hw1, build32, build32b, hl1, hl2, hl3, hl4, eq32a, eq32b, List.nil_append, List.cons_append, List.length_cons, List.length_nil, Nat.zero_add, List.set_cons_zero, List.set_cons_succ]; first | exact hup | exact hup2 | exact hup3 | exact hup4 | exact hup5 | exact hup6 | exact hup7 | rfl) (by first | exact hupV | exact hV2 | exact hV | (simp; done)) ?_
          | refine opsf_a rfl (want_0 rfl) rfl (by simp only [stepQ, ev, putD, ofConst, ofScalar, binD, unD, hP, pureSem, Op.intCmp, Op.intArith, getD_set, List.length_set, ↓reduceIte, Nat.reduceEqDiff, Nat.reduceLT, decide_true, decide_false, Bool.true_and, Bool.and_true, Bool.not_true, Bool.not_false, Option.map_some, List.getElem?_cons_zero, List.getElem?_cons_succ, builtinQ, List.map_cons, List.map_nil, hl, e0, e1, e8, q1, q2, d4, d2, d30, hlen, zero32, hz, hw1, build32, build32b, hl1, hl2, hl3, hl4, eq32a, eq32b, List.nil_append, List.cons_append, List.length_cons, List.length_nil, Nat.zero_add, List.set_cons_zero, List.set_cons_succ]; rfl) ?_
          | refine opsf_nil (by decide) ?_
          | (refine exw_true ?_ ?_; focus (simp only [stepQ, ev, putD, ofConst, ofScalar, binD, unD, hP, pureSem, Op.intCmp, Op.intArith, getD_set, List.length_set, ↓reduceIte, Nat.reduceEqDiff, Nat.reduceLT, decide_true, decide_false, Bool.true_and, Bool.and_true, Bool.not_true, Bool.not_false, Option.map_some, List.getElem?_cons_zero, List.getElem?_cons_succ, builtinQ, List.map_cons, List.map_nil, hl, e0, e1, e8, q1, q2, d4, d2, d30, hlen, zero32, hz, hw1, build32, build32b, hl1, hl2, hl3, hl4, eq32a, eq32b, List.nil_append, List.cons_append, List.length_cons, List.length_nil, Nat.zero_add, List.set_cons_zero, List.set_cons_succ]; done))
          | (refine exw_false ?_ ?_; focus (simp only [stepQ, ev, putD, ofConst, ofScalar, binD, unD, hP, pureSem, Op.intCmp, Op.intArith, getD_set, List.length_set, ↓reduceIte, Nat.reduceEqDiff, Nat.reduceLT, decide_true, decide_false, Bool.true_and, Bool.and_true, Bool.not_true, Bool.not_false, Option.map_some, List.getElem?_cons_zero, List.getElem?_cons_succ, builtinQ, List.map_cons, List.map_nil, hl, e0, e1, e8, q1, q2, d4, d2, d30, hlen, zero32, hz, hw1, build32, build32b, hl1, hl2, hl3, hl4, eq32a, eq32b, List.nil_append, List.cons_append, List.length_cons, List.length_nil, Nat.zero_add, List.set_cons_zero, List.set_cons_succ]; done))
          | dsimp only)
        exact ⟨rfl, by simp only [stepQ, ev, putD, ofConst, ofScalar, binD, unD, hP, pureSem, Op.intCmp, Op.intArith, getD_set, List.length_set, ↓reduceIte, Nat.reduceEqDiff, Nat.reduceLT, decide_true, decide_false, Bool.true_and, Bool.and_true, Bool.not_true, Bool.not_false, Option.map_some, List.getElem?_cons_zero, List.getElem?_cons_succ, builtinQ, List.map_cons, List.map_nil, hl]⟩
      · have hm : mostD k n = false := by
          unfold mostD
          rw [hb4, hb2]
          simp only [Bool.false_or, Bool.false_eq_true, if_false]
          cases hx : Nat.blt 30 (n + 1) with
          | false => rfl
          | true => exact absurd (Nat.blt_eq.mp hx) h30
        rw [hm] at hup
        dsimp only [errD] at hup
        have d30 : decide (((n + 1 : Nat) : Int) > 30) = false := decide_eq_false (by omega)
        repeat (first
          | refine exw_seq ?_ | refine exw_block ?_ | refine exw_regf ?_ | refine exw_skip ?_ | refine exw_exit ?_ | refine exw_ret ?_
          | refine opsf_q rfl (want_0 rfl) rfl (by simp only [stepQ, ev, putD, ofConst, ofScalar, binD, unD, hP, pureSem, Op.intCmp, Op.intArith, getD_set, List.length_set, ↓reduceIte, Nat.reduceEqDiff, Nat.reduceLT, decide_true, decide_false, Bool.true_and, Bool.and_true, Bool.not_true, Bool.not_false, Option.map_some, List.getElem?_cons_zero, List.getElem?_cons_succ, builtinQ, List.map_cons, List.map_nil, hl, e0, e1, e8, q1, q2, d4, d2, d30, hlen, zero32, hz, hw1, build32, build32b, hl1, hl2, hl3, hl4, eq32a, eq32b, List.nil_append, List.cons_append, List.length_cons, List.length_nil, Nat.zero_add, List.set_cons_zero, List.set_cons_succ]; rfl) ?_
          | (refine opsf_q rfl (want_g rfl rfl rfl ?_) rfl (by simp only [stepQ, ev, putD, ofConst, ofScalar, binD, unD, hP, pureSem, Op.intCmp, Op.intArith, getD_set, List.length_set, ↓reduceIte, Nat.reduceEqDiff, Nat.reduceLT, decide_true, decide_false, Bool.true_and, Bool.and_true, Bool.not_true, Bool.not_false, Option.map_some, List.getElem?_cons_zero, List.getElem?_cons_succ, builtinQ, List.map_cons, List.map_nil, hl, e0, e1, e8, q1, q2, d4, d2, d30, hlen, zero32, hz, hw1, build32, build32b, hl1, hl2, hl3, hl4, eq32a, eq32b, List.nil_append, List.cons_append, List.length_cons, List.length_nil, Nat.zero_add, List.set_cons_zero, List.set_cons_succ]; rfl) ?_; focus (simp only [stepQ, ev, putD, ofConst, ofScalar, binD, unD, hP, pureSem, Op.intCmp, Op.intArith, getD_set, List.length_set, ↓reduceIte, Nat.reduceEqDiff, Nat.reduceLT, decide_true, decide_false, Bool.true_and, Bool.and_true, Bool.not_true, Bool.not_false, Option.map_some, List.getElem?_cons_zero, List.getElem?_cons_succ, builtinQ, List.map_cons, List.map_nil, hl, e0, e1, e8, q1, q2, d4, d2, d30, hlen, zero32, hz, hw1, build32, build32b, hl1, hl2, hl3, hl4, eq32a, eq32b, List.nil_append, List.cons_append, List.length_cons, List.length_nil, Nat.zero_add, List.set_cons_zero, List.set_cons_succ]; done))
          | (refine opsf_no rfl (want_f rfl rfl rfl ?_) ?_; focus (simp only [stepQ, ev, putD, ofConst, ofScalar, binD, unD, hP, pureSem, Op.intCmp, Op.intArith, getD_set, List.length_set, ↓reduceIte, Nat.reduceEqDiff, Nat.reduceLT, decide_true, decide_false, Bool.true_and, Bool.and_true, Bool.not_true, Bool.not_false, Option.map_some, List.getElem?_cons_zero, List.getElem?_cons_succ, builtinQ, List.map_cons, List.map_nil, hl, e0, e1, e8, q1, q2, d4, d2, d30, hlen, zero32, hz, hw1, build32, build32b, hl1, hl2, hl3, hl4, eq32a, eq32b, List.nil_append, List.cons_append, List.length_cons, List.length_nil, Nat.zero_add, List.set_cons_zero, List.set_cons_succ]; done))
          | (refine opsf_no rfl (want_n rfl rfl rfl ?_) ?_; focus (simp only [stepQ, ev, putD, ofConst, ofScalar, binD, unD, hP, pureSem, Op.intCmp, Op.intArith, getD_set, List.length_set, ↓reduceIte, Nat.reduceEqDiff, Nat.reduceLT, decide_true, decide_false, Bool.true_and, Bool.and_true, Bool.not_true, Bool.not_false, Option.map_some, List.getElem?_cons_zero, List.getElem?_cons_succ, builtinQ, List.map_cons, List.map_nil, hl, e0, e1, e8, q1, q2, d4, d2, d30, hlen, zero32, hz, hw1, build32, build32b, hl1, hl2, hl3, hl4, eq32a, eq32b, List.nil_append, List.cons_append, List.length_cons, List.length_nil, Nat.zero_add, List.set_cons_zero, List.set_cons_succ]; done))
          | refine opsf_l rfl (want_0 rfl) rfl (by simp only [stepL, stepQ, ev, putD, ofConst, ofScalar, binD, unD, hP, pureSem, Op.intCmp, Op.intArith, getD_set, List.length_set, ↓reduceIte, Nat.reduceEqDiff, Nat.reduceLT, decide_true, decide_false, Bool.true_and, Bool.and_true, Bool.not_true, Bool.not_false, Option.map_some, List.getElem?_cons_zero, List.getElem?_cons_succ, builtinQ, List.map_cons, List.map_nil, hl, e0, e1, e8, q1, q2, d4, d2, d30, hlen, zero32, hz, hw1, build32, build32b, hl1, hl2, hl3, hl4, eq32a, eq32b, List.nil_append, List.cons_append, List.length_cons, List.length_nil, Nat.zero_add, List.set_cons_zero, List.set_cons_succ]; first | exact hup | exact hup2 | exact hup3 | exact hup4 | exact hup5 | exact hup6 | exact hup7 | rfl) (by first | exact hupV | exact hV2 | exact hV | (simp; done)) ?_
          | refine opsf_a rfl (want_0 rfl) rfl (by simp only [stepQ, ev, putD, ofConst, ofScalar, binD, unD, hP, pureSem, Op.intCmp, Op.intArith, getD_set, List.length_set, ↓reduceIte, Nat.reduceEqDiff, Nat.reduceLT, decide_true, decide_false, Bool.true_and, Bool.and_true, Bool.not_true, Bool.not_false, Option.map_some, List.getElem?_cons_zero, List.getElem?_cons_succ, builtinQ, List.map_cons, List.map_nil, hl, e0, e1, e8, q1, q2, d4, d2, d30, hlen, zero32, hz, hw1, build32, build32b, hl1, hl2, hl3, hl4, eq32a, eq32b, List.nil_append, List.cons_append, List.length_cons, List.length_nil, Nat.zero_add, List.set_cons_zero, List.set_cons_succ]; rfl) ?_
          | refine opsf_nil (by decide) ?_
          | (refine exw_true ?_ ?_; focus (simp only [stepQ, ev, putD, ofConst, ofScalar, binD, unD, hP, pureSem, Op.intCmp, Op.intArith, getD_set, List.length_set, ↓reduceIte, Nat.reduceEqDiff, Nat.reduceLT, decide_true, decide_false, Bool.true_and, Bool.and_true, Bool.not_true, Bool.not_false, Option.map_some, List.getElem?_cons_zero, List.getElem?_cons_succ, builtinQ, List.map_cons, List.map_nil, hl, e0, e1, e8, q1, q2, d4, d2, d30, hlen, zero32, hz, hw1, build32, build32b, hl1, hl2, hl3, hl4, eq32a, eq32b, List.nil_append, List.cons_append, List.length_cons, List.length_nil, Nat.zero_add, List.set_cons_zero, List.set_cons_succ]; done))
          | (refine exw_false ?_ ?_; focus (simp only [stepQ, ev, putD, ofConst, ofScalar, binD, unD, hP, pureSem, Op.intCmp, Op.intArith, getD_set, List.length_set, ↓reduceIte, Nat.reduceEqDiff, Nat.reduceLT, decide_true, decide_false, Bool.true_and, Bool.and_true, Bool.not_true, Bool.not_false, Option.map_some, List.getElem?_cons_zero, List.getElem?_cons_succ, builtinQ, List.map_cons, List.map_nil, hl, e0, e1, e8, q1, q2, d4, d2, d30, hlen, zero32, hz, hw1, build32, build32b, hl1, hl2, hl3, hl4, eq32a, eq32b, List.nil_append, List.cons_append, List.length_cons, List.length_nil, Nat.zero_add, List.set_cons_zero, List.set_cons_succ]; done))
          | dsimp only)
        exact ⟨rfl, by simp only [stepQ, ev, putD, ofConst, ofScalar, binD, unD, hP, pureSem, Op.intCmp, Op.intArith, getD_set, List.length_set, ↓reduceIte, Nat.reduceEqDiff, Nat.reduceLT, decide_true, decide_false, Bool.true_and, Bool.and_true, Bool.not_true, Bool.not_false, Option.map_some, List.getElem?_cons_zero, List.getElem?_cons_succ, builtinQ, List.map_cons, List.map_nil, hl]⟩
end
end Go.Vam
