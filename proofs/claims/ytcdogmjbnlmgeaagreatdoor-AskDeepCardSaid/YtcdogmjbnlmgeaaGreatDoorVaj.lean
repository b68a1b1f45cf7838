/-
  The rest of the native calls; this program's machine.
-/
import Derived.Test.YtcdogmjbnlmgeaaGreatDoorVae
import Derived.Test.YtcdogmjbnlmgeaaGreatDoorVai
import Derived.WalkKit
import Derived.OwnWalkIn
import Derived.TacticsInMore
import Derived.LoopNIn
import Derived.LoopIn
import Derived.Test.YtcdogmjbnlmgeaaGreatDoorVaf
import Derived.Test.YtcdogmjbnlmgeaaGreatDoorVag
import Derived.Test.YtcdogmjbnlmgeaaGreatDoorVac
import Derived.Test.YtcdogmjbnlmgeaaGreatDoorVab
set_option linter.unusedSimpArgs false
set_option linter.unusedVariables false
set_option maxRecDepth 100000
namespace Go.Vam
open Go.Proofs Go.RowKit

attribute [local go_sem] Oper.semAt_some

theorem take_snoc {α : Type} {l : List α} {k : Nat} (h : k < l.length) : l.take (k + 1) = l.take k ++ [l[k]] := by
  rw [List.take_add_one, List.getElem?_eq_getElem h]
  rfl

set_option maxHeartbeats 2000000 in
/-- slices.Values's closure, where the loop turns nothing of what lay there. -/
theorem values326 (n : Nat) (hn : 1 ≤ n) {w : World} {Bs b off cap : Nat} {zs : List (List UInt8)} (hreach : zs.length < 2 ^ 30) (hBs : Bs < w.heap.size) (hb : 0 < zs.length → b < w.heap.size) (hc0 : w.cell? ⟨Bs, 0, none⟩ = some (.slice (some ⟨b, off, none⟩) zs.length cap))
    (hcs : ∀ j (h : j < zs.length), w.cell? ⟨b, off + j, none⟩ = some (encStr zs[j])) : SeqGivesB Fence.wide n Tryz.prog 326 #[.pointer (some ⟨Bs, 0, none⟩)] encStr (fun xs => xs = zs) zs.length w := by
  intro l J W hW hJa hJ hY h0
  have hcW : W.cell? ⟨Bs, 0, none⟩ = some (.slice (some ⟨b, off, none⟩) zs.length cap) := by rw [← hc0]; exact World.cell?_of_block (hW.block Bs hBs)
  refine callsIn_of_wp Tryz.func326 rfl trivial ?_ rfl
  simp only [Tryz.ntmps326, List.size_toArray, List.length_cons, List.length_nil, Nat.reduceAdd, Nat.reduceSub, Array.replicate_succ, Array.replicate_zero, List.push_toArray, List.append_toArray, List.nil_append, List.cons_append]
  gi_wp2
  gi_loopw [7] (fun i wr => ∃ k : Nat, k ≤ zs.length ∧ i = .int .i64 k ∧ J (zs.take k) wr)
    (fun i _ => zs.length - (RowKit.intOf i).toNat)
  case atStart => exact ⟨0, Nat.zero_le _, rfl, h0⟩
  case round =>
    obtain ⟨k, hk, rfl, hJs⟩ := hrel
    by_cases hlt : k < zs.length
    · have hcx : wr.cell? ⟨b, off + k, none⟩ = some (encStr zs[k]) := by
        rw [← hcs k hlt]
        exact World.cell?_of_block (hJ _ _ hJs b (hb (by omega)))
      obtain ⟨fn, tmps, assign, body, hy, hR⟩ := hY _ zs[k] wr hJs (by rw [List.length_take]; omega)
      unfold encStr at hcx hy
      gi_wp2
      refine hR.mono ?_
      rintro e W3 ⟨rfl, hJ3, hk3⟩
      gi_wp2
      go_roundw
      case rel => exact ⟨k + 1, by omega, by simp, by rw [take_snoc hlt]; exact hJ3⟩
      case measure => simp [RowKit.intOf]; omega
    · obtain rfl : k = zs.length := by omega
      gi_wp2
      go_end0
      exact ⟨⟨_, rfl⟩, zs, rfl, by rw [List.take_length] at hJs; exact hJs⟩
set_option maxHeartbeats 2000000 in
theorem values326_nil (n : Nat) (hn : 1 ≤ n) {w : World} {Bs : Nat} (hBs : Bs < w.heap.size) (hc0 : w.cell? ⟨Bs, 0, none⟩ = some (.slice none 0 0)) : SeqGivesB Fence.wide n Tryz.prog 326 #[.pointer (some ⟨Bs, 0, none⟩)] encStr (fun xs => xs = []) 0 w := by
  intro l J W hW hJa hJ hY h0
  have hcW : W.cell? ⟨Bs, 0, none⟩ = some (.slice none 0 0) := by rw [← hc0]; exact World.cell?_of_block (hW.block Bs hBs)
  refine callsIn_of_wp Tryz.func326 rfl trivial ?_ rfl
  simp only [Tryz.ntmps326, List.size_toArray, List.length_cons, List.length_nil, Nat.reduceAdd, Nat.reduceSub, Array.replicate_succ, Array.replicate_zero, List.push_toArray, List.append_toArray, List.nil_append, List.cons_append]
  gi_wp2
  gi_loopw [7] (fun i wr => i = .int .i64 0 ∧ J [] wr) (fun _ _ => 0)
  case atStart => exact ⟨rfl, h0⟩
  case round =>
    obtain ⟨rfl, hJs⟩ := hrel
    gi_wp2
    go_end0
    exact ⟨⟨_, rfl⟩, [], rfl, hJs⟩

def sortedRow (ks : List (List UInt8)) (st : St) : D × St × Ids := (rowD 1 st.length ((sortB leS ks).map fun s => [.str s]), st ++ rowObj ((sortB leS ks).map fun s => [.str s]), [])

def natSortedV : Native := fun _ args st => match args with
  | [.func 326 [] [.ptr b 0]] => match st[b]? with
    | some (.cells (.sl rows _ :: _)) => match decRows rows with
      | some ks => if ks.length < 2 ^ 19 then some (sortedRow ks st) else none
      | none => none
    | some (.cells (.nilsl :: _)) => some (sortedRow [] st)
    | _ => none
  | _ => none

def natSorted : Native := fun cf args st => match natSortedS cf args st with
  | some r => some r
  | none => natSortedV cf args st

theorem natSortedV_just {β : Nat → Nat → Option Value} (cf : CallF) : Just Tryz.prog β 162 (natSortedV cf) := by
  intro args st v st' W h g w A hb hs hA
  unfold natSortedV at h
  split at h
  case h_2 => cases h
  rename_i b
  have hcase : ∃ d cs ks, st[b]? = some (.cells (d :: cs)) ∧ ((∃ rows gr, d = .sl rows gr ∧ decRows rows = some ks) ∨ d = .nilsl ∧ ks = []) ∧ ks.length < 2 ^ 19 ∧ some (sortedRow ks st) = some (v, st', W) := by
    split at h
    · rename_i rows gr cs hst
      split at h
      · rename_i ks hks
        split at h
        · rename_i hlt
          exact ⟨_, _, ks, hst, .inl ⟨rows, gr, rfl, hks⟩, hlt, h⟩
        · cases h
      · cases h
    · rename_i cs hst
      exact ⟨_, _, [], hst, .inr ⟨rfl, rfl⟩, by decide, h⟩
    · cases h
  clear h
  obtain ⟨d, cs, ks, hst, hd, hlen, hres⟩ := hcase
  cases hres
  obtain ⟨v0, hA0⟩ : ∃ v0, A = #[v0] := by
    have := hA.size
    simp at this
    exact Array.size_eq_one_iff.1 this
  subst hA0
  have hv0 := hA.at_ 0 _ _ rfl rfl
  cases hv0 with
  | func ha hb' hva hvb =>
  rename_i A B
  have hA2 : A = #[] := by simpa using ha
  obtain ⟨vb, hB⟩ : ∃ vb, B = #[vb] := by simp at hb'; exact Array.size_eq_one_iff.1 hb'
  subst hA2 hB
  have hvb0 := hvb 0 _ _ rfl rfl
  cases hvb0 with
  | ptr hlb =>
  rename_i cb
  obtain ⟨o, ho, hr⟩ := hs.obj _ _ hlb
  rw [hst] at ho; cases ho
  obtain ⟨A, T, fr, hr⟩ := hr
  have hA0 : 0 < A.size := by have := hr.len; simp at this; omega
  have hvm := hr.at_ 0 _ _ rfl (Array.getElem?_eq_getElem hA0)
  have hcell : w.cell? ⟨cb, 0, none⟩ = some A[0] := by
    simp only [World.cell?, hr.heap]
    rw [Array.getElem?_eq_getElem hA0]
    rfl
  have hcb : cb < w.heap.size := hs.blk _ _ hlb
  generalize A[0] = x at hvm hcell
  have hseq : ∀ n, SeqGivesB Fence.wide (n + 1) Tryz.prog 326 #[.pointer (some ⟨cb, 0, none⟩)] encStr (fun xs => xs.Perm ks) ks.length w := by
    intro n
    rcases hd with ⟨rows, gr, rfl, hks⟩ | ⟨rfl, rfl⟩
    · have hrk := decRows_eq hks
      cases hvm with
      | slNil hgr =>
        have : ks = [] := by
          cases ks with
          | nil => rfl
          | cons y ys => cases hrk
        subst this
        intro l J W hW hJa hJ hY h0
        refine (values326_nil (n + 1) (by omega) hcb hcell l J W hW hJa hJ hY h0).mono ?_
        rintro e W' ⟨h1, xs, rfl, h2⟩
        exact ⟨h1, [], .refl _, h2⟩
      | sl hsz hI hv hcap hgr =>
        rename_i c o sz cap
        have hl : rows.length = ks.length := by rw [hrk]; simp [rowsN]
        have hget : ∀ j (h : j < ks.length), w.cell? ⟨c, o + j, none⟩ = some (encStr ks[j]) := by
          intro j hj
          have hr1 : rows[j]? = some [.str ks[j]] := by
            rw [hrk, rowsN, List.getElem?_map, List.getElem?_eq_getElem hj]
            rfl
          have hsz1 : sz = 1 := by
            have := hsz _ (List.mem_of_getElem? hr1)
            simpa using this.symm
          subst hsz1
          obtain ⟨u, hu⟩ := hI j _ 0 _ hr1 rfl
          have hv1 := hv j _ 0 _ u hr1 rfl hu
          rw [eq_encStr hv1] at hu
          have := hs.imm _ _ _ hu
          simpa using this
        rw [hl] at hcell
        have hc : 0 < ks.length → c < w.heap.size := fun hpos => by
          have := hget 0 hpos
          unfold World.cell? at this
          cases hh : w.heap[c]? with
          | none => simp [hh] at this
          | some _ => exact (Array.getElem?_eq_some_iff.1 hh).1
        intro l J W hW hJa hJ hY h0
        refine (values326 (n + 1) (by omega) (by omega) hcb hc hcell hget l J W hW hJa hJ hY h0).mono ?_
        rintro e W' ⟨h1, xs, rfl, h2⟩
        exact ⟨h1, _, .refl _, h2⟩
    · cases hvm
      intro l J W hW hJa hJ hY h0
      refine (values326_nil (n + 1) (by omega) hcb hcell l J W hW hJa hJ hY h0).mono ?_
      rintro e W' ⟨h1, xs, rfl, h2⟩
      exact ⟨h1, [], .refl _, h2⟩
  have hfin := seq_sorted (f := 326) (lb := #[.pointer (some ⟨cb, 0, none⟩)]) (w := w) (ks := ks) hlen (hseq 6) (enters_of Tryz.func326 (by kernel_rfl) rfl)
  refine hfin.mono ?_
  rintro e w' ⟨v, rfl, hrow⟩
  obtain ⟨g', h1, h2, h3, h4⟩ := hrow.graft hs (by
    intro r hr d hd
    obtain ⟨x, _, rfl⟩ := List.mem_map.1 hr
    simp at hd; subst hd; rfl)
  exact ⟨v, g', rfl, h4, h1, h2, h3⟩

theorem natSortedV_keeps (cf : CallF) : Keeps (natSortedV cf) := by
  intro args st v st' W h
  unfold natSortedV at h
  repeat' split at h
  all_goals (first | cases h)
  all_goals exact Keeps_append

theorem natSorted_just {β : Nat → Nat → Option Value} (cf : CallF) : Just Tryz.prog β 162 (natSorted cf) := by
  intro args st v st' W h
  unfold natSorted at h
  split at h
  · rename_i r hr
    cases h
    exact natSortedS_just cf args st v st' W hr
  · exact natSortedV_just cf args st v st' W h
theorem natSorted_keeps (cf : CallF) : Keeps (natSorted cf) := by
  intro args st v st' W h
  unfold natSorted at h
  split at h
  · rename_i r hr
    cases h
    exact natSortedS_keeps cf args st v st' W hr
  · exact natSortedV_keeps cf args st v st' W h
end Go.Vam

set_option linter.unusedSimpArgs false
set_option linter.unusedVariables false
set_option maxRecDepth 100000
namespace Go.Vam
open Go.Proofs Go.RowKit

noncomputable def ops0_77 : Array Oper := match Tryz.f77.body with
  | some (.seq (.region _ o _) _) => o
  | _ => #[]
noncomputable def ops1_77 : Array Oper := match Tryz.f77.body with
  | some (.seq _ (.seq (.seq (.region _ o _) _) _)) => o
  | _ => #[]
noncomputable def c2_77 : Code := match Tryz.f77.body with
  | some (.seq _ (.seq (.seq _ (.cond _ a _)) _)) => a
  | _ => .skip
noncomputable def c3_77 : Code := match Tryz.f77.body with
  | some (.seq _ (.seq _ a)) => a
  | _ => .skip
theorem code77 : Tryz.f77.body = some (.seq (.region 0 #[opB ops0_77 0] false) (.seq (.seq (.region 1 #[opB ops1_77 0, opB ops1_77 1] false) (.cond (.tmp 4) c2_77 .skip)) c3_77)) := by kernel_rfl

theorem zeroOf9' : zeroOf Tryz.prog 9 = some [.str []] := by kernel_rfl

section
variable {C : Cfg} {cf : CallF} {N : Nat} {st : St} {e : Env} {hh : Bool} {Pw : Nat → Prop}
theorem c3_run77 (hP : C.P = Tryz.prog) (hl : e.length = 8) {gr : Gr} (e0 : e.getD 0 .undef = .sl [] gr) : ExW C false cf N Pw c3_77 e st (fun y e' st' => y = .ret ∧ st' = st ∧ e'.length = 8 ∧ e'.getD 2 .undef = .sl [] .exact) := by
  have hsl : slimParts st [] = some [] := rfl
  have hup : builtinL Tryz.prog false .append #[41, 41] [.sl [] .exact, .sl [] gr] st = some (.sl [] .exact, st, []) := by
    unfold builtinL
    dsimp only
    rw [und41]
    unfold appendD
    rw [elemB41]
    dsimp only
    rw [size9, bytes9]
    simp [rowsOf, hasZero9]
  refine exw_strip ?_
  obtain ⟨code, hcode⟩ : ∃ code, code = strip c3_77 := ⟨_, rfl⟩
  rw [← hcode]
  simp only [c3_77, Tryz.f77, loopsOf, Option.getD, List.append, List.getD, List.getElem?_cons_succ, List.getElem?_cons_zero, HAppend.hAppend, Append.append, strip, stripO, List.map_toArray, List.map_cons, List.map_nil] at hcode
  subst hcode
  repeat (first
    | refine exw_seq ?_ | refine exw_block ?_ | refine exw_regf ?_ | refine exw_skip ?_ | refine exw_exit ?_ | refine exw_ret ?_
    | refine opsf_q rfl (want_0 rfl) rfl (by simp only [stepQ, ev, putD, ofConst, ofScalar, binD, unD, hP, pureSem, Op.intCmp, Op.intArith, getD_set, List.length_set, ↓reduceIte, Nat.reduceEqDiff, Nat.reduceLT, decide_true, decide_false, Bool.true_and, Bool.and_true, Bool.not_true, Bool.not_false, Option.map_some, List.getElem?_cons_zero, List.getElem?_cons_succ, builtinQ, List.map_cons, List.map_nil, hl, e0, hsl, elemB41, size9, zeroOf9]; rfl) ?_
    | (refine opsf_q rfl (want_g rfl rfl rfl ?_) rfl (by simp only [stepQ, ev, putD, ofConst, ofScalar, binD, unD, hP, pureSem, Op.intCmp, Op.intArith, getD_set, List.length_set, ↓reduceIte, Nat.reduceEqDiff, Nat.reduceLT, decide_true, decide_false, Bool.true_and, Bool.and_true, Bool.not_true, Bool.not_false, Option.map_some, List.getElem?_cons_zero, List.getElem?_cons_succ, builtinQ, List.map_cons, List.map_nil, hl, e0, hsl, elemB41, size9, zeroOf9]; rfl) ?_; focus (simp only [stepQ, ev, putD, ofConst, ofScalar, binD, unD, hP, pureSem, Op.intCmp, Op.intArith, getD_set, List.length_set, ↓reduceIte, Nat.reduceEqDiff, Nat.reduceLT, decide_true, decide_false, Bool.true_and, Bool.and_true, Bool.not_true, Bool.not_false, Option.map_some, List.getElem?_cons_zero, List.getElem?_cons_succ, builtinQ, List.map_cons, List.map_nil, hl, e0, hsl, elemB41, size9, zeroOf9]; done))
    | (refine opsf_no rfl (want_f rfl rfl rfl ?_) ?_; focus (simp only [stepQ, ev, putD, ofConst, ofScalar, binD, unD, hP, pureSem, Op.intCmp, Op.intArith, getD_set, List.length_set, ↓reduceIte, Nat.reduceEqDiff, Nat.reduceLT, decide_true, decide_false, Bool.true_and, Bool.and_true, Bool.not_true, Bool.not_false, Option.map_some, List.getElem?_cons_zero, List.getElem?_cons_succ, builtinQ, List.map_cons, List.map_nil, hl, e0, hsl, elemB41, size9, zeroOf9]; done))
    | (refine opsf_no rfl (want_n rfl rfl rfl ?_) ?_; focus (simp only [stepQ, ev, putD, ofConst, ofScalar, binD, unD, hP, pureSem, Op.intCmp, Op.intArith, getD_set, List.length_set, ↓reduceIte, Nat.reduceEqDiff, Nat.reduceLT, decide_true, decide_false, Bool.true_and, Bool.and_true, Bool.not_true, Bool.not_false, Option.map_some, List.getElem?_cons_zero, List.getElem?_cons_succ, builtinQ, List.map_cons, List.map_nil, hl, e0, hsl, elemB41, size9, zeroOf9]; done))
    | refine opsf_l rfl (want_0 rfl) rfl (by simp only [stepL, stepQ, ev, putD, ofConst, ofScalar, binD, unD, hP, pureSem, Op.intCmp, Op.intArith, getD_set, List.length_set, ↓reduceIte, Nat.reduceEqDiff, Nat.reduceLT, decide_true, decide_false, Bool.true_and, Bool.and_true, Bool.not_true, Bool.not_false, Option.map_some, List.getElem?_cons_zero, List.getElem?_cons_succ, builtinQ, List.map_cons, List.map_nil, hl, e0, hsl, elemB41, size9, zeroOf9]; first | exact hup | exact hup2 | exact hup3 | rfl) (by first | exact hupV | exact hV2 | exact hV | (simp; done)) ?_
    | refine opsf_a rfl (want_0 rfl) rfl (by simp only [stepQ, ev, putD, ofConst, ofScalar, binD, unD, hP, pureSem, Op.intCmp, Op.intArith, getD_set, List.length_set, ↓reduceIte, Nat.reduceEqDiff, Nat.reduceLT, decide_true, decide_false, Bool.true_and, Bool.and_true, Bool.not_true, Bool.not_false, Option.map_some, List.getElem?_cons_zero, List.getElem?_cons_succ, builtinQ, List.map_cons, List.map_nil, hl, e0, hsl, elemB41, size9, zeroOf9]; rfl) ?_
    | refine opsf_nil (by decide) ?_
    | (refine exw_true ?_ ?_; focus (simp only [stepQ, ev, putD, ofConst, ofScalar, binD, unD, hP, pureSem, Op.intCmp, Op.intArith, getD_set, List.length_set, ↓reduceIte, Nat.reduceEqDiff, Nat.reduceLT, decide_true, decide_false, Bool.true_and, Bool.and_true, Bool.not_true, Bool.not_false, Option.map_some, List.getElem?_cons_zero, List.getElem?_cons_succ, builtinQ, List.map_cons, List.map_nil, hl, e0, hsl, elemB41, size9, zeroOf9]; done))
    | (refine exw_false ?_ ?_; focus (simp only [stepQ, ev, putD, ofConst, ofScalar, binD, unD, hP, pureSem, Op.intCmp, Op.intArith, getD_set, List.length_set, ↓reduceIte, Nat.reduceEqDiff, Nat.reduceLT, decide_true, decide_false, Bool.true_and, Bool.and_true, Bool.not_true, Bool.not_false, Option.map_some, List.getElem?_cons_zero, List.getElem?_cons_succ, builtinQ, List.map_cons, List.map_nil, hl, e0, hsl, elemB41, size9, zeroOf9]; done))
    | dsimp only)
  refine ⟨rfl, rfl, ?_, ?_⟩
  · simp only [putD, List.length_set]; exact hl
  · simp only [stepQ, ev, putD, ofConst, ofScalar, binD, unD, hP, pureSem, Op.intCmp, Op.intArith, getD_set, List.length_set, ↓reduceIte, Nat.reduceEqDiff, Nat.reduceLT, decide_true, decide_false, Bool.true_and, Bool.and_true, Bool.not_true, Bool.not_false, Option.map_some, List.getElem?_cons_zero, List.getElem?_cons_succ, builtinQ, List.map_cons, List.map_nil, hl]
end

/-- slices.Clone of no texts: no room. -/
def natCloneE : Native := fun _ args st => match args with
  | [.sl [] _] => some (.sl [] .exact, st, [])
  | _ => none
def natClone2 : Native := fun cf args st => match natCloneE cf args st with
  | some r => some r
  | none => natClone cf args st

theorem natCloneE_just {C : Cfg} (hP : C.P = Tryz.prog) {β : Nat → Nat → Option Value} (cf : CallF) (hX : Ctx C cf β) : Just Tryz.prog β 77 (natCloneE cf) := by
  intro args st v st' W h g w A hb hs hA
  unfold natCloneE at h
  split at h
  case h_2 => cases h
  rename_i gr
  cases h
  obtain ⟨v0, rfl⟩ := arr_one' (A := A) (by simpa using hA.size)
  have hv0 : VR g (.sl [] gr) v0 := hA.at_ 0 _ _ rfl rfl
  have hsl : ∃ p cap, v0 = .slice p 0 cap := by
    cases hv0 with
    | slNil => exact ⟨_, _, rfl⟩
    | sl => exact ⟨_, _, rfl⟩
  obtain ⟨p, cap, rfl⟩ := hsl
  cases p with
  | none =>
    refine (Tryz.slices_Clone_string_nil 0 cap w).mono ?_
    rintro e w' ⟨rfl, rfl⟩
    exact ⟨_, g, rfl, .slNil (fun t n h => by cases h), hs, Step.refl _ _ _, Free.refl _ _⟩
  | some a =>
    refine calls_of_wp Tryz.func77 code77 ?_
    have hntm : Tryz.f77.ntmps = 8 := by kernel_rfl
    rw [hntm]
    generalize ha0 : ({ tmps := #[.slice (some a) 0 cap] ++ Array.replicate (8 - (#[Value.slice (some a) 0 cap] : Array Value).size) undef, defers := [] } : Act) = a0
    have hE : VRs g ([D.sl [] gr] ++ List.replicate 7 .undef) a0.tmps := by
      rw [← ha0]
      refine hA.append ⟨by simp, fun j d x hj hx => ?_⟩
      rw [List.getElem?_replicate] at hj
      split at hj
      · cases hj; exact .undef x
      · cases hj
    have hd0 : a0.defers = [] := by rw [← ha0]
    have hev0 : a0.eval (.tmp 0) = .slice (some a) 0 cap := by rw [← ha0]; rfl
    clear ha0
    have hS := At.start hs hE
    rw [hd0] at hS
    have hX0 := ctxB hP hX 0
    have hP0 : C0.P = Tryz.prog := rfl
    rw [← hP0]
    have hsz0 : a0.tmps.size = 8 := by rw [hE.size]; rfl
    refine wp_seq (wp_region ?_)
    show wpOps _ _ _ [0] _ _
    refine op_value (some 2) rfl (by kernel_rfl) (by kernel_rfl) (x_move (x := .const (.slice none 0 0)) (.inr (by kernel_rfl))) ?_
    have hA1 : At g st w [] (putD ([D.sl [] gr] ++ List.replicate 7 .undef) (some 2) .nilsl) st [] (a0.put (some 2) (.slice none 0 0)) w g :=
      ⟨hS.sim, hS.step, hS.free, put_VR hS.env .nilsl, by rw [Act.put_defers']; exact hS.defers, hS.k⟩
    have hev1 : (a0.put (some 2) (.slice none 0 0)).eval (.tmp 0) = .slice (some a) 0 cap := by
      rw [eval_put, if_neg (by simp)]
      exact hev0
    have hev1' : a0.eval (.const (.slice none 0 0)) = .slice none 0 0 := rfl
    rw [hev1']
    generalize ha1 : a0.put (some 2) (.slice none 0 0) = a1 at hA1 hev1 ⊢
    have hsz1 : a1.tmps.size = 8 := by rw [hA1.env.size]; rfl
    clear ha1
    show Code.wp _ _ _ _ _
    refine wp_seq (wp_seq (wp_region ?_))
    show wpOps _ _ _ [0, 1] _ _
    refine op_value (some 3) rfl (by kernel_rfl) (by kernel_rfl) (x_move (x := .tmp 0) (.inl (by kernel_rfl))) ?_
    rw [hev1]
    have hA2 : At g st w [] (putD _ (some 3) (.sl [] gr)) st [] (a1.put (some 3) (.slice (some a) 0 cap)) w g :=
      ⟨hA1.sim, hA1.step, hA1.free, put_VR hA1.env hv0, by rw [Act.put_defers']; exact hA1.defers, hA1.k⟩
    have hev2 : (a1.put (some 3) (.slice (some a) 0 cap)).eval (.tmp 3) = .slice (some a) 0 cap := by
      rw [eval_put, if_pos ⟨rfl, by rw [hsz1]; omega⟩]
    generalize ha2 : a1.put (some 3) (.slice (some a) 0 cap) = a2 at hA2 hev2 ⊢
    have hsz2 : a2.tmps.size = 8 := by rw [hA2.env.size]; rfl
    clear ha2
    have hop : (opB ops1_77 1).op = .binOp .eql 41 (.tmp 3) (.const (.slice none 0 0)) 41 := by kernel_rfl
    have hrun : (execOp a2.eval (opB ops1_77 1)).run C0.P w = .ok (.value (.bool false)) w := by
      unfold execOp
      rw [hop]
      dsimp only
      rw [hev2]
      have := Lib.run_eql_slice_nil w 41 9 (some a) 0 cap 0 0 (P := Tryz.prog) Tryz.underlying41
      have he : a2.eval (.const (.slice none 0 0)) = .slice none 0 0 := rfl
      rw [he, hP0]
      simp [eqGuard, this, go_sem]
    refine op_value (some 4) rfl (by kernel_rfl) (by kernel_rfl) hrun ?_
    have hA3 : At g st w [] (putD _ (some 4) (.bool false)) st [] (a2.put (some 4) (.bool false)) w g :=
      ⟨hA2.sim, hA2.step, hA2.free, put_VR hA2.env (.bool _), by rw [Act.put_defers']; exact hA2.defers, hA2.k⟩
    show Code.wp _ _ _ _ _
    refine wp_cond_false (by rw [eval_put, if_pos ⟨rfl, by rw [hsz2]; omega⟩]) (wp_skip ?_)
    show Code.wp _ _ _ _ _
    refine wp_of_exw hX0 hb (ordsIn_none _) hA3 (c3_run77 (N := 0) (Pw := fun _ => False) hP0 rfl (gr := gr) rfl) ?_
    rintro x e5 st5 W5 a5 w5 g5 hA5 hW5 ⟨rfl, rfl, l5, e2⟩
    have hW : W5 = [] := ids_nil fun id hid => (hW5 id hid).elim (fun h => by cases h) (fun h => h)
    subst hW
    have hr4 : resOf Tryz.prog e5 st5 Tryz.f77.results.toList = some [e5.getD 2 .undef] := by
      have : Tryz.f77.results.toList = [.tmp 2] := by kernel_rfl
      rw [this]
      rfl
    obtain ⟨B, h1, h2⟩ := results_run (P := Tryz.prog) hA5.sim hA5.env hr4
    have h3 := oneOf_VR h2
    rw [e2] at h3
    exact ⟨hA5.defers, _, h1, _, g5, rfl, h3, hA5.sim, hA5.step, hA5.free⟩

theorem natClone2_just {C : Cfg} (hP : C.P = Tryz.prog) {β : Nat → Nat → Option Value} (cf : CallF) (hX : Ctx C cf β) : Just Tryz.prog β 77 (natClone2 cf) := by
  intro args st v st' W h
  unfold natClone2 at h
  split at h
  · rename_i r hr
    cases h
    exact natCloneE_just hP cf hX args st v st' W hr
  · exact natClone_just cf args st v st' W h
theorem natClone2_keeps (cf : CallF) : Keeps (natClone2 cf) := by
  intro args st v st' W h
  unfold natClone2 at h
  split at h
  · rename_i r hr
    cases h
    unfold natCloneE at hr
    split at hr
    · cases hr
      exact ⟨Nat.le_refl _, fun _ _ _ => rfl⟩
    · cases hr
  · exact natClone_keeps cf args st v st' W h
end Go.Vam

set_option linter.unusedSimpArgs false
set_option linter.unusedVariables false
set_option maxRecDepth 1000000
namespace Go.Vam
open Go.Proofs

noncomputable def ordT : List (Nat × List (Nat × (List Nat × Bool))) := [
  (4, [(9, ([0,1,2,3,4,5,7,6,8,9,10,11,12,13,14,15,16,17,19,20,18,21,22,23,24], false))]),
  (5, [(10, ([0,1,2,3,4,5,6,7,8,9,10,11,12,13,14,15,16,17,18,19,22,23,24,20,21,25,26,27,28,29,30,31,32,33,34,35,36,37,38,39,40], true))]),
  (6, [(5, (List.range 16, true))]),
  (12, [(5, (List.range 4, false)), (11, (List.range 8, false))]),
  (13, [(12, ([0,1,2,3,5,7,8,9,10,4,6,11,12,13], false)), (15, ([0,2,3,1,4,5,6,7], false)), (20, ([0,2,1,3,4,5,6], false)), (22, ([0,2,1,3,4,5,6], false)), (24, (List.range 7, false)), (26, ([0,1,3,2,4,5,6,7], false)), (28, ([0,1,2,3,4,8,5,6,7,9,10,11], false))]),
  (14, [(17, ([0,1,2,3,4,7,8,9,5,6,10,11], false)), (20, (List.range 11, false)), (25, (List.range 11, true)), (27, (List.range 11, true)), (29, (List.range 10, true)), (31, ([0,1,5,6,7,2,3,4,8,9,10], false)), (33, (List.range 14, true))]),
  (18, [(6, (List.range 12, true))]),
  (19, [(3, (List.range 3, true))]),
  (20, [(8, (List.range 9, false)), (9, (List.range 9, false)), (18, ([0,1,3,4,2,5,6], false)), (19, (List.range 8, true))]),
  (23, [(3, (List.range 3, true))]),
  (27, [(5, (List.range 4, false)), (11, (List.range 8, false))]),
  (28, [(6, (List.range 12, true))]),
  (30, [(9, (List.range 8, false))]),
  (38, [(14, (List.range 10, true))]),
  (42, [(15, (List.range 19, true))]),
  (44, [(6, (List.range 5, true))]),
  (46, [(1, ([0,1,3,4,6,7,9,10,2,12,5,8,11,13,14,15,16,17,18,19], false)), (5, ([0,1,2,3,4,5,6,7,8,9,10,11,13,14,15,16,17,18,12,19,20,21,22,23,24,25], false))]),
  (47, [(9, (List.range 7, true))]),
  (49, [(1, (List.range 8, true)), (2, (List.range 17, true)), (6, (List.range 6, false)), (7, (List.range 9, true))]),
  (51, [(2, ([0,1,2,3,4,5,6,7,8,9,10,11,12,14,13,15,16,17,18], false)), (17, ([0,1,2,4,5,6,3,7,8,9,10,11,12], false)), (19, ([0,1,2,4,5,6,3,7,8,9,10,11,12], false)), (21, (List.range 8, true)), (23, (List.range 6, true)), (25, (List.range 9, true)), (27, (List.range 9, true))]),
  (53, [(11, (List.range 142, false))]),
  (54, [(6, ([0,1,3,4,5,7,2,6,8], false))]),
  (58, [(6, (List.range 10, true)), (11, (List.range 10, true))]),
  (60, [(1, (List.range 14, true)), (5, (List.range 9, true))]),
  (62, [(8, (List.range 8, false)), (11, (List.range 8, false))]),
  (64, [(1, (List.range 11, true))]),
  (69, [(7, (List.range 8, false))]),
  (75, [(6, (List.range 5, true)), (16, (List.range 4, true)), (28, (List.range 4, true))]),
  (89, [(1, ([0,1,3,4,2,5,6,7], false))]),
  (98, [(15, (List.range 6, true))]),
  (102, [(1, (List.range 11, true))]),
  (105, [(3, (List.range 8, true))]),
  (107, [(5, ([0,1,2,3,4,5,6,7,8,9,10,11,12,13,15,16,17,18,19,14,20,21,22], false))]),
  (110, [(4, ([0,1,2,3,4,5,6,7,8,9,10,11,12,13,15,14,16,17,18,19], false))]),
  (113, [(17, (List.range 15, true))]),
  (116, [(27, ([0,1,2,3,4,7,8,9,10,5,6,11,12,13,14,15,16,17], true))]),
  (118, [(5, (List.range 13, true))]),
  (124, [(13, ([0,1,2,3,4,5,6,7,8,9,10,11,12,13,14,15,18,19,20,21,22,23,24,16,17,25,26,27], false))]),
  (133, [(24, (List.range 6, false))]),
  (138, [(1, (List.range 10, true))]),
  (143, [(3, (List.range 8, true))]),
  (144, [(21, (List.range 7, true))]),
  (148, [(17, (List.range 6, false))]),
  (157, [(4, ([0,2,3,5,1,4,6,7], false))]),
  (165, [(4, (List.range 6, false)), (8, (List.range 6, false))]),
  (167, [(4, (List.range 15, true)), (6, (List.range 18, true))]),
  (168, [(10, (List.range 20, true))]),
  (169, [(10, (List.range 20, true))]),
  (171, [(3, (List.range 16, true))]),
  (172, [(5, (List.range 16, true)), (11, (List.range 18, true)), (16, (List.range 11, true)), (17, (List.range 18, true)), (22, (List.range 11, true)), (23, (List.range 18, true))]),
  (174, [(1, (List.range 16, true)), (3, (List.range 15, true)), (5, (List.range 14, true)), (8, (List.range 16, true))]),
  (175, [(1, (List.range 16, true)), (3, (List.range 14, true)), (5, (List.range 15, true)), (8, (List.range 16, true)), (10, (List.range 16, true)), (13, (List.range 14, true)), (15, (List.range 15, true)), (18, (List.range 16, true)), (21, (List.range 16, true))]),
  (180, [(5, (List.range 7, false)), (8, (List.range 6, false)), (14, ([0,1,2,3,4,5,6,7,8,10,11,9,12,13,14,15], false)), (18, (List.range 7, false))]),
  (182, [(14, ([0,1,3,4,2,5,6,7], true))]),
  (184, [(22, (List.range 8, false))]),
  (195, [(18, (List.range 7, false))]),
  (201, [(1, (List.range 7, false))]),
  (202, [(1, (List.range 7, false))]),
  (214, [(4, (List.range 6, true))]),
  (215, [(3, (List.range 20, true)), (5, (List.range 14, true)), (6, (List.range 24, true))]),
  (217, [(1, (List.range 10, true)), (2, (List.range 10, true)), (3, (List.range 10, true))]),
  (233, [(7, (List.range 15, true)), (8, (List.range 15, true)), (9, (List.range 15, true)), (10, (List.range 15, true)), (17, (List.range 15, true)), (18, (List.range 15, true)), (23, (List.range 15, true))]),
  (242, [(17, (List.range 17, true))]),
  (248, [(1, (List.range 12, true)), (6, (List.range 11, true)), (18, (List.range 11, true)), (20, (List.range 7, true))]),
  (258, [(1, (List.range 9, true))]),
  (259, [(7, (List.range 14, true))]),
  (273, [(4, (List.range 17, true)), (6, (List.range 18, true))]),
  (274, [(10, (List.range 20, true))]),
  (275, [(10, (List.range 20, true))]),
  (277, [(3, (List.range 16, true))]),
  (278, [(5, (List.range 18, true)), (11, (List.range 18, true)), (16, (List.range 13, true)), (17, (List.range 18, true)), (22, (List.range 13, true)), (23, (List.range 18, true))]),
  (279, [(1, (List.range 16, true)), (3, (List.range 17, true)), (5, (List.range 16, true)), (8, (List.range 16, true))]),
  (280, [(1, (List.range 16, true)), (3, (List.range 16, true)), (5, (List.range 17, true)), (8, (List.range 16, true)), (10, (List.range 16, true)), (13, (List.range 16, true)), (15, (List.range 17, true)), (18, (List.range 16, true)), (21, (List.range 16, true))]),
  (282, [(5, (List.range 9, true)), (18, (List.range 14, true)), (19, (List.range 13, true))]),
  (285, [(5, (List.range 3, true)), (11, (List.range 7, true))]),
  (292, [(1, (List.range 7, false))]),
  (299, [(3, (List.range 22, true)), (5, (List.range 16, true)), (6, (List.range 24, true))]),
  (308, [(11, (List.range 8, false))]),
  (310, [(2, ([0,1,2,3,4,5,8,9,12,13,6,7,10,11,14,15,16], false))]),
  (314, [(1, ([0,1,3,4,6,7,2,9,5,8,10,11,12,13,14], false)), (6, ([0,1,2,3,4,5,6,7,8,9,10,11,13,14,15,16,17,18,12,19,20,21,22,23,24,25], false))]),
  (323, [(1, (List.range 11, true))]),
  (325, [(1, ([0,1,2,3,5,6,7,8,9,4,10,11], false))]),
  (327, [(3, (List.range 13, true))]),
  (334, [(7, (List.range 8, false))]),
  (345, [(6, (List.range 9, true))]),
  (354, [(1, ([0,1,3,2,4,5,6], false))]),
  (355, [(1, ([0,1,3,2,4,5,6], false))]),
  (359, [(0, ([0,1,2,3,4,5,6,7,9,10,11,12,13,8,14,15], false))]),
  (368, [(4, (List.range 17, true)), (6, (List.range 18, true))]),
  (369, [(5, (List.range 11, true)), (11, (List.range 18, true)), (17, (List.range 12, true)), (23, (List.range 18, true)), (35, (List.range 14, true))]),
  (377, [(3, (List.range 12, true))]),
  (382, [(3, (List.range 24, true))])]

noncomputable def lookN {α : Type} : List (Nat × α) → Nat → Option α
  | [], _ => none
  | (k, v) :: l, n => if Nat.beq k n then some v else lookN l n
noncomputable def ordsOf (f id : Nat) : Option (List Nat × Bool) := match lookN ordT f with
  | some l => lookN l id
  | none => none

noncomputable def C1 : Cfg := { P := Tryz.prog, keepNil := [76], keepArr := [58, 88, 160, 78, 159, 166, 136, 82], hnd := [25, 55, 76, 98, 99, 133, 148, 150, 151, 152, 165, 252, 259, 291, 316, 335, 78, 159, 166], byRef := [57, 58, 88, 113, 160, 165, 167, 191, 242, 273, 315, 349, 368, 369, 379, 382], ords := ordsOf }

noncomputable def natTab0 : List (Nat × Native) := [(162, natSorted), (139, natSortedL), (304, natJoin), (302, natLines), (77, natClone2), (181, natIndexByte), (194, natIndex), (318, natCount), (306, natReplaceAll), (80, natConcat), (134, natBack), (211, natCopy)]
noncomputable def nat0 : FuncId → Option Native := lookN natTab0
noncomputable def okI (i : Nat) : Bool := match Tryz.prog.funcs[i]? with
  | some fn => match fn.body with
    | some c => chkCode (ordsOf i) c
    | none => true
  | none => true
end Go.Vam
