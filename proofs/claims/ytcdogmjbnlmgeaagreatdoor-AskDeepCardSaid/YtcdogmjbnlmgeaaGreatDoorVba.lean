/-
  AskDeep: a function's call out of its walk; rows for its texts.
-/
import Derived.Test.YtcdogmjbnlmgeaaGreatDoorVag
import Derived.Test.YtcdogmjbnlmgeaaGreatDoorVal
import Derived.Test.YtcdogmjbnlmgeaaGreatDoorVai
import Derived.KernelRfl
set_option linter.unusedSimpArgs false
set_option linter.unusedVariables false
namespace Go.Vam
open Go.Proofs

/-- Code whose open regions are gone through as they stand. -/
def undraw : Code → Code
  | .region id ops true => .region id ops false
  | .seq a b => .seq (undraw a) (undraw b)
  | .cond c a b => .cond c (undraw a) (undraw b)
  | .block id a => .block id (undraw a)
  | .loop a => .loop (undraw a)
  | c => c
/-- May they be? -/
def canU (od : Nat → Option (List Nat × Bool)) : Code → Bool
  | .region id ops true => match od id with
    | some (l, true) => l == List.range ops.size
    | _ => false
  | .seq a b => canU od a && canU od b
  | .cond _ a b => canU od a && canU od b
  | .block _ a => canU od a
  | .loop a => canU od a
  | _ => true

theorem exec_undraw {C : Cfg} {hh : Bool} {cf : CallF} {N : Nat} {od : Nat → Option (List Nat × Bool)} : ∀ {c : Code}, canU od c = true → ∀ (e : Env) (st : St), exec C hh od cf N c e st = exec C hh (fun _ => none) cf N (undraw c) e st := by
  intro c
  induction c with
  | region id ops d =>
    intro h e st
    cases d with
    | false =>
      rw [show undraw (.region id ops false) = .region id ops false from rfl]
      unfold exec region
      simp only [Bool.false_eq_true, if_false]
    | true =>
      unfold canU at h
      split at h
      · rename_i l hl
        have he := beq_iff_eq.1 h
        rw [show undraw (.region id ops true) = .region id ops false from rfl]
        unfold exec region
        simp only [Bool.false_eq_true, if_false, if_true, hl, he]
      · cases h
  | seq a b iha ihb =>
    intro h e st
    unfold canU at h
    rw [Bool.and_eq_true] at h
    rw [show undraw (.seq a b) = .seq (undraw a) (undraw b) from rfl]
    unfold exec
    rw [iha h.1]
    cases exec C hh (fun _ => none) cf N (undraw a) e st with
    | none => rfl
    | some p =>
      obtain ⟨x, e1, st1, V⟩ := p
      cases x with
      | norm =>
        dsimp only
        rw [ihb h.2]
      | _ => rfl
  | cond x a b iha ihb =>
    intro h e st
    unfold canU at h
    rw [Bool.and_eq_true] at h
    rw [show undraw (.cond x a b) = .cond x (undraw a) (undraw b) from rfl]
    unfold exec
    cases ev e x with
    | bool t =>
      cases t with
      | true => exact iha h.1 e st
      | false => exact ihb h.2 e st
    | _ => rfl
  | block id b ih =>
    intro h e st
    unfold canU at h
    rw [show undraw (.block id b) = .block id (undraw b) from rfl]
    unfold exec
    rw [ih h]
  | loop b ih =>
    intro h e st
    unfold canU at h
    rw [show undraw (.loop b) = .loop (undraw b) from rfl]
    unfold exec
    rw [show exec C hh od cf N b = exec C hh (fun _ => none) cf N (undraw b) from funext fun e => funext fun st => ih h e st]
  | _ =>
    intro h e st
    rfl

/-- A call that tells a scalar and turns nothing that was there. -/
theorem run1_of_exw {cf : CallF} {N : Nat} {f : FuncId} {fn : Func} {c : Code} {args : List D} {st : St} {v : D} (hfn : Tryz.prog.funcs[f]? = some fn) (hb : fn.body = some c) (hh : C1.hnd.contains f = false) (hk : C1.keepArr.contains f = false) (hk2 : C1.keepNil.contains f = false)
    (hu : canU (C1.ords f) c = true) (hv : scalV v = true) (hvt : ∀ ds, v ≠ .tup ds) (hvu : v ≠ .undef)
    (h : ExW C1 false cf N (fun id => st.length ≤ id) (undraw c) (args ++ List.replicate (fn.ntmps - args.length) .undef) st (fun y e' st' => y = .ret ∧ resOf C1.P e' st' fn.results.toList = some [v] ∧ ∃ more, st' = st ++ more)) : run C1 cf N f args st = some (v, st, []) := by
  obtain ⟨y, e', st', V, h1, h2, rfl, h3, more, rfl⟩ := h.ex
  have hsc : scal v = true := by
    cases v <;> first | rfl | (exact absurd rfl (hvt _)) | (exact absurd rfl hvu) | (exact hv)
  have hf : frzArgs (st ++ more) [v] = some ([v], st ++ more) := by
    cases v <;> first | rfl | cases hsc
  have hfil : V.filter (· < st.length) = [] := by
    rw [List.filter_eq_nil_iff]
    intro id hid
    have := h2 id hid
    simp
    omega
  have hfin : finish st.length v (st ++ more) V = some (v, st, []) := by
    rw [finish_scal (by cases v <;> first | rfl | cases hsc) hfil]
    simp
  unfold run
  have hP : C1.P = Tryz.prog := rfl
  rw [hP, hfn]
  dsimp only
  rw [hb]
  dsimp only
  rw [hh, exec_undraw hu, h1]
  dsimp only
  rw [hP] at h3
  rw [h3]
  dsimp only
  have hz : frzRes C1 f [v] (st ++ more) = some ([v], st ++ more) := by
    unfold frzRes
    rw [hk, hk2]
    exact hf
  rw [hz]
  dsimp only
  rw [frozenIds_self]
  exact hfin
end Go.Vam

set_option linter.unusedSimpArgs false
set_option linter.unusedVariables false
set_option maxRecDepth 1000000
namespace Go.Vam
open Go.Proofs

def letterB (c : Nat) : Bool := (Nat.ble 97 c && Nat.ble c 122) || (Nat.ble 65 c && Nat.ble c 90) || (Nat.ble 48 c && Nat.ble c 57) || Nat.beq c 46 || Nat.beq c 95 || Nat.beq c 45 || Nat.beq c 47
noncomputable def rows122 : List (List D × D) := (List.range 128).map fun (c : Nat) => ([.int .u8 (c : Int)], .bool (letterB c))
noncomputable def rows127 : List (List D × D) := [([.str [97]], .bool true), ([.str [120]], .bool true)]
noncomputable def tabD : List (Nat × List (List D × D)) := [(127, rows127), (122, rows122)]
theorem k122 : rows122.all (okRowG [] [] 250 122) = true := by kernel_rfl
theorem k127 : rows127.all (okRowG [] [] 250 127) = true := by kernel_rfl
theorem rowsOkD {β : Nat → Nat → Option Value} (hM : MaxOk β) : RowsOk β tabD := by
  have h1 : RowsOk β [(122, rows122)] := rowsOk_consG hM sRowsOk_nil rowsOk_nil k122
  intro p hp
  rcases List.mem_cons.1 hp with rfl | hp
  · exact rowsOk_consG hM sRowsOk_nil rowsOk_nil k127 (127, rows127) List.mem_cons_self
  · exact h1 p hp

/-- The text, and what it is read as. -/
def headD : Nat → List UInt8
  | 0 => [100, 101, 112, 115, 40]
  | 1 => [114, 100, 101, 112, 115, 40]
  | 2 => [40]
  | _ => [108, 101, 116, 32, 97, 32, 61, 32, 120, 32, 105, 110, 32]
def tailD : Nat → List UInt8
  | 0 => [41]
  | 1 => [41]
  | 2 => [41]
  | _ => []
def textD (k : Nat) : Nat → List UInt8
  | 0 => [120]
  | n + 1 => headD k ++ textD k n ++ tailD k
def mostD (k n : Nat) : Bool := Nat.blt 400 (textD k n).length || Nat.blt 30 (if Nat.beq k 2 then 1 else n + 1)
noncomputable def errD (b : Bool) : D := match b with
  | true => .agg [.int .i64 4, .int .i64 (-1)]
  | false => .agg [.int .i64 0, .int .i64 0]
noncomputable def okP (r : FRes) (err : D) : Bool := match r with
  | .ok v s W => (match v, stF s, W with
    | .tup [.agg cs, e], [], [] => eqvD e err && Nat.beq cs.length 7 && cs.all cellOk
    | _, _, _ => false)
  | _ => false
noncomputable def okD (k n : Nat) : Bool := okP (callG C1 (fastQ [] tabD) 2000 250 12 [.str (textD k n)] (toFS [])) (errD (mostD k n))
end Go.Vam
