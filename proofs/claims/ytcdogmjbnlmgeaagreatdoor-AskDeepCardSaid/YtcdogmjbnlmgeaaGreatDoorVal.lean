/-
  Fast natives; rows of calls that were told once.
-/
import Derived.Test.YtcdogmjbnlmgeaaGreatDoorVac
import Derived.Test.YtcdogmjbnlmgeaaGreatDoorVak
import Derived.KernelRfl
set_option linter.unusedSimpArgs false
set_option linter.unusedVariables false
set_option maxRecDepth 100000
namespace Go.Vam
open Go.Proofs

def rowsG (get : Nat → Option Obj) : D → Option (List (List D))
  | .nilsl => some []
  | .sl rows _ => some rows
  | .arr sz id off len _ =>
    match get id with
    | some (.cells cs) => arrRows sz off len cs
    | some (.fcells cs) => arrRows sz off len cs
    | _ => none
  | _ => none
theorem rowsG_some {st : St} {d : D} {rows : List (List D)} (h : rowsG (fun i => st[i]?) d = some rows) : rowsOf st d = some rows := by
  cases d with
  | arr sz id off len cap =>
    unfold rowsG at h
    unfold rowsOf
    dsimp only at h ⊢
    cases hx : st[id]? with
    | none => rw [hx] at h; cases h
    | some o =>
      rw [hx] at h
      cases o <;> first | exact h | cases h
  | _ => first | exact h | cases h
def textsG (get : Nat → Option Obj) (d : D) : Option (List (List UInt8)) := match rowsG get d with
  | some rows => textRows rows
  | none => none
theorem textsG_some {st : St} {d : D} {ss : List (List UInt8)} (h : textsG (fun i => st[i]?) d = some ss) : textsOf st d = some ss := by
  unfold textsG at h
  split at h
  · rename_i rows hr
    have h1 := rowsG_some hr
    unfold textsOf
    cases d <;> first | (cases hr; done) | (dsimp only; rw [h1]; exact h)
  · cases h
def labsG (get : Nat → Option Obj) (d : D) : Option (List (Bool × List UInt8)) := match rowsG get d with
  | some rows => labRows rows
  | none => none
theorem labsG_some {st : St} {d : D} {ss : List (Bool × List UInt8)} (h : labsG (fun i => st[i]?) d = some ss) : labsOf st d = some ss := by
  unfold labsG at h
  split at h
  · rename_i rows hr
    have h1 := rowsG_some hr
    unfold labsOf
    cases d <;> first | (cases hr; done) | (dsimp only; rw [h1]; exact h)
  · cases h
def labsAllG (get : Nat → Option Obj) : List (List D) → Option (List (List (Bool × List UInt8)))
  | [] => some []
  | [x] :: rows => match labsG get x, labsAllG get rows with
    | some l, some ls => some (l :: ls)
    | _, _ => none
  | _ => none
theorem labsAllG_some {st : St} : ∀ {rows : List (List D)} {ls : List (List (Bool × List UInt8))}, labsAllG (fun i => st[i]?) rows = some ls → labsAll st rows = some ls
  | [], ls, h => h
  | r :: rows, ls, h => by
    unfold labsAllG at h
    unfold labsAll
    split at h
    · rename_i heq; cases heq
    · rename_i x rows' heq
      cases heq
      split at h
      · rename_i l ls' h1 h2
        cases h
        dsimp only
        rw [labsG_some h1, labsAllG_some h2]
      · cases h
    · cases h

def rSorted : RN := fun get n args => match args with
  | [.func f [] [.ptr b 0]] => match get b with
    | some (.cells (x :: _)) => match x with
      | .map m => if iterS.contains f then (match get m with
        | some (.map es) => match keysS es with
          | some ks => if ks.length < 2 ^ 19 then some (rowD 1 n ((sortB leS ks).map fun s => [.str s]), rowObj ((sortB leS ks).map fun s => [.str s])) else none
          | none => none
        | _ => none) else none
      | .sl rows _ => if f = 326 then (match decRows rows with
        | some ks => if ks.length < 2 ^ 19 then some (rowD 1 n ((sortB leS ks).map fun s => [.str s]), rowObj ((sortB leS ks).map fun s => [.str s])) else none
        | none => none) else none
      | .nilsl => if f = 326 then some (rowD 1 n ((sortB leS []).map fun s => [.str s]), rowObj ((sortB leS []).map fun s => [.str s])) else none
      | _ => none
    | _ => none
  | _ => none
theorem rSorted_ok (cf : CallF) (args : List D) (st : St) (v : D) (new : St) (h : rSorted (fun i => st[i]?) st.length args = some (v, new)) : natSorted cf args st = some (v, st ++ new, []) := by
  unfold rSorted at h
  split at h
  case h_2 => cases h
  rename_i f b
  split at h
  case h_2 => cases h
  rename_i x cs hb
  split at h
  · rename_i m
    split at h
    case isFalse => cases h
    rename_i hf
    split at h
    case h_2 => cases h
    rename_i es hes
    split at h
    case h_2 => cases h
    rename_i ks hks
    split at h
    case isFalse => cases h
    rename_i hlt
    cases h
    have : natSortedS cf [.func f [] [.ptr b 0]] st = some (rowD 1 st.length ((sortB leS ks).map fun s => [.str s]), st ++ rowObj ((sortB leS ks).map fun s => [.str s]), []) := by
      have hf' : f ∈ iterS := by simpa using hf
      unfold natSortedS
      simp [hf', hb, hes, hks, hlt]
    unfold natSorted
    rw [this]
  · rename_i rows gr
    split at h
    case isFalse => cases h
    rename_i hf
    subst hf
    split at h
    case h_2 => cases h
    rename_i ks hks
    split at h
    case isFalse => cases h
    rename_i hlt
    cases h
    have h1 : natSortedS cf [.func 326 [] [.ptr b 0]] st = none := by
      unfold natSortedS
      simp [iterS]
    unfold natSorted
    rw [h1]
    unfold natSortedV
    simp [hb, hks, hlt, sortedRow]
  · split at h
    case isFalse => cases h
    rename_i hf
    subst hf
    cases h
    have h1 : natSortedS cf [.func 326 [] [.ptr b 0]] st = none := by
      unfold natSortedS
      simp [iterS]
    unfold natSorted
    rw [h1]
    unfold natSortedV
    simp [hb, sortedRow]
  · cases h

def rSortedL : RN := fun get n args => match args with
  | [.func f [] [.ptr b 0], .func o [] []] => if f == 192 && o == 141 then (match get b with
      | some (.cells (.map m :: _)) => match get m with
        | some (.map es) => match keysL es with
          | some ks => if ks.length < 2 ^ 19 then some (rowD 2 n ((sortB leL ks).map DL), rowObj ((sortB leL ks).map DL)) else none
          | none => none
        | _ => none
      | _ => none)
    else none
  | _ => none
theorem rSortedL_ok (cf : CallF) (args : List D) (st : St) (v : D) (new : St) (h : rSortedL (fun i => st[i]?) st.length args = some (v, new)) : natSortedL cf args st = some (v, st ++ new, []) := by
  unfold rSortedL at h
  split at h
  case h_2 => cases h
  split at h
  case isFalse => cases h
  rename_i hf
  split at h
  case h_2 => cases h
  rename_i m cs hb
  split at h
  case h_2 => cases h
  rename_i es hes
  split at h
  case h_2 => cases h
  rename_i ks hks
  split at h
  case isFalse => cases h
  rename_i hlt
  cases h
  unfold natSortedL
  simp only [hf, if_true, hb, hes, hks, hlt]

def rText (F : List (List UInt8) → Option (List UInt8)) : RN := fun get n args => match args with
  | [d] => match textsG get d with
    | some ss => (F ss).map fun x => (.str x, [])
    | none => none
  | _ => none
def rJoin : RN := fun get n args => match args with
  | [d, .str sep] => match textsG get d with
    | some ss => if ss.length ≤ 2 ^ 40 ∧ (joinS sep ss).length ≤ 2 ^ 40 then some (.str (joinS sep ss), []) else none
    | none => none
  | _ => none
theorem rJoin_ok (cf : CallF) (args : List D) (st : St) (v : D) (new : St) (h : rJoin (fun i => st[i]?) st.length args = some (v, new)) : natJoin cf args st = some (v, st ++ new, []) := by
  unfold rJoin at h
  split at h
  case h_2 => cases h
  split at h
  case h_2 => cases h
  rename_i ss hss
  split at h
  case isFalse => cases h
  rename_i hlt
  cases h
  unfold natJoin
  simp only [textsG_some hss, hlt, and_self, if_true, List.append_nil]
def rLines : RN := fun get n args => match args with
  | [d] => match textsG get d with
    | some ss => if ss.length < 2 ^ 40 ∧ (catS lineF ss).length < 2 ^ 40 then some (.str (catS lineF ss), []) else none
    | none => none
  | _ => none
theorem rLines_ok (cf : CallF) (args : List D) (st : St) (v : D) (new : St) (h : rLines (fun i => st[i]?) st.length args = some (v, new)) : natLines cf args st = some (v, st ++ new, []) := by
  unfold rLines at h
  split at h
  case h_2 => cases h
  split at h
  case h_2 => cases h
  rename_i ss hss
  split at h
  case isFalse => cases h
  rename_i hlt
  cases h
  unfold natLines
  simp only [textsG_some hss, hlt, and_self, if_true, List.append_nil]
def rClone : RN := fun get n args => match args with
  | [.nilsl] => some (.nilsl, [])
  | [.sl [] _] => some (.sl [] .exact, [])
  | [d] => match textsG get d with
    | some ss => if ss.length < 2 ^ 40 ∧ ss ≠ [] then some (.arr 1 n 0 ss.length ss.length, [.cells (ss.map D.str)]) else none
    | none => none
  | _ => none
theorem rClone_ok (cf : CallF) (args : List D) (st : St) (v : D) (new : St) (h : rClone (fun i => st[i]?) st.length args = some (v, new)) : natClone2 cf args st = some (v, st ++ new, []) := by
  unfold rClone at h
  split at h
  · cases h
    rw [List.append_nil]
    rfl
  · cases h
    rw [List.append_nil]
    rfl
  · rename_i d hd1 hd2
    split at h
    case h_2 => cases h
    rename_i ss hss
    split at h
    case isFalse => cases h
    rename_i hlt
    cases h
    have h1 : natCloneE cf [d] st = none := by
      unfold natCloneE
      split
      · rename_i gr heq
        cases heq
        exact absurd rfl (hd2 gr)
      · rfl
    unfold natClone2
    rw [h1]
    dsimp only
    unfold natClone
    split
    · rename_i heq
      cases heq
      exact absurd rfl hd1
    · rename_i gr heq
      cases heq
      exact absurd rfl (hd2 gr)
    · rename_i d' _ _ heq
      cases heq
      simp only [textsG_some hss]
      rw [if_pos hlt]
    · rename_i _ _ hne
      exact absurd rfl (hne d)
  · cases h
def rConcat : RN := fun get n args => match args with
  | [.sl rows gr] => match labsAllG get rows with
    | some xss => if xss.length < 2 ^ 36 ∧ xss.flatten.length < 2 ^ 36 then
        (match xss.flatten with
          | [] => none
          | xs => some (.arr 2 n 0 xs.length xs.length, [.cells (xs.map DL).flatten])) else none
    | none => none
  | _ => none
theorem rConcat_ok (cf : CallF) (args : List D) (st : St) (v : D) (new : St) (h : rConcat (fun i => st[i]?) st.length args = some (v, new)) : natConcat cf args st = some (v, st ++ new, []) := by
  unfold rConcat at h
  split at h
  case h_2 => cases h
  split at h
  case h_2 => cases h
  rename_i xss hx
  split at h
  case isFalse => cases h
  rename_i hlt
  unfold natConcat
  simp only [labsAllG_some hx, hlt, and_self, if_true]
  split at h
  · cases h
  · rename_i xs hne
    cases h
    split
    · rename_i he
      exact absurd he hne
    · rfl

/-- Natives that do not look at the store. -/
def rPure (g : Native) : RN := fun _ _ args => match g cf0 args [] with
  | some (v, [], []) => some (v, [])
  | _ => none
def PureN (g : Native) : Prop := ∀ cf args st v, g cf0 args [] = some (v, [], []) → g cf args st = some (v, st, [])
theorem rPure_ok {g : Native} (hg : PureN g) (cf : CallF) (args : List D) (st : St) (v : D) (new : St) (h : rPure g (fun i => st[i]?) st.length args = some (v, new)) : g cf args st = some (v, st ++ new, []) := by
  unfold rPure at h
  split at h
  · rename_i v' hv
    cases h
    rw [List.append_nil]
    exact hg cf args st v hv
  · cases h
theorem pure_indexByte : PureN natIndexByte := fun cf args st v h => by
  unfold natIndexByte at h ⊢
  repeat' split at h
  all_goals first | (cases h; done) | (cases h; simp_all)
theorem pure_index : PureN natIndex := fun cf args st v h => by
  unfold natIndex at h ⊢
  repeat' split at h
  all_goals first | (cases h; done) | (cases h; simp_all)
theorem pure_count : PureN natCount := fun cf args st v h => by
  unfold natCount at h ⊢
  repeat' split at h
  all_goals first | (cases h; done) | (cases h; simp_all)
theorem pure_replace : PureN natReplaceAll := fun cf args st v h => by
  unfold natReplaceAll at h ⊢
  repeat' split at h
  all_goals first | (cases h; done) | (cases h; simp_all)
theorem pure_rows (rows : List (List D × D)) : PureN (natRows rows) := fun cf args st v h => by
  unfold natRows at h ⊢
  split at h
  · cases h
    rfl
  · cases h

def rBack : RN := fun get n args => match args with
  | [.map m, .str src] => match get m with
    | some (.map es) => match decNet es with
      | some all => match backP all src with
        | some v => some (v, [])
        | none => none
      | none => none
    | _ => none
  | _ => none
theorem rBack_ok (cf : CallF) (args : List D) (st : St) (v : D) (new : St) (h : rBack (fun i => st[i]?) st.length args = some (v, new)) : natBack cf args st = some (v, st ++ new, []) := by
  unfold rBack at h
  split at h
  case h_2 => cases h
  split at h
  case h_2 => cases h
  rename_i es hes
  split at h
  case h_2 => cases h
  rename_i all hall
  split at h
  case h_2 => cases h
  rename_i v0 hv
  cases h
  unfold natBack
  simp only [hes, hall, hv, List.append_nil]

noncomputable def fastTab0 : List (Nat × FNat) := [(162, rnF rSorted), (139, rnF rSortedL), (304, rnF rJoin), (302, rnF rLines), (77, rnF rClone), (181, rnF (rPure natIndexByte)), (194, rnF (rPure natIndex)), (318, rnF (rPure natCount)), (306, rnF (rPure natReplaceAll)), (80, rnF rConcat), (134, rnF rBack), (211, natF natCopy)]
noncomputable def fast0 : FuncId → Option FNat := lookN fastTab0

theorem lookN_zip {α β : Type} {R : Nat → α → β → Prop} : ∀ {l : List (Nat × α)} {l' : List (Nat × β)}, l.map (·.1) = l'.map (·.1) → (∀ (j : Nat) (p : Nat × α) (q : Nat × β), l[j]? = some p → l'[j]? = some q → R p.1 p.2 q.2) →
    ∀ n, match lookN l n, lookN l' n with | some a, some b => R n a b | none, none => True | _, _ => False
  | [], [], _, _, n => trivial
  | [], _ :: _, h, _, n => by cases h
  | _ :: _, [], h, _, n => by cases h
  | (k, a) :: l, (k', b) :: l', h, hR, n => by
    simp only [List.map_cons, List.cons.injEq] at h
    obtain ⟨rfl, h⟩ := h
    have ih := lookN_zip (R := R) h (fun j p q hp hq => hR (j + 1) p q (by simpa using hp) (by simpa using hq)) n
    unfold lookN
    by_cases he : Nat.beq k n = true
    · have := Nat.eq_of_beq_eq_true he
      subst this
      simp only [he, if_true]
      exact hR 0 _ _ rfl rfl
    · simp only [he]
      exact ih

theorem fastOk0 : FnOk nat0 fast0 := by
  intro f
  have := lookN_zip (l := natTab0) (l' := fastTab0) (R := fun f g fg => ∀ cf cfF args st s, FSR st s → FSays (g cf args st) (fg cfF args s)) rfl (fun j p q hp hq => ?_) f
  · unfold nat0 fast0
    cases h1 : lookN natTab0 f with
    | none =>
      cases h2 : lookN fastTab0 f with
      | none => rfl
      | some b => rw [h1, h2] at this; exact this.elim
    | some a =>
      cases h2 : lookN fastTab0 f with
      | none => rw [h1, h2] at this; exact this.elim
      | some b =>
        rw [h1, h2] at this
        exact ⟨a, rfl, this⟩
  · match j with
    | 0 => cases hp; cases hq; exact rnF_says rSorted_ok
    | 1 => cases hp; cases hq; exact rnF_says rSortedL_ok
    | 2 => cases hp; cases hq; exact rnF_says rJoin_ok
    | 3 => cases hp; cases hq; exact rnF_says rLines_ok
    | 4 => cases hp; cases hq; exact rnF_says rClone_ok
    | 5 => cases hp; cases hq; exact rnF_says (rPure_ok pure_indexByte)
    | 6 => cases hp; cases hq; exact rnF_says (rPure_ok pure_index)
    | 7 => cases hp; cases hq; exact rnF_says (rPure_ok pure_count)
    | 8 => cases hp; cases hq; exact rnF_says (rPure_ok pure_replace)
    | 9 => cases hp; cases hq; exact rnF_says rConcat_ok
    | 10 => cases hp; cases hq; exact rnF_says rBack_ok
    | 11 => cases hp; cases hq; exact natF_says (natCf0 211 natCopy rfl)
    | j + 12 => cases hp

def sameV : D → D → Bool
  | .tup a, .tup b => sameL a b
  | .undef, .undef => true
  | a, b => sameD a b
theorem sameV_eq {a b : D} (h : sameV a b = true) : a = b := by
  unfold sameV at h
  split at h
  · rw [sameL_eq h]
  · rfl
  · exact sameD_eq h
noncomputable def okV (r : FRes) (v : D) : Bool := match r with
  | .ok v' _ _ => sameV v' v
  | _ => false

/-- Small numbers' texts. -/
noncomputable def rows37 : List (List D × D) := (List.range 32).map fun (n : Nat) => ([.int .i64 (n : Int)], .str (numD n))
noncomputable def ok37 (r : List D × D) : Bool := okV (callG C1 fast0 2000 30 37 r.1 (toFS [])) r.2 && !refL 0 r.1 && scalV r.2
end Go.Vam

set_option linter.unusedSimpArgs false
set_option linter.unusedVariables false
set_option maxRecDepth 1000000
namespace Go.Vam
open Go.Proofs Go.RowKit

theorem k37 : rows37.all ok37 = true := by kernel_rfl
theorem rows37_ok {β : Nat → Nat → Option Value} (hM : MaxOk β) : ∀ r ∈ rows37, RowOk Tryz.prog β 37 r.1 r.2 := by
  intro r hr'
  have h1 := List.all_eq_true.1 k37 r hr'
  unfold ok37 at h1
  simp only [Bool.and_eq_true, Bool.not_eq_true'] at h1
  obtain ⟨⟨h1, h2⟩, h3⟩ := h1
  unfold okV at h1
  split at h1
  · rename_i v' s W hc
    rw [sameV_eq h1] at hc
    have h4 := callG_callN fastOk0 (st := []) hc
    exact row_of ((ctx1 (natOk0 hM) 2000 30).just 37) h4 h2 h3
  · cases h1

def natPutS : Native := fun _ args st => match args with
  | [d] => match textsOf st d with
    | some ss => if (ss.length < 2 ^ 40 ∧ (catS (putF numD) ss).length < 2 ^ 40) ∧ ss.all (fun s => decide (s.length < 32)) = true then some (.str (catS (putF numD) ss), st, []) else none
    | none => none
  | _ => none
theorem natPutS_keeps (cf : CallF) : Keeps (natPutS cf) := pure_keeps (fun cf args st v st' W h => by
  unfold natPutS at h
  split at h
  case h_2 => cases h
  split at h
  case h_2 => cases h
  split at h
  case isFalse => cases h
  cases h; rfl) cf
theorem natPutS_just {β : Nat → Nat → Option Value} (hM : MaxOk β) (cf : CallF) : Just Tryz.prog β 338 (natPutS cf) := by
  intro args st v st' W h g w A hb hs hA
  unfold natPutS at h
  split at h
  case h_2 => cases h
  rename_i d
  split at h
  case h_2 => cases h
  rename_i ss hss
  split at h
  case isFalse => cases h
  rename_i hlen
  cases h
  obtain ⟨v0, rfl⟩ := arr_one' (A := A) (by simpa using hA.size)
  have hv0 : VR g d v0 := hA.at_ 0 _ _ rfl rfl
  obtain ⟨p, cap, rfl, h2, h3⟩ := texts_at hs hv0 hss
  refine (Tryz.put338 numD p ss cap w hlen.1.1 hlen.1.2 h3 ?_).mono ?_
  · intro s wr hsm hfr
    obtain ⟨hsr, _⟩ := still_fr hs hfr
    have hsl : s.length < 32 := by simpa using List.all_eq_true.1 hlen.2 s hsm
    have hrow := rows37_ok hM ([.int .i64 (s.length : Int)], .str (numD s.length)) (List.mem_map.2 ⟨s.length, List.mem_range.2 hsl, rfl⟩)
    refine (hrow st g wr #[.int .i64 (s.length : Int)] hb hsr ⟨rfl, fun j d x hj hx => ?_⟩).mono ?_
    · match j with
      | 0 => cases hj; cases hx; exact .int _ _
      | j + 1 => simp at hj
    · rintro e w' ⟨r, g', rfl, hv, hs', hst, hf⟩
      refine ⟨by rw [eq_encStr hv], hst.os, hst.out, hst.size, fun k hk => hst.fr k hk fun id hid => by cases hid⟩
  · rintro e w' ⟨rfl, hb'⟩
    obtain ⟨h4, h5⟩ := still_fr hs hb'
    exact ⟨_, g, rfl, VR.str ⟨(catS (putF numD) ss).toArray⟩, h4, h5, Free.refl _ _⟩

noncomputable def nat1 : FuncId → Option Native := lookN ((37, natRows rows37) :: (338, natPutS) :: natTab0)
theorem nat1_cases {f : FuncId} {nt : Native} (h : nat1 f = some nt) : (f = 37 ∧ nt = natRows rows37) ∨ (f = 338 ∧ nt = natPutS) ∨ nat0 f = some nt := by
  unfold nat1 at h
  unfold lookN at h
  split at h
  · rename_i he
    cases h
    exact .inl ⟨(Nat.eq_of_beq_eq_true he).symm, rfl⟩
  · unfold lookN at h
    split at h
    · rename_i he
      cases h
      exact .inr (.inl ⟨(Nat.eq_of_beq_eq_true he).symm, rfl⟩)
    · exact .inr (.inr h)
theorem natOk1 {β : Nat → Nat → Option Value} (hM : MaxOk β) : NatOk C1 β nat1 := by
  refine ⟨fun f nt h cf hX => ?_, fun f nt h cf hk => ?_⟩
  · rcases nat1_cases h with ⟨rfl, rfl⟩ | ⟨rfl, rfl⟩ | h
    · exact natRows_just (rows37_ok hM) cf
    · exact natPutS_just hM cf
    · exact (natOk0 hM).just f nt h cf hX
  · rcases nat1_cases h with ⟨rfl, rfl⟩ | ⟨rfl, rfl⟩ | h
    · exact natRows_keeps cf
    · exact natPutS_keeps cf
    · exact (natOk0 hM).keeps f nt h cf hk
theorem natCf1 : NatCf nat1 := fun f g h cf args st v st' W hr => by
  rcases nat1_cases h with ⟨rfl, rfl⟩ | ⟨rfl, rfl⟩ | h
  · exact hr
  · exact hr
  · exact natCf0 f g h cf args st v st' W hr

def rPutS : RN := fun get n args => match args with
  | [d] => match textsG get d with
    | some ss => if (ss.length < 2 ^ 40 ∧ (catS (putF numD) ss).length < 2 ^ 40) ∧ ss.all (fun s => decide (s.length < 32)) = true then some (.str (catS (putF numD) ss), []) else none
    | none => none
  | _ => none
theorem rPutS_ok (cf : CallF) (args : List D) (st : St) (v : D) (new : St) (h : rPutS (fun i => st[i]?) st.length args = some (v, new)) : natPutS cf args st = some (v, st ++ new, []) := by
  unfold rPutS at h
  split at h
  case h_2 => cases h
  split at h
  case h_2 => cases h
  rename_i ss hss
  split at h
  case isFalse => cases h
  rename_i hlt
  cases h
  unfold natPutS
  simp only [textsG_some hss, hlt, and_self, if_true, List.append_nil]

noncomputable def fast1 : FuncId → Option FNat := lookN ((37, rnF (rPure (natRows rows37))) :: (338, rnF rPutS) :: fastTab0)
theorem fastOk1 : FnOk nat1 fast1 := by
  intro f
  unfold nat1 fast1
  unfold lookN
  by_cases h1 : Nat.beq 37 f = true
  · simp only [h1, if_true]
    exact ⟨_, rfl, rnF_says (rPure_ok (pure_rows _))⟩
  · simp only [h1]
    unfold lookN
    by_cases h2 : Nat.beq 338 f = true
    · simp only [h2, if_true]
      exact ⟨_, rfl, rnF_says rPutS_ok⟩
    · simp only [h2]
      exact fastOk0 f
end Go.Vam

set_option linter.unusedSimpArgs false
set_option linter.unusedVariables false
set_option maxRecDepth 1000000
namespace Go.Vam
open Go.Proofs

noncomputable def natR (rows : List (Nat × List (List D × D))) : FuncId → Option Native := fun f => match lookN rows f with
  | some rs => some (natRows rs)
  | none => nat1 f
noncomputable def okRow (rows : List (Nat × List (List D × D))) (n f : Nat) (r : List D × D) : Bool :=
  okV (callF C1 (natR rows) 2000 n f r.1 (toFS [])) r.2 && !refL 0 r.1 && scalV r.2

/-- The rows hold. -/
def RowsOk (β : Nat → Nat → Option Value) (rows : List (Nat × List (List D × D))) : Prop := ∀ p ∈ rows, ∀ r ∈ p.2, RowOk Tryz.prog β p.1 r.1 r.2

theorem natR_cf (rows : List (Nat × List (List D × D))) : NatCf (natR rows) := fun f g h cf args st v st' W hr => by
  unfold natR at h
  split at h
  · cases h
    exact hr
  · exact natCf1 f g h cf args st v st' W hr
theorem natR_ok {β : Nat → Nat → Option Value} {rows : List (Nat × List (List D × D))} (hM : MaxOk β) (hr : RowsOk β rows) : NatOk C1 β (natR rows) := by
  refine ⟨fun f nt h cf hX => ?_, fun f nt h cf hk => ?_⟩
  · unfold natR at h
    split at h
    · rename_i rs hrs
      cases h
      exact natRows_just (hr _ (lookN_mem hrs)) cf
    · exact (natOk1 hM).just f nt h cf hX
  · unfold natR at h
    split at h
    · cases h
      exact natRows_keeps cf
    · exact (natOk1 hM).keeps f nt h cf hk

theorem rowsOk_nil {β : Nat → Nat → Option Value} : RowsOk β [] := fun p hp => by cases hp
/-- One function's rows more. -/
theorem rowsOk_cons {β : Nat → Nat → Option Value} {rows : List (Nat × List (List D × D))} {n f : Nat} {rs : List (List D × D)} (hM : MaxOk β) (hr : RowsOk β rows) (h : rs.all (okRow rows n f) = true) : RowsOk β ((f, rs) :: rows) := by
  intro p hp
  rcases List.mem_cons.1 hp with rfl | hp
  · intro r hr'
    have h1 := List.all_eq_true.1 h r hr'
    unfold okRow at h1
    simp only [Bool.and_eq_true, Bool.not_eq_true'] at h1
    obtain ⟨⟨h1, h2⟩, h3⟩ := h1
    unfold okV at h1
    split at h1
    · rename_i v' s W hc
      rw [sameV_eq h1] at hc
      have h4 := callF_callN (natR_cf rows) (st := []) hc
      exact row_of ((ctx1 (natR_ok hM hr) 2000 n).just f) h4 h2 h3
    · cases h1
  · exact hr p hp
noncomputable def rows129 : List (List D × D) := [
  ([.agg [.str [114], .sl [[.str [115]]] .none, .sl [[.str [120]]] .none, .sl [] .none, .sl [[.str [120], .int .i64 (1), .sl [[.str [115]]] .none, .sl [] .none, .int .i64 (0)]] .none]], .int .i64 (0)),
  ([.agg [.str [99], .sl [[.str [121]]] .none, .sl [[.str [122]]] .none, .sl [[.str [97]]] .none, .sl [[.str [122], .int .i64 (5), .sl [[.str [121]]] .none, .sl [] .none, .int .i64 (0)]] .none]], .int .i64 (0)),
  ([.agg [.str [97], .sl [[.str [115]]] .none, .sl [[.str [120]]] .none, .sl [] .none, .sl [[.str [120], .int .i64 (5), .sl [[.str [115]]] .none, .sl [] .none, .int .i64 (0)]] .none]], .int .i64 (0)),
  ([.agg [.str [98], .sl [[.str [120]]] .none, .sl [[.str [121]]] .none, .sl [] .none, .sl [[.str [121], .int .i64 (5), .sl [[.str [120]]] .none, .sl [] .none, .int .i64 (0)]] .none]], .int .i64 (0)),
  ([.agg [.str [114], .sl [[.str [97]], [.str [98]]] .none, .sl [[.str [120]], [.str [121]]] .none, .sl [] .none, .sl [[.str [116], .int .i64 (3), .sl [[.str [97]]] .none, .sl [] .none, .int .i64 (0)], [.str [120], .int .i64 (4), .sl [[.str [116]]] .none, .sl [] .none, .int .i64 (0)], [.str [121], .int .i64 (2), .sl [[.str [98]]] .none, .sl [] .none, .int .i64 (0)]] .none]], .int .i64 (0)),
  ([.agg [.str [115], .sl [[.str [120]]] .none, .sl [[.str [97]]] .none, .sl [] .none, .sl [[.str [97], .int .i64 (1), .sl [[.str [120]]] .none, .sl [] .none, .int .i64 (0)]] .none]], .int .i64 (0))]
noncomputable def rows75 : List (List D × D) := [
  ([.sl [] .none], .tup [.int .i64 (0), .str []]),
  ([.sl [[.str [114], .sl [[.str [115]]] .none, .sl [[.str [120]]] .none, .sl [] .none, .sl [[.str [120], .int .i64 (1), .sl [[.str [115]]] .none, .sl [] .none, .int .i64 (0)]] .none]] .none], .tup [.int .i64 (0), .str []]),
  ([.sl [[.str [99], .sl [[.str [121]]] .none, .sl [[.str [122]]] .none, .sl [[.str [97]]] .none, .sl [[.str [122], .int .i64 (5), .sl [[.str [121]]] .none, .sl [] .none, .int .i64 (0)]] .none], [.str [97], .sl [[.str [115]]] .none, .sl [[.str [120]]] .none, .sl [] .none, .sl [[.str [120], .int .i64 (5), .sl [[.str [115]]] .none, .sl [] .none, .int .i64 (0)]] .none], [.str [98], .sl [[.str [120]]] .none, .sl [[.str [121]]] .none, .sl [] .none, .sl [[.str [121], .int .i64 (5), .sl [[.str [120]]] .none, .sl [] .none, .int .i64 (0)]] .none]] .none], .tup [.int .i64 (0), .str []]),
  ([.sl [[.str [114], .sl [[.str [97]], [.str [98]]] .none, .sl [[.str [120]], [.str [121]]] .none, .sl [] .none, .sl [[.str [116], .int .i64 (3), .sl [[.str [97]]] .none, .sl [] .none, .int .i64 (0)], [.str [120], .int .i64 (4), .sl [[.str [116]]] .none, .sl [] .none, .int .i64 (0)], [.str [121], .int .i64 (2), .sl [[.str [98]]] .none, .sl [] .none, .int .i64 (0)]] .none]] .none], .tup [.int .i64 (0), .str []]),
  ([.sl [[.str [115], .sl [[.str [120]]] .none, .sl [[.str [97]]] .none, .sl [] .none, .sl [[.str [97], .int .i64 (1), .sl [[.str [120]]] .none, .sl [] .none, .int .i64 (0)]] .none], [.str [114], .sl [[.str [97]], [.str [98]]] .none, .sl [[.str [120]], [.str [121]]] .none, .sl [] .none, .sl [[.str [116], .int .i64 (3), .sl [[.str [97]]] .none, .sl [] .none, .int .i64 (0)], [.str [120], .int .i64 (4), .sl [[.str [116]]] .none, .sl [] .none, .int .i64 (0)], [.str [121], .int .i64 (2), .sl [[.str [98]]] .none, .sl [] .none, .int .i64 (0)]] .none]] .none], .tup [.int .i64 (0), .str []])]
noncomputable def rows44 : List (List D × D) := [
  ([.sl [] .none], .tup [.int .i64 (0), .str []]),
  ([.sl [[.str [114], .sl [[.str [115]]] .none, .sl [[.str [120]]] .none, .sl [] .none, .sl [[.str [120], .int .i64 (1), .sl [[.str [115]]] .none, .sl [] .none, .int .i64 (0)]] .none]] .none], .tup [.int .i64 (0), .str []]),
  ([.sl [[.str [99], .sl [[.str [121]]] .none, .sl [[.str [122]]] .none, .sl [[.str [97]]] .none, .sl [[.str [122], .int .i64 (5), .sl [[.str [121]]] .none, .sl [] .none, .int .i64 (0)]] .none], [.str [97], .sl [[.str [115]]] .none, .sl [[.str [120]]] .none, .sl [] .none, .sl [[.str [120], .int .i64 (5), .sl [[.str [115]]] .none, .sl [] .none, .int .i64 (0)]] .none], [.str [98], .sl [[.str [120]]] .none, .sl [[.str [121]]] .none, .sl [] .none, .sl [[.str [121], .int .i64 (5), .sl [[.str [120]]] .none, .sl [] .none, .int .i64 (0)]] .none]] .none], .tup [.int .i64 (0), .str []]),
  ([.sl [[.str [114], .sl [[.str [97]], [.str [98]]] .none, .sl [[.str [120]], [.str [121]]] .none, .sl [] .none, .sl [[.str [116], .int .i64 (3), .sl [[.str [97]]] .none, .sl [] .none, .int .i64 (0)], [.str [120], .int .i64 (4), .sl [[.str [116]]] .none, .sl [] .none, .int .i64 (0)], [.str [121], .int .i64 (2), .sl [[.str [98]]] .none, .sl [] .none, .int .i64 (0)]] .none]] .none], .tup [.int .i64 (0), .str []]),
  ([.sl [[.str [115], .sl [[.str [120]]] .none, .sl [[.str [97]]] .none, .sl [] .none, .sl [[.str [97], .int .i64 (1), .sl [[.str [120]]] .none, .sl [] .none, .int .i64 (0)]] .none], [.str [114], .sl [[.str [97]], [.str [98]]] .none, .sl [[.str [120]], [.str [121]]] .none, .sl [] .none, .sl [[.str [116], .int .i64 (3), .sl [[.str [97]]] .none, .sl [] .none, .int .i64 (0)], [.str [120], .int .i64 (4), .sl [[.str [116]]] .none, .sl [] .none, .int .i64 (0)], [.str [121], .int .i64 (2), .sl [[.str [98]]] .none, .sl [] .none, .int .i64 (0)]] .none]] .none], .tup [.int .i64 (3), .str [114]])]

noncomputable def rows107 : List (List D × D) := [
  ([.sl [[.str [99], .sl [[.str [121]]] .none, .sl [[.str [122]]] .none, .sl [[.str [97]]] .none, .sl [[.str [122], .int .i64 (5), .sl [[.str [121]]] .none, .sl [] .none, .int .i64 (0)]] .none], [.str [97], .sl [[.str [115]]] .none, .sl [[.str [120]]] .none, .sl [] .none, .sl [[.str [120], .int .i64 (5), .sl [[.str [115]]] .none, .sl [] .none, .int .i64 (0)]] .none], [.str [98], .sl [[.str [120]]] .none, .sl [[.str [121]]] .none, .sl [] .none, .sl [[.str [121], .int .i64 (5), .sl [[.str [120]]] .none, .sl [] .none, .int .i64 (0)]] .none]] .none, .str [99], .str [97]], .bool true)]

noncomputable def tab1 : List (Nat × List (List D × D)) := [(129, rows129)]
noncomputable def tab2 : List (Nat × List (List D × D)) := (75, rows75) :: tab1
noncomputable def tab3 : List (Nat × List (List D × D)) := (44, rows44) :: tab2
noncomputable def rows0 : List (List D × D) := [([], .bool true)]
noncomputable def tab4 : List (Nat × List (List D × D)) := (309, rows0) :: tab3
noncomputable def tab5 : List (Nat × List (List D × D)) := (249, rows0) :: tab4
noncomputable def tab6 : List (Nat × List (List D × D)) := (153, rows0) :: tab5
noncomputable def tab6a : List (Nat × List (List D × D)) := (107, rows107) :: tab6
noncomputable def tab7 : List (Nat × List (List D × D)) := (53, rows0) :: tab6a
noncomputable def tab8 : List (Nat × List (List D × D)) := (9, rows0) :: tab7
noncomputable def tab9 : List (Nat × List (List D × D)) := (7, rows0) :: tab8
end Go.Vam

set_option linter.unusedSimpArgs false
set_option linter.unusedVariables false
namespace Go.Vam
open Go.Proofs

def eqGr : Gr → Gr → Bool
  | .none, .none => true
  | .exact, .exact => true
  | .tok a b, .tok c d => a == c && b == d
  | _, _ => false
theorem eqGr_eq {a b : Gr} (h : eqGr a b = true) : a = b := by
  unfold eqGr at h
  split at h
  · rfl
  · rfl
  · simp only [Bool.and_eq_true, beq_iff_eq] at h
    rw [h.1, h.2]
  · cases h

mutual
def eqvD : D → D → Bool
  | .undef, .undef => true
  | .int k a, .int k' b => k == k' && a == b
  | .bool a, .bool b => a == b
  | .str a, .str b => a == b
  | .nilp, .nilp => true
  | .ptr a b, .ptr c d => a == c && b == d
  | .eptr a, .eptr b => eqvL a b
  | .nilsl, .nilsl => true
  | .sl r g, .sl r' g' => eqvLL r r' && eqGr g g'
  | .arr a b c d e, .arr a' b' c' d' e' => a == a' && b == b' && c == c' && d == d' && e == e'
  | .nilmap, .nilmap => true
  | .map a, .map b => a == b
  | .nilfunc, .nilfunc => true
  | .func f a b, .func f' a' b' => f == f' && eqvL a a' && eqvL b b'
  | .nilif, .nilif => true
  | .iface t d, .iface t' d' => t == t' && eqvD d d'
  | .agg a, .agg b => eqvL a b
  | .tup a, .tup b => eqvL a b
  | _, _ => false
def eqvL : List D → List D → Bool
  | [], [] => true
  | a :: x, b :: y => eqvD a b && eqvL x y
  | _, _ => false
def eqvLL : List (List D) → List (List D) → Bool
  | [], [] => true
  | a :: x, b :: y => eqvL a b && eqvLL x y
  | _, _ => false
end

mutual
theorem eqvD_eq : ∀ {a b : D}, eqvD a b = true → a = b := fun {a b} h => by
  unfold eqvD at h
  split at h
  case h_19 => cases h
  all_goals first
    | rfl
    | rw [eqvL_eq h]
    | (simp only [Bool.and_eq_true, beq_iff_eq] at h
       first
         | rw [h]
         | rw [h.1, h.2]
         | rw [h.1, eqvD_eq h.2]
         | rw [h.1.1, eqvL_eq h.1.2, eqvL_eq h.2]
         | rw [eqvLL_eq h.1, eqGr_eq h.2]
         | rw [h.1.1.1.1, h.1.1.1.2, h.1.1.2, h.1.2, h.2]
         | rw [eqvL_eq h])
theorem eqvL_eq : ∀ {x y : List D}, eqvL x y = true → x = y
  | [], [], _ => rfl
  | a :: x, b :: y, h => by
    unfold eqvL at h
    rw [Bool.and_eq_true] at h
    rw [eqvD_eq h.1, eqvL_eq h.2]
  | [], _ :: _, h => by cases h
  | _ :: _, [], h => by cases h
theorem eqvLL_eq : ∀ {x y : List (List D)}, eqvLL x y = true → x = y
  | [], [], _ => rfl
  | a :: x, b :: y, h => by
    unfold eqvLL at h
    rw [Bool.and_eq_true] at h
    rw [eqvL_eq h.1, eqvLL_eq h.2]
  | [], _ :: _, h => by cases h
  | _ :: _, [], h => by cases h
end

def eqvE : List (D × D) → List (D × D) → Bool
  | [], [] => true
  | a :: x, b :: y => eqvD a.1 b.1 && eqvD a.2 b.2 && eqvE x y
  | _, _ => false
theorem eqvE_eq : ∀ {x y : List (D × D)}, eqvE x y = true → x = y
  | [], [], _ => rfl
  | (a, a') :: x, (b, b') :: y, h => by
    unfold eqvE at h
    simp only [Bool.and_eq_true] at h
    rw [eqvD_eq h.1.1, eqvD_eq h.1.2, eqvE_eq h.2]
  | [], _ :: _, h => by cases h
  | _ :: _, [], h => by cases h
def eqvO : Obj → Obj → Bool
  | .cells a, .cells b => eqvL a b
  | .fcells a, .fcells b => eqvL a b
  | .map a, .map b => eqvE a b
  | .tok a, .tok b => a == b
  | .iter s p, .iter s' p' => s == s' && p == p'
  | .dead, .dead => true
  | _, _ => false
theorem eqvO_eq {a b : Obj} (h : eqvO a b = true) : a = b := by
  unfold eqvO at h
  split at h
  · rw [eqvL_eq h]
  · rw [eqvL_eq h]
  · rw [eqvE_eq h]
  · rw [beq_iff_eq.1 h]
  · simp only [Bool.and_eq_true, beq_iff_eq] at h
    rw [h.1, h.2]
  · rfl
  · cases h
def eqvS : St → St → Bool
  | [], [] => true
  | a :: x, b :: y => eqvO a b && eqvS x y
  | _, _ => false
theorem eqvS_eq : ∀ {x y : St}, eqvS x y = true → x = y
  | [], [], _ => rfl
  | a :: x, b :: y, h => by
    unfold eqvS at h
    simp only [Bool.and_eq_true] at h
    rw [eqvO_eq h.1, eqvS_eq h.2]
  | [], _ :: _, h => by cases h
  | _ :: _, [], h => by cases h

structure SRow where
  args : List D
  st : St
  v : D
  st' : St
  W : Ids

def findS (args : List D) (st : St) : List SRow → Option SRow
  | [] => none
  | r :: l => if Nat.beq (List.length r.st) (List.length st) && (eqvL r.args args && eqvS r.st st) then some r else findS args st l
theorem findS_some {args : List D} {st : St} {r : SRow} : ∀ {l : List SRow}, findS args st l = some r → r ∈ l ∧ r.args = args ∧ r.st = st
  | [], h => by cases h
  | x :: l, h => by
    unfold findS at h
    split at h
    · rename_i he
      cases h
      simp only [Bool.and_eq_true] at he
      exact ⟨by simp, eqvL_eq he.2.1, eqvS_eq he.2.2⟩
    · obtain ⟨h1, h2⟩ := findS_some h
      exact ⟨List.mem_cons_of_mem _ h1, h2⟩
def natS (rows : List SRow) : Native := fun _ args st => match findS args st rows with
  | some r => some (r.v, r.st', r.W)
  | none => none

/-- What a row with a store says. -/
def SRowOk (β : Nat → Nat → Option Value) (f : FuncId) (r : SRow) : Prop := ∃ nat N n, NatOk C1 β nat ∧ callN C1 nat N n f r.args r.st = some (r.v, r.st', r.W)

noncomputable def natQ (srows : List (Nat × List SRow)) (rows : List (Nat × List (List D × D))) : FuncId → Option Native := fun f => match lookN srows f with
  | some rs => some (natS rs)
  | none => natR rows f
theorem natQ_cf (srows : List (Nat × List SRow)) (rows : List (Nat × List (List D × D))) : NatCf (natQ srows rows) := fun f g h cf args st v st' W hr => by
  unfold natQ at h
  split at h
  · cases h
    exact hr
  · exact natR_cf rows f g h cf args st v st' W hr

def SRowsOk (β : Nat → Nat → Option Value) (srows : List (Nat × List SRow)) : Prop := ∀ p ∈ srows, ∀ r ∈ p.2, SRowOk β p.1 r

theorem natQ_ok {β : Nat → Nat → Option Value} {srows : List (Nat × List SRow)} {rows : List (Nat × List (List D × D))} (hM : MaxOk β) (hs : SRowsOk β srows) (hr : RowsOk β rows) : NatOk C1 β (natQ srows rows) := by
  have hrow : ∀ {f : FuncId} {rs : List SRow}, lookN srows f = some rs → ∀ {args : List D} {st : St} {v : D} {st' : St} {W : Ids}, natS rs (fun _ _ _ => none) args st = some (v, st', W) →
      ∃ nat N n, NatOk C1 β nat ∧ callN C1 nat N n f args st = some (v, st', W) := fun {f rs} h {args st v st' W} h1 => by
    unfold natS at h1
    split at h1
    · rename_i r hr
      cases h1
      obtain ⟨h2, rfl, rfl⟩ := findS_some hr
      exact hs _ (lookN_mem h) r h2
    · cases h1
  refine ⟨fun f nt h cf hX => ?_, fun f nt h cf hk => ?_⟩
  · unfold natQ at h
    split at h
    · rename_i rs hrs
      cases h
      intro args st v st' W h1
      obtain ⟨nat, N, n, h2, h3⟩ := hrow hrs h1
      exact (ctx1 h2 N n).just f args st v st' W h3
    · exact (natR_ok hM hr).just f nt h cf hX
  · unfold natQ at h
    split at h
    · rename_i rs hrs
      cases h
      intro args st v st' W h1
      obtain ⟨nat, N, n, h2, h3⟩ := hrow hrs h1
      exact (ctx1 h2 N n).keeps f args st v st' W h3
    · exact (natR_ok hM hr).keeps f nt h cf hk

def eqvW : Ids → Ids → Bool
  | [], [] => true
  | a :: x, b :: y => Nat.beq a b && eqvW x y
  | _, _ => false
theorem eqvW_eq : ∀ {x y : Ids}, eqvW x y = true → x = y
  | [], [], _ => rfl
  | a :: x, b :: y, h => by
    unfold eqvW at h
    rw [Bool.and_eq_true] at h
    rw [Nat.eq_of_beq_eq_true h.1, eqvW_eq h.2]
  | [], _ :: _, h => by cases h
  | _ :: _, [], h => by cases h

noncomputable def okS (srows : List (Nat × List SRow)) (rows : List (Nat × List (List D × D))) (n f : Nat) (r : SRow) : Bool := match callF C1 (natQ srows rows) 2000 n f r.args (toFS r.st) with
  | .ok v s W => eqvD v r.v && eqvS (stF s) r.st' && eqvW W r.W
  | _ => false

theorem sRowsOk_nil {β : Nat → Nat → Option Value} : SRowsOk β [] := fun p hp => by cases hp
theorem sRow_ok {β : Nat → Nat → Option Value} {srows : List (Nat × List SRow)} {rows : List (Nat × List (List D × D))} {n f : Nat} {r : SRow} (hM : MaxOk β) (hs : SRowsOk β srows) (hr : RowsOk β rows) (h : okS srows rows n f r = true) : SRowOk β f r := by
  unfold okS at h
  split at h
  · rename_i v s W hc
    simp only [Bool.and_eq_true] at h
    have h4 := callF_callN (natQ_cf srows rows) hc
    rw [eqvD_eq h.1.1, eqvS_eq h.1.2, eqvW_eq h.2] at h4
    exact ⟨_, _, _, natQ_ok hM hs hr, h4⟩
  · cases h
theorem sRowsOk_cons {β : Nat → Nat → Option Value} {srows : List (Nat × List SRow)} {f : Nat} {rs : List SRow} (hs : SRowsOk β srows) (h : ∀ r ∈ rs, SRowOk β f r) : SRowsOk β ((f, rs) :: srows) := by
  intro p hp
  rcases List.mem_cons.1 hp with rfl | hp
  · exact h
  · exact hs p hp

noncomputable def okRowQ (srows : List (Nat × List SRow)) (rows : List (Nat × List (List D × D))) (n f : Nat) (r : List D × D) : Bool :=
  okV (callF C1 (natQ srows rows) 2000 n f r.1 (toFS [])) r.2 && !refL 0 r.1 && scalV r.2
theorem rowsOk_consQ {β : Nat → Nat → Option Value} {srows : List (Nat × List SRow)} {rows : List (Nat × List (List D × D))} {n f : Nat} {rs : List (List D × D)} (hM : MaxOk β) (hs : SRowsOk β srows) (hr : RowsOk β rows) (h : rs.all (okRowQ srows rows n f) = true) :
    RowsOk β ((f, rs) :: rows) := by
  intro p hp
  rcases List.mem_cons.1 hp with rfl | hp
  · intro r hr'
    have h1 := List.all_eq_true.1 h r hr'
    unfold okRowQ at h1
    simp only [Bool.and_eq_true, Bool.not_eq_true'] at h1
    obtain ⟨⟨h1, h2⟩, h3⟩ := h1
    unfold okV at h1
    split at h1
    · rename_i v' s W hc
      rw [sameV_eq h1] at hc
      have h4 := callF_callN (natQ_cf srows rows) (st := []) hc
      exact row_of ((ctx1 (natQ_ok hM hs hr) 2000 n).just f) h4 h2 h3
    · cases h1
  · exact hr p hp
end Go.Vam

set_option linter.unusedSimpArgs false
set_option linter.unusedVariables false
set_option maxRecDepth 100000
namespace Go.Vam
open Go.Proofs

/-- With rows. -/
noncomputable def fastQ (srows : List (Nat × List SRow)) (rows : List (Nat × List (List D × D))) : FuncId → Option FNat := fun f => match lookN srows f with
  | some rs => some (natF (natS rs))
  | none => match lookN rows f with
    | some rs => some (rnF (rPure (natRows rs)))
    | none => fast1 f
theorem fastQ_ok (srows : List (Nat × List SRow)) (rows : List (Nat × List (List D × D))) : FnOk (natQ srows rows) (fastQ srows rows) := by
  intro f
  unfold natQ natR fastQ
  cases h1 : lookN srows f with
  | some rs => exact ⟨_, rfl, natF_says fun cf args st v st' W h => h⟩
  | none =>
    cases h2 : lookN rows f with
    | some rs => exact ⟨_, rfl, rnF_says (rPure_ok (pure_rows rs))⟩
    | none => exact fastOk1 f

noncomputable def okRowG (srows : List (Nat × List SRow)) (rows : List (Nat × List (List D × D))) (n f : Nat) (r : List D × D) : Bool :=
  okV (callG C1 (fastQ srows rows) 2000 n f r.1 (toFS [])) r.2 && !refL 0 r.1 && scalV r.2
theorem rowsOk_consG {β : Nat → Nat → Option Value} {srows : List (Nat × List SRow)} {rows : List (Nat × List (List D × D))} {n f : Nat} {rs : List (List D × D)} (hM : MaxOk β) (hs : SRowsOk β srows) (hr : RowsOk β rows) (h : rs.all (okRowG srows rows n f) = true) :
    RowsOk β ((f, rs) :: rows) := by
  intro p hp
  rcases List.mem_cons.1 hp with rfl | hp
  · intro r hr'
    have h1 := List.all_eq_true.1 h r hr'
    unfold okRowG at h1
    simp only [Bool.and_eq_true, Bool.not_eq_true'] at h1
    obtain ⟨⟨h1, h2⟩, h3⟩ := h1
    unfold okV at h1
    split at h1
    · rename_i v' s W hc
      rw [sameV_eq h1] at hc
      have h4 := callG_callN (fastQ_ok srows rows) (st := []) hc
      exact row_of ((ctx1 (natQ_ok hM hs hr) 2000 n).just f) h4 h2 h3
    · cases h1
  · exact hr p hp
noncomputable def okSG (srows : List (Nat × List SRow)) (rows : List (Nat × List (List D × D))) (n f : Nat) (r : SRow) : Bool := match callG C1 (fastQ srows rows) 2000 n f r.args (toFS r.st) with
  | .ok v s W => eqvD v r.v && eqvS (stF s) r.st' && eqvW W r.W
  | _ => false
theorem sRow_okG {β : Nat → Nat → Option Value} {srows : List (Nat × List SRow)} {rows : List (Nat × List (List D × D))} {n f : Nat} {r : SRow} (hM : MaxOk β) (hs : SRowsOk β srows) (hr : RowsOk β rows) (h : okSG srows rows n f r = true) : SRowOk β f r := by
  unfold okSG at h
  split at h
  · rename_i v s W hc
    simp only [Bool.and_eq_true] at h
    have h4 := callG_callN (fastQ_ok srows rows) hc
    rw [eqvD_eq h.1.1, eqvS_eq h.1.2, eqvW_eq h.2] at h4
    exact ⟨_, _, _, natQ_ok hM hs hr, h4⟩
  · cases h
end Go.Vam
