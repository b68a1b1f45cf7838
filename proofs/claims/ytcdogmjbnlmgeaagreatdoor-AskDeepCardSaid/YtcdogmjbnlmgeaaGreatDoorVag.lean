/-
  check.back: the passes over the net.
-/
import Derived.Test.YtcdogmjbnlmgeaaGreatDoorVaa
import Derived.Test.YtcdogmjbnlmgeaaGreatDoorProg
import Derived.KernelRfl
import Derived.Test.YtcdogmjbnlmgeaaGreatDoorVad
import Derived.Test.YtcdogmjbnlmgeaaGreatDoorVaf
import Derived.Test.YtcdogmjbnlmgeaaGreatDoorVac
set_option linter.unusedSimpArgs false
set_option linter.unusedVariables false
namespace Go.Vam

abbrev Far := List (List UInt8 × Nat)
abbrev Net := List (List UInt8 × List (List UInt8))
def getF (x : List UInt8) : Far → Option Nat
  | [] => none
  | p :: l => if p.1 == x then some p.2 else getF x l
def setF (x : List UInt8) (d : Nat) : Far → Far
  | [] => [(x, d)]
  | p :: l => if p.1 == x then (x, d) :: l else p :: setF x d l

theorem getF_setF (x y : List UInt8) (d : Nat) : ∀ fs : Far, getF y (setF x d fs) = if x = y then some d else getF y fs
  | [] => by
    unfold setF getF getF
    simp
  | p :: l => by
    unfold setF
    by_cases h : p.1 = x
    · subst h
      simp only [beq_self_eq_true, if_true]
      rw [getF, getF]
      by_cases hy : p.1 = y <;> simp [hy]
    · have h2 : (p.1 == x) = false := by simpa using h
      simp only [h2]
      show getF y (p :: setF x d l) = _
      rw [getF, getF, getF_setF x y d l]
      by_cases hy : p.1 = y
      · subst hy
        have h3 : ¬ x = p.1 := fun e => h e.symm
        simp [h3]
      · simp [hy]

/-- One neighbour. -/
def relax1 (n x : List UInt8) (s : Far × Bool) : Far × Bool :=
  match getF x s.1 with
  | none => s
  | some d => match getF n s.1 with
    | none => (setF n (d + 1) s.1, true)
    | some w => if d + 1 < w then (setF n (d + 1) s.1, true) else s
def relaxL (n : List UInt8) : List (List UInt8) → Far × Bool → Far × Bool
  | [], s => s
  | x :: xs, s => relaxL n xs (relax1 n x s)

def Walk (all : Net) (src : List UInt8) : Nat → List UInt8 → Prop
  | 0, n => n = src
  | d + 1, n => ∃ ns x, (n, ns) ∈ all ∧ x ∈ ns ∧ Walk all src d x

def absent (all : Net) (far : Far) : Nat := all.countP fun p => (getF p.1 far).isNone
def cost1 (B : Nat) (far : Far) (n : List UInt8) : Nat := match getF n far with
  | none => B + 1
  | some d => d
def cost (all : Net) (far : Far) : Nat := (all.map fun p => cost1 all.length far p.1).sum

structure Good (all : Net) (src : List UInt8) (far : Far) : Prop where
  zero : getF src far = some 0
  walk : ∀ n d, getF n far = some d → Walk all src d n
  small : ∀ n d, getF n far = some d → d + absent all far ≤ all.length

def ClosedAt (far : Far) (n x : List UInt8) : Prop := ∀ d, getF x far = some d → ∃ w, getF n far = some w ∧ w ≤ d + 1
def Closed (all : Net) (far : Far) : Prop := ∀ n ns, (n, ns) ∈ all → ∀ x ∈ ns, ClosedAt far n x

theorem sum_lt {α : Type} (f g : α → Nat) : ∀ (l : List α), (∀ p ∈ l, f p ≤ g p) → (∃ p ∈ l, f p < g p) → (l.map f).sum < (l.map g).sum
  | [], _, ⟨p, h, _⟩ => by cases h
  | a :: l, hle, ⟨p, hp, hlt⟩ => by
    simp only [List.map_cons, List.sum_cons]
    have h1 := hle a (by simp)
    rcases List.mem_cons.1 hp with rfl | hp
    · have h2 : (l.map f).sum ≤ (l.map g).sum := by
        clear hlt h1 hp
        induction l with
        | nil => simp
        | cons b l ih =>
          simp only [List.map_cons, List.sum_cons]
          have := hle b (by simp)
          have := ih (fun q hq => hle q (by
            rcases List.mem_cons.1 hq with rfl | h
            · simp
            · simp [h]))
          omega
      omega
    · have := sum_lt f g l (fun q hq => hle q (by simp [hq])) ⟨p, hp, hlt⟩
      omega

theorem countP_lt {α : Type} (p q : α → Bool) : ∀ (l : List α), (∀ a ∈ l, p a = true → q a = true) → (∃ a ∈ l, p a = false ∧ q a = true) → l.countP p < l.countP q
  | [], _, ⟨a, h, _⟩ => by cases h
  | b :: l, himp, ⟨a, ha, h1, h2⟩ => by
    rw [List.countP_cons, List.countP_cons]
    have hb := himp b (by simp)
    have hle : l.countP p ≤ l.countP q := List.countP_mono_left fun c hc h => himp c (by simp [hc]) h
    rcases List.mem_cons.1 ha with rfl | ha
    · rw [h1, h2]
      simp
      omega
    · have := countP_lt p q l (fun c hc => himp c (by simp [hc])) ⟨a, ha, h1, h2⟩
      cases hpb : p b
      · simp only [Bool.false_eq_true, if_false]
        omega
      · rw [hb hpb]
        simp only [if_true]
        omega

section
variable {all : Net} {src : List UInt8} {far : Far}

theorem Good.set {n : List UInt8} {ns : List (List UInt8)} {x : List UInt8} {d : Nat} (h : Good all src far) (hn : (n, ns) ∈ all) (hx : x ∈ ns) (hd : getF x far = some d) (hw : ∀ w, getF n far = some w → d + 1 < w) :
    Good all src (setF n (d + 1) far) ∧ cost all (setF n (d + 1) far) < cost all far := by
  have hab : absent all (setF n (d + 1) far) ≤ absent all far := by
    unfold absent
    refine List.countP_mono_left fun p _ hp => ?_
    rw [getF_setF] at hp
    split at hp
    · cases hp
    · exact hp
  have hd1 : d + 1 + absent all (setF n (d + 1) far) ≤ all.length := by
    cases hgn : getF n far with
    | some w =>
      have := hw w hgn
      have := h.small n w hgn
      omega
    | none =>
      have h1 := h.small x d hd
      have h2 : absent all (setF n (d + 1) far) < absent all far := by
        unfold absent
        refine countP_lt _ _ _ (fun p _ hp => ?_) ⟨(n, ns), hn, ?_, ?_⟩
        · rw [getF_setF] at hp
          split at hp
          · cases hp
          · exact hp
        · rw [getF_setF, if_pos rfl]; rfl
        · rw [hgn]; rfl
      omega
  refine ⟨⟨?_, fun m e hm => ?_, fun m e hm => ?_⟩, ?_⟩
  · rw [getF_setF]
    split
    · rename_i he
      subst he
      have := hw 0 h.zero
      omega
    · exact h.zero
  · rw [getF_setF] at hm
    split at hm
    · rename_i he
      subst he
      cases hm
      exact ⟨ns, x, hn, hx, h.walk x d hd⟩
    · exact h.walk m e hm
  · rw [getF_setF] at hm
    split at hm
    · cases hm
      exact hd1
    · have := h.small m e hm
      omega
  · unfold cost
    refine sum_lt _ _ _ (fun p _ => ?_) ⟨(n, ns), hn, ?_⟩
    · unfold cost1
      rw [getF_setF]
      by_cases he : n = p.1
      · rw [if_pos he, ← he]
        cases hgn : getF n far with
        | none =>
          show d + 1 ≤ all.length + 1
          omega
        | some w =>
          have := hw w hgn
          show d + 1 ≤ w
          omega
      · rw [if_neg he]
        exact Nat.le_refl _
    · unfold cost1
      rw [getF_setF, if_pos rfl]
      cases hgn : getF n far with
      | none =>
        show d + 1 < all.length + 1
        omega
      | some w => exact hw w hgn

theorem relax1_good {n : List UInt8} {ns : List (List UInt8)} {x : List UInt8} (t : Bool) (h : Good all src far) (hn : (n, ns) ∈ all) (hx : x ∈ ns) :
    Good all src (relax1 n x (far, t)).1 ∧ ((relax1 n x (far, t) = (far, t) ∧ ClosedAt far n x) ∨ ((relax1 n x (far, t)).2 = true ∧ cost all (relax1 n x (far, t)).1 < cost all far)) := by
  unfold relax1
  dsimp only
  cases hd : getF x far with
  | none => exact ⟨h, .inl ⟨rfl, fun d hd' => by rw [hd] at hd'; cases hd'⟩⟩
  | some d =>
    dsimp only
    cases hw : getF n far with
    | none =>
      have := h.set hn hx hd (fun w h' => by rw [hw] at h'; cases h')
      exact ⟨this.1, .inr ⟨rfl, this.2⟩⟩
    | some w =>
      dsimp only
      split
      · rename_i hlt
        have := h.set hn hx hd (fun w' h' => by rw [hw] at h'; cases h'; exact hlt)
        exact ⟨this.1, .inr ⟨rfl, this.2⟩⟩
      · exact ⟨h, .inl ⟨rfl, fun d' hd' => by rw [hd] at hd'; cases hd'; exact ⟨w, hw, by omega⟩⟩⟩

theorem relaxL_good {n : List UInt8} {ns : List (List UInt8)} (hn : (n, ns) ∈ all) : ∀ (xs : List (List UInt8)) (far : Far) (t : Bool), (∀ x ∈ xs, x ∈ ns) → Good all src far →
    Good all src (relaxL n xs (far, t)).1 ∧ ((relaxL n xs (far, t) = (far, t) ∧ ∀ x ∈ xs, ClosedAt far n x) ∨ ((relaxL n xs (far, t)).2 = true ∧ cost all (relaxL n xs (far, t)).1 < cost all far))
  | [], far, t, _, h => ⟨h, .inl ⟨rfl, fun x hx => by cases hx⟩⟩
  | x :: xs, far, t, hxs, h => by
    rw [relaxL]
    obtain ⟨h1, h2⟩ := relax1_good (far := far) t h hn (hxs x (by simp))
    rcases h2 with ⟨h2, h3⟩ | ⟨h2, h3⟩
    · rw [h2]
      obtain ⟨h4, h5⟩ := relaxL_good hn xs far t (fun y hy => hxs y (by simp [hy])) h
      refine ⟨h4, ?_⟩
      rcases h5 with ⟨h5, h6⟩ | h5
      · exact .inl ⟨h5, fun y hy => by
          rcases List.mem_cons.1 hy with rfl | hy
          · exact h3
          · exact h6 y hy⟩
      · exact .inr h5
    · generalize relax1 n x (far, t) = s at h1 h2 h3
      obtain ⟨far1, t1⟩ := s
      obtain ⟨h4, h5⟩ := relaxL_good hn xs far1 t1 (fun y hy => hxs y (by simp [hy])) h1
      refine ⟨h4, .inr ?_⟩
      dsimp only at h2 h3
      rcases h5 with ⟨h5, h6⟩ | ⟨h5, h6⟩
      · rw [h5]; exact ⟨h2, h3⟩
      · exact ⟨h5, by omega⟩

/-- While a pass goes over the net. -/
structure Pass (all : Net) (src : List UInt8) (far0 : Far) (pre : List Nat) (s : Far × Bool) : Prop where
  good : Good all src s.1
  what : (s = (far0, false) ∧ ∀ i ∈ pre, ∀ n ns, all[i]? = some (n, ns) → ∀ x ∈ ns, ClosedAt far0 n x) ∨ (s.2 = true ∧ cost all s.1 < cost all far0)

theorem Pass.start (h : Good all src far) : Pass all src far [] (far, false) := ⟨h, .inl ⟨rfl, fun i hi => by cases hi⟩⟩

theorem Pass.step {far0 : Far} {pre : List Nat} {s : Far × Bool} {i : Nat} {n : List UInt8} {ns : List (List UInt8)} (h : Pass all src far0 pre s) (hi : all[i]? = some (n, ns)) : Pass all src far0 (pre ++ [i]) (relaxL n ns s) := by
  obtain ⟨far, t⟩ := s
  obtain ⟨h1, h2⟩ := relaxL_good (List.mem_of_getElem? hi) ns far t (fun _ h => h) h.good
  refine ⟨h1, ?_⟩
  rcases h.what with ⟨h3, h4⟩ | ⟨h3, h4⟩
  · cases h3
    rcases h2 with ⟨h5, h6⟩ | h5
    · refine .inl ⟨h5, fun j hj m ms hjm => ?_⟩
      rcases List.mem_append.1 hj with hj | hj
      · exact h4 j hj m ms hjm
      · simp at hj
        subst hj
        rw [hi] at hjm
        cases hjm
        exact h6
    · exact .inr h5
  · dsimp only at h3 h4
    rcases h2 with ⟨h5, h6⟩ | ⟨h5, h6⟩
    · rw [h5]; exact .inr ⟨h3, h4⟩
    · exact .inr ⟨h5, by omega⟩

theorem Pass.closed {far0 far : Far} {pre : List Nat} (h : Pass all src far0 pre (far, false)) (hp : pre.Perm (List.range all.length)) : far = far0 ∧ Closed all far := by
  rcases h.what with ⟨h1, h2⟩ | ⟨h1, _⟩
  · cases h1
    refine ⟨rfl, fun n ns hn x hx => ?_⟩
    obtain ⟨i, hi⟩ := List.mem_iff_getElem?.1 hn
    have hlt : i < all.length := (List.getElem?_eq_some_iff.1 hi).1
    exact h2 i (hp.mem_iff.2 (List.mem_range.2 hlt)) n ns hi x hx
  · cases h1

theorem walk_le (hz : getF src far = some 0) (hc : Closed all far) : ∀ (d : Nat) (n : List UInt8), Walk all src d n → ∃ w, getF n far = some w ∧ w ≤ d
  | 0, n, h => by
    cases h
    exact ⟨0, hz, Nat.le_refl _⟩
  | d + 1, n, ⟨ns, x, hn, hx, hw⟩ => by
    obtain ⟨w, h1, h2⟩ := walk_le hz hc d x hw
    obtain ⟨v, h3, h4⟩ := hc n ns hn x hx w h1
    exact ⟨v, h3, by omega⟩

theorem look_eq {far1 far2 : Far} (h1 : Good all src far1) (c1 : Closed all far1) (h2 : Good all src far2) (c2 : Closed all far2) (n : List UInt8) : getF n far1 = getF n far2 := by
  have h3 : ∀ d, getF n far1 = some d → ∃ w, getF n far2 = some w ∧ w ≤ d := fun d hd => walk_le h2.zero c2 d n (h1.walk n d hd)
  have h4 : ∀ d, getF n far2 = some d → ∃ w, getF n far1 = some w ∧ w ≤ d := fun d hd => walk_le h1.zero c1 d n (h2.walk n d hd)
  cases e1 : getF n far1 with
  | some d =>
    obtain ⟨w, h5, h6⟩ := h3 d e1
    obtain ⟨v, h7, h8⟩ := h4 w h5
    rw [e1] at h7
    cases h7
    rw [h5]
    congr 1
    omega
  | none =>
    cases e2 : getF n far2 with
    | some d =>
      obtain ⟨w, h5, _⟩ := h4 d e2
      rw [e1] at h5
      cases h5
    | none => rfl

/-- The same, pass by pass in the list's order. -/
def passP : Net → Far × Bool → Far × Bool
  | [], s => s
  | p :: l, s => passP l (relaxL p.1 p.2 s)
def farP (all : Net) : Nat → Far → Option Far
  | 0, _ => none
  | k + 1, far => match passP all (far, false) with
    | (far, false) => some far
    | (far, true) => farP all k far

theorem passP_pass {far0 : Far} : ∀ (l : Net) (pre : List Nat) (s : Far × Bool), (∀ (i : Nat) (p : List UInt8 × List (List UInt8)), l[i]? = some p → all[pre.length + i]? = some p) → (∀ i ∈ pre, i < pre.length) →
    Pass all src far0 pre s → (pre = List.range pre.length) → Pass all src far0 (List.range (pre.length + l.length)) (passP l s)
  | [], pre, s, hl, hp, h, hr => by
    rw [passP, List.length_nil, Nat.add_zero, ← hr]
    exact h
  | p :: l, pre, s, hl, hp, h, hr => by
    rw [passP]
    have h0 := hl 0 p (by simp)
    have h1 := h.step (i := pre.length) (n := p.1) (ns := p.2) (by simpa using h0)
    have h2 := passP_pass l (pre ++ [pre.length]) _ (fun i q hi => by
      have := hl (i + 1) q (by simpa using hi)
      rw [List.length_append]
      simp only [List.length_singleton]
      rw [show pre.length + 1 + i = pre.length + (i + 1) from by omega]
      exact this) (fun i hi => by
      rw [List.length_append]
      rcases List.mem_append.1 hi with h | h
      · have := hp i h
        simp only [List.length_singleton]
        omega
      · simp at h
        subst h
        simp) h1 (by
      rw [List.length_append]
      simp only [List.length_singleton]
      rw [List.range_succ, ← hr])
    rw [List.length_append] at h2
    simp only [List.length_singleton] at h2
    rw [List.length_cons, show pre.length + (l.length + 1) = pre.length + 1 + l.length from by omega]
    exact h2

theorem farP_good : ∀ (k : Nat) (far far' : Far), Good all src far → farP all k far = some far' → Good all src far' ∧ Closed all far'
  | 0, _, _, _, h => by cases h
  | k + 1, far, far', hg, h => by
    have hp := passP_pass (all := all) (src := src) (far0 := far) all [] (far, false) (fun i p hi => by simpa using hi) (fun i hi => by cases hi) (Pass.start hg) rfl
    simp only [List.length_nil, Nat.zero_add] at hp
    unfold farP at h
    generalize hs : passP all (far, false) = s at h hp
    obtain ⟨f1, t⟩ := s
    cases t with
    | false =>
      cases h
      exact ⟨hp.good, (hp.closed (List.Perm.refl _)).2⟩
    | true => exact farP_good k f1 far' hp.good h

theorem good_start (h : (all.length) = all.length) : Good all src [(src, 0)] := by
  refine ⟨by simp [getF], fun n d hd => ?_, fun n d hd => ?_⟩
  · unfold getF getF at hd
    split at hd
    · rename_i he
      cases hd
      exact (by simpa using he : src = n).symm
    · cases hd
  · unfold getF getF at hd
    split at hd
    · cases hd
      rw [Nat.zero_add]
      exact List.countP_le_length
    · cases hd
end
end Go.Vam

set_option linter.unusedSimpArgs false
set_option linter.unusedVariables false
namespace Go.Vam
open Go.Proofs

def encF (fs : Far) : List (D × D) := fs.map fun p => (.str p.1, .int .i64 p.2)

theorem und9 : Tryz.prog.underlying 9 = some .string := Tryz.underlying9
theorem map206 : mapT Tryz.prog 206 = some (9, 3) := by kernel_rfl
theorem eqT_str (a b : List UInt8) : eqT Tryz.prog 20 9 (.str a) (.str b) = some (a == b) := by
  unfold eqT
  rw [und9]
theorem keyOk_str (a : List UInt8) : keyOk Tryz.prog 9 (.str a) = true := by
  unfold keyOk hashT
  rw [und9]

theorem findD_far (x : List UInt8) : ∀ (fs : Far) (i : Nat), (findD Tryz.prog 9 (.str x) (encF fs) i = some none ∧ getF x fs = none ∧ ∀ d' : Nat, encF (setF x d' fs) = encF fs ++ [(.str x, .int .i64 d')]) ∨
    ∃ (j d : Nat), findD Tryz.prog 9 (.str x) (encF fs) i = some (some (i + j, .int .i64 d)) ∧ getF x fs = some d ∧ (encF fs)[j]? = some (.str x, .int .i64 d) ∧ ∀ d' : Nat, encF (setF x d' fs) = (encF fs).set j (.str x, .int .i64 d')
  | [], i => .inl ⟨rfl, rfl, fun _ => rfl⟩
  | p :: l, i => by
    have hc : encF (p :: l) = (.str p.1, .int .i64 p.2) :: encF l := rfl
    rw [hc, findD, eqT_str, getF]
    by_cases h : p.1 = x
    · right
      subst h
      exact ⟨0, p.2, by simp, by simp, by simp, fun d' => by simp [setF, encF]⟩
    · have h1 : (x == p.1) = false := by simpa using fun e => h e.symm
      have h2 : (p.1 == x) = false := by simpa using h
      have hs : ∀ d', setF x d' (p :: l) = p :: setF x d' l := fun d' => by simp [setF, h2]
      rcases findD_far x l (i + 1) with ⟨h3, h4, h5⟩ | ⟨j, d, h3, h4, h5, h6⟩
      · left
        refine ⟨by simp [h1, h3], by simp [h2, h4], fun d' => ?_⟩
        rw [hs]
        show (.str p.1, .int .i64 p.2) :: encF (setF x d' l) = _
        rw [h5]; rfl
      · right
        refine ⟨j + 1, d, ?_, by simp [h2, h4], by simpa using h5, fun d' => ?_⟩
        · rw [h1]
          dsimp only
          rw [h3]
          congr 3
          omega
        · rw [hs]
          show (.str p.1, .int .i64 p.2) :: encF (setF x d' l) = _
          rw [h6]; rfl

theorem zero3 : zeroD Tryz.prog 3 = some (.int .i64 0) := by kernel_rfl

def getD' (o : Option Nat) : D := match o with
  | some d => .tup [.int .i64 (d : Nat), .bool true]
  | none => .tup [.int .i64 0, .bool false]

theorem lookup_far {st : St} {id : Nat} {fs : Far} {x : List UInt8} (h : st[id]? = some (.map (encF fs))) : lookupD Tryz.prog 206 (.map id) (.str x) true st = some (getD' (getF x fs), .rd [id]) := by
  unfold lookupD
  rw [map206]
  simp only [keyOk_str, if_true, h]
  rcases findD_far x fs 0 with ⟨h1, h2, _⟩ | ⟨j, d, h1, h2, _⟩
  · rw [h1, h2, zero3]; rfl
  · rw [h1, h2]; rfl

theorem frozen_self (st : St) : frozenIds st st = [] := frozenIds_self st
theorem update_far {st : St} {id d : Nat} {fs : Far} {x : List UInt8} (h : st[id]? = some (.map (encF fs))) : updateD Tryz.prog 206 (.map id) (.str x) (.int .i64 d) st = some (.undef, st.set id (.map (encF (setF x d fs))), [id]) := by
  unfold updateD
  rw [map206]
  simp only [keyOk_str, if_true]
  have hf : frz deepF st (.int .i64 (d : Int)) = some (.int .i64 d, st) := rfl
  rw [hf]
  simp only [h, frozen_self]
  rcases findD_far x fs 0 with ⟨h1, h2, h3⟩ | ⟨j, d0, h1, h2, h3, h4⟩
  · rw [h1, h3]; rfl
  · rw [h1, h4]
    simp only [Nat.zero_add]
    have : sameAt (encF fs) j (.str x) = true := by
      unfold sameAt
      rw [h3]
      simp [sameK, sameS]
    rw [this]
    rfl
end Go.Vam

set_option linter.unusedSimpArgs false
set_option linter.unusedVariables false
namespace Go.Vam

mutual
def sameD : D → D → Bool
  | .int k a, .int k' b => k == k' && a == b
  | .bool a, .bool b => a == b
  | .str a, .str b => a == b
  | .nilsl, .nilsl => true
  | .sl r .none, .sl r' .none => sameLL r r'
  | .agg a, .agg b => sameL a b
  | _, _ => false
def sameL : List D → List D → Bool
  | [], [] => true
  | a :: x, b :: y => sameD a b && sameL x y
  | _, _ => false
def sameLL : List (List D) → List (List D) → Bool
  | [], [] => true
  | a :: x, b :: y => sameL a b && sameLL x y
  | _, _ => false
end

mutual
theorem sameD_eq : ∀ {a b : D}, sameD a b = true → a = b := fun {a b} h => by
  unfold sameD at h
  split at h
  · simp only [Bool.and_eq_true, beq_iff_eq] at h
    obtain ⟨h1, h2⟩ := h
    subst h1 h2
    rfl
  · rw [beq_iff_eq.1 h]
  · rw [beq_iff_eq.1 h]
  · rfl
  · rw [sameLL_eq h]
  · rw [sameL_eq h]
  · cases h
theorem sameL_eq : ∀ {x y : List D}, sameL x y = true → x = y
  | [], [], _ => rfl
  | a :: x, b :: y, h => by
    unfold sameL at h
    rw [Bool.and_eq_true] at h
    rw [sameD_eq h.1, sameL_eq h.2]
  | [], _ :: _, h => by cases h
  | _ :: _, [], h => by cases h
theorem sameLL_eq : ∀ {x y : List (List D)}, sameLL x y = true → x = y
  | [], [], _ => rfl
  | a :: x, b :: y, h => by
    unfold sameLL at h
    rw [Bool.and_eq_true] at h
    rw [sameL_eq h.1, sameLL_eq h.2]
  | [], _ :: _, h => by cases h
  | _ :: _, [], h => by cases h
end

def rowOf (args : List D) : List (List D × D) → Option D
  | [] => none
  | r :: l => if sameL r.1 args then some r.2 else rowOf args l

theorem rowOf_mem {args : List D} {v : D} : ∀ {l : List (List D × D)}, rowOf args l = some v → (args, v) ∈ l
  | [], h => by cases h
  | r :: l, h => by
    unfold rowOf at h
    split at h
    · rename_i he
      cases h
      rw [← sameL_eq he]
      exact List.mem_cons_self
    · exact List.mem_cons_of_mem _ (rowOf_mem h)

/-- Rows of a function, and else another native. -/
def natRows (rows : List (List D × D)) : Native := fun _ args st => match rowOf args rows with
  | some v => some (v, st, [])
  | none => none

/-- What a row says. -/
def RowOk (P : Program) (β : Nat → Nat → Option Value) (f : FuncId) (args : List D) (v : D) : Prop :=
  ∀ st g w (A : Array Value), g.base = β → Sim g st w → VRs g args A →
    Calls P f A w fun e w' => ∃ r g', e = .returned r ∧ VR g' v r ∧ Sim g' st w' ∧ Step g st w [] g' st w' ∧ Free g st g'

theorem natRows_just {P : Program} {β : Nat → Nat → Option Value} {f : FuncId} {rows : List (List D × D)} (h : ∀ r ∈ rows, RowOk P β f r.1 r.2) (cf : CallF) : Just P β f (natRows rows cf) := by
  intro args st v st' W hr g w A hb hs hA
  unfold natRows at hr
  split at hr
  · rename_i v1 hv
    cases hr
    exact h _ (rowOf_mem hv) st g w A hb hs hA
  · cases hr
theorem natRows_keeps {rows : List (List D × D)} (cf : CallF) : Keeps (natRows rows cf) := by
  intro args st v st' W hr
  unfold natRows at hr
  split at hr
  · cases hr
    exact ⟨Nat.le_refl _, fun _ _ _ => rfl⟩
  · cases hr

theorem cut_sim {g : G} {st : St} {w : World} (hs : Sim g st w) : Sim (g.cut 0) [] w := by
  have hl : ∀ id c, (g.cut 0).loc id ≠ some c := fun id c h => by simp [G.cut] at h
  have ht : ∀ t k, (g.cut 0).tk t ≠ some k := fun t k h => by simp [G.cut] at h
  refine ⟨fun id c h => absurd h (hl id c), fun t k h => absurd h (ht t k), fun id id' b h _ => ?_, hs.imm, fun id c h => absurd h (hl id c), hs.base⟩
  rcases h with ⟨h, _⟩ | ⟨k, h, _⟩
  · exact absurd h (hl _ _)
  · exact absurd h (ht _ _)

/-- A row out of a run in no store. -/
theorem row_of {P : Program} {β : Nat → Nat → Option Value} {f : FuncId} {c : List D → St → Res} (hj : Just P β f c) {args : List D} {v : D} {st2 : St} {W2 : Ids} (h : c args [] = some (v, st2, W2)) (ha : refL 0 args = false) (hv : scalV v = true) :
    RowOk P β f args v := by
  intro st g w A hb hs hA
  have hA0 : VRs (g.cut 0) args A := ⟨hA.size, fun j d x h1 h2 => (hA.at_ j d x h1 h2).cut (refL_iff.1 ha j d h1)⟩
  refine (hj args [] v st2 W2 h (g.cut 0) w A hb (cut_sim hs) hA0).mono ?_
  rintro e w' ⟨r, g1, rfl, h1, h2, h3, h4⟩
  have hno : ∀ id b, ¬ Own (g.cut 0) [] id b := by
    rintro id b (⟨h, _⟩ | ⟨k, h, _⟩) <;> simp [G.cut] at h
  have := hs.still h3.size (fun b hb => h3.fr b hb fun id _ => hno id b) h3.os h3.out
  exact ⟨r, g, rfl, scalV_VR h1 hv, this.1, this.2, Free.refl _ _⟩
end Go.Vam

set_option linter.unusedSimpArgs false
set_option linter.unusedVariables false
namespace Go.Vam

def stripO (o : Oper) : Oper := { dst := o.dst, op := o.op, type := 0, pos := "", after := #[], guard := o.guard }
def strip : Code → Code
  | .region id ops false => .region id (ops.map stripO) false
  | .seq a b => .seq (strip a) (strip b)
  | .cond c a b => .cond c (strip a) (strip b)
  | .block id a => .block id (strip a)
  | .loop a => .loop (strip a)
  | c => c

section
variable {C : Cfg} {h : Bool} {cf : CallF}

theorem want_strip (o : Oper) (ops : Array Oper) (e : Env) : wantD (stripO o) (ops.map stripO) e = wantD o ops e := by
  unfold wantD
  show (match o.guard with | none => _ | some (j, want) => _) = _
  cases o.guard with
  | none => rfl
  | some p =>
    obtain ⟨j, want⟩ := p
    dsimp only
    rw [Array.getElem?_map]
    cases ops[j]? <;> rfl

theorem ops_strip (ops : Array Oper) (B : Array Nat) : ∀ (l : List Nat) (lg : Log) (e : Env) (st : St) (W : Ids), runOps C h cf false (ops.map stripO) B l lg e st W = runOps C h cf false ops B l lg e st W
  | [], lg, e, st, W => rfl
  | i :: l, lg, e, st, W => by
    unfold runOps
    rw [Array.getElem?_map]
    cases ho : ops[i]? with
    | none => rfl
    | some o =>
      simp only [Option.map_some, want_strip]
      have h1 : loud (stripO o) = loud o := rfl
      have h2 : stepQ C.P h (stripO o) (ev e) st = stepQ C.P h o (ev e) st := rfl
      have h3 : stepL C h cf (stripO o) (ev e) st = stepL C h cf o (ev e) st := rfl
      have h4 : (stripO o).dst = o.dst := rfl
      rw [h1, h2, h3, h4]
      cases wantD o ops e with
      | none => rfl
      | some b =>
        cases b with
        | false => exact ops_strip ops B l _ _ _ _
        | true =>
          dsimp only
          split
          · cases stepL C h cf o (ev e) st with
            | none => rfl
            | some p =>
              obtain ⟨v, st', V⟩ := p
              dsimp only
              simp only [Bool.false_and]
              exact ops_strip ops B l _ _ _ _
          · cases stepQ C.P h o (ev e) st with
            | none => rfl
            | some p =>
              obtain ⟨v, fx⟩ := p
              exact ops_strip ops B l _ _ _ _

theorem exec_strip (od : Nat → Option (List Nat × Bool)) (N : Nat) : ∀ (c : Code), exec C h od cf N (strip c) = exec C h od cf N c := by
  intro c
  induction c with
  | region id ops draw =>
    cases draw with
    | true => rfl
    | false =>
      funext e st
      show exec C h od cf N (.region id (ops.map stripO) false) e st = _
      unfold exec region
      simp only [Bool.false_eq_true, if_false, Array.size_map, ops_strip]
  | seq a b iha ihb =>
    funext e st
    show exec C h od cf N (.seq (strip a) (strip b)) e st = _
    unfold exec
    rw [iha, ihb]
  | cond c a b iha ihb =>
    funext e st
    show exec C h od cf N (.cond c (strip a) (strip b)) e st = _
    unfold exec
    rw [iha, ihb]
  | block id a iha =>
    funext e st
    show exec C h od cf N (.block id (strip a)) e st = _
    unfold exec
    rw [iha]
  | loop a iha =>
    funext e st
    show exec C h od cf N (.loop (strip a)) e st = _
    unfold exec
    rw [iha]
  | _ => rfl
end

theorem getD_set (e : Env) (i j : Nat) (v : D) : (e.set i v).getD j .undef = if i = j then (if i < e.length then v else .undef) else e.getD j .undef := by
  simp only [List.getD_eq_getElem?_getD, List.getElem?_set]
  by_cases h : i = j
  · subst h
    by_cases h2 : i < e.length
    · simp [h2]
    · simp [h2]
  · simp [h]
theorem getD_some {e : Env} {j : Nat} {v : D} (h : e[j]? = some v) : e.getD j .undef = v := by
  rw [List.getD_eq_getElem?_getD, h]
  rfl
end Go.Vam

set_option linter.unusedSimpArgs false
set_option linter.unusedVariables false
namespace Go.Vam

section
variable {C : Cfg} {hh : Bool} {cf : CallF} {N : Nat} {Pw : Nat → Prop}

/-- A piece of code ends so. -/
structure ExW (C : Cfg) (hh : Bool) (cf : CallF) (N : Nat) (Pw : Nat → Prop) (c : Code) (e : Env) (st : St) (Q : Ex → Env → St → Prop) : Prop where
  ex : ∃ x e' st' V, exec C hh (fun _ => none) cf N c e st = some (x, e', st', V) ∧ (∀ id ∈ V, Pw id) ∧ Q x e' st'
structure OpsW (C : Cfg) (hh : Bool) (cf : CallF) (Pw : Nat → Prop) (ops : Array Oper) (l : List Nat) (e : Env) (st : St) (Q : Env → St → Prop) : Prop where
  ex : ∀ W : Ids, (∀ id ∈ W, Pw id) → ∃ e' st' V, runOps C hh cf false ops #[] l [] e st W = some (e', st', V) ∧ (∀ id ∈ V, Pw id) ∧ Q e' st'

variable {e : Env} {st st' : St} {Q : Ex → Env → St → Prop} {R : Env → St → Prop} {ops : Array Oper} {l : List Nat}

theorem ExW.mono {c : Code} {Q' : Ex → Env → St → Prop} (h : ExW C hh cf N Pw c e st Q') (hq : ∀ x e' st', Q' x e' st' → Q x e' st') : ExW C hh cf N Pw c e st Q := by
  obtain ⟨x, e', st', V, h1, h2, h3⟩ := h.ex
  exact ⟨x, e', st', V, h1, h2, hq _ _ _ h3⟩
theorem exw_strip {c : Code} (h : ExW C hh cf N Pw (strip c) e st Q) : ExW C hh cf N Pw c e st Q := by
  obtain ⟨x, e', st', V, h1, h2⟩ := h.ex
  rw [exec_strip] at h1
  exact ⟨x, e', st', V, h1, h2⟩
theorem exw_skip (h : Q .norm e st) : ExW C hh cf N Pw .skip e st Q := ⟨⟨_, _, _, _, rfl, by simp, h⟩⟩
theorem exw_exit {id : Nat} (h : Q (.exit id) e st) : ExW C hh cf N Pw (.exit id) e st Q := ⟨⟨_, _, _, _, rfl, by simp, h⟩⟩
theorem exw_ret (h : Q .ret e st) : ExW C hh cf N Pw .ret e st Q := ⟨⟨_, _, _, _, rfl, by simp, h⟩⟩
theorem exw_seq {a b : Code} (h : ExW C hh cf N Pw a e st (fun x e1 st1 => match x with | .norm => ExW C hh cf N Pw b e1 st1 Q | x => Q x e1 st1)) : ExW C hh cf N Pw (.seq a b) e st Q := by
  obtain ⟨x, e1, st1, V, h1, h2, h3⟩ := h.ex
  cases x with
  | norm =>
    obtain ⟨y, e2, st2, W, h4, h5, h6⟩ := h3.ex
    refine ⟨⟨y, e2, st2, joinW W V, ?_, fun id hid => (mem_joinW.1 hid).elim (h5 id) (h2 id), h6⟩⟩
    unfold exec
    rw [h1]
    dsimp only
    rw [h4]
  | exit id =>
    refine ⟨⟨_, e1, st1, V, ?_, h2, h3⟩⟩
    unfold exec
    rw [h1]
  | ret =>
    refine ⟨⟨_, e1, st1, V, ?_, h2, h3⟩⟩
    unfold exec
    rw [h1]
theorem exw_true {c : Operand} {a b : Code} (hc : ev e c = .bool true) (h : ExW C hh cf N Pw a e st Q) : ExW C hh cf N Pw (.cond c a b) e st Q := by
  obtain ⟨x, e1, st1, V, h1, h2, h3⟩ := h.ex
  refine ⟨⟨x, e1, st1, V, ?_, h2, h3⟩⟩
  unfold exec
  rw [hc]
  exact h1
theorem exw_false {c : Operand} {a b : Code} (hc : ev e c = .bool false) (h : ExW C hh cf N Pw b e st Q) : ExW C hh cf N Pw (.cond c a b) e st Q := by
  obtain ⟨x, e1, st1, V, h1, h2, h3⟩ := h.ex
  refine ⟨⟨x, e1, st1, V, ?_, h2, h3⟩⟩
  unfold exec
  rw [hc]
  exact h1
theorem exw_block {id : Nat} {b : Code} (h : ExW C hh cf N Pw b e st (fun x e1 st1 => match x with | .exit i => Q (if i = id then .norm else .exit i) e1 st1 | x => Q x e1 st1)) : ExW C hh cf N Pw (.block id b) e st Q := by
  obtain ⟨x, e1, st1, V, h1, h2, h3⟩ := h.ex
  cases x with
  | exit i =>
    refine ⟨⟨_, e1, st1, V, ?_, h2, h3⟩⟩
    unfold exec
    rw [h1]
  | norm =>
    refine ⟨⟨_, e1, st1, V, ?_, h2, h3⟩⟩
    unfold exec
    rw [h1]
  | ret =>
    refine ⟨⟨_, e1, st1, V, ?_, h2, h3⟩⟩
    unfold exec
    rw [h1]
theorem exw_region {id : Nat} (h : OpsW C hh cf Pw ops (List.range ops.size) e st (fun e' st' => Q .norm e' st')) : ExW C hh cf N Pw (.region id ops false) e st Q := by
  obtain ⟨e', st', V, h1, h2, h3⟩ := h.ex [] (by simp)
  refine ⟨⟨.norm, e', st', V, ?_, h2, h3⟩⟩
  unfold exec region
  simp only [Bool.false_eq_true, if_false]
  rw [h1]

theorem loop_go {body : Env → St → ExR} {Pw : Nat → Prop} (I : Nat → Env → St → Prop)
    (step : ∀ k e st, I k e st → ∃ x e' st' V, body e st = some (x, e', st', V) ∧ (∀ id ∈ V, Pw id) ∧ (match x with | .norm => ∃ k', k' < k ∧ I k' e' st' | x => Q x e' st')) :
    ∀ (n : Nat) (k : Nat) (e : Env) (st : St) (W : Ids), k < n → I k e st → (∀ id ∈ W, Pw id) → ∃ x e' st' V, loopGo body n e st W = some (x, e', st', V) ∧ (∀ id ∈ V, Pw id) ∧ Q x e' st'
  | 0, _, _, _, _, h, _, _ => absurd h (by omega)
  | n + 1, k, e, st, W, hk, hI, hW => by
    obtain ⟨x, e1, st1, V, h1, h2, h3⟩ := step k e st hI
    have hj : ∀ id ∈ joinW V W, Pw id := fun id hid => (mem_joinW.1 hid).elim (h2 id) (hW id)
    unfold loopGo
    rw [h1]
    cases x with
    | norm =>
      obtain ⟨k', h4, h5⟩ := h3
      exact loop_go I step n k' e1 st1 _ (by omega) h5 hj
    | exit id => exact ⟨_, _, _, _, rfl, hj, h3⟩
    | ret => exact ⟨_, _, _, _, rfl, hj, h3⟩

/-- A loop: what holds ahead of each round, and how many rounds there are at most. -/
theorem exw_loop {b : Code} (I : Nat → Env → St → Prop) (k : Nat) (hk : k < N) (hI : I k e st)
    (step : ∀ k e st, I k e st → ExW C hh cf N Pw b e st (fun x e' st' => match x with | .norm => ∃ k', k' < k ∧ I k' e' st' | x => Q x e' st')) : ExW C hh cf N Pw (.loop b) e st Q :=
  ⟨loop_go I (fun k e st h => (step k e st h).ex) N k e st [] hk hI (by simp)⟩

theorem opsw_nil (h : R e st) : OpsW C hh cf Pw ops [] e st R := ⟨fun W hW => ⟨e, st, W, rfl, hW, h⟩⟩
theorem opsw_q {i : Nat} {o : Oper} {v : D} {ids : Ids} (ho : ops[i]? = some o) (hw : wantD o ops e = some true) (hl : loud o = false) (hq : stepQ C.P hh o (ev e) st = some (v, .rd ids))
    (h : OpsW C hh cf Pw ops l (putD e o.dst v) st R) : OpsW C hh cf Pw ops (i :: l) e st R := ⟨fun W hW => by
  obtain ⟨e', st', V, h1, h2⟩ := h.ex W hW
  refine ⟨e', st', V, ?_, h2⟩
  unfold runOps
  rw [ho]
  dsimp only
  rw [hw]
  dsimp only
  rw [hl, hq]
  simp only [Bool.false_eq_true, if_false]
  exact h1⟩
theorem opsw_a {i : Nat} {o : Oper} {v : D} {ob : Obj} (ho : ops[i]? = some o) (hw : wantD o ops e = some true) (hl : loud o = false) (hq : stepQ C.P hh o (ev e) st = some (v, .al ob))
    (h : OpsW C hh cf Pw ops l (putD e o.dst v) (st ++ [ob]) R) : OpsW C hh cf Pw ops (i :: l) e st R := ⟨fun W hW => by
  obtain ⟨e', st', V, h1, h2⟩ := h.ex W hW
  refine ⟨e', st', V, ?_, h2⟩
  unfold runOps
  rw [ho]
  dsimp only
  rw [hw]
  dsimp only
  rw [hl, hq]
  simp only [Bool.false_eq_true, if_false]
  exact h1⟩
theorem opsw_no {i : Nat} {o : Oper} (ho : ops[i]? = some o) (hw : wantD o ops e = some false)
    (h : OpsW C hh cf Pw ops l (putD e o.dst (.tup [])) st R) : OpsW C hh cf Pw ops (i :: l) e st R := ⟨fun W hW => by
  obtain ⟨e', st', V, h1, h2⟩ := h.ex W hW
  refine ⟨e', st', V, ?_, h2⟩
  unfold runOps
  rw [ho]
  dsimp only
  rw [hw]
  exact h1⟩
theorem opsw_l {i : Nat} {o : Oper} {v : D} {V : Ids} (ho : ops[i]? = some o) (hw : wantD o ops e = some true) (hl : loud o = true) (hs : stepL C hh cf o (ev e) st = some (v, st', V)) (hV : ∀ id ∈ V, Pw id)
    (h : OpsW C hh cf Pw ops l (putD e o.dst v) st' R) : OpsW C hh cf Pw ops (i :: l) e st R := ⟨fun W hW => by
  obtain ⟨e', st2, V2, h1, h2⟩ := h.ex (joinW V W) (fun id hid => (mem_joinW.1 hid).elim (hV id) (hW id))
  refine ⟨e', st2, V2, ?_, h2⟩
  unfold runOps
  rw [ho]
  dsimp only
  rw [hw]
  dsimp only
  rw [hl, hs]
  simp only [Bool.false_and, Bool.false_eq_true, if_false, if_true]
  exact h1⟩

/-- The operations from one on. -/
structure OpsF (C : Cfg) (hh : Bool) (cf : CallF) (Pw : Nat → Prop) (ops : Array Oper) (i : Nat) (e : Env) (st : St) (R : Env → St → Prop) : Prop where
  ex : OpsW C hh cf Pw ops (List.range' i (ops.size - i)) e st R

theorem exw_regf {id : Nat} (h : OpsF C hh cf Pw ops 0 e st (fun e' st' => Q .norm e' st')) : ExW C hh cf N Pw (.region id ops false) e st Q := by
  refine exw_region ?_
  rw [List.range_eq_range']
  exact h.ex
theorem opsf_nil {i : Nat} (hi : ops.size ≤ i) (h : R e st) : OpsF C hh cf Pw ops i e st R := by
  refine ⟨?_⟩
  rw [show ops.size - i = 0 from by omega]
  exact opsw_nil h
theorem opsf_cut {i : Nat} {o : Oper} (ho : ops[i]? = some o) : List.range' i (ops.size - i) = i :: List.range' (i + 1) (ops.size - (i + 1)) := by
  have : i < ops.size := by
    obtain ⟨h, _⟩ := Array.getElem?_eq_some_iff.1 ho
    exact h
  rw [show ops.size - i = (ops.size - (i + 1)) + 1 from by omega]
  rfl
theorem opsf_q {i : Nat} {o : Oper} {v : D} {ids : Ids} (ho' : ops.toList[i]? = some o) (hw : wantD o ops e = some true) (hl : loud o = false) (hq : stepQ C.P hh o (ev e) st = some (v, .rd ids))
    (h : OpsF C hh cf Pw ops (i + 1) (putD e o.dst v) st R) : OpsF C hh cf Pw ops i e st R := by
  have ho : ops[i]? = some o := by rw [← Array.getElem?_toList]; exact ho'
  refine ⟨?_⟩
  rw [opsf_cut ho]
  exact opsw_q ho hw hl hq h.ex
theorem opsf_a {i : Nat} {o : Oper} {v : D} {ob : Obj} (ho' : ops.toList[i]? = some o) (hw : wantD o ops e = some true) (hl : loud o = false) (hq : stepQ C.P hh o (ev e) st = some (v, .al ob))
    (h : OpsF C hh cf Pw ops (i + 1) (putD e o.dst v) (st ++ [ob]) R) : OpsF C hh cf Pw ops i e st R := by
  have ho : ops[i]? = some o := by rw [← Array.getElem?_toList]; exact ho'
  refine ⟨?_⟩
  rw [opsf_cut ho]
  exact opsw_a ho hw hl hq h.ex
theorem opsf_no {i : Nat} {o : Oper} (ho' : ops.toList[i]? = some o) (hw : wantD o ops e = some false)
    (h : OpsF C hh cf Pw ops (i + 1) (putD e o.dst (.tup [])) st R) : OpsF C hh cf Pw ops i e st R := by
  have ho : ops[i]? = some o := by rw [← Array.getElem?_toList]; exact ho'
  refine ⟨?_⟩
  rw [opsf_cut ho]
  exact opsw_no ho hw h.ex
theorem opsf_l {i : Nat} {o : Oper} {v : D} {V : Ids} (ho' : ops.toList[i]? = some o) (hw : wantD o ops e = some true) (hl : loud o = true) (hs : stepL C hh cf o (ev e) st = some (v, st', V)) (hV : ∀ id ∈ V, Pw id)
    (h : OpsF C hh cf Pw ops (i + 1) (putD e o.dst v) st' R) : OpsF C hh cf Pw ops i e st R := by
  have ho : ops[i]? = some o := by rw [← Array.getElem?_toList]; exact ho'
  refine ⟨?_⟩
  rw [opsf_cut ho]
  exact opsw_l ho hw hl hs hV h.ex
theorem want_0 {o : Oper} (hg : o.guard = none) : wantD o ops e = some true := by
  unfold wantD
  rw [hg]
/-- Is one that stands under a guard wanted? -/
theorem want_g0 {o : Oper} {j : Nat} {w b : Bool} {p : Oper} {t : Tmp} (hg : o.guard = some (j, w)) (hp' : ops.toList[j]? = some p) (ht : p.dst = some t) (he : e.getD t .undef = .bool b) : wantD o ops e = some (b == w) := by
  have hp : ops[j]? = some p := by rw [← Array.getElem?_toList]; exact hp'
  unfold wantD
  rw [hg]
  dsimp only
  rw [hp]
  simp only [Option.bind_some, ht]
  rw [List.getD_eq_getElem?_getD] at he
  cases hx : e[t]? with
  | none =>
    rw [hx] at he
    cases he
  | some v =>
    rw [hx] at he
    cases he
    rfl
theorem want_g {o : Oper} {j : Nat} {w : Bool} {p : Oper} {t : Tmp} (hg : o.guard = some (j, w)) (hp' : ops.toList[j]? = some p) (ht : p.dst = some t) (he : e.getD t .undef = .bool w) : wantD o ops e = some true := by
  rw [want_g0 hg hp' ht he, beq_self_eq_true]
theorem want_f {o : Oper} {j : Nat} {w : Bool} {p : Oper} {t : Tmp} (hg : o.guard = some (j, w)) (hp' : ops.toList[j]? = some p) (ht : p.dst = some t) (he : e.getD t .undef = .bool (!w)) : wantD o ops e = some false := by
  rw [want_g0 hg hp' ht he]
  cases w <;> rfl
theorem want_n {o : Oper} {j : Nat} {w : Bool} {p : Oper} {t : Tmp} (hg : o.guard = some (j, w)) (hp' : ops.toList[j]? = some p) (ht : p.dst = some t) (he : e.getD t .undef = .tup []) : wantD o ops e = some false := by
  have hp : ops[j]? = some p := by rw [← Array.getElem?_toList]; exact hp'
  unfold wantD
  rw [hg]
  dsimp only
  rw [hp]
  simp only [Option.bind_some, ht]
  rw [List.getD_eq_getElem?_getD] at he
  cases hx : e[t]? with
  | none =>
    rw [hx] at he
    cases he
  | some v =>
    rw [hx] at he
    cases he
    rfl
end
end Go.Vam

set_option linter.unusedSimpArgs false
set_option linter.unusedVariables false
set_option maxRecDepth 100000
namespace Go.Vam
open Go.Proofs Go.RowKit

def loopsOf : Code → List Code
  | .seq a b => loopsOf a ++ loopsOf b
  | .cond _ a b => loopsOf a ++ loopsOf b
  | .block _ a => loopsOf a
  | .loop a => a :: loopsOf a
  | _ => []
noncomputable def L134 (i : Nat) : Code := (loopsOf (Tryz.f134.body.getD .skip)).getD i .skip

theorem und41 : Tryz.prog.underlying 41 = some (.slice 9) := Tryz.underlying41
theorem size9 : sizeT Tryz.prog 9 = some 1 := by kernel_rfl
theorem agg9 : aggT Tryz.prog 9 = false := by kernel_rfl
theorem size206 : sizeT Tryz.prog 206 = some 1 := by kernel_rfl
theorem agg206 : aggT Tryz.prog 206 = false := by kernel_rfl
theorem und206 : Tryz.prog.underlying 206 = some (.map 9 3) := Tryz.underlying206

theorem natAdd1 (d : Nat) (h : d < 2 ^ 62) : IntKind.wrap .i64 ((d : Int) + 1) = ((d + 1 : Nat) : Int) := by
  show (if (true && decide ((((d : Int) + 1) % 18446744073709551616) ≥ 9223372036854775808)) = true then _ else _) = _
  simp [IntKind.bits]
  omega

/-- A store in which one object was turned. -/
structure At1 (st : St) (f : Nat) (o : Obj) (st' : St) : Prop where
  len : st'.length = st.length
  ne : ∀ id, id ≠ f → st'[id]? = st[id]?
  at_ : st'[f]? = some o

theorem At1.trans {st st1 st2 : St} {f : Nat} {o o' : Obj} (h : At1 st f o st1) (h' : At1 st1 f o' st2) : At1 st f o' st2 :=
  ⟨h'.len.trans h.len, fun id hn => (h'.ne id hn).trans (h.ne id hn), h'.at_⟩
theorem At1.same {st : St} {f : Nat} {o : Obj} (h : st[f]? = some o) : At1 st f o st := ⟨rfl, fun _ _ => rfl, h⟩
theorem At1.set {st : St} {f : Nat} {o o' : Obj} (h : st[f]? = some o') : At1 st f o (st.set f o) :=
  ⟨by simp, fun id hn => by rw [List.getElem?_set, if_neg (fun e => hn e.symm)], by
    obtain ⟨h1, _⟩ := List.getElem?_eq_some_iff.1 h
    simp [h1]⟩


theorem natOf_nat (i : Nat) : natOf (.int .i64 (i : Int)) = some i := by
  unfold natOf
  simp
theorem ia41 {rows : List (List D)} {gr : Gr} {i : Nat} {x : D} (h : rows[i]? = some [x]) : indexAddrD Tryz.prog 41 (.sl rows gr) (.int .i64 (i : Int)) = some (.eptr [x], .pure) := by
  unfold indexAddrD
  rw [natOf_nat, und41]
  dsimp only
  rw [h]
  simp [size9]
theorem ld9 (x : D) (st : St) : loadD Tryz.prog 9 (.eptr [x]) st = some (x, .pure) := by
  unfold loadD takeV
  simp [size9, und9, agg9]
theorem ld206 {st : St} {c : Nat} {x : D} (h : st[c]? = some (.cells [x])) : loadD Tryz.prog 206 (.ptr c 0) st = some (x, .rd [c]) := by
  unfold loadD takeV
  simp [size206, und206, agg206, h]

set_option maxHeartbeats 4000000 in
theorem round134 (C : Cfg) (hP : C.P = Tryz.prog) (cf : CallF) (hh : Bool) (N : Nat) (e : Env) (st : St) (f c i : Nat) (rows : List (List D)) (n x : List UInt8) (far : Far) (t : Bool) (hl : e.length = 119)
    (e5 : e.getD 5 .undef = .ptr c 0) (e6 : e.getD 6 .undef = .bool t) (e7 : e.getD 7 .undef = .str n) (e34 : e.getD 34 .undef = .sl rows .none) (e35 : e.getD 35 .undef = .int .i64 (rows.length : Nat)) (e36 : e.getD 36 .undef = .int .i64 (i : Nat))
    (hi : rows[i]? = some [.str x]) (hc : st[c]? = some (.cells [.map f])) (hf : st[f]? = some (.map (encF far))) (hsm : rows.length < 2 ^ 62) (hd : ∀ d, getF x far = some d → d < 2 ^ 62) :
    ExW C hh cf N (fun id => id = f) (L134 2) e st (fun y e' st' => y = .norm ∧ e'.length = 119 ∧ e'.getD 0 .undef = e.getD 0 .undef ∧ e'.getD 1 .undef = e.getD 1 .undef ∧ e'.getD 4 .undef = e.getD 4 .undef ∧ e'.getD 5 .undef = .ptr c 0 ∧ e'.getD 6 .undef = .bool (relax1 n x (far, t)).2 ∧ e'.getD 7 .undef = .str n ∧ e'.getD 28 .undef = e.getD 28 .undef ∧
      e'.getD 34 .undef = .sl rows .none ∧ e'.getD 35 .undef = .int .i64 (rows.length : Nat) ∧ e'.getD 36 .undef = .int .i64 ((i + 1 : Nat) : Int) ∧ At1 st f (.map (encF (relax1 n x (far, t)).1)) st') := by
  have hin : i < rows.length := (List.getElem?_eq_some_iff.1 hi).1
  have hw := natAdd1 i (by omega)
  have hil : (i : Int) < (rows.length : Int) := by omega
  refine exw_strip ?_
  obtain ⟨code, hcode⟩ : ∃ code, code = strip (L134 2) := ⟨_, rfl⟩
  rw [← hcode]
  simp only [L134, Tryz.f134, loopsOf, Option.getD, List.append, List.getD, List.getElem?_cons_succ, List.getElem?_cons_zero, HAppend.hAppend, Append.append, strip, stripO, List.map_toArray, List.map_cons, List.map_nil] at hcode
  subst hcode
  have h1 := ia41 (gr := .none) hi
  have h2 := ld206 hc
  have hx := lookup_far (x := x) hf
  have hn := lookup_far (x := n) hf
  cases hgx : getF x far with
  | none =>
    rw [hgx] at hx
    dsimp only [getD'] at hx
    cases hgn : getF n far with
    | none =>
      rw [hgn] at hn
      dsimp only [getD'] at hn
      have hrel : relax1 n x (far, t) = (far, t) := by
        unfold relax1
        simp [hgx]
      rw [hrel]
      repeat (first
        | refine exw_seq ?_ | refine exw_block ?_ | refine exw_regf ?_ | refine exw_skip ?_ | refine exw_exit ?_
        | refine opsf_q rfl (want_0 rfl) rfl (by simp only [stepQ, ev, putD, ofConst, ofScalar, binD, unD, hP, e5, e6, e7, e34, e35, e36, hl, h1, h2, ld9, pureSem, Op.intCmp, Op.intArith, hw, hil,  hx, hn, getD_set, List.length_set, ↓reduceIte, Nat.reduceEqDiff, Nat.reduceLT, decide_true, decide_false, Bool.true_and, Bool.and_true, Bool.not_true, Bool.not_false, Option.map_some, List.getElem?_cons_zero, List.getElem?_cons_succ]; rfl) ?_
        | (refine opsf_q rfl (want_g rfl rfl rfl ?_) rfl (by simp only [stepQ, ev, putD, ofConst, ofScalar, binD, unD, hP, e5, e6, e7, e34, e35, e36, hl, h1, h2, ld9, pureSem, Op.intCmp, Op.intArith, hw, hil,  hx, hn, getD_set, List.length_set, ↓reduceIte, Nat.reduceEqDiff, Nat.reduceLT, decide_true, decide_false, Bool.true_and, Bool.and_true, Bool.not_true, Bool.not_false, Option.map_some, List.getElem?_cons_zero, List.getElem?_cons_succ]; rfl) ?_; focus (simp only [stepQ, ev, putD, ofConst, ofScalar, binD, unD, hP, e5, e6, e7, e34, e35, e36, hl, h1, h2, ld9, pureSem, Op.intCmp, Op.intArith, hw, hil,  hx, hn, getD_set, List.length_set, ↓reduceIte, Nat.reduceEqDiff, Nat.reduceLT, decide_true, decide_false, Bool.true_and, Bool.and_true, Bool.not_true, Bool.not_false, Option.map_some, List.getElem?_cons_zero, List.getElem?_cons_succ]; done))
        | (refine opsf_no rfl (want_f rfl rfl rfl ?_) ?_; focus (simp only [stepQ, ev, putD, ofConst, ofScalar, binD, unD, hP, e5, e6, e7, e34, e35, e36, hl, h1, h2, ld9, pureSem, Op.intCmp, Op.intArith, hw, hil,  hx, hn, getD_set, List.length_set, ↓reduceIte, Nat.reduceEqDiff, Nat.reduceLT, decide_true, decide_false, Bool.true_and, Bool.and_true, Bool.not_true, Bool.not_false, Option.map_some, List.getElem?_cons_zero, List.getElem?_cons_succ]; done))
        | (refine opsf_no rfl (want_n rfl rfl rfl ?_) ?_; focus (simp only [stepQ, ev, putD, ofConst, ofScalar, binD, unD, hP, e5, e6, e7, e34, e35, e36, hl, h1, h2, ld9, pureSem, Op.intCmp, Op.intArith, hw, hil,  hx, hn, getD_set, List.length_set, ↓reduceIte, Nat.reduceEqDiff, Nat.reduceLT, decide_true, decide_false, Bool.true_and, Bool.and_true, Bool.not_true, Bool.not_false, Option.map_some, List.getElem?_cons_zero, List.getElem?_cons_succ]; done))
        | refine opsf_l rfl (want_0 rfl) rfl (by simp only [stepL, stepQ, ev, putD, ofConst, ofScalar, binD, unD, hP, e5, e6, e7, e34, e35, e36, hl, h1, h2, ld9, pureSem, Op.intCmp, Op.intArith, hw, hil,  hx, hn, getD_set, List.length_set, ↓reduceIte, Nat.reduceEqDiff, Nat.reduceLT, decide_true, decide_false, Bool.true_and, Bool.and_true, Bool.not_true, Bool.not_false, Option.map_some, List.getElem?_cons_zero, List.getElem?_cons_succ]; exact hup) (by simp) ?_
        | refine opsf_nil (by decide) ?_
        | (refine exw_true ?_ ?_; focus (simp only [stepQ, ev, putD, ofConst, ofScalar, binD, unD, hP, e5, e6, e7, e34, e35, e36, hl, h1, h2, ld9, pureSem, Op.intCmp, Op.intArith, hw, hil,  hx, hn, getD_set, List.length_set, ↓reduceIte, Nat.reduceEqDiff, Nat.reduceLT, decide_true, decide_false, Bool.true_and, Bool.and_true, Bool.not_true, Bool.not_false, Option.map_some, List.getElem?_cons_zero, List.getElem?_cons_succ]; done))
        | (refine exw_false ?_ ?_; focus (simp only [stepQ, ev, putD, ofConst, ofScalar, binD, unD, hP, e5, e6, e7, e34, e35, e36, hl, h1, h2, ld9, pureSem, Op.intCmp, Op.intArith, hw, hil,  hx, hn, getD_set, List.length_set, ↓reduceIte, Nat.reduceEqDiff, Nat.reduceLT, decide_true, decide_false, Bool.true_and, Bool.and_true, Bool.not_true, Bool.not_false, Option.map_some, List.getElem?_cons_zero, List.getElem?_cons_succ]; done))
        | dsimp only)
      refine ⟨rfl, ?_, ?_, ?_, ?_, ?_, ?_, ?_, ?_, ?_, ?_, ?_, ?_⟩
      all_goals first | (simp only [stepQ, ev, putD, ofConst, ofScalar, binD, unD, hP, e5, e6, e7, e34, e35, e36, hl, h1, h2, ld9, pureSem, Op.intCmp, Op.intArith, hw, hil,  hx, hn, getD_set, List.length_set, ↓reduceIte, Nat.reduceEqDiff, Nat.reduceLT, decide_true, decide_false, Bool.true_and, Bool.and_true, Bool.not_true, Bool.not_false, Option.map_some, List.getElem?_cons_zero, List.getElem?_cons_succ]; done) | skip
      exact At1.same hf
    | some w =>
      rw [hgn] at hn
      dsimp only [getD'] at hn
      have hrel : relax1 n x (far, t) = (far, t) := by
        unfold relax1
        simp [hgx]
      rw [hrel]
      repeat (first
        | refine exw_seq ?_ | refine exw_block ?_ | refine exw_regf ?_ | refine exw_skip ?_ | refine exw_exit ?_
        | refine opsf_q rfl (want_0 rfl) rfl (by simp only [stepQ, ev, putD, ofConst, ofScalar, binD, unD, hP, e5, e6, e7, e34, e35, e36, hl, h1, h2, ld9, pureSem, Op.intCmp, Op.intArith, hw, hil,  hx, hn, getD_set, List.length_set, ↓reduceIte, Nat.reduceEqDiff, Nat.reduceLT, decide_true, decide_false, Bool.true_and, Bool.and_true, Bool.not_true, Bool.not_false, Option.map_some, List.getElem?_cons_zero, List.getElem?_cons_succ]; rfl) ?_
        | (refine opsf_q rfl (want_g rfl rfl rfl ?_) rfl (by simp only [stepQ, ev, putD, ofConst, ofScalar, binD, unD, hP, e5, e6, e7, e34, e35, e36, hl, h1, h2, ld9, pureSem, Op.intCmp, Op.intArith, hw, hil,  hx, hn, getD_set, List.length_set, ↓reduceIte, Nat.reduceEqDiff, Nat.reduceLT, decide_true, decide_false, Bool.true_and, Bool.and_true, Bool.not_true, Bool.not_false, Option.map_some, List.getElem?_cons_zero, List.getElem?_cons_succ]; rfl) ?_; focus (simp only [stepQ, ev, putD, ofConst, ofScalar, binD, unD, hP, e5, e6, e7, e34, e35, e36, hl, h1, h2, ld9, pureSem, Op.intCmp, Op.intArith, hw, hil,  hx, hn, getD_set, List.length_set, ↓reduceIte, Nat.reduceEqDiff, Nat.reduceLT, decide_true, decide_false, Bool.true_and, Bool.and_true, Bool.not_true, Bool.not_false, Option.map_some, List.getElem?_cons_zero, List.getElem?_cons_succ]; done))
        | (refine opsf_no rfl (want_f rfl rfl rfl ?_) ?_; focus (simp only [stepQ, ev, putD, ofConst, ofScalar, binD, unD, hP, e5, e6, e7, e34, e35, e36, hl, h1, h2, ld9, pureSem, Op.intCmp, Op.intArith, hw, hil,  hx, hn, getD_set, List.length_set, ↓reduceIte, Nat.reduceEqDiff, Nat.reduceLT, decide_true, decide_false, Bool.true_and, Bool.and_true, Bool.not_true, Bool.not_false, Option.map_some, List.getElem?_cons_zero, List.getElem?_cons_succ]; done))
        | (refine opsf_no rfl (want_n rfl rfl rfl ?_) ?_; focus (simp only [stepQ, ev, putD, ofConst, ofScalar, binD, unD, hP, e5, e6, e7, e34, e35, e36, hl, h1, h2, ld9, pureSem, Op.intCmp, Op.intArith, hw, hil,  hx, hn, getD_set, List.length_set, ↓reduceIte, Nat.reduceEqDiff, Nat.reduceLT, decide_true, decide_false, Bool.true_and, Bool.and_true, Bool.not_true, Bool.not_false, Option.map_some, List.getElem?_cons_zero, List.getElem?_cons_succ]; done))
        | refine opsf_l rfl (want_0 rfl) rfl (by simp only [stepL, stepQ, ev, putD, ofConst, ofScalar, binD, unD, hP, e5, e6, e7, e34, e35, e36, hl, h1, h2, ld9, pureSem, Op.intCmp, Op.intArith, hw, hil,  hx, hn, getD_set, List.length_set, ↓reduceIte, Nat.reduceEqDiff, Nat.reduceLT, decide_true, decide_false, Bool.true_and, Bool.and_true, Bool.not_true, Bool.not_false, Option.map_some, List.getElem?_cons_zero, List.getElem?_cons_succ]; exact hup) (by simp) ?_
        | refine opsf_nil (by decide) ?_
        | (refine exw_true ?_ ?_; focus (simp only [stepQ, ev, putD, ofConst, ofScalar, binD, unD, hP, e5, e6, e7, e34, e35, e36, hl, h1, h2, ld9, pureSem, Op.intCmp, Op.intArith, hw, hil,  hx, hn, getD_set, List.length_set, ↓reduceIte, Nat.reduceEqDiff, Nat.reduceLT, decide_true, decide_false, Bool.true_and, Bool.and_true, Bool.not_true, Bool.not_false, Option.map_some, List.getElem?_cons_zero, List.getElem?_cons_succ]; done))
        | (refine exw_false ?_ ?_; focus (simp only [stepQ, ev, putD, ofConst, ofScalar, binD, unD, hP, e5, e6, e7, e34, e35, e36, hl, h1, h2, ld9, pureSem, Op.intCmp, Op.intArith, hw, hil,  hx, hn, getD_set, List.length_set, ↓reduceIte, Nat.reduceEqDiff, Nat.reduceLT, decide_true, decide_false, Bool.true_and, Bool.and_true, Bool.not_true, Bool.not_false, Option.map_some, List.getElem?_cons_zero, List.getElem?_cons_succ]; done))
        | dsimp only)
      refine ⟨rfl, ?_, ?_, ?_, ?_, ?_, ?_, ?_, ?_, ?_, ?_, ?_, ?_⟩
      all_goals first | (simp only [stepQ, ev, putD, ofConst, ofScalar, binD, unD, hP, e5, e6, e7, e34, e35, e36, hl, h1, h2, ld9, pureSem, Op.intCmp, Op.intArith, hw, hil,  hx, hn, getD_set, List.length_set, ↓reduceIte, Nat.reduceEqDiff, Nat.reduceLT, decide_true, decide_false, Bool.true_and, Bool.and_true, Bool.not_true, Bool.not_false, Option.map_some, List.getElem?_cons_zero, List.getElem?_cons_succ]; done) | skip
      exact At1.same hf
  | some d =>
    rw [hgx] at hx
    dsimp only [getD'] at hx
    have hd1 := natAdd1 d (hd d hgx)
    cases hgn : getF n far with
    | none =>
      rw [hgn] at hn
      dsimp only [getD'] at hn
      have hup := update_far (x := n) (d := d + 1) hf
      have hrel : relax1 n x (far, t) = (setF n (d + 1) far, true) := by
        unfold relax1
        simp [hgx, hgn]
      rw [hrel]
      repeat (first
        | refine exw_seq ?_ | refine exw_block ?_ | refine exw_regf ?_ | refine exw_skip ?_ | refine exw_exit ?_
        | refine opsf_q rfl (want_0 rfl) rfl (by simp only [stepQ, ev, putD, ofConst, ofScalar, binD, unD, hP, e5, e6, e7, e34, e35, e36, hl, h1, h2, ld9, pureSem, Op.intCmp, Op.intArith, hw, hil, hd1,  hx, hn, getD_set, List.length_set, ↓reduceIte, Nat.reduceEqDiff, Nat.reduceLT, decide_true, decide_false, Bool.true_and, Bool.and_true, Bool.not_true, Bool.not_false, Option.map_some, List.getElem?_cons_zero, List.getElem?_cons_succ]; rfl) ?_
        | (refine opsf_q rfl (want_g rfl rfl rfl ?_) rfl (by simp only [stepQ, ev, putD, ofConst, ofScalar, binD, unD, hP, e5, e6, e7, e34, e35, e36, hl, h1, h2, ld9, pureSem, Op.intCmp, Op.intArith, hw, hil, hd1,  hx, hn, getD_set, List.length_set, ↓reduceIte, Nat.reduceEqDiff, Nat.reduceLT, decide_true, decide_false, Bool.true_and, Bool.and_true, Bool.not_true, Bool.not_false, Option.map_some, List.getElem?_cons_zero, List.getElem?_cons_succ]; rfl) ?_; focus (simp only [stepQ, ev, putD, ofConst, ofScalar, binD, unD, hP, e5, e6, e7, e34, e35, e36, hl, h1, h2, ld9, pureSem, Op.intCmp, Op.intArith, hw, hil, hd1,  hx, hn, getD_set, List.length_set, ↓reduceIte, Nat.reduceEqDiff, Nat.reduceLT, decide_true, decide_false, Bool.true_and, Bool.and_true, Bool.not_true, Bool.not_false, Option.map_some, List.getElem?_cons_zero, List.getElem?_cons_succ]; done))
        | (refine opsf_no rfl (want_f rfl rfl rfl ?_) ?_; focus (simp only [stepQ, ev, putD, ofConst, ofScalar, binD, unD, hP, e5, e6, e7, e34, e35, e36, hl, h1, h2, ld9, pureSem, Op.intCmp, Op.intArith, hw, hil, hd1,  hx, hn, getD_set, List.length_set, ↓reduceIte, Nat.reduceEqDiff, Nat.reduceLT, decide_true, decide_false, Bool.true_and, Bool.and_true, Bool.not_true, Bool.not_false, Option.map_some, List.getElem?_cons_zero, List.getElem?_cons_succ]; done))
        | (refine opsf_no rfl (want_n rfl rfl rfl ?_) ?_; focus (simp only [stepQ, ev, putD, ofConst, ofScalar, binD, unD, hP, e5, e6, e7, e34, e35, e36, hl, h1, h2, ld9, pureSem, Op.intCmp, Op.intArith, hw, hil, hd1,  hx, hn, getD_set, List.length_set, ↓reduceIte, Nat.reduceEqDiff, Nat.reduceLT, decide_true, decide_false, Bool.true_and, Bool.and_true, Bool.not_true, Bool.not_false, Option.map_some, List.getElem?_cons_zero, List.getElem?_cons_succ]; done))
        | refine opsf_l rfl (want_0 rfl) rfl (by simp only [stepL, stepQ, ev, putD, ofConst, ofScalar, binD, unD, hP, e5, e6, e7, e34, e35, e36, hl, h1, h2, ld9, pureSem, Op.intCmp, Op.intArith, hw, hil, hd1,  hx, hn, getD_set, List.length_set, ↓reduceIte, Nat.reduceEqDiff, Nat.reduceLT, decide_true, decide_false, Bool.true_and, Bool.and_true, Bool.not_true, Bool.not_false, Option.map_some, List.getElem?_cons_zero, List.getElem?_cons_succ]; exact hup) (by simp) ?_
        | refine opsf_nil (by decide) ?_
        | (refine exw_true ?_ ?_; focus (simp only [stepQ, ev, putD, ofConst, ofScalar, binD, unD, hP, e5, e6, e7, e34, e35, e36, hl, h1, h2, ld9, pureSem, Op.intCmp, Op.intArith, hw, hil, hd1,  hx, hn, getD_set, List.length_set, ↓reduceIte, Nat.reduceEqDiff, Nat.reduceLT, decide_true, decide_false, Bool.true_and, Bool.and_true, Bool.not_true, Bool.not_false, Option.map_some, List.getElem?_cons_zero, List.getElem?_cons_succ]; done))
        | (refine exw_false ?_ ?_; focus (simp only [stepQ, ev, putD, ofConst, ofScalar, binD, unD, hP, e5, e6, e7, e34, e35, e36, hl, h1, h2, ld9, pureSem, Op.intCmp, Op.intArith, hw, hil, hd1,  hx, hn, getD_set, List.length_set, ↓reduceIte, Nat.reduceEqDiff, Nat.reduceLT, decide_true, decide_false, Bool.true_and, Bool.and_true, Bool.not_true, Bool.not_false, Option.map_some, List.getElem?_cons_zero, List.getElem?_cons_succ]; done))
        | dsimp only)
      refine ⟨rfl, ?_, ?_, ?_, ?_, ?_, ?_, ?_, ?_, ?_, ?_, ?_, ?_⟩
      all_goals first | (simp only [stepQ, ev, putD, ofConst, ofScalar, binD, unD, hP, e5, e6, e7, e34, e35, e36, hl, h1, h2, ld9, pureSem, Op.intCmp, Op.intArith, hw, hil, hd1,  hx, hn, getD_set, List.length_set, ↓reduceIte, Nat.reduceEqDiff, Nat.reduceLT, decide_true, decide_false, Bool.true_and, Bool.and_true, Bool.not_true, Bool.not_false, Option.map_some, List.getElem?_cons_zero, List.getElem?_cons_succ]; done) | skip
      exact At1.set hf
    | some w =>
      rw [hgn] at hn
      dsimp only [getD'] at hn
      by_cases hlt : d + 1 < w
      · have hlt' : ((d + 1 : Nat) : Int) < (w : Int) := by omega
        have hlt2 : decide (((d + 1 : Nat) : Int) < (w : Int)) = true := by simpa using hlt'
        have hup := update_far (x := n) (d := d + 1) hf
        have hrel : relax1 n x (far, t) = (setF n (d + 1) far, true) := by
          unfold relax1
          simp [hgx, hgn, hlt]
        rw [hrel]
        repeat (first
          | refine exw_seq ?_ | refine exw_block ?_ | refine exw_regf ?_ | refine exw_skip ?_ | refine exw_exit ?_
          | refine opsf_q rfl (want_0 rfl) rfl (by simp only [stepQ, ev, putD, ofConst, ofScalar, binD, unD, hP, e5, e6, e7, e34, e35, e36, hl, h1, h2, ld9, pureSem, Op.intCmp, Op.intArith, hw, hil, hd1, hlt2,  hx, hn, getD_set, List.length_set, ↓reduceIte, Nat.reduceEqDiff, Nat.reduceLT, decide_true, decide_false, Bool.true_and, Bool.and_true, Bool.not_true, Bool.not_false, Option.map_some, List.getElem?_cons_zero, List.getElem?_cons_succ]; rfl) ?_
          | (refine opsf_q rfl (want_g rfl rfl rfl ?_) rfl (by simp only [stepQ, ev, putD, ofConst, ofScalar, binD, unD, hP, e5, e6, e7, e34, e35, e36, hl, h1, h2, ld9, pureSem, Op.intCmp, Op.intArith, hw, hil, hd1, hlt2,  hx, hn, getD_set, List.length_set, ↓reduceIte, Nat.reduceEqDiff, Nat.reduceLT, decide_true, decide_false, Bool.true_and, Bool.and_true, Bool.not_true, Bool.not_false, Option.map_some, List.getElem?_cons_zero, List.getElem?_cons_succ]; rfl) ?_; focus (simp only [stepQ, ev, putD, ofConst, ofScalar, binD, unD, hP, e5, e6, e7, e34, e35, e36, hl, h1, h2, ld9, pureSem, Op.intCmp, Op.intArith, hw, hil, hd1, hlt2,  hx, hn, getD_set, List.length_set, ↓reduceIte, Nat.reduceEqDiff, Nat.reduceLT, decide_true, decide_false, Bool.true_and, Bool.and_true, Bool.not_true, Bool.not_false, Option.map_some, List.getElem?_cons_zero, List.getElem?_cons_succ]; done))
          | (refine opsf_no rfl (want_f rfl rfl rfl ?_) ?_; focus (simp only [stepQ, ev, putD, ofConst, ofScalar, binD, unD, hP, e5, e6, e7, e34, e35, e36, hl, h1, h2, ld9, pureSem, Op.intCmp, Op.intArith, hw, hil, hd1, hlt2,  hx, hn, getD_set, List.length_set, ↓reduceIte, Nat.reduceEqDiff, Nat.reduceLT, decide_true, decide_false, Bool.true_and, Bool.and_true, Bool.not_true, Bool.not_false, Option.map_some, List.getElem?_cons_zero, List.getElem?_cons_succ]; done))
          | (refine opsf_no rfl (want_n rfl rfl rfl ?_) ?_; focus (simp only [stepQ, ev, putD, ofConst, ofScalar, binD, unD, hP, e5, e6, e7, e34, e35, e36, hl, h1, h2, ld9, pureSem, Op.intCmp, Op.intArith, hw, hil, hd1, hlt2,  hx, hn, getD_set, List.length_set, ↓reduceIte, Nat.reduceEqDiff, Nat.reduceLT, decide_true, decide_false, Bool.true_and, Bool.and_true, Bool.not_true, Bool.not_false, Option.map_some, List.getElem?_cons_zero, List.getElem?_cons_succ]; done))
          | refine opsf_l rfl (want_0 rfl) rfl (by simp only [stepL, stepQ, ev, putD, ofConst, ofScalar, binD, unD, hP, e5, e6, e7, e34, e35, e36, hl, h1, h2, ld9, pureSem, Op.intCmp, Op.intArith, hw, hil, hd1, hlt2,  hx, hn, getD_set, List.length_set, ↓reduceIte, Nat.reduceEqDiff, Nat.reduceLT, decide_true, decide_false, Bool.true_and, Bool.and_true, Bool.not_true, Bool.not_false, Option.map_some, List.getElem?_cons_zero, List.getElem?_cons_succ]; exact hup) (by simp) ?_
          | refine opsf_nil (by decide) ?_
          | (refine exw_true ?_ ?_; focus (simp only [stepQ, ev, putD, ofConst, ofScalar, binD, unD, hP, e5, e6, e7, e34, e35, e36, hl, h1, h2, ld9, pureSem, Op.intCmp, Op.intArith, hw, hil, hd1, hlt2,  hx, hn, getD_set, List.length_set, ↓reduceIte, Nat.reduceEqDiff, Nat.reduceLT, decide_true, decide_false, Bool.true_and, Bool.and_true, Bool.not_true, Bool.not_false, Option.map_some, List.getElem?_cons_zero, List.getElem?_cons_succ]; done))
          | (refine exw_false ?_ ?_; focus (simp only [stepQ, ev, putD, ofConst, ofScalar, binD, unD, hP, e5, e6, e7, e34, e35, e36, hl, h1, h2, ld9, pureSem, Op.intCmp, Op.intArith, hw, hil, hd1, hlt2,  hx, hn, getD_set, List.length_set, ↓reduceIte, Nat.reduceEqDiff, Nat.reduceLT, decide_true, decide_false, Bool.true_and, Bool.and_true, Bool.not_true, Bool.not_false, Option.map_some, List.getElem?_cons_zero, List.getElem?_cons_succ]; done))
          | dsimp only)
        refine ⟨rfl, ?_, ?_, ?_, ?_, ?_, ?_, ?_, ?_, ?_, ?_, ?_, ?_⟩
        all_goals first | (simp only [stepQ, ev, putD, ofConst, ofScalar, binD, unD, hP, e5, e6, e7, e34, e35, e36, hl, h1, h2, ld9, pureSem, Op.intCmp, Op.intArith, hw, hil, hd1, hlt2,  hx, hn, getD_set, List.length_set, ↓reduceIte, Nat.reduceEqDiff, Nat.reduceLT, decide_true, decide_false, Bool.true_and, Bool.and_true, Bool.not_true, Bool.not_false, Option.map_some, List.getElem?_cons_zero, List.getElem?_cons_succ]; done) | skip
        exact At1.set hf
      · have hlt2 : decide (((d + 1 : Nat) : Int) < (w : Int)) = false := by simp; omega
        have hrel : relax1 n x (far, t) = (far, t) := by
          unfold relax1
          simp [hgx, hgn, hlt]
        rw [hrel]
        repeat (first
          | refine exw_seq ?_ | refine exw_block ?_ | refine exw_regf ?_ | refine exw_skip ?_ | refine exw_exit ?_
          | refine opsf_q rfl (want_0 rfl) rfl (by simp only [stepQ, ev, putD, ofConst, ofScalar, binD, unD, hP, e5, e6, e7, e34, e35, e36, hl, h1, h2, ld9, pureSem, Op.intCmp, Op.intArith, hw, hil, hd1, hlt2,  hx, hn, getD_set, List.length_set, ↓reduceIte, Nat.reduceEqDiff, Nat.reduceLT, decide_true, decide_false, Bool.true_and, Bool.and_true, Bool.not_true, Bool.not_false, Option.map_some, List.getElem?_cons_zero, List.getElem?_cons_succ]; rfl) ?_
          | (refine opsf_q rfl (want_g rfl rfl rfl ?_) rfl (by simp only [stepQ, ev, putD, ofConst, ofScalar, binD, unD, hP, e5, e6, e7, e34, e35, e36, hl, h1, h2, ld9, pureSem, Op.intCmp, Op.intArith, hw, hil, hd1, hlt2,  hx, hn, getD_set, List.length_set, ↓reduceIte, Nat.reduceEqDiff, Nat.reduceLT, decide_true, decide_false, Bool.true_and, Bool.and_true, Bool.not_true, Bool.not_false, Option.map_some, List.getElem?_cons_zero, List.getElem?_cons_succ]; rfl) ?_; focus (simp only [stepQ, ev, putD, ofConst, ofScalar, binD, unD, hP, e5, e6, e7, e34, e35, e36, hl, h1, h2, ld9, pureSem, Op.intCmp, Op.intArith, hw, hil, hd1, hlt2,  hx, hn, getD_set, List.length_set, ↓reduceIte, Nat.reduceEqDiff, Nat.reduceLT, decide_true, decide_false, Bool.true_and, Bool.and_true, Bool.not_true, Bool.not_false, Option.map_some, List.getElem?_cons_zero, List.getElem?_cons_succ]; done))
          | (refine opsf_no rfl (want_f rfl rfl rfl ?_) ?_; focus (simp only [stepQ, ev, putD, ofConst, ofScalar, binD, unD, hP, e5, e6, e7, e34, e35, e36, hl, h1, h2, ld9, pureSem, Op.intCmp, Op.intArith, hw, hil, hd1, hlt2,  hx, hn, getD_set, List.length_set, ↓reduceIte, Nat.reduceEqDiff, Nat.reduceLT, decide_true, decide_false, Bool.true_and, Bool.and_true, Bool.not_true, Bool.not_false, Option.map_some, List.getElem?_cons_zero, List.getElem?_cons_succ]; done))
          | (refine opsf_no rfl (want_n rfl rfl rfl ?_) ?_; focus (simp only [stepQ, ev, putD, ofConst, ofScalar, binD, unD, hP, e5, e6, e7, e34, e35, e36, hl, h1, h2, ld9, pureSem, Op.intCmp, Op.intArith, hw, hil, hd1, hlt2,  hx, hn, getD_set, List.length_set, ↓reduceIte, Nat.reduceEqDiff, Nat.reduceLT, decide_true, decide_false, Bool.true_and, Bool.and_true, Bool.not_true, Bool.not_false, Option.map_some, List.getElem?_cons_zero, List.getElem?_cons_succ]; done))
          | refine opsf_l rfl (want_0 rfl) rfl (by simp only [stepL, stepQ, ev, putD, ofConst, ofScalar, binD, unD, hP, e5, e6, e7, e34, e35, e36, hl, h1, h2, ld9, pureSem, Op.intCmp, Op.intArith, hw, hil, hd1, hlt2,  hx, hn, getD_set, List.length_set, ↓reduceIte, Nat.reduceEqDiff, Nat.reduceLT, decide_true, decide_false, Bool.true_and, Bool.and_true, Bool.not_true, Bool.not_false, Option.map_some, List.getElem?_cons_zero, List.getElem?_cons_succ]; exact hup) (by simp) ?_
          | refine opsf_nil (by decide) ?_
          | (refine exw_true ?_ ?_; focus (simp only [stepQ, ev, putD, ofConst, ofScalar, binD, unD, hP, e5, e6, e7, e34, e35, e36, hl, h1, h2, ld9, pureSem, Op.intCmp, Op.intArith, hw, hil, hd1, hlt2,  hx, hn, getD_set, List.length_set, ↓reduceIte, Nat.reduceEqDiff, Nat.reduceLT, decide_true, decide_false, Bool.true_and, Bool.and_true, Bool.not_true, Bool.not_false, Option.map_some, List.getElem?_cons_zero, List.getElem?_cons_succ]; done))
          | (refine exw_false ?_ ?_; focus (simp only [stepQ, ev, putD, ofConst, ofScalar, binD, unD, hP, e5, e6, e7, e34, e35, e36, hl, h1, h2, ld9, pureSem, Op.intCmp, Op.intArith, hw, hil, hd1, hlt2,  hx, hn, getD_set, List.length_set, ↓reduceIte, Nat.reduceEqDiff, Nat.reduceLT, decide_true, decide_false, Bool.true_and, Bool.and_true, Bool.not_true, Bool.not_false, Option.map_some, List.getElem?_cons_zero, List.getElem?_cons_succ]; done))
          | dsimp only)
        refine ⟨rfl, ?_, ?_, ?_, ?_, ?_, ?_, ?_, ?_, ?_, ?_, ?_, ?_⟩
        all_goals first | (simp only [stepQ, ev, putD, ofConst, ofScalar, binD, unD, hP, e5, e6, e7, e34, e35, e36, hl, h1, h2, ld9, pureSem, Op.intCmp, Op.intArith, hw, hil, hd1, hlt2,  hx, hn, getD_set, List.length_set, ↓reduceIte, Nat.reduceEqDiff, Nat.reduceLT, decide_true, decide_false, Bool.true_and, Bool.and_true, Bool.not_true, Bool.not_false, Option.map_some, List.getElem?_cons_zero, List.getElem?_cons_succ]; done) | skip
        exact At1.same hf
end Go.Vam

set_option linter.unusedSimpArgs false
set_option linter.unusedVariables false
set_option maxRecDepth 100000
namespace Go.Vam
open Go.Proofs Go.RowKit

structure Env134 (e : Env) (m : Nat) (src : List UInt8) (c : Nat) (t : Bool) (idR : D) : Prop where
  len : e.length = 119
  e0 : e.getD 0 .undef = .map m
  e1 : e.getD 1 .undef = .str src
  e5 : e.getD 5 .undef = .ptr c 0
  e6 : e.getD 6 .undef = .bool t
  e28 : e.getD 28 .undef = idR

/-- The loop over the neighbours is over. -/
theorem end134 (C : Cfg) (hP : C.P = Tryz.prog) (cf : CallF) (hh : Bool) (N : Nat) (Pw : Nat → Prop) (e : Env) (st : St) (k : Nat) (hl : e.length = 119) (e35 : e.getD 35 .undef = .int .i64 (k : Nat)) (e36 : e.getD 36 .undef = .int .i64 (k : Nat)) :
    ExW C hh cf N Pw (L134 2) e st (fun y e' st' => y = .exit 4 ∧ e' = e.set 37 (.bool false) ∧ st' = st) := by
  have hil : ¬ (k : Int) < (k : Int) := by omega
  refine exw_strip ?_
  obtain ⟨code, hcode⟩ : ∃ code, code = strip (L134 2) := ⟨_, rfl⟩
  rw [← hcode]
  simp only [L134, Tryz.f134, loopsOf, Option.getD, List.append, List.getD, List.getElem?_cons_succ, List.getElem?_cons_zero, HAppend.hAppend, Append.append, strip, stripO, List.map_toArray, List.map_cons, List.map_nil] at hcode
  subst hcode
  refine exw_seq ?_
  refine exw_regf ?_
  refine opsf_q rfl (want_0 rfl) rfl (by simp only [stepQ, ev, putD, binD, hP, e35, e36, pureSem, Op.intCmp, hil, ↓reduceIte, decide_false, Option.map_some]; rfl) ?_
  refine opsf_nil (by decide) ?_
  dsimp only
  refine exw_seq ?_
  refine exw_false (by simp only [ev, putD, getD_set, ↓reduceIte, hl]; rfl) ?_
  refine exw_exit ?_
  exact ⟨rfl, rfl, rfl⟩

theorem relaxL_eq {n x : List UInt8} {xs : List (List UInt8)} {s : Far × Bool} : relaxL n (x :: xs) s = relaxL n xs (relax1 n x s) := rfl

theorem inner134 (C : Cfg) (hP : C.P = Tryz.prog) (cf : CallF) (hh : Bool) (N : Nat) {all : Net} {src : List UInt8} (hsz : all.length < 2 ^ 62) (e : Env) (st : St) (m f c : Nat) (idR : D) (n : List UInt8) (ns : List (List UInt8)) (far : Far) (t : Bool) (hN : ns.length < N)
    (hE : Env134 e m src c t idR) (e7 : e.getD 7 .undef = .str n) (e34 : e.getD 34 .undef = .sl (ns.map fun x => [.str x]) .none) (e35 : e.getD 35 .undef = .int .i64 (ns.length : Nat)) (e36 : e.getD 36 .undef = .int .i64 0)
    (hc : st[c]? = some (.cells [.map f])) (hf : st[f]? = some (.map (encF far))) (hcf : c ≠ f) (hsm : ns.length < 2 ^ 62) (hn : (n, ns) ∈ all) (hg : Good all src far) :
    ExW C hh cf N (fun id => id = f) (.block 4 (.loop (L134 2))) e st (fun y e' st' => y = .norm ∧ Env134 e' m src c (relaxL n ns (far, t)).2 idR ∧ At1 st f (.map (encF (relaxL n ns (far, t)).1)) st') := by
  refine exw_block ?_
  refine exw_loop (fun k e' st' => ∃ i s, k = ns.length - i ∧ i ≤ ns.length ∧ relaxL n (ns.drop i) s = relaxL n ns (far, t) ∧ Good all src s.1 ∧ Env134 e' m src c s.2 idR ∧ e'.getD 7 .undef = .str n ∧ e'.getD 34 .undef = .sl (ns.map fun x => [.str x]) .none ∧
      e'.getD 35 .undef = .int .i64 (ns.length : Nat) ∧ e'.getD 36 .undef = .int .i64 (i : Nat) ∧ At1 st f (.map (encF s.1)) st') ns.length hN ⟨0, (far, t), rfl, Nat.zero_le _, rfl, hg, hE, e7, e34, e35, e36, At1.same hf⟩ ?_
  rintro k e' st' ⟨i, s, rfl, hi, hrel, hgs, hE', h7, h34, h35, h36, hst⟩
  obtain ⟨far1, t1⟩ := s
  dsimp only at hgs hE' hst
  rcases Nat.lt_or_ge i ns.length with hlt | hge
  · obtain ⟨x, hx⟩ : ∃ x, ns[i]? = some x := ⟨_, List.getElem?_eq_getElem hlt⟩
    have hxns : x ∈ ns := List.mem_of_getElem? hx
    have hdrop : ns.drop i = x :: ns.drop (i + 1) := by
      rw [List.drop_eq_getElem_cons hlt]
      congr 1
      exact (List.getElem?_eq_some_iff.1 hx).2
    refine (round134 C hP cf hh N e' st' f c i (ns.map fun x => [.str x]) n x far1 t1 hE'.len hE'.e5 hE'.e6 h7 h34 (by rw [List.length_map]; exact h35) h36 (by rw [List.getElem?_map, hx]; rfl)
      (by rw [hst.ne c hcf]; exact hc) hst.at_ (by rw [List.length_map]; exact hsm) (fun d hd => by have := hgs.small x d hd; omega)).mono ?_
    rintro y e2 st2 ⟨rfl, g1, g2, g3, g4, g5, g6, g7, g8, g9, g10, g11, g12⟩
    refine ⟨ns.length - (i + 1), by omega, i + 1, relax1 n x (far1, t1), rfl, by omega, ?_, (relax1_good t1 hgs hn hxns).1, ⟨g1, g2.trans hE'.e0, g3.trans hE'.e1, g5, g6, g8.trans hE'.e28⟩, g7, g9, by rw [List.length_map] at g10; exact g10, g11, hst.trans g12⟩
    rw [← hrel, hdrop]
    rfl
  · have hin : i = ns.length := by omega
    subst hin
    refine (end134 C hP cf hh N _ e' st' ns.length hE'.len h35 h36).mono ?_
    rintro y e2 st2 ⟨rfl, rfl, rfl⟩
    have hr : (far1, t1) = relaxL n ns (far, t) := by
      rw [← hrel, List.drop_length]
      rfl
    rw [← hr]
    refine ⟨rfl, ⟨?_, ?_, ?_, ?_, ?_, ?_⟩, hst⟩
    · rw [List.length_set]; exact hE'.len
    all_goals rw [getD_set, if_neg (by decide)]
    · exact hE'.e0
    · exact hE'.e1
    · exact hE'.e5
    · exact hE'.e6
    · exact hE'.e28

noncomputable def ops7_134 : Array Oper := match L134 1 with
  | .seq _ (.seq _ (.block _ (.seq (.region _ o _) _))) => o
  | _ => #[]
noncomputable def body7_134 : Code := match L134 1 with
  | .seq _ (.seq _ (.block _ (.seq _ c))) => c
  | _ => .skip
noncomputable def ops8_134 : Array Oper := match body7_134 with
  | .seq (.region _ o _) _ => o
  | _ => #[]
theorem body7_eq : body7_134 = .seq (.region 8 ops8_134 false) (.block 4 (.loop (L134 2))) := by kernel_rfl

theorem len41 {rows : List (List D)} {gr : Gr} {st : St} : lenD Tryz.prog 41 (.sl rows gr) st = some (.int .i64 (rows.length : Nat), .pure) := by
  unfold lenD
  rw [und41]
/-- One name with its neighbours, as the map tells it. -/
theorem entry134 (C : Cfg) (hP : C.P = Tryz.prog) (cf : CallF) (hh : Bool) (N : Nat) {all : Net} {src : List UInt8} (hsz : all.length < 2 ^ 62) (e : Env) (st : St) (m f c : Nat) (idR : D) (n : List UInt8) (ns : List (List UInt8)) (far : Far) (t : Bool) (hN : ns.length < N)
    (hE : Env134 e m src c t idR) (hc : st[c]? = some (.cells [.map f])) (hf : st[f]? = some (.map (encF far))) (hcf : c ≠ f) (hsm : ns.length < 2 ^ 62) (hn : (n, ns) ∈ all) (hg : Good all src far) :
    ∃ e2, runOps C hh cf false ops7_134 #[] [1, 2, 3, 4] [] (putD (putD (putD e (some 29) (.tup [.bool true, .str n, .sl (ns.map fun x => [.str x]) .none])) (some 30) (.bool true)) (some 31) (.tup [.str n, .sl (ns.map fun x => [.str x]) .none])) st [] = some (e2, st, []) ∧
      ExW C hh cf N (fun id => id = f) body7_134 e2 st (fun y e' st' => y = .norm ∧ Env134 e' m src c (relaxL n ns (far, t)).2 idR ∧ At1 st f (.map (encF (relaxL n ns (far, t)).1)) st') := by
  have hl := hE.len
  have e0 := hE.e0
  have e1 := hE.e1
  have e5 := hE.e5
  have e6 := hE.e6
  have e28 := hE.e28
  refine ⟨((((putD (putD (putD e (some 29) (.tup [.bool true, .str n, .sl (ns.map fun x => [.str x]) .none])) (some 30) (.bool true)) (some 31) (.tup [.str n, .sl (ns.map fun x => [.str x]) .none])).set 32 (.str n)).set 33 (.sl (ns.map fun x => [.str x]) .none)).set 7 (.str n)).set 8 (.sl (ns.map fun x => [.str x]) .none), ?_, ?_⟩
  · rw [← ops_strip]
    obtain ⟨code, hcode⟩ : ∃ code, code = ops7_134.map stripO := ⟨_, rfl⟩
    rw [← hcode]
    simp only [ops7_134, L134, Tryz.f134, loopsOf, Option.getD, List.append, List.getD, List.getElem?_cons_succ, List.getElem?_cons_zero, HAppend.hAppend, Append.append, stripO, List.map_toArray, List.map_cons, List.map_nil] at hcode
    subst hcode
    simp [runOps, wantD, loud, stepQ, ev, putD, growSt, logOf, hP, hl]
  · rw [body7_eq]
    refine exw_seq ?_
    refine exw_strip ?_
    obtain ⟨code, hcode⟩ : ∃ code, code = strip (.region 8 ops8_134 false) := ⟨_, rfl⟩
    rw [← hcode]
    simp only [ops8_134, body7_134, L134, Tryz.f134, loopsOf, Option.getD, List.append, List.getD, List.getElem?_cons_succ, List.getElem?_cons_zero, HAppend.hAppend, Append.append, strip, stripO, List.map_toArray, List.map_cons, List.map_nil] at hcode
    subst hcode
    refine exw_regf ?_
    refine opsf_q rfl (want_0 rfl) rfl (by simp only [stepQ, ev, putD, getD_set, ↓reduceIte, Nat.reduceEqDiff, Nat.reduceLT, List.length_set, hl]; rfl) ?_
    refine opsf_q rfl (want_0 rfl) rfl (by simp only [stepQ, ev, putD, getD_set, ↓reduceIte, Nat.reduceEqDiff, Nat.reduceLT, List.length_set, hl, builtinQ, List.map_cons, List.map_nil, hP, len41]; rfl) ?_
    refine opsf_q rfl (want_0 rfl) rfl (by simp only [stepQ, ev, putD, ofConst, ofScalar]; rfl) ?_
    refine opsf_nil (by decide) ?_
    dsimp only
    refine inner134 C hP cf hh N hsz _ st m f c idR n ns far t hN ⟨?_, ?_, ?_, ?_, ?_, ?_⟩ ?_ ?_ ?_ ?_ hc hf hcf hsm hn hg
    all_goals simp only [putD, getD_set, ↓reduceIte, Nat.reduceEqDiff, Nat.reduceLT, List.length_set, hl, e0, e1, e5, e6, e28, List.length_map]
end Go.Vam

set_option linter.unusedSimpArgs false
set_option linter.unusedVariables false
set_option maxRecDepth 100000
namespace Go.Vam
open Go.Proofs Go.RowKit

section
variable {C : Cfg} {cf : CallF} {β : Nat → Nat → Option Value} {g0 g : G} {st0 st : St} {w0 w : World} {ds : List Deferred} {e : Env} {W : Ids} {a : Act} {hh : Bool} {N : Nat} {Pw : Nat → Prop}

theorem wp_of_exw {c : Code} {R : Ex → Env → St → Prop} {Q : Exit → Act → World → Prop} (hX : Ctx C cf β) (hbase : g0.base = β) (hod : OrdsIn (fun _ => none) c) (hA : At g0 st0 w0 ds e st W a w g) (h : ExW C hh cf N Pw c e st R)
    (hQ : ∀ x e' st' W' a' w' g', At g0 st0 w0 ds e' st' W' a' w' g' → (∀ id ∈ W', id ∈ W ∨ Pw id) → R x e' st' → Q (toExit x) a' w') : c.wp C.P Q a w := by
  obtain ⟨x, e', st', V, h1, h2, h3⟩ := h.ex
  refine exec_sound hX N c hod e st x e' st' V h1 Q a w g hA.sim hA.env (by rw [hA.step.mono.base]; exact hbase) fun a' w' g' hA' => ?_
  rw [hA.defers] at hA'
  exact hQ x e' st' _ a' w' g' (hA.then hA') (fun id hid => (mem_joinW.1 hid).elim (fun h => .inr (h2 id h)) .inl) h3
end

def noDraw : Code → Bool
  | .region _ _ d => !d
  | .seq a b => noDraw a && noDraw b
  | .cond _ a b => noDraw a && noDraw b
  | .block _ b => noDraw b
  | .loop b => noDraw b
  | _ => true
theorem ords_noDraw : ∀ {c : Code}, noDraw c = true → OrdsIn (fun _ => none) c := by
  intro c
  induction c with
  | region id ops d =>
    intro h hd
    subst hd
    cases h
  | seq a b iha ihb =>
    intro h
    unfold noDraw at h
    rw [Bool.and_eq_true] at h
    exact ⟨iha h.1, ihb h.2⟩
  | cond c a b iha ihb =>
    intro h
    unfold noDraw at h
    rw [Bool.and_eq_true] at h
    exact ⟨iha h.1, ihb h.2⟩
  | block id b ih => exact fun h => ih h
  | loop b ih => exact fun h => ih h
  | _ => exact fun _ => trivial

noncomputable def opB (l : Array Oper) (i : Nat) : Oper := l.getD i { dst := none, op := .move (.tmp 0), type := 0, pos := "", after := #[], guard := none }
noncomputable def r3_134 : Code := match L134 0 with
  | .seq a _ => a
  | _ => .skip
noncomputable def r4_134 : Code := match L134 0 with
  | .seq _ (.block _ (.seq a _)) => a
  | _ => .skip
noncomputable def ops5_134 : Array Oper := match L134 0 with
  | .seq _ (.block _ (.seq _ (.seq (.region _ o _) _))) => o
  | _ => #[]
noncomputable def ops6_134 : Array Oper := match L134 1 with
  | .seq (.region _ o _) _ => o
  | _ => #[]
theorem L0_134 : L134 0 = .seq r3_134 (.block 1 (.seq r4_134 (.seq (.region 5 #[opB ops5_134 0, opB ops5_134 1] false) (.block 2 (.loop (L134 1)))))) := by kernel_rfl
theorem L1_134 : L134 1 = .seq (.region 6 #[opB ops6_134 0, opB ops6_134 1] false) (.seq (.cond (.tmp 30) .skip (.exit 2)) (.block 3 (.seq (.region 7 ops7_134 false) body7_134))) := by kernel_rfl

/-- The store while the passes go on. -/
structure Sto (st0 st : St) (f c : Nat) (far : Far) : Prop where
  old : ∀ id, id < st0.length → st[id]? = st0[id]?
  len : st0.length ≤ st.length
  c_ : st[c]? = some (.cells [.map f])
  f_ : st[f]? = some (.map (encF far))

theorem Sto.at1 {st0 st st' : St} {f c : Nat} {far far' : Far} (h : Sto st0 st f c far) (h' : At1 st f (.map (encF far')) st') (hf : st0.length ≤ f) (hcf : c ≠ f) : Sto st0 st' f c far' :=
  ⟨fun id hid => (h'.ne id (by omega)).trans (h.old id hid), by rw [h'.len]; exact h.len, (h'.ne c hcf).trans h.c_, h'.at_⟩
theorem Sto.app {st0 st : St} {f c : Nat} {far : Far} {o : Obj} (h : Sto st0 st f c far) : Sto st0 (st ++ [o]) f c far := by
  have h1 : ∀ {id : Nat} {x : Obj}, st[id]? = some x → (st ++ [o])[id]? = some x := fun hx => by
    rw [List.getElem?_append_left (List.getElem?_eq_some_iff.1 hx).1]
    exact hx
  exact ⟨fun id hid => by rw [List.getElem?_append_left (by have := h.len; omega)]; exact h.old id hid, by have := h.len; simp; omega, h1 h.c_, h1 h.f_⟩

def encN (all : Net) : List (D × D) := all.map fun p => (.str p.1, .sl (p.2.map fun x => [.str x]) .none)

section
variable {C : Cfg} {cf : CallF} {β : Nat → Nat → Option Value} {g0 g : G} {st0 st : St} {w0 w : World} {ds : List Deferred} {e : Env} {W : Ids} {a : Act}

theorem pass134 (hP : C.P = Tryz.prog) (hX : Ctx C cf β) (hbase : g0.base = β) {all : Net} {src : List UInt8} (hsz : all.length < 2 ^ 62) (hns : ∀ p ∈ all, p.2.length < 2 ^ 62) {m f c : Nat} (hm0 : st0[m]? = some (.map (encN all))) (hf0 : st0.length ≤ f) (hc0 : st0.length ≤ c) (hcf : c ≠ f)
    {cm : Nat} (hlm : g0.loc m = some cm) {far : Far} (hg : Good all src far) (hA : At g0 st0 w0 ds e st W a w g) {idR : D} (hE : Env134 e m src c false idR) (hS : Sto st0 st f c far)
    {Q : Exit → Act → World → Prop} (hQ : ∀ pre s e' st' W' a' w' g' idR, pre.Perm (List.range all.length) → Pass all src far pre s → Env134 e' m src c s.2 idR → Sto st0 st' f c s.1 → (∀ id ∈ W', id ∈ W ∨ id = f) → At g0 st0 w0 ds e' st' W' a' w' g' → Q .normal a' w') :
    (Code.seq (.region 5 #[opB ops5_134 0, opB ops5_134 1] false) (.block 2 (.loop (L134 1)))).wp C.P Q a w := by
  have hml : m < st0.length := (List.getElem?_eq_some_iff.1 hm0).1
  have hevm : a.eval (.tmp 0) = .map (some cm) := by
    have h0 : e[0]? = some (.map m) := by
      have h1 := hE.e0
      rw [List.getD_eq_getElem?_getD] at h1
      have h2 : 0 < e.length := by rw [hE.len]; decide
      rw [List.getElem?_eq_getElem h2] at h1 ⊢
      simpa using h1
    have hl : 0 < a.tmps.size := by rw [hA.env.size, hE.len]; decide
    have hv := hA.env.at_ 0 _ _ h0 (Array.getElem?_eq_getElem hl)
    show a.tmps.getD 0 undef = _
    rw [Array.getD_eq_getD_getElem?, Array.getElem?_eq_getElem hl]
    generalize a.tmps[0] = x at hv
    cases hv with
    | map h =>
      rw [(hA.step.mono.loc m cm hlm).1] at h
      cases h
      rfl
  have hstm : st[m]? = some (.map (encN all)) := (hS.old m hml).trans hm0
  have hlg : g.loc m = some cm := (hA.step.mono.loc m cm hlm).1
  obtain ⟨o, ho, hobj⟩ := hA.sim.obj _ _ hlg
  rw [hstm] at ho; cases ho
  obtain ⟨M, k0, hM⟩ := hobj
  refine wp_seq (wp_region ?_)
  show wpOps _ _ _ [0, 1] _ _
  have hsz0 : a.tmps.size = 119 := by rw [hA.env.size, hE.len]
  refine op_value (some 27) rfl (by kernel_rfl) (by kernel_rfl) (x_move (x := .tmp 0) (.inl (by kernel_rfl))) ?_
  rw [hevm]
  have hA1 : At g st w ds (putD e (some 27) (.map m)) st [] (a.put (some 27) (.map (some cm))) w g :=
    ⟨hA.sim, Step.refl _ _ _, Free.refl _ _, put_VR hA.env (.map hlg), by rw [Act.put_defers']; exact hA.defers, K.refl _ _⟩
  have hu : C.P.underlying 158 = some (.map 9 41) := by rw [hP]; exact Tryz.underlying158
  refine op_value (some 28) rfl (by kernel_rfl) (by kernel_rfl) (r := .pointer (some ⟨w.heap.size, 0, none⟩)) (x_range (t := 158) (x := .tmp 27) (by kernel_rfl) (by
    rw [eval_put, if_pos ⟨rfl, by rw [hsz0]; omega⟩]
    exact run_rangeMap hu hM.heap)) ?_
  obtain ⟨g1, hA2', hloc, hno, hmono⟩ := hA1.range (dst := some 28) (ob := .mapIter (some cm) k0 #[] k0) rfl
  have hmg := hA2'.step.mono
  have hA2 : At g0 st0 w0 ds _ (st ++ [.dead]) W _ _ g1 := hA.then hA2'
  clear hA2'
  generalize ha2 : (a.put (some 27) (.map (some cm))).put (some 28) (.pointer (some ⟨w.heap.size, 0, none⟩)) = a2 at hA2 ⊢
  clear ha2
  have hcl : cm < w.heap.size := (Array.getElem?_eq_some_iff.1 hM.heap).1
  have hN : ∃ N, ∀ p ∈ all, p.2.length < N := by
    refine ⟨2 ^ 62, hns⟩
  obtain ⟨N, hN⟩ := hN
  show Code.wp _ _ _ _ _
  rw [L1_134]
  have hesl : (encN all).length = all.length := by simp [encN]
  refine mapLoop (C := C) (cf := cf) hX hbase (hh := true) (N := N) (od := fun _ => none) (tn := 29) (tc := 30) (te := 31) (ti := 28) (oe := opB ops7_134 0) (ops2 := ops7_134) (body := body7_134) (l2 := [1, 2, 3, 4]) (by kernel_rfl) (by kernel_rfl) (by kernel_rfl) (by kernel_rfl) (by kernel_rfl) (by kernel_rfl)
    (by kernel_rfl) (by kernel_rfl) (by kernel_rfl) (by kernel_rfl) (by kernel_rfl) (ords_noDraw (by kernel_rfl)) (es := encN all) (m := m) (idR := st.length) (r := w.heap.size) (c := cm) (k0 := k0) (M := M) (Pw := fun id => id = f)
    (I := fun pre e' stx => ∃ s, Pass all src far pre s ∧ Env134 e' m src c s.2 (.ptr st.length 0) ∧ Sto st0 stx f c s.1) hA.step.size (fun h => by omega) (by decide) (by decide) ?_ ?_ hA2 ?_ ?_ ?_
  · rintro pre e' stx ⟨s, hps, hE', hS'⟩
    refine ⟨?_, by rw [hE'.len]; decide, by rw [hE'.len]; decide, by rw [hE'.len]; decide⟩
    have h1 := hE'.e28
    rw [List.getD_eq_getElem?_getD] at h1
    have h2 : 28 < e'.length := by rw [hE'.len]; decide
    rw [List.getElem?_eq_getElem h2] at h1 ⊢
    simpa using h1
  · rintro pre i k v e' stx ⟨s, hps, hE', hS'⟩ hmm hesi hip
    obtain ⟨p, hp, hpk⟩ : ∃ p, all[i]? = some p ∧ (D.str p.1, D.sl (p.2.map fun x => [.str x]) .none) = (k, v) := by
      unfold encN at hesi
      rw [List.getElem?_map] at hesi
      cases hai : all[i]? with
      | none => rw [hai] at hesi; cases hesi
      | some p =>
        rw [hai] at hesi
        exact ⟨p, rfl, by simpa using hesi⟩
    cases hpk
    obtain ⟨n, ns⟩ := p
    obtain ⟨far1, t1⟩ := s
    have hmem := List.mem_of_getElem? hp
    obtain ⟨e2, h1, h2⟩ := entry134 C hP cf true N hsz e' stx m f c (.ptr st.length 0) n ns far1 t1 (hN _ hmem) hE' hS'.c_ hS'.f_ hcf (hns _ hmem) hmem hps.good
    obtain ⟨y, e3, st3, V, h3, h4, rfl, h5, h6⟩ := h2.ex
    refine ⟨e2, stx, [], e3, st3, V, h1, h3, ⟨relaxL n ns (far1, t1), hps.step hp, h5, hS'.at1 h6 hf0 hcf⟩, by simp, h4, ?_⟩
    rw [(hS'.at1 h6 hf0 hcf).old m hml]
    exact hm0
  · refine ⟨(far, false), Pass.start hg, ⟨?_, ?_, ?_, ?_, ?_, ?_⟩, hS.app⟩
    · simp only [putD, List.length_set]; exact hE.len
    all_goals simp only [putD, getD_set, ↓reduceIte, Nat.reduceEqDiff, Nat.reduceLT, List.length_set, hE.len, hE.e0, hE.e1, hE.e5, hE.e6]
  · refine ⟨hloc, hno, World.alloc_heap_new w _, hmono m cm hlg, hS.app.old m hml |>.trans hm0, ?_, hM.size, fun j e x h1 h2 => ?_, hM.born, hM.lt⟩
    · show (w.heap.push _)[cm]? = _
      rw [Array.getElem?_push, if_neg (by omega)]
      exact hM.heap
    · obtain ⟨h3, h4⟩ := hM.at_ j e x h1 h2
      exact ⟨h3.mono hmg, h4.mono hmg⟩
  · rintro pre e' stx W' a' w' g' hperm ⟨s, hps, hE', hS'⟩ hW hA'
    rw [hesl] at hperm
    refine hQ pre s _ stx W' a' w' g' (.ptr st.length 0) hperm hps ⟨?_, ?_, ?_, ?_, ?_, ?_⟩ hS' hW hA'
    · simp only [putD, List.length_set]; exact hE'.len
    all_goals simp only [putD, getD_set, ↓reduceIte, Nat.reduceEqDiff, Nat.reduceLT, List.length_set, hE'.len, hE'.e0, hE'.e1, hE'.e5, hE'.e6, hE'.e28]
theorem r3_true {N : Nat} {hh : Bool} {Pw : Nat → Prop} (hP : C.P = Tryz.prog) {m c : Nat} {src : List UInt8} {idR : D} {t : Bool} (hE : Env134 e m src c t idR) :
    ExW C hh cf N Pw r3_134 e st (fun y e' st' => y = (if t then .norm else .exit 0) ∧ Env134 e' m src c t idR ∧ st' = st) := by
  have hl := hE.len
  have e6 := hE.e6
  refine exw_strip ?_
  obtain ⟨code, hcode⟩ : ∃ code, code = strip r3_134 := ⟨_, rfl⟩
  rw [← hcode]
  simp only [r3_134, L134, Tryz.f134, loopsOf, Option.getD, List.append, List.getD, List.getElem?_cons_succ, List.getElem?_cons_zero, HAppend.hAppend, Append.append, strip, stripO, List.map_toArray, List.map_cons, List.map_nil] at hcode
  subst hcode
  refine exw_seq ?_
  refine exw_regf ?_
  refine opsf_q rfl (want_0 rfl) rfl (by simp only [stepQ, ev, e6]; rfl) ?_
  refine opsf_nil (by decide) ?_
  dsimp only
  cases t with
  | true =>
    refine exw_true (by simp only [ev, putD, getD_set, ↓reduceIte, hl]; rfl) ?_
    refine exw_skip ?_
    refine ⟨rfl, ⟨?_, ?_, ?_, ?_, ?_, ?_⟩, rfl⟩
    · simp only [putD, List.length_set]; exact hE.len
    all_goals simp only [putD, getD_set, ↓reduceIte, Nat.reduceEqDiff, Nat.reduceLT, List.length_set, hE.len, hE.e0, hE.e1, hE.e5, hE.e6, hE.e28]
  | false =>
    refine exw_false (by simp only [ev, putD, getD_set, ↓reduceIte, hl]; rfl) ?_
    refine exw_exit ?_
    refine ⟨rfl, ⟨?_, ?_, ?_, ?_, ?_, ?_⟩, rfl⟩
    · simp only [putD, List.length_set]; exact hE.len
    all_goals simp only [putD, getD_set, ↓reduceIte, Nat.reduceEqDiff, Nat.reduceLT, List.length_set, hE.len, hE.e0, hE.e1, hE.e5, hE.e6, hE.e28]

theorem r4_run {N : Nat} {hh : Bool} {Pw : Nat → Prop} (hP : C.P = Tryz.prog) {m c : Nat} {src : List UInt8} {idR : D} {t : Bool} (hE : Env134 e m src c t idR) :
    ExW C hh cf N Pw r4_134 e st (fun y e' st' => y = .norm ∧ Env134 e' m src c false idR ∧ st' = st) := by
  refine exw_strip ?_
  obtain ⟨code, hcode⟩ : ∃ code, code = strip r4_134 := ⟨_, rfl⟩
  rw [← hcode]
  simp only [r4_134, L134, Tryz.f134, loopsOf, Option.getD, List.append, List.getD, List.getElem?_cons_succ, List.getElem?_cons_zero, HAppend.hAppend, Append.append, strip, stripO, List.map_toArray, List.map_cons, List.map_nil] at hcode
  subst hcode
  refine exw_regf ?_
  refine opsf_q rfl (want_0 rfl) rfl (by simp only [stepQ, ev, ofConst, ofScalar]; rfl) ?_
  refine opsf_nil (by decide) ?_
  refine ⟨rfl, ⟨?_, ?_, ?_, ?_, ?_, ?_⟩, rfl⟩
  · simp only [putD, List.length_set]; exact hE.len
  all_goals simp only [putD, getD_set, ↓reduceIte, Nat.reduceEqDiff, Nat.reduceLT, List.length_set, hE.len, hE.e0, hE.e1, hE.e5, hE.e6, hE.e28]

theorem outer134 (hP : C.P = Tryz.prog) (hX : Ctx C cf β) (hbase : g0.base = β) {all : Net} {src : List UInt8} (hsz : all.length < 2 ^ 62) (hns : ∀ p ∈ all, p.2.length < 2 ^ 62) {m f c : Nat} (hm0 : st0[m]? = some (.map (encN all))) (hf0 : st0.length ≤ f) (hc0 : st0.length ≤ c) (hcf : c ≠ f)
    {cm : Nat} (hlm : g0.loc m = some cm) {Q : Exit → Act → World → Prop}
    (hQ : ∀ far e' st' W' a' w' g' idR, Good all src far → Closed all far → Env134 e' m src c false idR → Sto st0 st' f c far → (∀ id ∈ W', st0.length ≤ id) → At g0 st0 w0 ds e' st' W' a' w' g' → Q (.exit 0) a' w') :
    ∀ (k : Nat) (far : Far) (t : Bool) (e : Env) (st : St) (W : Ids) (a : Act) (w : World) (g : G) (idR : D), (if t then cost all far + 1 else 0) = k → Good all src far → (t = false → Closed all far) → Env134 e m src c t idR → Sto st0 st f c far → (∀ id ∈ W, st0.length ≤ id) → At g0 st0 w0 ds e st W a w g →
      LoopAt C.P (L134 0) Q a w := by
  intro k
  induction k using Nat.strongRecOn with
  | _ k ih =>
    intro far t e st W a w g idR hk hg hcl hE hS hW hA
    refine loopAt_of ?_
    rw [L0_134]
    refine wp_seq ?_
    refine wp_of_exw hX hbase (ords_noDraw (by kernel_rfl)) hA (r3_true (N := 0) (hh := true) (Pw := fun _ => False) hP hE) ?_
    rintro x e1 st1 W1 a1 w1 g1 hA1 hW1 ⟨rfl, hE1, rfl⟩
    have hW1' : ∀ id ∈ W1, st0.length ≤ id := fun id hid => (hW1 id hid).elim (hW id) False.elim
    cases t with
    | false => exact hQ far e1 st1 W1 a1 w1 g1 idR hg (hcl rfl) hE1 hS hW1' hA1
    | true =>
      show Code.wp _ _ _ _ _
      refine wp_block (wp_seq ?_)
      refine wp_of_exw hX hbase (ords_noDraw (by kernel_rfl)) hA1 (r4_run (N := 0) (hh := true) (Pw := fun _ => False) hP hE1) ?_
      rintro x e2 st2 W2 a2 w2 g2 hA2 hW2 ⟨rfl, hE2, rfl⟩
      have hW2' : ∀ id ∈ W2, st0.length ≤ id := fun id hid => (hW2 id hid).elim (hW1' id) False.elim
      show Code.wp _ _ _ _ _
      refine pass134 hP hX hbase hsz hns hm0 hf0 hc0 hcf hlm hg hA2 hE2 hS ?_
      rintro pre ⟨far3, t3⟩ e3 st3 W3 a3 w3 g3 idR3 hperm hps hE3 hS3 hW3 hA3
      have hW3' : ∀ id ∈ W3, st0.length ≤ id := fun id hid => (hW3 id hid).elim (hW2' id) (fun h => by rw [h]; exact hf0)
      show LoopAt _ _ _ _ _
      refine ih (if t3 then cost all far3 + 1 else 0) ?_ far3 t3 e3 st3 W3 a3 w3 g3 idR3 rfl hps.good ?_ hE3 hS3 hW3' hA3
      · subst hk
        cases t3 with
        | false => simp
        | true =>
          rcases hps.what with ⟨h1, _⟩ | ⟨_, h1⟩
          · cases h1
          · simpa using h1
      · rintro rfl
        exact (hps.closed hperm).2
end
end Go.Vam
