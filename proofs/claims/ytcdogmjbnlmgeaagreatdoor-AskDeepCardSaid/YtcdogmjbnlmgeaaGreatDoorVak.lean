/-
  This program's machine is sound.
-/
import Derived.Test.YtcdogmjbnlmgeaaGreatDoorVaj
import Derived.KernelRfl
set_option linter.unusedSimpArgs false
set_option linter.unusedVariables false
set_option maxRecDepth 1000000
namespace Go.Vam
open Go.Proofs

theorem okI_4 : okI 4 = true := by kernel_rfl
theorem okI_5 : okI 5 = true := by kernel_rfl
theorem okI_6 : okI 6 = true := by kernel_rfl
theorem okI_12 : okI 12 = true := by kernel_rfl
theorem okI_13 : okI 13 = true := by kernel_rfl
theorem okI_14 : okI 14 = true := by kernel_rfl
theorem okI_18 : okI 18 = true := by kernel_rfl
theorem okI_19 : okI 19 = true := by kernel_rfl
theorem okI_20 : okI 20 = true := by kernel_rfl
theorem okI_23 : okI 23 = true := by kernel_rfl
theorem okI_27 : okI 27 = true := by kernel_rfl
theorem okI_28 : okI 28 = true := by kernel_rfl
theorem okI_30 : okI 30 = true := by kernel_rfl
theorem okI_38 : okI 38 = true := by kernel_rfl
theorem okI_42 : okI 42 = true := by kernel_rfl
theorem okI_44 : okI 44 = true := by kernel_rfl
theorem okI_46 : okI 46 = true := by kernel_rfl
theorem okI_47 : okI 47 = true := by kernel_rfl
theorem okI_49 : okI 49 = true := by kernel_rfl
theorem okI_51 : okI 51 = true := by kernel_rfl
theorem okI_53 : okI 53 = true := by kernel_rfl
theorem okI_54 : okI 54 = true := by kernel_rfl
theorem okI_58 : okI 58 = true := by kernel_rfl
theorem okI_60 : okI 60 = true := by kernel_rfl
theorem okI_62 : okI 62 = true := by kernel_rfl
theorem okI_64 : okI 64 = true := by kernel_rfl
theorem okI_69 : okI 69 = true := by kernel_rfl
theorem okI_75 : okI 75 = true := by kernel_rfl
theorem okI_89 : okI 89 = true := by kernel_rfl
theorem okI_98 : okI 98 = true := by kernel_rfl
theorem okI_102 : okI 102 = true := by kernel_rfl
theorem okI_105 : okI 105 = true := by kernel_rfl
theorem okI_107 : okI 107 = true := by kernel_rfl
theorem okI_110 : okI 110 = true := by kernel_rfl
theorem okI_113 : okI 113 = true := by kernel_rfl
theorem okI_116 : okI 116 = true := by kernel_rfl
theorem okI_118 : okI 118 = true := by kernel_rfl
theorem okI_124 : okI 124 = true := by kernel_rfl
theorem okI_133 : okI 133 = true := by kernel_rfl
theorem okI_138 : okI 138 = true := by kernel_rfl
theorem okI_143 : okI 143 = true := by kernel_rfl
theorem okI_144 : okI 144 = true := by kernel_rfl
theorem okI_148 : okI 148 = true := by kernel_rfl
theorem okI_157 : okI 157 = true := by kernel_rfl
theorem okI_165 : okI 165 = true := by kernel_rfl
theorem okI_167 : okI 167 = true := by kernel_rfl
theorem okI_168 : okI 168 = true := by kernel_rfl
theorem okI_169 : okI 169 = true := by kernel_rfl
theorem okI_171 : okI 171 = true := by kernel_rfl
theorem okI_172 : okI 172 = true := by kernel_rfl
theorem okI_174 : okI 174 = true := by kernel_rfl
theorem okI_175 : okI 175 = true := by kernel_rfl
theorem okI_180 : okI 180 = true := by kernel_rfl
theorem okI_182 : okI 182 = true := by kernel_rfl
theorem okI_184 : okI 184 = true := by kernel_rfl
theorem okI_195 : okI 195 = true := by kernel_rfl
theorem okI_201 : okI 201 = true := by kernel_rfl
theorem okI_202 : okI 202 = true := by kernel_rfl
theorem okI_214 : okI 214 = true := by kernel_rfl
theorem okI_215 : okI 215 = true := by kernel_rfl
theorem okI_217 : okI 217 = true := by kernel_rfl
theorem okI_233 : okI 233 = true := by kernel_rfl
theorem okI_242 : okI 242 = true := by kernel_rfl
theorem okI_248 : okI 248 = true := by kernel_rfl
theorem okI_258 : okI 258 = true := by kernel_rfl
theorem okI_259 : okI 259 = true := by kernel_rfl
theorem okI_273 : okI 273 = true := by kernel_rfl
theorem okI_274 : okI 274 = true := by kernel_rfl
theorem okI_275 : okI 275 = true := by kernel_rfl
theorem okI_277 : okI 277 = true := by kernel_rfl
theorem okI_278 : okI 278 = true := by kernel_rfl
theorem okI_279 : okI 279 = true := by kernel_rfl
theorem okI_280 : okI 280 = true := by kernel_rfl
theorem okI_282 : okI 282 = true := by kernel_rfl
theorem okI_285 : okI 285 = true := by kernel_rfl
theorem okI_292 : okI 292 = true := by kernel_rfl
theorem okI_299 : okI 299 = true := by kernel_rfl
theorem okI_308 : okI 308 = true := by kernel_rfl
theorem okI_310 : okI 310 = true := by kernel_rfl
theorem okI_314 : okI 314 = true := by kernel_rfl
theorem okI_323 : okI 323 = true := by kernel_rfl
theorem okI_325 : okI 325 = true := by kernel_rfl
theorem okI_327 : okI 327 = true := by kernel_rfl
theorem okI_334 : okI 334 = true := by kernel_rfl
theorem okI_345 : okI 345 = true := by kernel_rfl
theorem okI_354 : okI 354 = true := by kernel_rfl
theorem okI_355 : okI 355 = true := by kernel_rfl
theorem okI_359 : okI 359 = true := by kernel_rfl
theorem okI_368 : okI 368 = true := by kernel_rfl
theorem okI_369 : okI 369 = true := by kernel_rfl
theorem okI_377 : okI 377 = true := by kernel_rfl
theorem okI_382 : okI 382 = true := by kernel_rfl

theorem okc {i : Nat} {l : List Nat} (h : okI i = true) (hl : ∀ j ∈ l, okI j = true) : ∀ j ∈ i :: l, okI j = true := fun j hj => by
  rcases List.mem_cons.1 hj with rfl | hj
  · exact h
  · exact hl j hj
theorem okn : ∀ j ∈ ([] : List Nat), okI j = true := fun j hj => by cases hj
noncomputable def keysT : List Nat := [4,5,6,12,13,14,18,19,20,23,27,28,30,38,42,44,46,47,49,51,53,54,58,60,62,64,69,75,89,98,102,105,107,110,113,116,118,124,133,138,143,144,148,157,165,167,168,169,171,172,174,175,180,182,184,195,201,202,214,215,217,233,242,248,258,259,273,274,275,277,278,279,280,282,285,292,299,308,310,314,323,325,327,334,345,354,355,359,368,369,377,382]
theorem keysT_eq : ordT.map (·.1) = keysT := by kernel_rfl
theorem okAll : ∀ j ∈ keysT, okI j = true := okc okI_4 (okc okI_5 (okc okI_6 (okc okI_12 (okc okI_13 (okc okI_14 (okc okI_18 (okc okI_19 (okc okI_20 (okc okI_23 (okc okI_27 (okc okI_28 (okc okI_30 (okc okI_38 (okc okI_42 (okc okI_44 (okc okI_46 (okc okI_47 (okc okI_49 (okc okI_51 (okc okI_53 (okc okI_54 (okc okI_58 (okc okI_60 (okc okI_62 (okc okI_64 (okc okI_69 (okc okI_75 (okc okI_89 (okc okI_98 (okc okI_102 (okc okI_105 (okc okI_107 (okc okI_110 (okc okI_113 (okc okI_116 (okc okI_118 (okc okI_124 (okc okI_133 (okc okI_138 (okc okI_143 (okc okI_144 (okc okI_148 (okc okI_157 (okc okI_165 (okc okI_167 (okc okI_168 (okc okI_169 (okc okI_171 (okc okI_172 (okc okI_174 (okc okI_175 (okc okI_180 (okc okI_182 (okc okI_184 (okc okI_195 (okc okI_201 (okc okI_202 (okc okI_214 (okc okI_215 (okc okI_217 (okc okI_233 (okc okI_242 (okc okI_248 (okc okI_258 (okc okI_259 (okc okI_273 (okc okI_274 (okc okI_275 (okc okI_277 (okc okI_278 (okc okI_279 (okc okI_280 (okc okI_282 (okc okI_285 (okc okI_292 (okc okI_299 (okc okI_308 (okc okI_310 (okc okI_314 (okc okI_323 (okc okI_325 (okc okI_327 (okc okI_334 (okc okI_345 (okc okI_354 (okc okI_355 (okc okI_359 (okc okI_368 (okc okI_369 (okc okI_377 (okc okI_382 (okn))))))))))))))))))))))))))))))))))))))))))))))))))))))))))))))))))))))))))))))))))))))))))))

theorem lookN_mem {α : Type} {n : Nat} {v : α} : ∀ {l : List (Nat × α)}, lookN l n = some v → (n, v) ∈ l
  | [], h => by cases h
  | (k, x) :: l, h => by
    unfold lookN at h
    split at h
    · rename_i he
      cases h
      have := Nat.eq_of_beq_eq_true he
      subst this
      exact List.mem_cons_self
    · exact List.mem_cons_of_mem _ (lookN_mem h)

theorem ords1 (f : FuncId) (fn : Func) (c : Code) (hf : C1.P.funcs[f]? = some fn) (hc : fn.body = some c) : OrdsIn (C1.ords f) c := by
  cases h : lookN ordT f with
  | none =>
    have : C1.ords f = fun _ => none := by
      funext id
      show ordsOf f id = none
      unfold ordsOf
      rw [h]
    rw [this]
    exact ordsIn_none c
  | some l =>
    have hk : f ∈ keysT := by
      rw [← keysT_eq]
      exact List.mem_map.2 ⟨_, lookN_mem h, rfl⟩
    have := okAll f hk
    unfold okI at this
    have hf' : Tryz.prog.funcs[f]? = some fn := hf
    rw [hf'] at this
    dsimp only at this
    rw [hc] at this
    exact chkCode_ok c this

theorem mixed1 : Tryz.prog.follows .mixedOrders = true := by kernel_rfl
theorem names1 : (Tryz.prog.funcs.toList.all fun fn => fn.name != "runtime.NumGoroutine") = true := by kernel_rfl
theorem count1 : NoCount Tryz.prog := fun f fn hf he => by
  have := List.all_eq_true.1 names1 fn (by
    rw [← Array.getElem?_toList] at hf
    exact List.mem_of_getElem? hf)
  rw [he] at this
  simp at this
theorem ext1 : ExtOk C1 := fun f x h => by cases h

theorem natOk0 {β : Nat → Nat → Option Value} (hM : MaxOk β) : NatOk C1 β nat0 := by
  have hP : C1.P = Tryz.prog := rfl
  refine ⟨fun f nt h cf hX => ?_, fun f nt h cf hk => ?_⟩
  · have hm := lookN_mem h
    simp only [natTab0, List.mem_cons, Prod.mk.injEq, List.not_mem_nil, or_false] at hm
    rw [hP]
    rcases hm with ⟨rfl, rfl⟩ | ⟨rfl, rfl⟩ | ⟨rfl, rfl⟩ | ⟨rfl, rfl⟩ | ⟨rfl, rfl⟩ | ⟨rfl, rfl⟩ | ⟨rfl, rfl⟩ | ⟨rfl, rfl⟩ | ⟨rfl, rfl⟩ | ⟨rfl, rfl⟩ | ⟨rfl, rfl⟩ | ⟨rfl, rfl⟩
    · exact natSorted_just cf
    · exact natSortedL_just cf
    · exact natJoin_just cf
    · exact natLines_just cf
    · exact natClone2_just hP cf hX
    · exact natIndexByte_just cf
    · exact natIndex_just hM cf
    · exact natCount_just hM cf
    · exact natReplaceAll_just hM cf
    · exact natConcat_just cf
    · exact natBack_just hP cf hX
    · exact natCopy_just hP cf hX
  · have hm := lookN_mem h
    simp only [natTab0, List.mem_cons, Prod.mk.injEq, List.not_mem_nil, or_false] at hm
    rcases hm with ⟨rfl, rfl⟩ | ⟨rfl, rfl⟩ | ⟨rfl, rfl⟩ | ⟨rfl, rfl⟩ | ⟨rfl, rfl⟩ | ⟨rfl, rfl⟩ | ⟨rfl, rfl⟩ | ⟨rfl, rfl⟩ | ⟨rfl, rfl⟩ | ⟨rfl, rfl⟩ | ⟨rfl, rfl⟩ | ⟨rfl, rfl⟩
    · exact natSorted_keeps cf
    · exact natSortedL_keeps cf
    · exact natJoin_keeps cf
    · exact natLines_keeps cf
    · exact natClone2_keeps cf
    · exact natIndexByte_keeps cf
    · exact natIndex_keeps cf
    · exact natCount_keeps cf
    · exact natReplaceAll_keeps cf
    · exact natConcat_keeps cf
    · exact natBack_keeps cf
    · exact natCopy_keeps cf

theorem natCf0 : NatCf nat0 := fun f g h cf args st v st' W hr => by
  have hm := lookN_mem h
  simp only [natTab0, List.mem_cons, Prod.mk.injEq, List.not_mem_nil, or_false] at hm
  rcases hm with ⟨rfl, rfl⟩ | ⟨rfl, rfl⟩ | ⟨rfl, rfl⟩ | ⟨rfl, rfl⟩ | ⟨rfl, rfl⟩ | ⟨rfl, rfl⟩ | ⟨rfl, rfl⟩ | ⟨rfl, rfl⟩ | ⟨rfl, rfl⟩ | ⟨rfl, rfl⟩ | ⟨rfl, rfl⟩ | ⟨rfl, rfl⟩ <;> exact hr

/-- The machine with some more natives. -/
theorem ctx1 {β : Nat → Nat → Option Value} {nat : FuncId → Option Native} (hn : NatOk C1 β nat) (N n : Nat) : Ctx C1 (callN C1 nat N n) β :=
  callN_sound (C := C1) count1 ext1 ords1 mixed1 hn N n
end Go.Vam
