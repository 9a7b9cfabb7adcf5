/- For every input the law MatrixTransposes answers true, and its arguments read as before. No condition. -/
import Derived.Test.YtencodepmbhpiaaGy5
import Derived.SizedLaws
set_option linter.unusedVariables false
set_option linter.unusedSimpArgs false
namespace Go.Proofs.Ytencodepmbhpiaa.matrixTransposes
open Go.ChangeShapes Go.WideShapes Go.ChangeAt Go.RowKit Go.Qk
theorem own : ownKnob Try.prog.godebug = none := by kernel_rfl
theorem lay : laidOutB Try.prog = true := by kernel_rfl
set_option maxRecDepth 100000 in
theorem lifted (os : Os) (started : os.Started) (H : Type) (enc : TypeId × Value → H) :
    ReturnsInHanded {} Try.checked os 11 .any (Rows.matrixTransposesSpec.pre6 enc Try.prog Try.f11 Rows.matrixTransposesRow.domain false) (Rows.matrixTransposesSpec.post enc Try.prog Try.f11 false true false false) := by
  refine returnsInHanded_of_change_sized (C := Try.checked) own started (by kernel_rfl) Try.func11
    (ChangeSpec.witness6 (enc := enc) (C := Try.checked) false ⟨#[], #[.slice none 0 0, .agg #[.int .u8 0, .int .u8 0, .slice none 0 0]], []⟩ 8 (by kernel_rfl) (by kernel_rfl) (by kernel_rfl) (by kernel_rfl)) ?_
  intro W base args ds gs before hval0 hW hcnd hreach _
  have hval : ∀ (j : Nat) t v, Try.f11.params[j]? = some t → args[j]? = some v → Value.okWide Try.prog W .any base t v := hval0
  have hW' := hW
  obtain ⟨p, q, hA0, hV, rfl, hfz, hnd⟩ := hW
  have hA : DataW.TrodAll enc Try.prog W 0 (fun _ => true) true Try.f11.params.toList args.toList ds p := hA0
  rw [Try.params11] at hA hval
  obtain ⟨v0, vs0, d0, ds0, p0, q0, hargs, rfl, rfl, h0, r0⟩ := trodAll_cons hA
  obtain ⟨v1, vs1, d1, ds1, p1, q1, rfl, rfl, rfl, h1, r1⟩ := trodAll_cons r0
  obtain ⟨rfl, rfl, rfl⟩ := trodAll_nil r1
  obtain rfl : args = #[v0, v1] := by cases args; simp_all
  obtain ⟨rfl, rfl⟩ := trodVars_none hV
  have hw0 : ∀ k ∈ d0.weights Try.prog 23, k ≤ reachBytes := fun k hk => by have := List.all_eq_true.1 hreach k (DataW.weights_mem_each (j := 0) rfl rfl k hk); simpa using this
  obtain ⟨a0, l0, c0, rfl⟩ := okWide_slice Try.underlying23 (hval 0 23 v0 rfl rfl)
  obtain ⟨fu0, hf0⟩ := h0
  obtain ⟨m0, e0, ok0, ln0, rw0⟩ := open_mt hf0 hw0
  have e0 : Value.slice a0 l0 c0 = m0.v := by simpa [Value.cells] using e0
  rw [e0] at hW' ⊢
  have hw1 : ∀ k ∈ d1.weights Try.prog 31, k ≤ reachBytes := fun k hk => by have := List.all_eq_true.1 hreach k (DataW.weights_mem_each (j := 1) rfl rfl k hk); simpa using this
  obtain ⟨g1, rfl, ok1⟩ := open_grid (hval 1 31 v1 rfl rfl) h1 hw1
  refine (matrixTransposes_ret m0 g1 W none_ ok0 ln0 rw0 ok1).mono fun e W' ⟨_, he, hg, _⟩ => ?_
  exact ⟨_, he, post_law (tb := 4) rfl lay (by kernel_rfl) rfl Try.underlying4 hW' rfl hg⟩
theorem closed : joinedFacts Try.prog 11 Try.f11 Rows.matrixTransposesSpec Rows.matrixTransposesRow = true := by
  simp only [joinedFacts, Bool.and_eq_true]
  and_intros
  all_goals first
    | with_reducible exact mayEnter_eq
    | with_reducible exact lifted_eq _ rfl
    | with_reducible exact maked_eq _ rfl
    | kernel_rfl
theorem over : Rows.matrixTransposesRow.holds Try.pinned (OpenSpec.ofChange Rows.matrixTransposesSpec) :=
  OpenClaim.holds_of_wide 11 Try.f11 rfl rfl rfl rfl rfl rfl rfl ⟨rfl, rfl, rfl, rfl, rfl⟩ rfl rfl rfl rfl rfl (by kernel_rfl) Try.func11 closed
    (of_decide_eq_true (by kernel_rfl)) (by unfold Func.isWrapper; first | (rw [if_pos (by decide +kernel)]; kernel_rfl) | (rw [if_neg (by decide +kernel)]; exact ⟨rfl, rfl⟩))
    (fun os started H enc _ => lifted os started H enc)
theorem proved : Rows.MatrixTransposesSaid := over
end Go.Proofs.Ytencodepmbhpiaa.matrixTransposes
#print axioms Go.Proofs.Ytencodepmbhpiaa.matrixTransposes.proved
