/- For every input the law MatrixFits answers true, and its arguments read as before. No condition. -/
import Derived.Test.YtencodepmbhpiaaGf5
import Derived.SizedLaws
set_option linter.unusedVariables false
set_option linter.unusedSimpArgs false
namespace Go.Proofs.Ytencodepmbhpiaa.matrixFits
open Go.ChangeShapes Go.WideShapes Go.ChangeAt Go.RowKit Go.Qk
theorem own : ownKnob Try.prog.godebug = none := by kernel_rfl
theorem lay : laidOutB Try.prog = true := by kernel_rfl
set_option maxRecDepth 100000 in
theorem lifted (os : Os) (started : os.Started) (H : Type) (enc : TypeId × Value → H) :
    ReturnsInHanded {} Try.checked os 15 .any (Rows.matrixFitsSpec.pre6 enc Try.prog Try.f15 Rows.matrixFitsRow.domain false) (Rows.matrixFitsSpec.post enc Try.prog Try.f15 false true false false) := by
  refine returnsInHanded_of_change_sized (C := Try.checked) own started (by kernel_rfl) Try.func15
    (ChangeSpec.witness6 (enc := enc) (C := Try.checked) false ⟨#[], #[.slice none 0 0], []⟩ 8 (by kernel_rfl) (by kernel_rfl) (by kernel_rfl) (by kernel_rfl)) ?_
  intro W base args ds gs before hval0 hW hcnd hreach _
  have hval : ∀ (j : Nat) t v, Try.f15.params[j]? = some t → args[j]? = some v → Value.okWide Try.prog W .any base t v := hval0
  have hW' := hW
  obtain ⟨p, q, hA0, hV, rfl, hfz, hnd⟩ := hW
  have hA : DataW.TrodAll enc Try.prog W 0 (fun _ => true) true Try.f15.params.toList args.toList ds p := hA0
  rw [Try.params15] at hA hval
  obtain ⟨v0, vs0, d0, ds0, p0, q0, hargs, rfl, rfl, h0, r0⟩ := trodAll_cons hA
  obtain ⟨rfl, rfl, rfl⟩ := trodAll_nil r0
  obtain rfl : args = #[v0] := by cases args; simp_all
  obtain ⟨rfl, rfl⟩ := trodVars_none hV
  have hw0 : ∀ k ∈ d0.weights Try.prog 23, k ≤ reachBytes := fun k hk => by have := List.all_eq_true.1 hreach k (DataW.weights_mem_each (j := 0) rfl rfl k hk); simpa using this
  obtain ⟨a0, l0, c0, rfl⟩ := okWide_slice Try.underlying23 (hval 0 23 v0 rfl rfl)
  obtain ⟨fu0, hf0⟩ := h0
  obtain ⟨m0, e0, ok0, ln0, rw0⟩ := open_mt hf0 hw0
  have e0 : Value.slice a0 l0 c0 = m0.v := by simpa [Value.cells] using e0
  rw [e0] at hW' ⊢
  refine (matrixFits_ret m0 W none_ ok0 ln0 rw0).mono fun e W' ⟨_, he, hg, _⟩ => ?_
  exact ⟨_, he, post_law (tb := 4) rfl lay (by kernel_rfl) rfl Try.underlying4 hW' rfl hg⟩
theorem closed : joinedFacts Try.prog 15 Try.f15 Rows.matrixFitsSpec Rows.matrixFitsRow = true := by
  simp only [joinedFacts, Bool.and_eq_true]
  and_intros
  all_goals first
    | with_reducible exact mayEnter_eq
    | with_reducible exact lifted_eq _ rfl
    | with_reducible exact maked_eq _ rfl
    | kernel_rfl
theorem over : Rows.matrixFitsRow.holds Try.pinned (OpenSpec.ofChange Rows.matrixFitsSpec) :=
  OpenClaim.holds_of_wide 15 Try.f15 rfl rfl rfl rfl rfl rfl rfl ⟨rfl, rfl, rfl, rfl, rfl⟩ rfl rfl rfl rfl rfl (by kernel_rfl) Try.func15 closed
    (of_decide_eq_true (by kernel_rfl)) (by unfold Func.isWrapper; first | (rw [if_pos (by decide +kernel)]; kernel_rfl) | (rw [if_neg (by decide +kernel)]; exact ⟨rfl, rfl⟩))
    (fun os started H enc _ => lifted os started H enc)
theorem proved : Rows.MatrixFitsSaid := over
end Go.Proofs.Ytencodepmbhpiaa.matrixFits
#print axioms Go.Proofs.Ytencodepmbhpiaa.matrixFits.proved
