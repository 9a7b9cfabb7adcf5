/- For every input the law MatrixConverts answers true, and its arguments read as before. No condition. -/
import Derived.Test.YtencodepmbhpiaaGc8
import Derived.SizedLaws
set_option linter.unusedVariables false
set_option linter.unusedSimpArgs false
namespace Go.Proofs.Ytencodepmbhpiaa.matrixConverts
open Go.ChangeShapes Go.WideShapes Go.ChangeAt Go.RowKit Go.Qk
theorem own : ownKnob Try.prog.godebug = none := by kernel_rfl
theorem lay : laidOutB Try.prog = true := by kernel_rfl
set_option maxRecDepth 100000 in
theorem lifted (os : Os) (started : os.Started) (H : Type) (enc : TypeId × Value → H) :
    ReturnsInHanded {} Try.checked os 17 .any (Rows.matrixConvertsSpec.pre6 enc Try.prog Try.f17 Rows.matrixConvertsRow.domain false) (Rows.matrixConvertsSpec.post enc Try.prog Try.f17 false true false false) := by
  refine returnsInHanded_of_change_sized (C := Try.checked) own started (by kernel_rfl) Try.func17
    (ChangeSpec.witness6 (enc := enc) (C := Try.checked) false ⟨#[], #[.slice none 0 0], []⟩ 8 (by kernel_rfl) (by kernel_rfl) (by kernel_rfl) (by kernel_rfl)) ?_
  intro W base args ds gs before hval0 hW hcnd hreach _
  have hval : ∀ (j : Nat) t v, Try.f17.params[j]? = some t → args[j]? = some v → Value.okWide Try.prog W .any base t v := hval0
  have hW' := hW
  obtain ⟨p, q, hA0, hV, rfl, hfz, hnd⟩ := hW
  have hA : DataW.TrodAll enc Try.prog W 0 (fun _ => true) true Try.f17.params.toList args.toList ds p := hA0
  rw [Try.params17] at hA hval
  obtain ⟨v0, vs0, d0, ds0, p0, q0, hargs, rfl, rfl, h0, r0⟩ := trodAll_cons hA
  obtain ⟨rfl, rfl, rfl⟩ := trodAll_nil r0
  obtain rfl : args = #[v0] := by cases args; simp_all
  obtain ⟨rfl, rfl⟩ := trodVars_none hV
  have hw0 : ∀ k ∈ d0.weights Try.prog 52, k ≤ reachBytes := fun k hk => by have := List.all_eq_true.1 hreach k (DataW.weights_mem_each (j := 0) rfl rfl k hk); simpa using this
  obtain ⟨a0, l0, c0, rfl⟩ := okWide_slice Try.underlying52 (hval 0 52 v0 rfl rfl)
  obtain ⟨fu0, hf0⟩ := h0
  obtain ⟨m0, e0, ok0, ln0, rw0⟩ := open_xm hf0 hw0
  have e0 : Value.slice a0 l0 c0 = m0.v := by simpa [Value.cells] using e0
  rw [e0] at hW' ⊢
  refine (matrixConverts_ret m0 W none_ ok0 ln0 rw0).mono fun e W' ⟨_, he, hg, _⟩ => ?_
  exact ⟨_, he, post_law (tb := 4) rfl lay (by kernel_rfl) rfl Try.underlying4 hW' rfl hg⟩
theorem closed : joinedFacts Try.prog 17 Try.f17 Rows.matrixConvertsSpec Rows.matrixConvertsRow = true := by
  simp only [joinedFacts, Bool.and_eq_true]
  and_intros
  all_goals first
    | with_reducible exact mayEnter_eq
    | with_reducible exact lifted_eq _ rfl
    | with_reducible exact maked_eq _ rfl
    | kernel_rfl
theorem over : Rows.matrixConvertsRow.holds Try.pinned (OpenSpec.ofChange Rows.matrixConvertsSpec) :=
  OpenClaim.holds_of_wide 17 Try.f17 rfl rfl rfl rfl rfl rfl rfl ⟨rfl, rfl, rfl, rfl, rfl⟩ rfl rfl rfl rfl rfl (by kernel_rfl) Try.func17 closed
    (of_decide_eq_true (by kernel_rfl)) (by unfold Func.isWrapper; first | (rw [if_pos (by decide +kernel)]; kernel_rfl) | (rw [if_neg (by decide +kernel)]; exact ⟨rfl, rfl⟩))
    (fun os started H enc _ => lifted os started H enc)
theorem proved : Rows.MatrixConvertsSaid := over
end Go.Proofs.Ytencodepmbhpiaa.matrixConverts
#print axioms Go.Proofs.Ytencodepmbhpiaa.matrixConverts.proved
