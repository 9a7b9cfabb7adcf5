/- For every input the law MatrixMinors answers true, and its arguments read as before. No condition. -/
import Derived.Test.YtencodepmbhpiaaGq6
import Derived.SizedLaws
set_option linter.unusedVariables false
set_option linter.unusedSimpArgs false
namespace Go.Proofs.Ytencodepmbhpiaa.matrixMinors
open Go.ChangeShapes Go.WideShapes Go.ChangeAt Go.RowKit Go.Qk
theorem own : ownKnob Try.prog.godebug = none := by kernel_rfl
theorem lay : laidOutB Try.prog = true := by kernel_rfl
set_option maxRecDepth 100000 in
theorem lifted (os : Os) (started : os.Started) (H : Type) (enc : TypeId × Value → H) :
    ReturnsInHanded {} Try.checked os 6 .any (Rows.matrixMinorsSpec.pre6 enc Try.prog Try.f6 Rows.matrixMinorsRow.domain false) (Rows.matrixMinorsSpec.post enc Try.prog Try.f6 false true false false) := by
  refine returnsInHanded_of_change_sized (C := Try.checked) own started (by kernel_rfl) Try.func6
    (ChangeSpec.witness6 (enc := enc) (C := Try.checked) false ⟨#[], #[.agg #[.int .u8 0, .int .u8 0, .slice none 0 0], .slice none 0 0, .slice none 0 0, .int .u8 0], []⟩ 8 (by kernel_rfl) (by kernel_rfl) (by kernel_rfl) (by kernel_rfl)) ?_
  intro W base args ds gs before hval0 hW hcnd hreach _
  have hval : ∀ (j : Nat) t v, Try.f6.params[j]? = some t → args[j]? = some v → Value.okWide Try.prog W .any base t v := hval0
  have hW' := hW
  obtain ⟨p, q, hA0, hV, rfl, hfz, hnd⟩ := hW
  have hA : DataW.TrodAll enc Try.prog W 0 (fun _ => true) true Try.f6.params.toList args.toList ds p := hA0
  rw [Try.params6] at hA hval
  obtain ⟨v0, vs0, d0, ds0, p0, q0, hargs, rfl, rfl, h0, r0⟩ := trodAll_cons hA
  obtain ⟨v1, vs1, d1, ds1, p1, q1, rfl, rfl, rfl, h1, r1⟩ := trodAll_cons r0
  obtain ⟨v2, vs2, d2, ds2, p2, q2, rfl, rfl, rfl, h2, r2⟩ := trodAll_cons r1
  obtain ⟨v3, vs3, d3, ds3, p3, q3, rfl, rfl, rfl, h3, r3⟩ := trodAll_cons r2
  obtain ⟨rfl, rfl, rfl⟩ := trodAll_nil r3
  obtain rfl : args = #[v0, v1, v2, v3] := by cases args; simp_all
  obtain ⟨rfl, rfl⟩ := trodVars_none hV
  have hw0 : ∀ k ∈ d0.weights Try.prog 31, k ≤ reachBytes := fun k hk => by have := List.all_eq_true.1 hreach k (DataW.weights_mem_each (j := 0) rfl rfl k hk); simpa using this
  obtain ⟨g0, rfl, ok0⟩ := open_grid (hval 0 31 v0 rfl rfl) h0 hw0
  have hw1 : ∀ k ∈ d1.weights Try.prog 22, k ≤ reachBytes := fun k hk => by have := List.all_eq_true.1 hreach k (DataW.weights_mem_each (j := 1) rfl rfl k hk); simpa using this
  obtain ⟨a1, l1, c1, rfl⟩ := okWide_slice Try.underlying22 (hval 1 22 v1 rfl rfl)
  obtain ⟨fu1, hf1⟩ := h1
  obtain ⟨m1, b1, e1, ok1, ln1⟩ := open_ints hf1 hw1
  have e1 : Value.slice a1 l1 c1 = .slice b1.1 m1.length b1.2 := by simpa [Value.cells] using e1
  rw [e1] at hW' ⊢
  have hw2 : ∀ k ∈ d2.weights Try.prog 22, k ≤ reachBytes := fun k hk => by have := List.all_eq_true.1 hreach k (DataW.weights_mem_each (j := 2) rfl rfl k hk); simpa using this
  obtain ⟨a2, l2, c2, rfl⟩ := okWide_slice Try.underlying22 (hval 2 22 v2 rfl rfl)
  obtain ⟨fu2, hf2⟩ := h2
  obtain ⟨m2, b2, e2, ok2, ln2⟩ := open_ints hf2 hw2
  have e2 : Value.slice a2 l2 c2 = .slice b2.1 m2.length b2.2 := by simpa [Value.cells] using e2
  rw [e2] at hW' ⊢
  obtain ⟨n3, rfl, rfl, rfl, w3⟩ := open_int Try.underlying5 (hval 3 5 v3 rfl rfl) h3
  refine (matrixMinors_ret g0 m1 b1 m2 b2 n3 W none_ ok0 ok1 ln1 ok2 ln2 (wf_u8 w3)).mono fun e W' ⟨_, he, hg, _⟩ => ?_
  exact ⟨_, he, post_law (tb := 4) rfl lay (by kernel_rfl) rfl Try.underlying4 hW' rfl hg⟩
theorem closed : joinedFacts Try.prog 6 Try.f6 Rows.matrixMinorsSpec Rows.matrixMinorsRow = true := by
  simp only [joinedFacts, Bool.and_eq_true]
  and_intros
  all_goals first
    | with_reducible exact mayEnter_eq
    | with_reducible exact lifted_eq _ rfl
    | with_reducible exact maked_eq _ rfl
    | kernel_rfl
theorem over : Rows.matrixMinorsRow.holds Try.pinned (OpenSpec.ofChange Rows.matrixMinorsSpec) :=
  OpenClaim.holds_of_wide 6 Try.f6 rfl rfl rfl rfl rfl rfl rfl ⟨rfl, rfl, rfl, rfl, rfl⟩ rfl rfl rfl rfl rfl (by kernel_rfl) Try.func6 closed
    (of_decide_eq_true (by kernel_rfl)) (by unfold Func.isWrapper; first | (rw [if_pos (by decide +kernel)]; kernel_rfl) | (rw [if_neg (by decide +kernel)]; exact ⟨rfl, rfl⟩))
    (fun os started H enc _ => lifted os started H enc)
theorem proved : Rows.MatrixMinorsSaid := over
end Go.Proofs.Ytencodepmbhpiaa.matrixMinors
#print axioms Go.Proofs.Ytencodepmbhpiaa.matrixMinors.proved
