/- For every input the law MatrixEqual answers true, and its arguments read as before. No condition. -/
import Derived.Test.YtencodepmbhpiaaGw6
import Derived.SizedLaws
set_option linter.unusedVariables false
set_option linter.unusedSimpArgs false
namespace Go.Proofs.Ytencodepmbhpiaa.matrixEqual
open Go.ChangeShapes Go.WideShapes Go.ChangeAt Go.RowKit Go.Qk
theorem own : ownKnob Try.prog.godebug = none := by kernel_rfl
theorem lay : laidOutB Try.prog = true := by kernel_rfl
set_option maxRecDepth 100000 in
theorem lifted (os : Os) (started : os.Started) (H : Type) (enc : TypeId × Value → H) :
    ReturnsInHanded {} Try.checked os 18 .any (Rows.matrixEqualSpec.pre6 enc Try.prog Try.f18 Rows.matrixEqualRow.domain false) (Rows.matrixEqualSpec.post enc Try.prog Try.f18 false true false false) := by
  refine returnsInHanded_of_change_sized (C := Try.checked) own started (by kernel_rfl) Try.func18
    (ChangeSpec.witness6 (enc := enc) (C := Try.checked) false ⟨#[], #[.slice none 0 0, .slice none 0 0, .agg #[.int .u8 0, .int .u8 0, .slice none 0 0], .int .u8 0, .bool false], []⟩ 8 (by kernel_rfl) (by kernel_rfl) (by kernel_rfl) (by kernel_rfl)) ?_
  intro W base args ds gs before hval0 hW hcnd hreach _
  have hval : ∀ (j : Nat) t v, Try.f18.params[j]? = some t → args[j]? = some v → Value.okWide Try.prog W .any base t v := hval0
  have hW' := hW
  obtain ⟨p, q, hA0, hV, rfl, hfz, hnd⟩ := hW
  have hA : DataW.TrodAll enc Try.prog W 0 (fun _ => true) true Try.f18.params.toList args.toList ds p := hA0
  rw [Try.params18] at hA hval
  obtain ⟨v0, vs0, d0, ds0, p0, q0, hargs, rfl, rfl, h0, r0⟩ := trodAll_cons hA
  obtain ⟨v1, vs1, d1, ds1, p1, q1, rfl, rfl, rfl, h1, r1⟩ := trodAll_cons r0
  obtain ⟨v2, vs2, d2, ds2, p2, q2, rfl, rfl, rfl, h2, r2⟩ := trodAll_cons r1
  obtain ⟨v3, vs3, d3, ds3, p3, q3, rfl, rfl, rfl, h3, r3⟩ := trodAll_cons r2
  obtain ⟨v4, vs4, d4, ds4, p4, q4, rfl, rfl, rfl, h4, r4⟩ := trodAll_cons r3
  obtain ⟨rfl, rfl, rfl⟩ := trodAll_nil r4
  obtain rfl : args = #[v0, v1, v2, v3, v4] := by cases args; simp_all
  obtain ⟨rfl, rfl⟩ := trodVars_none hV
  have hw0 : ∀ k ∈ d0.weights Try.prog 23, k ≤ reachBytes := fun k hk => by have := List.all_eq_true.1 hreach k (DataW.weights_mem_each (j := 0) rfl rfl k hk); simpa using this
  obtain ⟨a0, l0, c0, rfl⟩ := okWide_slice Try.underlying23 (hval 0 23 v0 rfl rfl)
  obtain ⟨fu0, hf0⟩ := h0
  obtain ⟨m0, e0, ok0, ln0, rw0⟩ := open_mt hf0 hw0
  have e0 : Value.slice a0 l0 c0 = m0.v := by simpa [Value.cells] using e0
  rw [e0] at hW' ⊢
  have hw1 : ∀ k ∈ d1.weights Try.prog 23, k ≤ reachBytes := fun k hk => by have := List.all_eq_true.1 hreach k (DataW.weights_mem_each (j := 1) rfl rfl k hk); simpa using this
  obtain ⟨a1, l1, c1, rfl⟩ := okWide_slice Try.underlying23 (hval 1 23 v1 rfl rfl)
  obtain ⟨fu1, hf1⟩ := h1
  obtain ⟨m1, e1, ok1, ln1, rw1⟩ := open_mt hf1 hw1
  have e1 : Value.slice a1 l1 c1 = m1.v := by simpa [Value.cells] using e1
  rw [e1] at hW' ⊢
  have hw2 : ∀ k ∈ d2.weights Try.prog 31, k ≤ reachBytes := fun k hk => by have := List.all_eq_true.1 hreach k (DataW.weights_mem_each (j := 2) rfl rfl k hk); simpa using this
  obtain ⟨g2, rfl, ok2⟩ := open_grid (hval 2 31 v2 rfl rfl) h2 hw2
  obtain ⟨n3, rfl, rfl, rfl, w3⟩ := open_int Try.underlying5 (hval 3 5 v3 rfl rfl) h3
  obtain ⟨n4, rfl, rfl, rfl⟩ := open_bool Try.underlying4 (hval 4 4 v4 rfl rfl) h4
  refine (matrixEqual_ret m0 m1 g2 n3 n4 W none_ ok0 ln0 rw0 ok1 ln1 rw1 ok2 (wf_u8 w3)).mono fun e W' ⟨_, he, hg, _⟩ => ?_
  exact ⟨_, he, post_law (tb := 4) rfl lay (by kernel_rfl) rfl Try.underlying4 hW' rfl hg⟩
theorem closed : joinedFacts Try.prog 18 Try.f18 Rows.matrixEqualSpec Rows.matrixEqualRow = true := by
  simp only [joinedFacts, Bool.and_eq_true]
  and_intros
  all_goals first
    | with_reducible exact mayEnter_eq
    | with_reducible exact lifted_eq _ rfl
    | with_reducible exact maked_eq _ rfl
    | kernel_rfl
theorem over : Rows.matrixEqualRow.holds Try.pinned (OpenSpec.ofChange Rows.matrixEqualSpec) :=
  OpenClaim.holds_of_wide 18 Try.f18 rfl rfl rfl rfl rfl rfl rfl ⟨rfl, rfl, rfl, rfl, rfl⟩ rfl rfl rfl rfl rfl (by kernel_rfl) Try.func18 closed
    (of_decide_eq_true (by kernel_rfl)) (by unfold Func.isWrapper; first | (rw [if_pos (by decide +kernel)]; kernel_rfl) | (rw [if_neg (by decide +kernel)]; exact ⟨rfl, rfl⟩))
    (fun os started H enc _ => lifted os started H enc)
theorem proved : Rows.MatrixEqualSaid := over
end Go.Proofs.Ytencodepmbhpiaa.matrixEqual
#print axioms Go.Proofs.Ytencodepmbhpiaa.matrixEqual.proved
