/- Lemmas and contracts of functions that the law reaches. -/
import Derived.Test.YtencodepmbhpiaaGy1
set_option linter.unusedVariables false
set_option linter.unusedSimpArgs false
section
set_option linter.unusedVariables false
set_option linter.unusedSimpArgs false
namespace Go.Qk
open Go Go.RowKit
class Mx (P : Program) : Prop where
  m : P.follows .mixedOrders = true
/-- a fact that no store into the call's own blocks turns -/
def Kp (w0 : World) (S : Nat → Prop) (own : Own) (G : World → Prop) (w : World) : Prop :=
  ∀ w' : World, w.heap.size ≤ w'.heap.size → (∀ k, (w0.heap.size ≤ k ∨ S k) → k < w.heap.size → (∀ p ∈ own, p.1 ≠ k) → w'.heap[k]? = w.heap[k]?) → G w'
theorem Kp.below {w0 w w' : World} {S : Nat → Prop} {own : Own} {G : World → Prop} (h : Kp w0 S own G w) (hb : Below w.heap.size w w') : Kp w0 S own G w' := fun w'' hs hk =>
  h w'' (Nat.le_trans hb.size hs) fun k h1 h2 h3 => by rw [hk k h1 (Nat.lt_of_lt_of_le h2 hb.size) h3, hb.block k h2]
theorem Kp.mono {w0 w : World} {S : Nat → Prop} {own : Own} {G G' : World → Prop} (h : Kp w0 S own G w) (hg : ∀ w, G w → G' w) : Kp w0 S own G' w := fun w' a b => hg _ (h w' a b)
theorem Kp.add {w0 w : World} {X : List Nat} {S : Nat → Prop} {own : Own} {R G : World → Prop} (h : Kp w0 S own G w) (t : SS w0 X S own R w) : SS w0 X S own (fun w => R w ∧ G w) w :=
  ⟨t.os, t.tape, t.output, t.size, t.pres, t.lt, t.has, t.nd, fun w' a b => ⟨t.keep w' a b, h w' a b⟩⟩
theorem SS.kp {w0 w w' : World} {X : List Nat} {S : Nat → Prop} {own : Own} {R F : World → Prop} (h : SS w0 X S own R w) (hf : Fr (Nn w0 S own w) w w' F) : Kp w0 S own F w' := fun w'' hs hk => hf w'' hs fun k h1 h2 => by
  rcases h1 with h1 | h1
  · exact hk k (.inl (Nat.le_trans h.size h1)) h2 fun p hp e => by have := (h.lt p hp).1; omega
  · exact hk k h1.1 h2 h1.2.2
def ResF (w0 : World) (S : Nat → Prop) (own : Own) {α : Type} (val : α → Value) (G : α → World → Prop) : Value → World → Prop := fun u w => ∃ x, u = val x ∧ Kp w0 S own (G x) w
section
variable {P : Program} {ops : Array Oper} {Q : Exit → Act → World → Prop} {n : Nat} {w0 : World} {X : List Nat} {S : Nat → Prop} {own : Own} {R : World → Prop}
abbrev Bl (w w' : World) : Prop := Below w.heap.size w w'
/-- what a reader answers, where the known answers are put in -/
def fix (lk : Nat → Option Value) (ρ : Operand → Value) : Operand → Value := fun x => (ev lk x).getD (ρ x)
theorem fix_agr (lk : Nat → Option Value) (ρ : Operand → Value) : Agr lk (fix lk ρ) := fun x v h => by simp [fix, h]
def noSel : Op → Bool
  | .select _ _ => false
  | _ => true
theorem exec_fix {lk : Nat → Option Value} {a : Act} {o : Oper} (hsel : noSel o.op = true) (h : ∀ t, Operand.tmp t ∈ o.op.operands → ∀ v, lk t = some v → a.tmps.getD t undef = v) : execOp a.eval o = execOp (fix lk a.eval) o := by
  refine execOp_congr o (fun cs b e => by rw [e] at hsel; simp [noSel] at hsel) fun x hx => ?_
  unfold fix
  cases x with
  | tmp t =>
    simp only [ev]
    cases hv : lk t with
    | none => rfl
    | some v =>
      have := h t hx v hv
      simp [Act.eval] at this ⊢
      exact this
  | const v => rfl
  | global g => rfl
  | func f => rfl
theorem mem_looksAt {o : Oper} {t : Nat} (h : Operand.tmp t ∈ o.op.operands) : t ∈ o.looksAt ops := by
  unfold Oper.looksAt
  refine List.mem_append_left _ (List.mem_filterMap.2 ⟨.tmp t, by simpa using h, rfl⟩)
theorem wanted_none {o : Oper} {y : Nat → Option Bool} (h : o.guard = none) : Region.wanted o y = true := by simp [Region.wanted, h]
section
variable {late : Nat → Bool} {i : Nat} {os : List Oper} {Γ : Ctx} {K : Ctx → Prop}
/-- the known slots, and one more: the result of a call -/
def lk1 (Γ : Ctx) (t : Nat) (v : Value) : Nat → Option Value := fun s => bif Nat.beq t s then some v else lkC Γ s
def lk2 (Γ : Ctx) (t : Nat) (v : Value) (t' : Nat) (v' : Value) : Nat → Option Value := fun s => bif Nat.beq t s then some v else bif Nat.beq t' s then some v' else lkC Γ s
theorem dx_q {op : Op} {ty : TypeId} {v : Value} {d : Nat} {pos : String} {af : Array Edge} (hl : late i = false) (hq : Qt P (SS w0 X S own R) (lkC Γ) op ty v) (hsel : noSel op = true)
    (h : Dx P ops Q n (SS w0 X S own R) Bl late (i + 1) os ((d, .val v) :: Γ) K) : Dx P ops Q n (SS w0 X S own R) Bl late i (⟨some d, op, ty, pos, af, none⟩ :: os) Γ K := by
  refine ⟨.val v, .inl ⟨hl, fun _ _ _ _ h => h, fun a w hs hd hJ hok => ?_⟩, h⟩
  rw [if_pos (wanted_none rfl)]
  have e := exec_fix (lk := lkC Γ) (a := a) (o := ⟨some d, op, ty, pos, af, none⟩) hsel fun t ht u hu => by
    unfold lkC at hu
    split at hu
    · rename_i u' he
      injection hu with hu
      subst hu
      exact hok t (mem_looksAt ht) _ he
    · simp at hu
  unfold Oper.wp
  rw [e, hq _ w (fix_agr _ _) hJ]
  exact ⟨v, rfl, Below.refl _ _, hJ, rfl⟩
/-- a quiet operation that looks at the result of a call -/
theorem dx_q1 {α : Type} {val : α → Value} {G : α → World → Prop} (t : Nat) {op : Op} {ty : TypeId} (v : α → Value) {d : Nat} {pos : String} {af : Array Edge} (hl : late i = false) (hΓ : lookC Γ t = some (.pr (ResF w0 S own val G))) (hmem : ∀ o : Oper, o.op = op → t ∈ o.looksAt ops)
    (hq : ∀ x, Qt P (SS w0 X S own fun w => R w ∧ G x w) (lk1 Γ t (val x)) op ty (v x)) (hsel : noSel op = true)
    (h : Dx P ops Q n (SS w0 X S own R) Bl late (i + 1) os ((d, .pr (ResF w0 S own v G)) :: Γ) K) : Dx P ops Q n (SS w0 X S own R) Bl late i (⟨some d, op, ty, pos, af, none⟩ :: os) Γ K := by
  refine ⟨.pr (ResF w0 S own v G), .inl ⟨hl, fun _ _ _ hb ⟨x, e, hk⟩ => ⟨x, e, hk.below hb⟩, fun a w hs hd hJ hok => ?_⟩, h⟩
  rw [if_pos (wanted_none rfl)]
  obtain ⟨x, hx, hk⟩ := hok t (hmem _ rfl) _ hΓ
  have e := exec_fix (lk := lk1 Γ t (val x)) (a := a) (o := ⟨some d, op, ty, pos, af, none⟩) hsel fun s hs u hu => by
    unfold lk1 at hu
    cases hb : Nat.beq t s with
    | true =>
      rw [hb] at hu
      have := Nat.eq_of_beq_eq_true hb
      subst this
      simp at hu
      rw [← hu]; exact hx
    | false =>
      rw [hb] at hu
      simp only [cond_false] at hu
      unfold lkC at hu
      split at hu
      · rename_i u' he
        injection hu with hu
        subst hu
        exact hok s (mem_looksAt hs) _ he
      · simp at hu
  unfold Oper.wp
  rw [e, hq x _ w (fix_agr _ _) (hk.add hJ)]
  exact ⟨v x, rfl, Below.refl _ _, hJ, x, rfl, hk⟩
theorem dx_gT {j : Nat} {dj : Nat} {b : Bool} {op : Op} {ty : TypeId} {d : Option Tmp} {pos : String} {af : Array Edge} (hl : late i = false) (hj : (ops[j]?).bind (·.dst) = some dj) (hv : lkC Γ dj = some (.bool b))
    (h : Dx P ops Q n (SS w0 X S own R) Bl late i (⟨d, op, ty, pos, af, none⟩ :: os) Γ K) : Dx P ops Q n (SS w0 X S own R) Bl late i (⟨d, op, ty, pos, af, some (j, b)⟩ :: os) Γ K := by
  obtain ⟨F, hF, hr⟩ := h
  refine ⟨F, ?_, hr⟩
  rcases hF with ⟨_, h1, h2⟩ | ⟨h0, _⟩
  · refine .inl ⟨hl, h1, fun a w hs hd hJ hok => ?_⟩
    have := h2 a w hs hd hJ fun t ht e he => hok t (by
      unfold Oper.looksAt at ht ⊢
      simp only [List.append_nil] at ht
      exact List.mem_append_left _ ht) e he
    have hmem : dj ∈ Oper.looksAt ops ⟨d, op, ty, pos, af, some (j, b)⟩ := by
      unfold Oper.looksAt
      exact List.mem_append_right _ (by simp only [hj]; simp)
    have hdj : a.tmps.getD dj undef = .bool b := by
      unfold lkC at hv
      split at hv
      · rename_i u he
        injection hv with hv
        subst hv
        exact hok dj hmem _ he
      · simp at hv
    have hy : yielded ops a.tmps j = some b := by
      unfold yielded
      rw [hj, Option.bind_some]
      simp only [Array.getD_eq_getD_getElem?] at hdj
      cases hq : a.tmps[dj]? with
      | none => rw [hq] at hdj; simp [undef] at hdj
      | some u => rw [hq] at hdj; simp at hdj; rw [hdj]
    rw [if_pos (wanted_none rfl)] at this
    rw [if_pos (by simp [Region.wanted, hy])]
    exact this
  · rw [hl] at h0; exact absurd h0 (by simp)
theorem dx_gF {j : Nat} {dj : Nat} {b c : Bool} {op : Op} {ty : TypeId} {d : Nat} {pos : String} {af : Array Edge} (hl : late i = false) (hj : (ops[j]?).bind (·.dst) = some dj) (hv : lkC Γ dj = some (.bool c)) (hbc : (!(c == b)) = true)
    (h : Dx P ops Q n (SS w0 X S own R) Bl late (i + 1) os ((d, .val undef) :: Γ) K) : Dx P ops Q n (SS w0 X S own R) Bl late i (⟨some d, op, ty, pos, af, some (j, b)⟩ :: os) Γ K := by
  refine ⟨.val undef, .inl ⟨hl, fun _ _ _ _ h => h, fun a w hs hd hJ hok => ?_⟩, h⟩
  have hmem : dj ∈ Oper.looksAt ops ⟨some d, op, ty, pos, af, some (j, b)⟩ := by
    unfold Oper.looksAt
    exact List.mem_append_right _ (by simp only [hj]; simp)
  have hdj : a.tmps.getD dj undef = .bool c := by
    unfold lkC at hv
    split at hv
    · rename_i u he
      injection hv with hv
      subst hv
      exact hok dj hmem _ he
    · simp at hv
  have hy : yielded ops a.tmps j = some c := by
    unfold yielded
    rw [hj, Option.bind_some]
    simp only [Array.getD_eq_getD_getElem?] at hdj
    cases hq : a.tmps[dj]? with
    | none => rw [hq] at hdj; simp [undef] at hdj
    | some u => rw [hq] at hdj; simp at hdj; rw [hdj]
  rw [if_neg]
  · rfl
  · simp only [Region.wanted, hy]
    revert hbc
    cases b <;> cases c <;> simp
/-- a call -/
theorem dx_call {α : Type} {c : Operand} {f : FuncId} {pre cap : List Value} {xs : List Operand} {vs : List Value} {ats : Array TypeId} {ty : TypeId} {d : Nat} {pos : String} {af : Array Edge} (val : α → Value) (F : α → World → Prop) (hl : late i = false) [hB : FnB P f]
    (hc : fnv (lkC Γ) c f pre cap) (hxs : evs (lkC Γ) xs = some vs)
    (hcall : ∀ w, SS w0 X S own R w → Ret P f (pre ++ vs ++ cap) w (Nn w0 S own w) val F)
    (h : Dx P ops Q n (SS w0 X S own R) Bl late (i + 1) os ((d, .pr (ResF w0 S own val F)) :: Γ) K) :
    Dx P ops Q n (SS w0 X S own R) Bl late i (⟨some d, .call { callee := .value c, args := xs.toArray, argTypes := ats }, ty, pos, af, none⟩ :: os) Γ K := by
  refine ⟨.pr (ResF w0 S own val F), .inl ⟨hl, fun _ _ _ hb ⟨x, e, hk⟩ => ⟨x, e, hk.below hb⟩, fun a w hs hd hJ hok => ?_⟩, h⟩
  rw [if_pos (wanted_none rfl)]
  have e := exec_fix (lk := lkC Γ) (a := a) (o := ⟨some d, .call { callee := .value c, args := xs.toArray, argTypes := ats }, ty, pos, af, none⟩) rfl fun t ht u hu => by
    unfold lkC at hu
    split at hu
    · rename_i u' he
      injection hu with hu
      subst hu
      exact hok t (mem_looksAt ht) _ he
    · simp at hu
  unfold Oper.wp
  rw [e, run_call (fix_agr _ _) hc hxs, Oper.upon_enter]
  refine (hcall w hJ).mono ?_
  rintro e w' ⟨x, rfl, hb, hf⟩
  exact ⟨val x, rfl, hb, hJ.grow hb, x, rfl, hJ.kp hf⟩
/-- a call whose result is known -/
theorem dx_callv {c : Operand} {f : FuncId} {pre cap : List Value} {xs : List Operand} {vs : List Value} {ats : Array TypeId} {ty : TypeId} {d : Nat} {pos : String} {af : Array Edge} {v : Value} {F : Unit → World → Prop} (hl : late i = false) [hB : FnB P f]
    (hc : fnv (lkC Γ) c f pre cap) (hxs : evs (lkC Γ) xs = some vs)
    (hcall : ∀ w, SS w0 X S own R w → Ret P f (pre ++ vs ++ cap) w (Nn w0 S own w) (fun _ : Unit => v) F)
    (h : Dx P ops Q n (SS w0 X S own R) Bl late (i + 1) os ((d, .val v) :: Γ) K) :
    Dx P ops Q n (SS w0 X S own R) Bl late i (⟨some d, .call { callee := .value c, args := xs.toArray, argTypes := ats }, ty, pos, af, none⟩ :: os) Γ K := by
  refine ⟨.val v, .inl ⟨hl, fun _ _ _ _ h => h, fun a w hs hd hJ hok => ?_⟩, h⟩
  rw [if_pos (wanted_none rfl)]
  have e := exec_fix (lk := lkC Γ) (a := a) (o := ⟨some d, .call { callee := .value c, args := xs.toArray, argTypes := ats }, ty, pos, af, none⟩) rfl fun t ht u hu => by
    unfold lkC at hu
    split at hu
    · rename_i u' he
      injection hu with hu
      subst hu
      exact hok t (mem_looksAt ht) _ he
    · simp at hu
  unfold Oper.wp
  rw [e, run_call (fix_agr _ _) hc hxs, Oper.upon_enter]
  refine (hcall w hJ).mono ?_
  rintro e w' ⟨x, rfl, hb, hf⟩
  exact ⟨v, rfl, hb, hJ.grow hb, rfl⟩
/-- a call that takes the result of another -/
theorem dx_call1 {α β : Type} {val₁ : β → Value} {G₁ : β → World → Prop} (t : Nat) {c : Operand} {f : FuncId} {pre cap : List Value} {xs : List Operand} {vs : β → List Value} {ats : Array TypeId} {ty : TypeId} {d : Nat} {pos : String} {af : Array Edge} (val : α → Value) (F : α → World → Prop) (hl : late i = false) [hB : FnB P f]
    (hΓ : lookC Γ t = some (.pr (ResF w0 S own val₁ G₁))) (hmem : Operand.tmp t ∈ xs) (hc : fnv (lkC Γ) c f pre cap) (hc' : ∀ y, fnv (lk1 Γ t (val₁ y)) c f pre cap) (hxs : ∀ y, evs (lk1 Γ t (val₁ y)) xs = some (vs y))
    (hcall : ∀ y w, SS w0 X S own (fun w => R w ∧ G₁ y w) w → Ret P f (pre ++ vs y ++ cap) w (Nn w0 S own w) val F)
    (h : Dx P ops Q n (SS w0 X S own R) Bl late (i + 1) os ((d, .pr (ResF w0 S own val F)) :: Γ) K) :
    Dx P ops Q n (SS w0 X S own R) Bl late i (⟨some d, .call { callee := .value c, args := xs.toArray, argTypes := ats }, ty, pos, af, none⟩ :: os) Γ K := by
  refine ⟨.pr (ResF w0 S own val F), .inl ⟨hl, fun _ _ _ hb ⟨x, e, hk⟩ => ⟨x, e, hk.below hb⟩, fun a w hs hd hJ hok => ?_⟩, h⟩
  rw [if_pos (wanted_none rfl)]
  have hop : Operand.tmp t ∈ (Op.call { callee := .value c, args := xs.toArray, argTypes := ats }).operands := by
    simp only [Op.operands, Call.operands]
    exact Array.mem_append.2 (.inr (by simpa using hmem))
  obtain ⟨y, hy, hk⟩ := hok t (mem_looksAt hop) _ hΓ
  have e := exec_fix (lk := lk1 Γ t (val₁ y)) (a := a) (o := ⟨some d, .call { callee := .value c, args := xs.toArray, argTypes := ats }, ty, pos, af, none⟩) rfl fun s hs u hu => by
    unfold lk1 at hu
    cases hb : Nat.beq t s with
    | true =>
      rw [hb] at hu
      have := Nat.eq_of_beq_eq_true hb
      subst this
      simp at hu
      rw [← hu]; exact hy
    | false =>
      rw [hb] at hu
      simp only [cond_false] at hu
      unfold lkC at hu
      split at hu
      · rename_i u' he
        injection hu with hu
        subst hu
        exact hok s (mem_looksAt hs) _ he
      · simp at hu
  unfold Oper.wp
  rw [e, run_call (fix_agr _ _) (hc' y) (hxs y), Oper.upon_enter]
  refine (hcall y w (hk.add hJ)).mono ?_
  rintro e w' ⟨x, rfl, hb, hf⟩
  exact ⟨val x, rfl, hb, hJ.grow hb, x, rfl, (hk.add hJ).kp hf⟩
/-- a call that takes the results of two others -/
theorem dx_call2 {α β γ : Type} {val₁ : β → Value} {G₁ : β → World → Prop} {val₂ : γ → Value} {G₂ : γ → World → Prop} (t t' : Nat) {c : Operand} {f : FuncId} {pre cap : List Value} {xs : List Operand} {vs : β → γ → List Value} {ats : Array TypeId} {ty : TypeId} {d : Nat} {pos : String} {af : Array Edge} (val : α → Value) (F : α → World → Prop) (hl : late i = false) [hB : FnB P f]
    (hΓ : lookC Γ t = some (.pr (ResF w0 S own val₁ G₁))) (hΓ' : lookC Γ t' = some (.pr (ResF w0 S own val₂ G₂))) (hmem : Operand.tmp t ∈ xs) (hmem' : Operand.tmp t' ∈ xs) (hc' : ∀ y z, fnv (lk2 Γ t (val₁ y) t' (val₂ z)) c f pre cap) (hxs : ∀ y z, evs (lk2 Γ t (val₁ y) t' (val₂ z)) xs = some (vs y z))
    (hcall : ∀ y z w, SS w0 X S own (fun w => (R w ∧ G₁ y w) ∧ G₂ z w) w → Ret P f (pre ++ vs y z ++ cap) w (Nn w0 S own w) val F)
    (h : Dx P ops Q n (SS w0 X S own R) Bl late (i + 1) os ((d, .pr (ResF w0 S own val F)) :: Γ) K) :
    Dx P ops Q n (SS w0 X S own R) Bl late i (⟨some d, .call { callee := .value c, args := xs.toArray, argTypes := ats }, ty, pos, af, none⟩ :: os) Γ K := by
  refine ⟨.pr (ResF w0 S own val F), .inl ⟨hl, fun _ _ _ hb ⟨x, e, hk⟩ => ⟨x, e, hk.below hb⟩, fun a w hs hd hJ hok => ?_⟩, h⟩
  rw [if_pos (wanted_none rfl)]
  have hop : ∀ s, Operand.tmp s ∈ xs → Operand.tmp s ∈ (Op.call { callee := .value c, args := xs.toArray, argTypes := ats }).operands := by
    intro s hs
    simp only [Op.operands, Call.operands]
    exact Array.mem_append.2 (.inr (by simpa using hs))
  obtain ⟨y, hy, hk⟩ := hok t (mem_looksAt (hop t hmem)) _ hΓ
  obtain ⟨z, hz, hk'⟩ := hok t' (mem_looksAt (hop t' hmem')) _ hΓ'
  have e := exec_fix (lk := lk2 Γ t (val₁ y) t' (val₂ z)) (a := a) (o := ⟨some d, .call { callee := .value c, args := xs.toArray, argTypes := ats }, ty, pos, af, none⟩) rfl fun s hs u hu => by
    unfold lk2 at hu
    cases hb : Nat.beq t s with
    | true =>
      rw [hb] at hu
      have := Nat.eq_of_beq_eq_true hb
      subst this
      simp at hu
      rw [← hu]; exact hy
    | false =>
      rw [hb] at hu
      simp only [cond_false] at hu
      cases hb' : Nat.beq t' s with
      | true =>
        rw [hb'] at hu
        have := Nat.eq_of_beq_eq_true hb'
        subst this
        simp at hu
        rw [← hu]; exact hz
      | false =>
        rw [hb'] at hu
        simp only [cond_false] at hu
        unfold lkC at hu
        split at hu
        · rename_i u' he
          injection hu with hu
          subst hu
          exact hok s (mem_looksAt hs) _ he
        · simp at hu
  unfold Oper.wp
  rw [e, run_call (fix_agr _ _) (hc' y z) (hxs y z), Oper.upon_enter]
  refine (hcall y z w (hk'.add (hk.add hJ))).mono ?_
  rintro e w' ⟨x, rfl, hb, hf⟩
  exact ⟨val x, rfl, hb, hJ.grow hb, x, rfl, (hk'.add (hk.add hJ)).kp hf⟩
/-- an operation that may come in the midst of the tail -/
theorem dx_late {op : Op} {ty : TypeId} {v : Value} {d : Nat} {pos : String} {af : Array Edge} (hl : late i = true) (hq : Qt P (fun _ => True) (lkC Γ) op ty v) (hsel : noSel op = true)
    (h : Dx P ops Q n (SS w0 X S own R) Bl late (i + 1) os ((d, .val v) :: Γ) K) : Dx P ops Q n (SS w0 X S own R) Bl late i (⟨some d, op, ty, pos, af, none⟩ :: os) Γ K := by
  refine ⟨.val v, .inr ⟨hl, rfl, fun _ _ _ h => h, fun a w hs hok => ?_⟩, h⟩
  have e := exec_fix (lk := lkC Γ) (a := a) (o := ⟨some d, op, ty, pos, af, none⟩) hsel fun t ht u hu => by
    unfold lkC at hu
    split at hu
    · rename_i u' he
      injection hu with hu
      subst hu
      obtain ⟨_, h⟩ := hok t (mem_looksAt ht) _ he
      exact h
    · simp at hu
  exact ⟨v, by rw [e]; exact hq _ w (fix_agr _ _) trivial _ _ _ _, rfl⟩
/-- a part of a call's result that nobody looks at -/
theorem dx_dead {α : Type} {val : α → Value} {G : α → World → Prop} (t : Nat) {k : Nat} {ty : TypeId} {d : Nat} {pos : String} {af : Array Edge} (hl : late i = true) (hΓ : lookC Γ t = some (.pr (ResF w0 S own val G))) (hv : ∀ x, ∃ vs v, val x = .tuple vs ∧ vs[k]? = some v)
    (h : Dx P ops Q n (SS w0 X S own R) Bl late (i + 1) os ((d, .pr fun _ _ => True) :: Γ) K) : Dx P ops Q n (SS w0 X S own R) Bl late i (⟨some d, .extract (.tmp t) k, ty, pos, af, none⟩ :: os) Γ K := by
  refine ⟨.pr fun _ _ => True, .inr ⟨hl, rfl, fun _ _ _ h => h, fun a w hs hok => ?_⟩, h⟩
  obtain ⟨w1, x, hx, _⟩ := hok t (mem_looksAt (by simp [Op.operands])) _ hΓ
  obtain ⟨vs, v, h1, h2⟩ := hv x
  refine ⟨v, ?_, trivial⟩
  have e : a.eval (.tmp t) = .tuple vs := by
    simp only [Act.eval]
    rw [← h1]; exact hx
  simp [execOp, e, Instr.extract, h2]
end
def Sx (n : Nat) (w0 : World) (X : List Nat) (S : Nat → Prop) (E : Env) (own : Own) (R : World → Prop) : Act → World → Prop := fun a w => St n a E ∧ SS w0 X S own R w
def noLate (sl : List Nat) (E : Env) : Bool := sl.all fun t => (look E t).isNone
theorem sx_closed {sl : List Nat} {E : Env} (h : noLate sl E = true) : Closed sl (Sx n w0 X S E own R) := by
  rintro a w d v hd ⟨s, t⟩
  refine ⟨⟨by rw [size_put]; exact s.size, by rw [defers_put]; exact s.defers, fun q u hq => ?_⟩, t⟩
  have hne : d ≠ q := by
    intro e
    subst e
    have := List.all_eq_true.1 h d hd
    rw [hq] at this
    simp at this
  simp only [Act.put]
  rw [Array.getElem?_setIfInBounds_ne hne]
  exact s.has q u hq
def Es (P : Program) (ops : Array Oper) (Q : Exit → Act → World → Prop) (n : Nat) (w0 : World) (X : List Nat) (S : Nat → Prop) (own : Own) (sl : List Nat) (os : List Oper) (Γ : Ctx) (ks : List Nat) (E : Env) (R : World → Prop) : Prop :=
  ∃ A0, Closed sl A0 ∧ (∀ a w, a.tmps.size = n → a.defers = [] → SS w0 X S own R w → (∀ t v, look E t = some v → a.tmps[t]? = some v) → (∀ t ∈ ks, ∀ e, lookC Γ t = some e → e.ok (a.tmps.getD t undef) w) → A0 a w) ∧ Tx P ops Q n sl Γ os A0
theorem tx_ex {sl : List Nat} {Γ : Ctx} {ι : Type} {os : List Oper} : ∀ {A : ι → Act → World → Prop}, (∀ x, Tx P ops Q n sl Γ os (A x)) → Tx P ops Q n sl Γ os (fun a w => ∃ x, A x a w) := by
  induction os with
  | nil => intro A h a w hs hd hA hl; obtain ⟨x, hx⟩ := hA; exact h x a w hs hd hx hl
  | cons o os ih =>
    intro A h
    let A' : ι → Act → World → Prop := fun x => Classical.choose (h x)
    have hA' : ∀ x, Closed sl (A' x) ∧ TailOb P ops Q n sl Γ o (A x) (A' x) ∧ Tx P ops Q n sl Γ os (A' x) := fun x => Classical.choose_spec (h x)
    refine ⟨fun a w => ∃ x, A' x a w, fun a w d v hd ⟨x, hx⟩ => ⟨x, (hA' x).1 a w d v hd hx⟩, fun a w hs hd hA hl => ?_, ih fun x => (hA' x).2.2⟩
    obtain ⟨x, hx⟩ := hA
    obtain ⟨h1, h2⟩ := (hA' x).2.1 a w hs hd hx hl
    exact ⟨h1, Oper.wp_mono (fun a' w' h => ⟨h.1, x, h.2⟩) h2⟩
theorem es_val {sl : List Nat} {os : List Oper} {Γ : Ctx} {ks : List Nat} {E : Env} {t : Nat} {v : Value} (hΓ : lookC Γ t = some (.val v)) (h : Es P ops Q n w0 X S own sl os Γ ks ((t, v) :: E) R) (ht : Nat.blt t n = true) : Es P ops Q n w0 X S own sl os Γ (t :: ks) E R := by
  obtain ⟨A0, h1, h2, h3⟩ := h
  refine ⟨A0, h1, fun a w hs hd hJ hE hk => h2 a w hs hd hJ (fun q u hq => ?_) fun q hq => hk q (List.mem_cons_of_mem _ hq), h3⟩
  simp only [look] at hq
  cases hb : Nat.beq t q with
  | true =>
    rw [hb] at hq
    have := Nat.eq_of_beq_eq_true hb
    subst this
    simp at hq
    have := hk t (by simp) _ hΓ
    have hlt : t < a.tmps.size := by rw [hs]; simpa using ht
    simp only [Ent.ok, Array.getD_eq_getD_getElem?, Array.getElem?_eq_getElem hlt, Option.getD_some] at this
    rw [Array.getElem?_eq_getElem hlt, this, hq]
  | false => rw [hb] at hq; exact hE q u hq
theorem es_res {sl : List Nat} {os : List Oper} {Γ : Ctx} {ks : List Nat} {E : Env} {t : Nat} {α : Type} {val : α → Value} {G : α → World → Prop} (hΓ : lookC Γ t = some (.pr (ResF w0 S own val G))) (h : ∀ x, Es P ops Q n w0 X S own sl os Γ ks ((t, val x) :: E) (fun w => R w ∧ G x w)) (ht : Nat.blt t n = true) :
    Es P ops Q n w0 X S own sl os Γ (t :: ks) E R := by
  let A0 : α → Act → World → Prop := fun x => Classical.choose (h x)
  have hA : ∀ x, _ := fun x => Classical.choose_spec (h x)
  refine ⟨fun a w => ∃ x, A0 x a w, fun a w d v hd ⟨x, hx⟩ => ⟨x, (hA x).1 a w d v hd hx⟩, fun a w hs hd hJ hE hk => ?_, tx_ex fun x => (hA x).2.2⟩
  obtain ⟨x, hx, hkp⟩ := hk t (by simp) _ hΓ
  refine ⟨x, (hA x).2.1 a w hs hd (hkp.add hJ) (fun q u hq => ?_) fun q hq => hk q (List.mem_cons_of_mem _ hq)⟩
  simp only [look] at hq
  cases hb : Nat.beq t q with
  | true =>
    rw [hb] at hq
    have := Nat.eq_of_beq_eq_true hb
    subst this
    simp at hq
    have hlt : t < a.tmps.size := by rw [hs]; simpa using ht
    simp only [Array.getD_eq_getD_getElem?, Array.getElem?_eq_getElem hlt, Option.getD_some] at hx
    rw [Array.getElem?_eq_getElem hlt, hx, hq]
  | false => rw [hb] at hq; exact hE q u hq
theorem es_nil {sl : List Nat} {os : List Oper} {Γ : Ctx} {E : Env} (hE : noLate sl E = true) (h : Tx P ops Q n sl Γ os (Sx n w0 X S E own R)) : Es P ops Q n w0 X S own sl os Γ [] E R :=
  ⟨_, sx_closed hE, fun a w hs hd hJ hE _ => ⟨⟨hs, hd, hE⟩, hJ⟩, h⟩
theorem tx_end {sl : List Nat} {Γ : Ctx} {E : Env} (h : Tr n w0 X S E own R (Q .normal)) : Tx P ops Q n sl Γ [] (Sx n w0 X S E own R) := fun a w _ _ ⟨s, t⟩ _ => h a w s t
theorem tx_endk {sl : List Nat} {Γ : Ctx} {E : Env} {k : Act → World → Prop} (h : Tr n w0 X S E own R k) : Tx P ops (Exit.then k Q) n sl Γ [] (Sx n w0 X S E own R) := fun a w _ _ ⟨s, t⟩ _ => h a w s t
/-- slots of the tail's own state, and late ones -/
def lkT (E : Env) (sl : List Nat) (Γ : Ctx) : Nat → Option Value := fun s => match look E s with
  | some v => some v
  | none => if sl.contains s then lkC Γ s else none
theorem tail_fix {sl : List Nat} {Γ : Ctx} {E : Env} {o : Oper} {a : Act} (hsel : noSel o.op = true) (s : St n a E) (hl : ∀ t ∈ sl, t ∈ o.looksAt ops → ∀ e, lookC Γ t = some e → ∃ w1, e.ok (a.tmps.getD t undef) w1) : execOp a.eval o = execOp (fix (lkT E sl Γ) a.eval) o := by
  refine exec_fix hsel fun t ht u hu => ?_
  unfold lkT at hu
  split at hu
  · rename_i v hv
    injection hu with hu
    subst hu
    simp [s.has t v hv]
  · split at hu
    · rename_i hc
      unfold lkC at hu
      split at hu
      · rename_i u' he
        injection hu with hu
        subst hu
        obtain ⟨_, h⟩ := hl t (by simpa using hc) (mem_looksAt ht) _ he
        exact h
      · simp at hu
    · simp at hu
theorem tx_q {sl : List Nat} {Γ : Ctx} {E : Env} {os : List Oper} {op : Op} {ty : TypeId} {v : Value} {d : Nat} {pos : String} {af : Array Edge} (hq : Qt P (SS w0 X S own R) (lkT E sl Γ) op ty v) (hsel : noSel op = true) (hd : Nat.blt d n = true) (hE : noLate sl ((d, v) :: E) = true)
    (h : Tx P ops Q n sl Γ os (Sx n w0 X S ((d, v) :: E) own R)) : Tx P ops Q n sl Γ (⟨some d, op, ty, pos, af, none⟩ :: os) (Sx n w0 X S E own R) := by
  refine ⟨Sx n w0 X S ((d, v) :: E) own R, sx_closed hE, fun a w hs hdf ⟨s, t⟩ hl => ⟨rfl, ?_⟩, h⟩
  unfold Oper.wp
  rw [tail_fix (o := ⟨some d, op, ty, pos, af, none⟩) hsel s hl, hq _ w (fix_agr _ _) t]
  exact ⟨⟨v, rfl⟩, s.put hd v, t⟩
theorem tx_store (i : Nat) {sl : List Nat} {Γ : Ctx} {E : Env} {os : List Oper} {t : TypeId} {agg : Bool} {sz by_ : Nat} {z : Value} [hT : TyI P t agg sz by_ z] {x y : Operand} {r off : Nat} {l : List Value} {e : TypeId} {v : Value} {ty : TypeId} {pos : String} {af : Array Edge} (hx : ev (lkT E sl Γ) x = some (.pointer (some ⟨r, off, none⟩))) (hy : ev (lkT E sl Γ) y = some v)
    (hi : ownAt own i = some (r, .cells l.toArray e (0, 0))) (hv : v.cells.size = sz) (hl : off + sz ≤ l.length) (hsz : Nat.blt 0 sz = true) (h1 : one' v.cells.toList = true) (hE : noLate sl E = true)
    (h : Tx P ops Q n sl Γ os (Sx n w0 X S E (ownSet own i (.cells (wr l off v.cells.toList).toArray e (0, 0))) R)) : Tx P ops Q n sl Γ (⟨none, .store t x y, ty, pos, af, none⟩ :: os) (Sx n w0 X S E own R) := by
  refine ⟨Sx n w0 X S E (ownSet own i (.cells (wr l off v.cells.toList).toArray e (0, 0))) R, sx_closed hE, fun a w hs hdf ⟨s, t'⟩ hl' => ⟨rfl, ?_⟩, h⟩
  obtain ⟨w', e1, e2⟩ := run_storeVar_own (P := P) (t := t) (w := w) (off := off) (v := v) (t'.has _ (ownAt_mem hi)) hv hl (by simpa using hsz) (fun u hu => (List.all_eq_true.1 h1) u hu)
  have e : (execOp (fix (lkT E sl Γ) a.eval) ⟨none, .store t x y, ty, pos, af, none⟩).run P w = .ok .skip w' := by
    simp only [execOp, fix_agr _ _ x _ hx, fix_agr _ _ y _ hy, Instr.storeAt, Instr.sureAddr, Sem.run_bind, Sem.run_pure, Result.andThen_ok, e1]
  unfold Oper.wp
  rw [tail_fix (o := ⟨none, .store t x y, ty, pos, af, none⟩) rfl s hl', e]
  exact ⟨⟨undef, rfl⟩, s, t'.upd hi e2⟩
theorem dx_nil {late : Nat → Bool} {i : Nat} {Γ : Ctx} {K : Ctx → Prop} {J : World → Prop} {T : World → World → Prop} (h : K Γ) : Dx P ops Q n J T late i [] Γ K := h
theorem es_skip {sl : List Nat} {os : List Oper} {Γ : Ctx} {ks : List Nat} {E : Env} {t : Nat} (hΓ : lookC Γ t = none) (h : Es P ops Q n w0 X S own sl os Γ ks E R) : Es P ops Q n w0 X S own sl os Γ (t :: ks) E R := by
  obtain ⟨A0, h1, h2, h3⟩ := h
  exact ⟨A0, h1, fun a w hs hd hJ hE hk => h2 a w hs hd hJ hE fun q hq => hk q (List.mem_cons_of_mem _ hq), h3⟩
theorem dx_mono {J : World → Prop} {T : World → World → Prop} {late late' : Nat → Bool} {K1 K2 : Ctx → Prop} (hk : ∀ Γ, K1 Γ → K2 Γ) : ∀ (os : List Oper) (i : Nat) (Γ : Ctx), (∀ j, i ≤ j → j < i + os.length → late j = late' j) → Dx P ops Q n J T late i os Γ K1 → Dx P ops Q n J T late' i os Γ K2 := by
  intro os
  induction os with
  | nil => intro i Γ _ h; exact hk _ h
  | cons o os ih =>
    intro i Γ hl ⟨F, hF, h⟩
    refine ⟨F, ?_, ih _ _ (fun j h1 h2 => hl j (by omega) (by simp; omega)) h⟩
    rw [← hl i (Nat.le_refl _) (by simp)]
    exact hF
def chkD (l : List Oper) (n K : Nat) (fl sl ks : List Nat) : Bool :=
  chkR l.toArray n K && (List.range K).all (fun i => lateB l.toArray K i == fl.contains i) && (lateSl l.toArray K == sl) && ks.all (fun t => !sl.contains t)
theorem tr_draw (K : Nat) (fl sl ks : List Nat) [hM : Mx P] {id : Nat} {dr : Bool} {l : List Oper} {E : Env} (hc : chkD l n K fl sl ks = true)
    (hx : Dx P l.toArray Q n (SS w0 X S own R) Bl (fun i => fl.contains i) 0 (l.take K) (ctx0 E) fun Γ => Es P l.toArray Q n w0 X S own sl (l.drop K) Γ ks [] R) : Tr n w0 X S E own R ((Code.region id l.toArray dr).wp P Q) := by
  intro a w s t
  unfold chkD at hc
  simp only [Bool.and_eq_true] at hc
  obtain ⟨⟨⟨c1, c2⟩, c3⟩, c4⟩ := hc
  have c3' : lateSl l.toArray K = sl := by simpa using c3
  have hK : K ≤ l.length := by have := (chkR_ok c1).le; simpa using this
  refine region_dx (J := SS w0 X S own R) (T := Bl) K [] E hM.m c1 (fun i hi => nomatch hi) (fun _ _ h => h.size) (fun w => Below.refl _ _) (fun m => t.drawn m) s.size s.defers (fun q v hv => by simp [s.has q v hv]) ?_
  rw [c3']
  refine dx_mono ?_ _ _ _ ?_ (by simpa using hx)
  · rintro Γ ⟨A0, h1, h2, h3⟩
    refine ⟨A0, h1, fun a w hs hd hJ hk _ => h2 a w hs hd hJ (by intro t v h; simp [look] at h) fun q hq e he => hk q ?_ e he, by simpa using h3⟩
    have := List.all_eq_true.1 c4 q hq
    intro hm
    rw [show sl.contains q = true by simpa using hm] at this
    simp at this
  · intro j _ h2
    have hj : j < K := by simp at h2; omega
    have := List.all_eq_true.1 c2 j (by simpa using hj)
    simpa using (by simpa using this : lateB l.toArray K j = fl.contains j).symm
theorem tr_draw0 (ks : List Nat) [hM : Mx P] {id : Nat} {dr : Bool} {l : List Oper} {E : Env} (hc : chkR l.toArray n l.length = true)
    (hx : Dx P l.toArray Q n (SS w0 X S own R) Bl (fun _ => false) 0 l (ctx0 E) fun Γ => Es P l.toArray Q n w0 X S own [] [] Γ ks [] R) : Tr n w0 X S E own R ((Code.region id l.toArray dr).wp P Q) := by
  have hl : ∀ i, lateB l.toArray l.length i = false := by
    intro i
    unfold lateB
    rw [List.drop_of_length_le (by simp)]
    rfl
  have hsl : lateSl l.toArray l.length = [] := by
    unfold lateSl
    rw [List.filter_eq_nil_iff.2 (by intro i _; rw [hl i]; simp)]
    rfl
  refine tr_draw l.length [] [] ks ?_ ?_
  · unfold chkD
    rw [hc, hsl]
    simp [hl]
  · rw [List.take_length, List.drop_length]
    exact dx_mono (fun _ h => h) _ _ _ (fun _ _ _ => rfl) hx
theorem tr_rdraw (K : Nat) (fl sl ks : List Nat) [hM : Mx P] {id : Nat} {dr : Bool} {l : List Oper} {E : Env} {d : Code} (hc : chkD l n K fl sl ks = true)
    (hx : Dx P l.toArray (Exit.then (d.wp P Q) Q) n (SS w0 X S own R) Bl (fun i => fl.contains i) 0 (l.take K) (ctx0 E) fun Γ => Es P l.toArray (Exit.then (d.wp P Q) Q) n w0 X S own sl (l.drop K) Γ ks [] R) : Tr n w0 X S E own R ((Code.seq (.region id l.toArray dr) d).wp P Q) := tr_seq (tr_draw K fl sl ks hc hx)
theorem tr_rdraw0 (ks : List Nat) [hM : Mx P] {id : Nat} {dr : Bool} {l : List Oper} {E : Env} {d : Code} (hc : chkR l.toArray n l.length = true)
    (hx : Dx P l.toArray (Exit.then (d.wp P Q) Q) n (SS w0 X S own R) Bl (fun _ => false) 0 l (ctx0 E) fun Γ => Es P l.toArray (Exit.then (d.wp P Q) Q) n w0 X S own [] [] Γ ks [] R) : Tr n w0 X S E own R ((Code.seq (.region id l.toArray dr) d).wp P Q) := tr_seq (tr_draw0 ks hc hx)
end
end Go.Qk
end
section
namespace Go.Qk
open Go Go.Proofs
instance : TyI Try.prog 2 false 1 8 (.int .i64 0) := ⟨by kernel_rfl, by kernel_rfl⟩
instance : TyI Try.prog 3 false 1 8 (.int .i64 0) := ⟨by kernel_rfl, by kernel_rfl⟩
instance : TyI Try.prog 4 false 1 1 (.bool false) := ⟨by kernel_rfl, by kernel_rfl⟩
instance : TyI Try.prog 5 false 1 1 (.int .u8 0) := ⟨by kernel_rfl, by kernel_rfl⟩
instance : TyI Try.prog 106 false 1 1 (.int .i8 0) := ⟨by kernel_rfl, by kernel_rfl⟩
instance : TyI Try.prog 57 false 1 4 (.int .u32 0) := ⟨by kernel_rfl, by kernel_rfl⟩
instance : TyI Try.prog 33 false 1 24 (.slice none 0 0) := ⟨by kernel_rfl, by kernel_rfl⟩
instance : TyI Try.prog 22 false 1 24 (.slice none 0 0) := ⟨by kernel_rfl, by kernel_rfl⟩
instance : TyI Try.prog 29 false 1 24 (.slice none 0 0) := ⟨by kernel_rfl, by kernel_rfl⟩
instance : TyI Try.prog 71 false 1 24 (.slice none 0 0) := ⟨by kernel_rfl, by kernel_rfl⟩
instance : TyI Try.prog 44 false 1 24 (.slice none 0 0) := ⟨by kernel_rfl, by kernel_rfl⟩
instance : TyI Try.prog 23 false 1 24 (.slice none 0 0) := ⟨by kernel_rfl, by kernel_rfl⟩
instance : TyI Try.prog 35 true 2 32 (.agg #[.bool false, .slice none 0 0]) := ⟨by kernel_rfl, by kernel_rfl⟩
instance : TyI Try.prog 31 true 3 32 (.agg #[.int .u8 0, .int .u8 0, .slice none 0 0]) := ⟨by kernel_rfl, by kernel_rfl⟩
instance : SlT Try.prog 33 57 := ⟨Try.underlying33⟩
instance : SlT Try.prog 22 3 := ⟨Try.underlying22⟩
instance : SlT Try.prog 29 106 := ⟨Try.underlying29⟩
instance : SlT Try.prog 71 2 := ⟨Try.underlying71⟩
instance : SlT Try.prog 52 71 := ⟨Try.underlying52⟩
instance : SlT Try.prog 44 35 := ⟨Try.underlying44⟩
instance : SlT Try.prog 23 44 := ⟨Try.underlying23⟩
instance : InT Try.prog 2 .i64 := ⟨Try.underlying2⟩
instance : InT Try.prog 3 .i64 := ⟨Try.underlying3⟩
instance : InT Try.prog 5 .u8 := ⟨Try.underlying5⟩
instance : InT Try.prog 106 .i8 := ⟨Try.underlying106⟩
instance : InT Try.prog 57 .u32 := ⟨Try.underlying57⟩
instance : InT Try.prog 95 .u64 := ⟨Try.underlying95⟩
instance : InT Try.prog 96 .u64 := ⟨Try.underlying96⟩
instance : FdT Try.prog 35 0 0 4 := ⟨⟨_, _, Try.underlying35, rfl, rfl, rfl⟩⟩
instance : FdT Try.prog 35 1 1 33 := ⟨⟨_, _, Try.underlying35, rfl, rfl, rfl⟩⟩
instance : FdT Try.prog 31 0 0 5 := ⟨⟨_, _, Try.underlying31, rfl, rfl, rfl⟩⟩
instance : FdT Try.prog 31 1 1 5 := ⟨⟨_, _, Try.underlying31, rfl, rfl, rfl⟩⟩
instance : FdT Try.prog 31 2 2 29 := ⟨⟨_, _, Try.underlying31, rfl, rfl, rfl⟩⟩
instance : FdT Try.prog 88 0 0 29 := ⟨⟨_, _, Try.underlying88, rfl, rfl, rfl⟩⟩
instance : FdT Try.prog 88 1 1 3 := ⟨⟨_, _, Try.underlying88, rfl, rfl, rfl⟩⟩
theorem mixed : Try.prog.follows .mixedOrders = true := by kernel_rfl
instance : Mx Try.prog := ⟨mixed⟩
theorem stringT : Try.prog.underlying 9 = some .string := Try.underlying9
theorem boolT : Try.prog.underlying 4 = some .bool := Try.underlying4
theorem built0 : Try.prog.built 35 [] = some #[.bool false, .slice none 0 0] := by kernel_rfl
theorem built2 (b : Bool) (A : Option Addr) (l c : Nat) : Try.prog.built 35 [(0, .bool b), (1, .slice A l c)] = some #[.bool b, .slice A l c] := by kernel_rfl
end Go.Qk
end
section
namespace Go.Qk
open Go Go.Proofs
instance : FnB Try.prog 20 := ⟨⟨_, _, Try.func20, rfl, rfl⟩⟩
instance : FnB Try.prog 22 := ⟨⟨_, _, Try.func22, rfl, rfl⟩⟩
instance : FnB Try.prog 23 := ⟨⟨_, _, Try.func23, rfl, rfl⟩⟩
instance : FnB Try.prog 24 := ⟨⟨_, _, Try.func24, rfl, rfl⟩⟩
instance : FnB Try.prog 25 := ⟨⟨_, _, Try.func25, rfl, rfl⟩⟩
instance : FnB Try.prog 28 := ⟨⟨_, _, Try.func28, rfl, rfl⟩⟩
instance : FnB Try.prog 30 := ⟨⟨_, _, Try.func30, rfl, rfl⟩⟩
instance : FnB Try.prog 31 := ⟨⟨_, _, Try.func31, rfl, rfl⟩⟩
instance : FnB Try.prog 33 := ⟨⟨_, _, Try.func33, rfl, rfl⟩⟩
instance : FnB Try.prog 38 := ⟨⟨_, _, Try.func38, rfl, rfl⟩⟩
instance : FnB Try.prog 40 := ⟨⟨_, _, Try.func40, rfl, rfl⟩⟩
instance : FnB Try.prog 43 := ⟨⟨_, _, Try.func43, rfl, rfl⟩⟩
instance : FnB Try.prog 44 := ⟨⟨_, _, Try.func44, rfl, rfl⟩⟩
instance : FnB Try.prog 45 := ⟨⟨_, _, Try.func45, rfl, rfl⟩⟩
instance : FnB Try.prog 51 := ⟨⟨_, _, Try.func51, rfl, rfl⟩⟩
instance : FnB Try.prog 58 := ⟨⟨_, _, Try.func58, rfl, rfl⟩⟩
instance : FnB Try.prog 60 := ⟨⟨_, _, Try.func60, rfl, rfl⟩⟩
instance : FnB Try.prog 63 := ⟨⟨_, _, Try.func63, rfl, rfl⟩⟩
instance : FnB Try.prog 64 := ⟨⟨_, _, Try.func64, rfl, rfl⟩⟩
instance : FnB Try.prog 65 := ⟨⟨_, _, Try.func65, rfl, rfl⟩⟩
instance : FnB Try.prog 66 := ⟨⟨_, _, Try.func66, rfl, rfl⟩⟩
instance : FnB Try.prog 67 := ⟨⟨_, _, Try.func67, rfl, rfl⟩⟩
instance : FnB Try.prog 68 := ⟨⟨_, _, Try.func68, rfl, rfl⟩⟩
instance : FnB Try.prog 70 := ⟨⟨_, _, Try.func70, rfl, rfl⟩⟩
instance : FnB Try.prog 74 := ⟨⟨_, _, Try.func74, rfl, rfl⟩⟩
instance : FnB Try.prog 75 := ⟨⟨_, _, Try.func75, rfl, rfl⟩⟩
instance : FnB Try.prog 76 := ⟨⟨_, _, Try.func76, rfl, rfl⟩⟩
instance : FnB Try.prog 77 := ⟨⟨_, _, Try.func77, rfl, rfl⟩⟩
instance : FnB Try.prog 79 := ⟨⟨_, _, Try.func79, rfl, rfl⟩⟩
instance : FnB Try.prog 80 := ⟨⟨_, _, Try.func80, rfl, rfl⟩⟩
instance : FnB Try.prog 81 := ⟨⟨_, _, Try.func81, rfl, rfl⟩⟩
instance : FnB Try.prog 84 := ⟨⟨_, _, Try.func84, rfl, rfl⟩⟩
instance : FnB Try.prog 85 := ⟨⟨_, _, Try.func85, rfl, rfl⟩⟩
instance : FnB Try.prog 86 := ⟨⟨_, _, Try.func86, rfl, rfl⟩⟩
instance : FnB Try.prog 87 := ⟨⟨_, _, Try.func87, rfl, rfl⟩⟩
instance : FnB Try.prog 89 := ⟨⟨_, _, Try.func89, rfl, rfl⟩⟩
instance : FnB Try.prog 90 := ⟨⟨_, _, Try.func90, rfl, rfl⟩⟩
instance : FnB Try.prog 91 := ⟨⟨_, _, Try.func91, rfl, rfl⟩⟩
instance : FnB Try.prog 93 := ⟨⟨_, _, Try.func93, rfl, rfl⟩⟩
instance : FnB Try.prog 98 := ⟨⟨_, _, Try.func98, rfl, rfl⟩⟩
instance : FnB Try.prog 101 := ⟨⟨_, _, Try.func101, rfl, rfl⟩⟩
instance : FnB Try.prog 104 := ⟨⟨_, _, Try.func104, rfl, rfl⟩⟩
instance : FnB Try.prog 107 := ⟨⟨_, _, Try.func107, rfl, rfl⟩⟩
instance : FnB Try.prog 108 := ⟨⟨_, _, Try.func108, rfl, rfl⟩⟩
instance : FnB Try.prog 109 := ⟨⟨_, _, Try.func109, rfl, rfl⟩⟩
instance : FnB Try.prog 110 := ⟨⟨_, _, Try.func110, rfl, rfl⟩⟩
instance : FnB Try.prog 114 := ⟨⟨_, _, Try.func114, rfl, rfl⟩⟩
instance : FnB Try.prog 115 := ⟨⟨_, _, Try.func115, rfl, rfl⟩⟩
instance : FnB Try.prog 117 := ⟨⟨_, _, Try.func117, rfl, rfl⟩⟩
instance : FnB Try.prog 118 := ⟨⟨_, _, Try.func118, rfl, rfl⟩⟩
instance : FnB Try.prog 119 := ⟨⟨_, _, Try.func119, rfl, rfl⟩⟩
instance : FnB Try.prog 121 := ⟨⟨_, _, Try.func121, rfl, rfl⟩⟩
instance : FnB Try.prog 122 := ⟨⟨_, _, Try.func122, rfl, rfl⟩⟩
instance : FnB Try.prog 124 := ⟨⟨_, _, Try.func124, rfl, rfl⟩⟩
instance : FnB Try.prog 125 := ⟨⟨_, _, Try.func125, rfl, rfl⟩⟩
instance : FnB Try.prog 126 := ⟨⟨_, _, Try.func126, rfl, rfl⟩⟩
instance : FnB Try.prog 127 := ⟨⟨_, _, Try.func127, rfl, rfl⟩⟩
instance : FnB Try.prog 128 := ⟨⟨_, _, Try.func128, rfl, rfl⟩⟩
instance : FnB Try.prog 129 := ⟨⟨_, _, Try.func129, rfl, rfl⟩⟩
instance : FnB Try.prog 131 := ⟨⟨_, _, Try.func131, rfl, rfl⟩⟩
end Go.Qk
end
section
set_option linter.unusedVariables false
namespace Go.Qk
open Go Go.Proofs
set_option maxRecDepth 100000
theorem trim_ret (xs : List Nat) (A : Option Addr) (cap : Nat) (w : World) (S : Nat → Prop) (hrd : Rd A (u32s xs) w) (hcap : xs.length ≤ cap) (hb : xs.length < 1152921504606846976) :
    Ret Try.prog 121 [.slice A xs.length cap] w S (fun _ : Unit => .slice A (trimL xs).length (trimL xs).length) (fun _ _ => True) := by
  have htl := trimL_length xs
  refine ret_of Try.func121 rfl Try.ntmps121 rfl ?_
  refine tr_rseq (sq_q (qt_assign rfl) rfl (sq_end ?_))
  refine tr_rseq (sq_q (qt_move rfl) rfl (sq_q (qt_len rfl) rfl (sq_q (qt_assign rfl) rfl (sq_end ?_))))
  refine tr_seq (tr_block (tr_loop (fun k : Nat => k ≤ xs.length ∧ ∀ i (h : i < xs.length), k ≤ i → xs[i] = 0) (fun k => [(0, .slice A xs.length cap), (3, .int .i64 (k : Int))]) (fun _ => []) (fun _ _ => True) (fun k => k) xs.length ⟨Nat.le_refl _, fun i h h' => absurd h (by omega)⟩ ⟨rfl, rfl, trivial⟩ rfl (fun _ _ => trivial) ?_))
  rintro k ⟨hk, hz⟩
  have ht := trimL_of_take hk hz
  refine tr_seq (tr_seq ?_)
  by_cases h0 : k = 0
  · subst h0
    refine tr_region ?_
    refine sq_q (qt_move rfl) rfl ?_
    refine sq_q (qt_bin rfl rfl (bF bin_gtr (by omega))) rfl ?_
    refine sq_q (qt_move rfl) rfl ?_
    repeat (refine sq_gF rfl rfl rfl rfl ?_)
    refine sq_q (qt_pick rfl rfl) rfl ?_
    refine sq_nil (tr_then ?_)
    refine tr_ifF rfl (tr_exit ?_)
    refine tr_thenX (tr_thenX (tr_inX (tr_then ?_)))
    refine tr_rseq ?_
    refine sq_q (qt_move rfl) rfl (sq_q (qt_move rfl) rfl (sq_q (qt_move rfl) rfl ?_))
    refine sq_q (qt_sliceHM rfl rfl rfl (Nat.le_refl _) (by omega)) rfl (sq_q (qt_assign rfl) rfl (sq_end ?_))
    refine tr_ret (tr_done () (fun a w s t => results_1 rfl (resv_tmp s ?_)) fun _ _ _ _ => trivial)
    rw [ht]; rfl
  · have hlt : k - 1 < xs.length := by omega
    obtain ⟨r, o, rfl, hat⟩ := hrd.at_ (u32s_get hlt)
    by_cases hx : xs[k - 1] = 0
    · refine tr_region ?_
      refine sq_q (qt_move rfl) rfl ?_
      refine sq_q (qt_bin rfl rfl (bT bin_gtr (by omega))) rfl ?_
      refine sq_q (qt_move rfl) rfl ?_
      refine sq_gT rfl rfl (sq_q (qt_move rfl) rfl ?_)
      refine sq_gT rfl rfl (sq_q (qt_move rfl) rfl ?_)
      refine sq_gT rfl rfl (sq_q (qt_bin rfl rfl (bin_subN (b := 1) rfl (by omega) (by omega))) rfl ?_)
      refine sq_gT rfl rfl (sq_q (qt_index rfl rfl (by omega)) rfl ?_)
      refine sq_gT rfl rfl (sq_q (qt_load rfl (fun w t => by rw [Nat.mul_one]; exact t.atA hat)) rfl ?_)
      refine sq_gT rfl rfl (sq_q (qt_bin rfl rfl (bT bin_eql (by omega))) rfl ?_)
      refine sq_q (qt_pick rfl rfl) rfl ?_
      refine sq_nil (tr_then ?_)
      refine tr_ifT rfl (tr_skip (tr_then (tr_block ?_)))
      refine tr_region ?_
      refine sq_q (qt_move rfl) rfl ?_
      refine sq_q (qt_bin rfl rfl (bin_subN (b := 1) rfl (by omega) (by omega))) rfl ?_
      refine sq_q (qt_assign rfl) rfl ?_
      refine sq_nil (tr_inN (tr_then ?_))
      refine tr_round (k - 1) ⟨by omega, fun i h hi => ?_⟩ (by omega) ⟨rfl, rfl, trivial⟩ rfl (fun _ h => h)
      by_cases e : i = k - 1
      · subst e; exact hx
      · exact hz i h (by omega)
    · refine tr_region ?_
      refine sq_q (qt_move rfl) rfl ?_
      refine sq_q (qt_bin rfl rfl (bT bin_gtr (by omega))) rfl ?_
      refine sq_q (qt_move rfl) rfl ?_
      refine sq_gT rfl rfl (sq_q (qt_move rfl) rfl ?_)
      refine sq_gT rfl rfl (sq_q (qt_move rfl) rfl ?_)
      refine sq_gT rfl rfl (sq_q (qt_bin rfl rfl (bin_subN (b := 1) rfl (by omega) (by omega))) rfl ?_)
      refine sq_gT rfl rfl (sq_q (qt_index rfl rfl (by omega)) rfl ?_)
      refine sq_gT rfl rfl (sq_q (qt_load rfl (fun w t => by rw [Nat.mul_one]; exact t.atA hat)) rfl ?_)
      refine sq_gT rfl rfl (sq_q (qt_bin rfl rfl (bF bin_eql (by omega))) rfl ?_)
      refine sq_q (qt_pick rfl rfl) rfl ?_
      refine sq_nil (tr_then ?_)
      refine tr_ifF rfl (tr_exit ?_)
      refine tr_thenX (tr_thenX (tr_inX (tr_then ?_)))
      refine tr_rseq ?_
      refine sq_q (qt_move rfl) rfl (sq_q (qt_move rfl) rfl (sq_q (qt_move rfl) rfl ?_))
      refine sq_q (qt_sliceHM rfl rfl rfl (Nat.le_refl _) (by omega)) rfl (sq_q (qt_assign rfl) rfl (sq_end ?_))
      have hk' : trimL xs = xs.take k := by
        rw [ht, show k = k - 1 + 1 by omega, List.take_succ_eq_append_getElem hlt, trimL_concat hx]
      refine tr_ret (tr_done () (fun a w s t => results_1 rfl (resv_tmp s ?_)) fun _ _ _ _ => trivial)
      rw [hk', List.length_take, Nat.min_eq_left hk]; rfl
theorem limb_ret (xs : List Nat) (A : Option Addr) (cap : Nat) (i : Nat) (w : World) (S : Nat → Prop) (hrd : Rd A (u32s xs) w) (hl : lim xs) (hi : i < 1152921504606846976) :
    Ret Try.prog 124 [.slice A xs.length cap, .int .i64 (i : Int)] w S (fun _ : Unit => .int .u64 ((xs.getD i 0 : Nat) : Int)) (fun _ _ => True) := by
  refine ret_of Try.func124 rfl Try.ntmps124 rfl ?_
  refine tr_rseq (sq_q (qt_assign rfl) rfl (sq_end ?_))
  refine tr_seq (tr_rseq ?_)
  refine sq_q (qt_move rfl) rfl ?_
  refine sq_q (qt_move rfl) rfl ?_
  refine sq_q (qt_len rfl) rfl ?_
  refine sq_q (qt_bin rfl rfl bin_lss) rfl ?_
  refine sq_end (tr_if rfl (fun hc => ?_) (fun hc => ?_))
  · have hlt : i < xs.length := by have := of_decide_eq_true hc; omega
    have hx := hl _ (List.getElem_mem hlt)
    obtain ⟨r, o, rfl, hat⟩ := hrd.at_ (u32s_get hlt)
    refine tr_rseq ?_
    refine sq_q (qt_move rfl) rfl ?_
    refine sq_q (qt_move rfl) rfl ?_
    refine sq_q (qt_index rfl rfl hlt) rfl ?_
    refine sq_q (qt_load rfl (fun w t => by rw [Nat.mul_one]; exact t.atA hat)) rfl ?_
    refine sq_q (qt_to64 rfl (by omega) (by omega)) rfl ?_
    refine sq_q (qt_assign rfl) rfl (sq_end ?_)
    refine tr_ret (tr_thenR (tr_done () (fun a w s t => results_1 rfl (resv_tmp s ?_)) fun _ _ _ _ => trivial))
    rw [List.getD_eq_getElem?_getD, List.getElem?_eq_getElem hlt]; rfl
  · have hlt : ¬ i < xs.length := by have := of_decide_eq_false hc; omega
    refine tr_skip (tr_then ?_)
    refine tr_rseq ?_
    refine sq_q (qt_assign rfl) rfl (sq_end ?_)
    refine tr_ret (tr_done () (fun a w s t => results_1 rfl (resv_tmp s ?_)) fun _ _ _ _ => trivial)
    rw [List.getD_eq_getElem?_getD, List.getElem?_eq_none (by omega)]; rfl
end Go.Qk
end
section
set_option linter.unusedVariables false
namespace Go.Qk
open Go Go.Proofs
set_option maxRecDepth 100000
theorem compare_ret (xs ys : List Nat) (A B : Option Addr) (ca cb : Nat) (w : World) (S : Nat → Prop) (hx : Rd A (u32s xs) w) (hy : Rd B (u32s ys) w) (lx : lim xs) (ly : lim ys) (cx : canon xs) (cy : canon ys) (hb : xs.length < 1152921504606846976) (hb' : ys.length < 1152921504606846976) :
    Ret Try.prog 118 [.slice A xs.length ca, .slice B ys.length cb] w S (fun _ : Unit => .int .i64 (cmp3 (val xs) (val ys))) (fun _ _ => True) := by
  refine ret_of Try.func118 rfl Try.ntmps118 rfl ?_
  refine tr_rseq ?_
  refine sq_q (qt_assign rfl) rfl ?_
  refine sq_end ?_
  refine tr_seq ?_
  refine tr_rseq ?_
  refine sq_q (qt_move rfl) rfl ?_
  refine sq_q (qt_len rfl) rfl ?_
  refine sq_q (qt_move rfl) rfl ?_
  refine sq_q (qt_len rfl) rfl ?_
  refine sq_q (qt_bin rfl rfl bin_neq) rfl ?_
  refine sq_end ?_
  refine tr_if rfl (fun hc => ?_) (fun hc => ?_)
  · have hne : xs.length ≠ ys.length := by have := of_decide_eq_true hc; omega
    refine tr_seq ?_
    refine tr_rseq ?_
    refine sq_q (qt_move rfl) rfl ?_
    refine sq_q (qt_len rfl) rfl ?_
    refine sq_q (qt_move rfl) rfl ?_
    refine sq_q (qt_len rfl) rfl ?_
    refine sq_q (qt_bin rfl rfl bin_lss) rfl ?_
    refine sq_end ?_
    refine tr_if rfl (fun hc => ?_) (fun hc => ?_)
    · have hlt : xs.length < ys.length := by have := of_decide_eq_true hc; omega
      refine tr_rseq ?_
      refine sq_q (qt_assign rfl) rfl ?_
      refine sq_end ?_
      refine tr_ret ?_
      repeat with_reducible first | refine tr_skip ?_ | refine tr_exit ?_ | refine tr_then ?_ | refine tr_inX ?_ | refine tr_thenX ?_ | refine tr_inN ?_ | refine tr_inR ?_ | refine tr_thenR ?_
      refine tr_done () (fun a w s t => results_1 rfl (resv_tmp s ?_)) fun _ _ _ _ => trivial
      rw [cmp3, if_pos (val_lt_of_length lx cy hlt)]; rfl
    · have hlt : ys.length < xs.length := by have := of_decide_eq_false hc; omega
      refine tr_skip ?_
      repeat with_reducible first | refine tr_skip ?_ | refine tr_exit ?_ | refine tr_then ?_ | refine tr_inX ?_ | refine tr_thenX ?_ | refine tr_inN ?_ | refine tr_inR ?_ | refine tr_thenR ?_
      refine tr_rseq ?_
      refine sq_q (qt_assign rfl) rfl ?_
      refine sq_end ?_
      refine tr_ret ?_
      repeat with_reducible first | refine tr_skip ?_ | refine tr_exit ?_ | refine tr_then ?_ | refine tr_inX ?_ | refine tr_thenX ?_ | refine tr_inN ?_ | refine tr_inR ?_ | refine tr_thenR ?_
      refine tr_done () (fun a w s t => results_1 rfl (resv_tmp s ?_)) fun _ _ _ _ => trivial
      have := val_lt_of_length ly cx hlt
      rw [cmp3, if_neg (by omega), if_neg (by omega)]; rfl
  · have hlen : xs.length = ys.length := by have := of_decide_eq_false hc; omega
    refine tr_skip ?_
    repeat with_reducible first | refine tr_skip ?_ | refine tr_exit ?_ | refine tr_then ?_ | refine tr_inX ?_ | refine tr_thenX ?_ | refine tr_inN ?_ | refine tr_inR ?_ | refine tr_thenR ?_
    refine tr_seq ?_
    refine tr_rseq ?_
    refine sq_q (qt_move rfl) rfl ?_
    refine sq_q (qt_len rfl) rfl ?_
    refine sq_q (qt_bin rfl rfl (bin_subI (by omega) (by omega))) rfl ?_
    refine sq_q (qt_assign rfl) rfl ?_
    refine sq_end ?_
    refine tr_block ?_
    refine tr_loop (fun k : Nat => k ≤ xs.length ∧ xs.drop k = ys.drop k) (fun k => [(0, .slice A xs.length ca), (1, .slice B ys.length cb), (5, .int .i64 ((k : Int) - 1))]) (fun _ => []) (fun x w => True) (fun k => k) xs.length ⟨Nat.le_refl _, by rw [List.drop_length, hlen, List.drop_length]⟩ ⟨rfl, rfl, rfl, trivial⟩ rfl (fun _ _ => trivial) ?_
    rintro k ⟨hk, hd⟩
    refine tr_seq ?_
    refine tr_rseq ?_
    refine sq_q (qt_move rfl) rfl ?_
    refine sq_q (qt_bin rfl rfl bin_geq) rfl ?_
    refine sq_end ?_
    refine tr_if rfl (fun hc => ?_) (fun hc => ?_)
    · have hk0 : 0 < k := by have := of_decide_eq_true hc; omega
      obtain ⟨j, rfl⟩ : ∃ j, k = j + 1 := ⟨k - 1, by omega⟩
      have hjx : j < xs.length := by omega
      have hjy : j < ys.length := by omega
      obtain ⟨ra, oa, rfl, hax⟩ := hx.at_ (u32s_get hjx)
      obtain ⟨rb, ob, rfl, hay⟩ := hy.at_ (u32s_get hjy)
      have ej : (((j + 1 : Nat) : Int) - 1) = (j : Int) := by omega
      refine tr_sub [(0, .slice (some ⟨ra, oa, none⟩) xs.length ca), (1, .slice (some ⟨rb, ob, none⟩) ys.length cb), (5, .int .i64 (j : Int))] ⟨rfl, rfl, congrArg (fun z => some (Value.int .i64 z)) ej, trivial⟩ ?_
      refine tr_skip ?_
      repeat with_reducible first | refine tr_skip ?_ | refine tr_exit ?_ | refine tr_then ?_ | refine tr_inX ?_ | refine tr_thenX ?_ | refine tr_inN ?_ | refine tr_inR ?_ | refine tr_thenR ?_
      refine tr_seq ?_
      refine tr_block ?_
      refine tr_rdraw0 [0, 1, 5, 31] (by kernel_rfl) ?_
      refine dx_q rfl (qt_move rfl) rfl ?_
      refine dx_q rfl (qt_move rfl) rfl ?_
      refine dx_q rfl (qt_index rfl rfl hjx) rfl ?_
      refine dx_q rfl (qt_load rfl (fun w t => by rw [Nat.mul_one]; exact t.atA hax)) rfl ?_
      refine dx_q rfl (qt_move rfl) rfl ?_
      refine dx_q rfl (qt_move rfl) rfl ?_
      refine dx_q rfl (qt_index rfl rfl hjy) rfl ?_
      refine dx_q rfl (qt_load rfl (fun w t => by rw [Nat.mul_one]; exact t.atA hay)) rfl ?_
      refine dx_q rfl (qt_bin rfl rfl bin_neq) rfl ?_
      refine dx_nil ?_
      repeat (first | refine es_val rfl ?_ rfl | refine es_res rfl (fun x => ?_) rfl | refine es_skip rfl ?_)
      refine es_nil rfl ?_
      refine tx_endk ?_
      refine tr_if rfl (fun hc => ?_) (fun hc => ?_)
      · have hne : xs[j] ≠ ys[j] := by have := of_decide_eq_true hc; omega
        refine tr_seq ?_
        refine tr_rdraw0 [0, 1, 5, 40] (by kernel_rfl) ?_
        refine dx_q rfl (qt_move rfl) rfl ?_
        refine dx_q rfl (qt_move rfl) rfl ?_
        refine dx_q rfl (qt_index rfl rfl hjx) rfl ?_
        refine dx_q rfl (qt_load rfl (fun w t => by rw [Nat.mul_one]; exact t.atA hax)) rfl ?_
        refine dx_q rfl (qt_move rfl) rfl ?_
        refine dx_q rfl (qt_move rfl) rfl ?_
        refine dx_q rfl (qt_index rfl rfl hjy) rfl ?_
        refine dx_q rfl (qt_load rfl (fun w t => by rw [Nat.mul_one]; exact t.atA hay)) rfl ?_
        refine dx_q rfl (qt_bin rfl rfl bin_lss) rfl ?_
        refine dx_nil ?_
        repeat (first | refine es_val rfl ?_ rfl | refine es_res rfl (fun x => ?_) rfl | refine es_skip rfl ?_)
        refine es_nil rfl ?_
        refine tx_endk ?_
        refine tr_if rfl (fun hc => ?_) (fun hc => ?_)
        · have hlt : xs[j] < ys[j] := by have := of_decide_eq_true hc; omega
          refine tr_rseq ?_
          refine sq_q (qt_assign rfl) rfl ?_
          refine sq_end ?_
          refine tr_ret ?_
          repeat with_reducible first | refine tr_skip ?_ | refine tr_exit ?_ | refine tr_then ?_ | refine tr_inX ?_ | refine tr_thenX ?_ | refine tr_inN ?_ | refine tr_inR ?_ | refine tr_thenR ?_
          refine tr_done () (fun a w s t => results_1 rfl (resv_tmp s ?_)) fun _ _ _ _ => trivial
          rw [cmp3, if_pos (val_lt_of_at lx hjx hjy hd hlt)]; rfl
        · have hlt : ys[j] < xs[j] := by have := of_decide_eq_false hc; omega
          refine tr_skip ?_
          repeat with_reducible first | refine tr_skip ?_ | refine tr_exit ?_ | refine tr_then ?_ | refine tr_inX ?_ | refine tr_thenX ?_ | refine tr_inN ?_ | refine tr_inR ?_ | refine tr_thenR ?_
          refine tr_rseq ?_
          refine sq_q (qt_assign rfl) rfl ?_
          refine sq_end ?_
          refine tr_ret ?_
          repeat with_reducible first | refine tr_skip ?_ | refine tr_exit ?_ | refine tr_then ?_ | refine tr_inX ?_ | refine tr_thenX ?_ | refine tr_inN ?_ | refine tr_inR ?_ | refine tr_thenR ?_
          refine tr_done () (fun a w s t => results_1 rfl (resv_tmp s ?_)) fun _ _ _ _ => trivial
          have := val_lt_of_at ly hjy hjx hd.symm hlt
          rw [cmp3, if_neg (by omega), if_neg (by omega)]; rfl
      · have heq : xs[j] = ys[j] := by have := of_decide_eq_false hc; omega
        refine tr_skip ?_
        repeat with_reducible first | refine tr_skip ?_ | refine tr_exit ?_ | refine tr_then ?_ | refine tr_inX ?_ | refine tr_thenX ?_ | refine tr_inN ?_ | refine tr_inR ?_ | refine tr_thenR ?_
        refine tr_region ?_
        refine sq_q (qt_move rfl) rfl ?_
        refine sq_q (qt_bin rfl rfl (bin_subI (by omega) (by omega))) rfl ?_
        refine sq_q (qt_assign rfl) rfl ?_
        refine sq_nil ?_
        repeat with_reducible first | refine tr_skip ?_ | refine tr_exit ?_ | refine tr_then ?_ | refine tr_inX ?_ | refine tr_thenX ?_ | refine tr_inN ?_ | refine tr_inR ?_ | refine tr_thenR ?_
        refine tr_round j ⟨by omega, ?_⟩ (by omega) ⟨rfl, rfl, rfl, trivial⟩ rfl (fun _ h => h)
        rw [← List.getElem_cons_drop hjx, ← List.getElem_cons_drop hjy, heq, hd]
    · have hk0 : k = 0 := by have := of_decide_eq_false hc; omega
      subst hk0
      refine tr_exit ?_
      repeat with_reducible first | refine tr_skip ?_ | refine tr_exit ?_ | refine tr_then ?_ | refine tr_inX ?_ | refine tr_thenX ?_ | refine tr_inN ?_ | refine tr_inR ?_ | refine tr_thenR ?_
      refine tr_rseq ?_
      refine sq_q (qt_assign rfl) rfl ?_
      refine sq_end ?_
      refine tr_ret ?_
      repeat with_reducible first | refine tr_skip ?_ | refine tr_exit ?_ | refine tr_then ?_ | refine tr_inX ?_ | refine tr_thenX ?_ | refine tr_inN ?_ | refine tr_inR ?_ | refine tr_thenR ?_
      refine tr_done () (fun a w s t => results_1 rfl (resv_tmp s ?_)) fun _ _ _ _ => trivial
      simp only [List.drop_zero] at hd
      rw [cmp3, hd, if_neg (Nat.lt_irrefl _), if_pos rfl]; rfl
end Go.Qk
end
section
set_option linter.unusedVariables false
namespace Go.Qk
open Go Go.Proofs
set_option maxRecDepth 100000
theorem plus_ret (xs ys : List Nat) (A B : Option Addr) (ca cb : Nat) (w : World) (S : Nat → Prop) (hx : Rd A (u32s xs) w) (hy : Rd B (u32s ys) w) (lx : lim xs) (ly : lim ys) (hb : xs.length ≤ 35184372088832) (hb' : ys.length ≤ 35184372088832) :
    Ret Try.prog 117 [.slice A xs.length ca, .slice B ys.length cb] w S (slv (limbsOf (val xs + val ys))) (Lm (limbsOf (val xs + val ys))) := by
  obtain ⟨n, hn⟩ : ∃ n, n = max xs.length ys.length := ⟨_, rfl⟩
  have en : max (xs.length : Int) (ys.length : Int) = (n : Int) := by omega
  refine ret_of Try.func117 rfl Try.ntmps117 rfl ?_
  refine tr_rseq ?_
  refine sq_q (qt_assign rfl) rfl ?_
  refine sq_end ?_
  refine tr_rseq ?_
  refine sq_q (qt_move rfl) rfl ?_
  refine sq_q (qt_len rfl) rfl ?_
  refine sq_q (qt_move rfl) rfl ?_
  refine sq_q (qt_len rfl) rfl ?_
  refine sq_q (qt_max rfl rfl) rfl ?_
  refine sq_q (qt_assign rfl) rfl ?_
  refine sq_end ?_
  refine tr_sub [(0, .slice A xs.length ca), (1, .slice B ys.length cb), (5, .int .i64 (n : Int))] ⟨rfl, rfl, by rw [← en]; rfl, trivial⟩ ?_
  refine tr_rseq ?_
  refine sq_q (qt_move rfl) rfl ?_
  refine sq_q (qt_bin rfl rfl (bin_addI (by omega) (by omega))) rfl ?_
  refine sq_make (c := n + 1) rfl rfl (by omega) (by omega) rfl fun r => ?_
  refine sq_q (qt_assign rfl) rfl ?_
  refine sq_end ?_
  refine tr_rseq ?_
  refine sq_q (qt_assign rfl) rfl ?_
  refine sq_end ?_
  refine tr_seq ?_
  refine tr_rseq ?_
  refine sq_q (qt_move rfl) rfl ?_
  refine sq_q (qt_move rfl) rfl ?_
  refine sq_end ?_
  refine tr_block ?_
  refine tr_loop2 (fun (ps : List Nat) (c : Nat) => ps.length ≤ n ∧ lim ps ∧ c ≤ 1 ∧ val ps + 4294967296 ^ ps.length * c = val (xs.take ps.length) + val (ys.take ps.length))
    (fun ps c => [(0, .slice A xs.length ca), (1, .slice B ys.length cb), (5, .int .i64 (n : Int)), (6, .slice (some ⟨r, 0, none⟩) (n + 1) (n + 1)), (7, .int .u64 (c : Int)), (17, .int .i64 (n : Int)), (18, .int .i64 (ps.length : Int))])
    (fun ps c => [(r, .cells (u32s (ps ++ List.replicate (n - ps.length + 1) 0)).toArray 57 (0, 0))]) (fun _ _ w => True) (fun ps c => n - ps.length) [] 0 ⟨Nat.zero_le _, by simp [lim], by omega, by simp [val]⟩ ⟨rfl, rfl, rfl, rfl, rfl, rfl, rfl, trivial⟩ (by rw [made_u32]; rfl) (fun _ _ => trivial) ?_
  rintro ps c ⟨hle, hl, hc1, hv⟩
  refine tr_rseq ?_
  refine sq_q (qt_bin rfl rfl bin_lss) rfl ?_
  refine sq_end ?_
  refine tr_seq ?_
  refine tr_if rfl (fun hc => ?_) (fun hc => ?_)
  · have hlt : ps.length < n := by have := of_decide_eq_true hc; omega
    have gx := getD_lim lx ps.length
    have gy := getD_lim ly ps.length
    refine tr_skip ?_
    repeat with_reducible first | refine tr_skip ?_ | refine tr_exit ?_ | refine tr_then ?_ | refine tr_inX ?_ | refine tr_thenX ?_ | refine tr_inN ?_ | refine tr_inR ?_ | refine tr_thenR ?_
    refine tr_seq ?_
    refine tr_block ?_
    refine tr_rseq ?_
    refine sq_q (qt_move rfl) rfl ?_
    refine sq_q (qt_assign rfl) rfl ?_
    refine sq_end ?_
    refine tr_rseq ?_
    refine sq_q (qt_move rfl) rfl ?_
    refine sq_q (qt_move rfl) rfl ?_
    refine sq_q (qt_move rfl) rfl ?_
    refine sq_call _ _ rfl rfl rfl (fun w t => limb_ret xs A ca ps.length _ _ (t.rd hx) lx (by omega)) fun _ => ?_
    refine sq_q (qt_move rfl) rfl ?_
    refine sq_q (qt_move rfl) rfl ?_
    refine sq_call _ _ rfl rfl rfl (fun w t => limb_ret ys B cb ps.length _ _ (t.rd hy) ly (by omega)) fun _ => ?_
    refine sq_q (qt_bin rfl rfl (bin_addU (by omega) (by omega))) rfl ?_
    refine sq_q (qt_bin rfl rfl (bin_addU (by omega) (by omega))) rfl ?_
    refine sq_q (qt_assign rfl) rfl ?_
    refine sq_end ?_
    refine tr_rseq ?_
    refine sq_q (qt_move rfl) rfl ?_
    refine sq_q (qt_move rfl) rfl ?_
    refine sq_q (qt_move rfl) rfl ?_
    refine sq_q (qt_to32 rfl) rfl ?_
    refine sq_q (qt_index rfl rfl (by omega)) rfl ?_
    refine sq_store 0 rfl rfl rfl rfl (by simp [u32s, Value.cells]) rfl rfl ?_
    refine sq_end ?_
    refine tr_region ?_
    refine sq_q (qt_move rfl) rfl ?_
    refine sq_q (qt_bin rfl rfl (bin_shr32 (by omega))) rfl ?_
    refine sq_q (qt_assign rfl) rfl ?_
    refine sq_nil ?_
    repeat with_reducible first | refine tr_skip ?_ | refine tr_exit ?_ | refine tr_then ?_ | refine tr_inX ?_ | refine tr_thenX ?_ | refine tr_inN ?_ | refine tr_inR ?_ | refine tr_thenR ?_
    refine tr_region ?_
    refine sq_q (qt_bin rfl rfl (bin_addI (by omega) (by omega))) rfl ?_
    refine sq_q (qt_move rfl) rfl ?_
    refine sq_nil ?_
    repeat with_reducible first | refine tr_skip ?_ | refine tr_exit ?_ | refine tr_then ?_ | refine tr_inX ?_ | refine tr_thenX ?_ | refine tr_inN ?_ | refine tr_inR ?_ | refine tr_thenR ?_
    have hs := add_step (x := xs.getD ps.length 0) (y := ys.getD ps.length 0) hv
    refine tr_round2 (ps ++ [(c + (xs.getD ps.length 0 + ys.getD ps.length 0)) % 4294967296]) ((c + (xs.getD ps.length 0 + ys.getD ps.length 0)) / 4294967296) ⟨by simp; omega, lim_append.2 ⟨hl, by simp [lim]; omega⟩, by omega, ?_⟩ (by simp; omega) ⟨rfl, rfl, rfl, rfl, rfl, rfl, by simp; rfl, trivial⟩ ?_ (fun _ _ => trivial)
    · simp only [List.length_append, List.length_singleton, val_take_getD, val_append, val, Nat.mul_zero, Nat.add_zero, Nat.pow_succ]
      exact hs
    · refine own1 ?_
      have e : n - ps.length + 1 = (n - (ps.length + 1) + 1) + 1 := by omega
      have := set_next ps (n - (ps.length + 1) + 1) ((c + (xs.getD ps.length 0 + ys.getD ps.length 0)) % 4294967296) ps.length rfl
      rw [← e] at this
      simp only [List.length_append, List.length_singleton]
      rw [← this, ← u32s_set]
      simp [wr, Value.cells]
  · have hlt : ps.length = n := by have := of_decide_eq_false hc; omega
    refine tr_exit ?_
    repeat with_reducible first | refine tr_skip ?_ | refine tr_exit ?_ | refine tr_then ?_ | refine tr_inX ?_ | refine tr_thenX ?_ | refine tr_inN ?_ | refine tr_inR ?_ | refine tr_thenR ?_
    refine tr_rseq ?_
    refine sq_q (qt_move rfl) rfl ?_
    refine sq_q (qt_move rfl) rfl ?_
    refine sq_q (qt_move rfl) rfl ?_
    refine sq_q (qt_to32 rfl) rfl ?_
    refine sq_q (qt_index rfl rfl (by omega)) rfl ?_
    refine sq_store 0 rfl rfl rfl rfl (by simp [u32s, Value.cells]; omega) rfl rfl ?_
    refine sq_end ?_
    have ho : ownSet [(r, Obj.cells (u32s (ps ++ List.replicate (n - ps.length + 1) 0)).toArray 57 (0, 0))] 0 (.cells (wr (u32s (ps ++ List.replicate (n - ps.length + 1) 0)) (0 + n * 1) (Value.int .u32 ((c : Int) % 4294967296)).cells.toList).toArray 57 (0, 0)) = [(r, Obj.cells (u32s (ps ++ [c])).toArray 57 (0, 0))] := by
      refine own1 ?_
      have := set_next ps 0 c n hlt.symm
      simp only [List.replicate_zero, List.append_nil] at this
      rw [← this, ← u32s_set, hlt]
      have e : (c : Int) % 4294967296 = (c : Int) := by omega
      simp [wr, Value.cells, e]
    rw [ho]
    have hl2 : lim (ps ++ [c]) := lim_append.2 ⟨hl, by simp [lim]; omega⟩
    have hlen : (ps ++ [c]).length = n + 1 := by simp [hlt]
    have hval : trimL (ps ++ [c]) = limbsOf (val xs + val ys) := by
      rw [trimL_limbsOf hl2, val_append]
      simp only [val, Nat.mul_zero, Nat.add_zero]
      rw [hv, hlt, List.take_of_length_le (by omega), List.take_of_length_le (by omega)]
    refine tr_rseq ?_
    refine sq_q (qt_move rfl) rfl ?_
    refine sq_call (val := fun _ : Unit => .slice (some ⟨r, 0, none⟩) (trimL (ps ++ [c])).length (trimL (ps ++ [c])).length) (F := fun _ _ => True) rfl rfl rfl (fun w t => ?_) fun _ => ?_
    · have h := fun S' => trim_ret (ps ++ [c]) (some ⟨r, 0, none⟩) (n + 1) w S' (Rd.own (t.has _ (ownAt_mem (i := 0) rfl))) (by omega) (by omega)
      rw [hlen] at h
      exact h _
    refine sq_q (qt_assign rfl) rfl ?_
    refine sq_end ?_
    refine tr_ret ?_
    refine tr_done (some ⟨r, 0, none⟩, (trimL (ps ++ [c])).length) (fun a w s t => results_1 rfl (resv_tmp s ?_)) ?_
    · rw [← hval]; rfl
    · intro w _ ho _
      rw [← hval]
      exact lm_trim (ho _ (ownAt_mem (i := 0) rfl))
end Go.Qk
end
section
set_option linter.unusedVariables false
namespace Go.Qk
open Go Go.Proofs
set_option maxRecDepth 100000
theorem minus_ret (xs ys : List Nat) (A B : Option Addr) (ca cb : Nat) (w : World) (S : Nat → Prop) (hx : Rd A (u32s xs) w) (hy : Rd B (u32s ys) w) (lx : lim xs) (ly : lim ys) (hb : xs.length ≤ 35184372088832) (hyx : ys.length ≤ xs.length) (hv : val ys ≤ val xs) :
    Ret Try.prog 119 [.slice A xs.length ca, .slice B ys.length cb] w S (slv (limbsOf (val xs - val ys))) (Lm (limbsOf (val xs - val ys))) := by
  refine ret_of Try.func119 rfl Try.ntmps119 rfl ?_
  refine tr_rseq ?_
  refine sq_q (qt_assign rfl) rfl ?_
  refine sq_end ?_
  refine tr_rseq ?_
  refine sq_q (qt_move rfl) rfl ?_
  refine sq_q (qt_len rfl) rfl ?_
  refine sq_make rfl rfl (by omega) (by omega) rfl fun r11 => ?_
  refine sq_q (qt_assign rfl) rfl ?_
  refine sq_end ?_
  refine tr_rseq ?_
  refine sq_q (qt_assign rfl) rfl ?_
  refine sq_end ?_
  refine tr_seq ?_
  refine tr_rseq ?_
  refine sq_q (qt_move rfl) rfl ?_
  refine sq_q (qt_len rfl) rfl ?_
  refine sq_q (qt_move rfl) rfl ?_
  refine sq_end ?_
  refine tr_block ?_
  refine tr_loop2 (fun (ps : List Nat) (b : Nat) => ps.length ≤ xs.length ∧ lim ps ∧ b ≤ 1 ∧ val (xs.take ps.length) + 4294967296 ^ ps.length * b = val ps + val (ys.take ps.length))
    (fun ps b => [(0, .slice A xs.length ca), (1, .slice B ys.length cb), (5, .slice (some ⟨r11, 0, none⟩) xs.length xs.length), (6, .int .u64 (b : Int)), (13, .int .i64 (xs.length : Int)), (14, .int .i64 (ps.length : Int))])
    (fun ps b => [(r11, .cells (u32s (ps ++ List.replicate (xs.length - ps.length) 0)).toArray 57 (0, 0))]) (fun _ _ _ => True) (fun ps b => xs.length - ps.length) [] 0 ⟨Nat.zero_le _, by simp [lim], by omega, by simp [val]⟩ ⟨rfl, rfl, rfl, rfl, rfl, rfl, trivial⟩ (by rw [made_u32]; rfl) (fun _ _ => trivial) ?_
  rintro ps b ⟨hle, hl, hb1, hinv⟩
  refine tr_rseq ?_
  refine sq_q (qt_bin rfl rfl bin_lss) rfl ?_
  refine sq_end ?_
  refine tr_seq ?_
  refine tr_if rfl (fun hc => ?_) (fun hc => ?_)
  ·
    have hlt : ps.length < xs.length := by have := of_decide_eq_true hc; omega
    have gx := lx _ (List.getElem_mem hlt)
    have gy := getD_lim ly ps.length
    obtain ⟨ra, oa, rfl, hat⟩ := hx.at_ (u32s_get hlt)
    obtain ⟨q, b', hq, hb', hq1, hb2, heq⟩ := sub_step gx gy hb1
    refine tr_skip ?_
    repeat with_reducible first | refine tr_skip ?_ | refine tr_exit ?_ | refine tr_then ?_ | refine tr_inX ?_ | refine tr_thenX ?_ | refine tr_inN ?_ | refine tr_inR ?_ | refine tr_thenR ?_
    refine tr_seq ?_
    refine tr_block ?_
    refine tr_rseq ?_
    refine sq_q (qt_move rfl) rfl ?_
    refine sq_q (qt_assign rfl) rfl ?_
    refine sq_end ?_
    refine tr_rdraw0 [0, 1, 4, 5, 6, 7, 8, 13, 14, 15] (by kernel_rfl) ?_
    refine dx_q rfl (qt_move rfl) rfl ?_
    refine dx_q rfl (qt_move rfl) rfl ?_
    refine dx_q rfl (qt_index rfl rfl (by omega)) rfl ?_
    refine dx_q rfl (qt_load rfl (fun w t => t.a1 hat)) rfl ?_
    refine dx_q rfl (qt_to64 rfl (by omega) (by omega)) rfl ?_
    refine dx_q rfl (qt_move rfl) rfl ?_
    refine dx_q rfl (qt_move rfl) rfl ?_
    refine dx_callv rfl rfl rfl (fun w t => limb_ret ys B cb ps.length _ _ (t.rd hy) ly (by omega)) ?_
    refine dx_q rfl (qt_bin rfl rfl bin_subUw) rfl ?_
    refine dx_q rfl (qt_move rfl) rfl ?_
    refine dx_q rfl (qt_bin rfl rfl bin_subUw) rfl ?_
    refine dx_q rfl (qt_assign rfl) rfl ?_
    refine dx_nil ?_
    repeat (first | refine es_val rfl ?_ rfl | refine es_res rfl (fun x => ?_) rfl | refine es_skip rfl ?_)
    refine es_nil rfl ?_
    refine tx_endk ?_
    generalize hd : ((((xs[ps.length] : Nat) : Int) - ((ys.getD ps.length 0 : Nat) : Int)) % 18446744073709551616 - (b : Int)) % 18446744073709551616 = d at hq hb' ⊢
    refine tr_rseq ?_
    refine sq_q (qt_move rfl) rfl ?_
    refine sq_q (qt_move rfl) rfl ?_
    refine sq_q (qt_move rfl) rfl ?_
    refine sq_q (qt_to32 rfl) rfl ?_
    refine sq_q (qt_index rfl rfl (by omega)) rfl ?_
    refine sq_store 0 rfl rfl rfl rfl (by first | (simp [u32s, Value.cells]; done) | (simp [u32s, Value.cells]; omega)) rfl rfl ?_
    refine sq_end ?_
    refine tr_region ?_
    refine sq_q (qt_move rfl) rfl ?_
    refine sq_q (qt_bin rfl rfl (bin_shr63 (by omega))) rfl ?_
    refine sq_q (qt_assign rfl) rfl ?_
    refine sq_nil ?_
    repeat with_reducible first | refine tr_skip ?_ | refine tr_exit ?_ | refine tr_then ?_ | refine tr_inX ?_ | refine tr_thenX ?_ | refine tr_inN ?_ | refine tr_inR ?_ | refine tr_thenR ?_
    refine tr_region ?_
    refine sq_q (qt_bin rfl rfl (bin_addI (by omega) (by omega))) rfl ?_
    refine sq_q (qt_move rfl) rfl ?_
    refine sq_nil ?_
    repeat with_reducible first | refine tr_skip ?_ | refine tr_exit ?_ | refine tr_then ?_ | refine tr_inX ?_ | refine tr_thenX ?_ | refine tr_inN ?_ | refine tr_inR ?_ | refine tr_thenR ?_
    refine tr_round2 (ps ++ [q]) b' ⟨by simp; omega, lim_append.2 ⟨hl, by simp [lim]; omega⟩, hb2, ?_⟩ (by simp; omega) ⟨rfl, rfl, rfl, congrArg (fun z => some (Value.int .u64 z)) hb', rfl, by simp; rfl, trivial⟩ ?_ (fun _ _ => trivial)
    · simp only [List.length_append, List.length_singleton, val_take_getD, val_append, val, Nat.mul_zero, Nat.add_zero, Nat.pow_succ]
      rw [List.getD_eq_getElem?_getD, List.getElem?_eq_getElem hlt]
      simp only [Option.getD_some]
      grind
    · refine own1 ?_
      have e : xs.length - ps.length = (xs.length - (ps.length + 1)) + 1 := by omega
      have := set_next ps (xs.length - (ps.length + 1)) q ps.length rfl
      rw [← e] at this
      simp only [List.length_append, List.length_singleton]
      rw [← this, ← u32s_set]
      simp [wr, Value.cells, hq]
  ·
    have hlt : ps.length = xs.length := by have := of_decide_eq_false hc; omega
    have hvx := val_lt hl
    rw [hlt, List.take_of_length_le (Nat.le_refl _), List.take_of_length_le hyx] at hinv
    have hbz : b = 0 := by
      rcases (by omega : b = 0 ∨ b = 1) with h | h
      · exact h
      · subst h; rw [hlt] at hvx; omega
    subst hbz
    have hval : trimL ps = limbsOf (val xs - val ys) := by
      rw [trimL_limbsOf hl]
      congr 1
      omega
    have e0 : xs.length - ps.length = 0 := by omega
    refine tr_exit ?_
    repeat with_reducible first | refine tr_skip ?_ | refine tr_exit ?_ | refine tr_then ?_ | refine tr_inX ?_ | refine tr_thenX ?_ | refine tr_inN ?_ | refine tr_inR ?_ | refine tr_thenR ?_
    rw [e0, List.replicate_zero, List.append_nil]
    refine tr_rseq ?_
    refine sq_q (qt_move rfl) rfl ?_
    refine sq_call (val := fun _ : Unit => .slice (some ⟨r11, 0, none⟩) (trimL ps).length (trimL ps).length) (F := fun _ _ => True) rfl rfl rfl (fun w t => by have h := fun S' => trim_ret ps (some ⟨r11, 0, none⟩) xs.length w S' (Rd.own (t.has _ (ownAt_mem (i := 0) rfl))) (by omega) (by omega); rw [hlt] at h; exact h _) fun _ => ?_
    refine sq_q (qt_assign rfl) rfl ?_
    refine sq_end ?_
    refine tr_ret ?_
    repeat with_reducible first | refine tr_skip ?_ | refine tr_exit ?_ | refine tr_then ?_ | refine tr_inX ?_ | refine tr_thenX ?_ | refine tr_inN ?_ | refine tr_inR ?_ | refine tr_thenR ?_
    refine tr_done (some ⟨r11, 0, none⟩, (trimL ps).length) (fun a w s t => results_1 rfl (resv_tmp s ?_)) ?_
    · rw [← hval]; rfl
    · intro w _ ho _
      rw [← hval]
      exact lm_trim (ho _ (ownAt_mem (i := 0) rfl))
theorem times_ret (xs ys : List Nat) (A B : Option Addr) (ca cb : Nat) (w : World) (S : Nat → Prop) (hx : Rd A (u32s xs) w) (hy : Rd B (u32s ys) w) (lx : lim xs) (ly : lim ys) (hb : xs.length ≤ 35184372088832) (hb' : ys.length ≤ 35184372088832) :
    Ret Try.prog 115 [.slice A xs.length ca, .slice B ys.length cb] w S (slv (limbsOf (val xs * val ys))) (Lm (limbsOf (val xs * val ys))) := by
  refine ret_of Try.func115 rfl Try.ntmps115 rfl ?_
  refine tr_rseq ?_
  refine sq_q (qt_assign rfl) rfl ?_
  refine sq_end ?_
  refine tr_rseq ?_
  refine sq_q (qt_move rfl) rfl ?_
  refine sq_q (qt_len rfl) rfl ?_
  refine sq_q (qt_move rfl) rfl ?_
  refine sq_q (qt_len rfl) rfl ?_
  refine sq_q (qt_bin rfl rfl (bin_addI (by omega) (by omega))) rfl ?_
  refine sq_make (c := xs.length + ys.length) rfl rfl (by omega) (by omega) rfl fun r14 => ?_
  refine sq_q (qt_assign rfl) rfl ?_
  refine sq_end ?_
  refine tr_seq ?_
  refine tr_rseq ?_
  refine sq_q (qt_move rfl) rfl ?_
  refine sq_q (qt_len rfl) rfl ?_
  refine sq_q (qt_move rfl) rfl ?_
  refine sq_end ?_
  refine tr_block ?_
  refine tr_loop2 (fun (i : Nat) (L : List Nat) => i ≤ xs.length ∧ lim L ∧ L.length = xs.length + ys.length ∧ (∀ k, ys.length + i ≤ k → L.getD k 0 = 0) ∧ val L = val (xs.take i) * val ys)
    (fun i L => [(0, .slice A xs.length ca), (1, .slice B ys.length cb), (5, .slice (some ⟨r14, 0, none⟩) (xs.length + ys.length) (xs.length + ys.length)), (16, .int .i64 (xs.length : Int)), (17, .int .i64 (i : Int))])
    (fun i L => [(r14, .cells (u32s L).toArray 57 (0, 0))]) (fun _ _ _ => True) (fun i L => xs.length - i) 0 (List.replicate (xs.length + ys.length) 0) ⟨Nat.zero_le _, fun x hx => by rw [List.eq_of_mem_replicate hx]; omega, by simp, fun k _ => by rw [List.getD_eq_getElem?_getD, List.getElem?_replicate]; split <;> rfl, by simp [val, val_replicate]⟩ ⟨rfl, rfl, rfl, rfl, rfl, trivial⟩ (by rw [made_u32]) (fun _ _ => trivial) ?_
  rintro i L0 ⟨hi, hl0, hlen0, hz0, hv0⟩
  refine tr_rseq ?_
  refine sq_q (qt_bin rfl rfl bin_lss) rfl ?_
  refine sq_end ?_
  refine tr_seq ?_
  refine tr_if rfl (fun hc => ?_) (fun hc => ?_)
  ·
    have hlt : i < xs.length := by have := of_decide_eq_true hc; omega
    have gx := lx _ (List.getElem_mem hlt)
    obtain ⟨ra, oa, rfl, hat⟩ := hx.at_ (u32s_get hlt)
    refine tr_skip ?_
    repeat with_reducible first | refine tr_skip ?_ | refine tr_exit ?_ | refine tr_then ?_ | refine tr_inX ?_ | refine tr_thenX ?_ | refine tr_inN ?_ | refine tr_inR ?_ | refine tr_thenR ?_
    refine tr_seq ?_
    refine tr_block ?_
    refine tr_rseq ?_
    refine sq_q (qt_move rfl) rfl ?_
    refine sq_q (qt_assign rfl) rfl ?_
    refine sq_end ?_
    refine tr_rseq ?_
    refine sq_q (qt_assign rfl) rfl ?_
    refine sq_end ?_
    refine tr_seq ?_
    refine tr_rseq ?_
    refine sq_q (qt_move rfl) rfl ?_
    refine sq_q (qt_len rfl) rfl ?_
    refine sq_q (qt_move rfl) rfl ?_
    refine sq_end ?_
    refine tr_block ?_
    refine tr_loop3 (fun (j : Nat) (L : List Nat) (c : Nat) => j ≤ ys.length ∧ lim L ∧ L.length = xs.length + ys.length ∧ c < 4294967296 ∧ (∀ k, ys.length + i ≤ k → L.getD k 0 = 0) ∧ val L + 4294967296 ^ (i + j) * c = val (xs.take i) * val ys + 4294967296 ^ i * (xs[i] * val (ys.take j)))
      (fun j L c => [(0, .slice (some ⟨ra, oa, none⟩) xs.length ca), (1, .slice B ys.length cb), (5, .slice (some ⟨r14, 0, none⟩) (xs.length + ys.length) (xs.length + ys.length)), (6, .int .i64 (i : Int)), (7, .int .u64 (c : Int)), (16, .int .i64 (xs.length : Int)), (17, .int .i64 (i : Int)), (21, .int .i64 (ys.length : Int)), (22, .int .i64 (j : Int))])
      (fun j L c => [(r14, .cells (u32s L).toArray 57 (0, 0))]) (fun _ _ _ _ => True) (fun j L c => ys.length - j) 0 L0 0 ⟨Nat.zero_le _, hl0, hlen0, by omega, hz0, by simp [val, hv0]⟩ ⟨rfl, rfl, rfl, rfl, rfl, rfl, rfl, rfl, rfl, trivial⟩ rfl (fun _ _ => trivial) ?_
    rintro j L c ⟨hj, hl, hlen, hcb, hz, hv⟩
    refine tr_rseq ?_
    refine sq_q (qt_bin rfl rfl bin_lss) rfl ?_
    refine sq_end ?_
    refine tr_seq ?_
    refine tr_if rfl (fun hc => ?_) (fun hc => ?_)
    ·
      have hlt2 : j < ys.length := by have := of_decide_eq_true hc; omega
      have gy := ly _ (List.getElem_mem hlt2)
      obtain ⟨rb, ob, rfl, hbt⟩ := hy.at_ (u32s_get hlt2)
      have hij : i + j < L.length := by omega
      have gl := hl _ (List.getElem_mem hij)
      have hmul : xs[i] * ys[j] ≤ 4294967295 * 4294967295 := Nat.mul_le_mul (by omega) (by omega)
      have hmulI : ((xs[i] : Nat) : Int) * ((ys[j] : Nat) : Int) = ((xs[i] * ys[j] : Nat) : Int) := by simp
      obtain ⟨t, ht⟩ : ∃ t, t = c + (xs[i] * ys[j] + L[i + j]) := ⟨_, rfl⟩
      refine tr_skip ?_
      repeat with_reducible first | refine tr_skip ?_ | refine tr_exit ?_ | refine tr_then ?_ | refine tr_inX ?_ | refine tr_thenX ?_ | refine tr_inN ?_ | refine tr_inR ?_ | refine tr_thenR ?_
      refine tr_seq ?_
      refine tr_block ?_
      refine tr_rseq ?_
      refine sq_q (qt_move rfl) rfl ?_
      refine sq_q (qt_assign rfl) rfl ?_
      refine sq_end ?_
      refine tr_rdraw0 [0, 1, 4, 5, 6, 7, 8, 16, 17, 18, 21, 22, 23] (by kernel_rfl) ?_
      refine dx_q rfl (qt_move rfl) rfl ?_
      refine dx_q rfl (qt_move rfl) rfl ?_
      refine dx_q rfl (qt_move rfl) rfl ?_
      refine dx_q rfl (qt_index rfl rfl (by omega)) rfl ?_
      refine dx_q rfl (qt_load rfl (fun w t => t.a1 hat)) rfl ?_
      refine dx_q rfl (qt_to64 rfl (by omega) (by omega)) rfl ?_
      refine dx_q rfl (qt_move rfl) rfl ?_
      refine dx_q rfl (qt_move rfl) rfl ?_
      refine dx_q rfl (qt_index rfl rfl (by omega)) rfl ?_
      refine dx_q rfl (qt_load rfl (fun w t => t.a1 hbt)) rfl ?_
      refine dx_q rfl (qt_to64 rfl (by omega) (by omega)) rfl ?_
      refine dx_q rfl (qt_bin rfl rfl (bin_mulU (by rw [hmulI]; omega) (by rw [hmulI]; omega))) rfl ?_
      refine dx_q rfl (qt_move rfl) rfl ?_
      refine dx_q rfl (qt_move rfl) rfl ?_
      refine dx_q rfl (qt_move rfl) rfl ?_
      refine dx_q rfl (qt_bin rfl rfl (bin_addI (by omega) (by omega))) rfl ?_
      refine dx_q rfl (qt_index (i := i + j) rfl rfl (by omega)) rfl ?_
      refine dx_q rfl (qt_load rfl (fun w t => t.o1 0 rfl (u32s_get hij))) rfl ?_
      refine dx_q rfl (qt_to64 rfl (by omega) (by omega)) rfl ?_
      refine dx_q rfl (qt_bin rfl rfl (bin_addU (by rw [hmulI]; omega) (by rw [hmulI]; omega))) rfl ?_
      refine dx_q rfl (qt_bin rfl rfl (bin_addU (by rw [hmulI]; omega) (by rw [hmulI]; omega))) rfl ?_
      refine dx_q rfl (qt_assign rfl) rfl ?_
      refine dx_nil ?_
      repeat (first | refine es_val rfl ?_ rfl | refine es_res rfl (fun x => ?_) rfl | refine es_skip rfl ?_)
      refine es_nil rfl ?_
      refine tx_endk ?_
      have hT : ((c : Nat) : Int) + (((xs[i] : Nat) : Int) * ((ys[j] : Nat) : Int) + ((L[i + j] : Nat) : Int)) = (t : Int) := by rw [ht, hmulI]; simp
      rw [hT]
      refine tr_rseq ?_
      refine sq_q (qt_move rfl) rfl ?_
      refine sq_q (qt_move rfl) rfl ?_
      refine sq_q (qt_move rfl) rfl ?_
      refine sq_q (qt_bin rfl rfl (bin_addI (by omega) (by omega))) rfl ?_
      refine sq_q (qt_move rfl) rfl ?_
      refine sq_q (qt_to32 rfl) rfl ?_
      refine sq_q (qt_index (i := i + j) rfl rfl (by omega)) rfl ?_
      refine sq_store 0 rfl rfl rfl rfl (by simp [u32s, Value.cells]; omega) rfl rfl ?_
      refine sq_end ?_
      refine tr_region ?_
      refine sq_q (qt_move rfl) rfl ?_
      refine sq_q (qt_bin rfl rfl (bin_shr32 (by omega))) rfl ?_
      refine sq_q (qt_assign rfl) rfl ?_
      refine sq_nil ?_
      repeat with_reducible first | refine tr_skip ?_ | refine tr_exit ?_ | refine tr_then ?_ | refine tr_inX ?_ | refine tr_thenX ?_ | refine tr_inN ?_ | refine tr_inR ?_ | refine tr_thenR ?_
      refine tr_region ?_
      refine sq_q (qt_bin rfl rfl (bin_addI (by omega) (by omega))) rfl ?_
      refine sq_q (qt_move rfl) rfl ?_
      refine sq_nil ?_
      repeat with_reducible first | refine tr_skip ?_ | refine tr_exit ?_ | refine tr_then ?_ | refine tr_inX ?_ | refine tr_thenX ?_ | refine tr_inN ?_ | refine tr_inR ?_ | refine tr_thenR ?_
      refine tr_round3 (j + 1) (L.set (i + j) (t % 4294967296)) (t / 4294967296) ⟨by omega, lim_set hl (by omega), by simp [hlen], by omega, fun k hk => ?_, ?_⟩ (by omega) ⟨rfl, rfl, rfl, rfl, rfl, rfl, rfl, rfl, rfl, trivial⟩ ?_ (fun _ _ => trivial)
      · rw [List.getD_eq_getElem?_getD, List.getElem?_set_ne (by omega), ← List.getD_eq_getElem?_getD]; exact hz k hk
      · have h1 := val_set (q := t % 4294967296) hij
        have h2 : t = t % 4294967296 + 4294967296 * (t / 4294967296) := (Nat.mod_add_div _ _).symm
        rw [val_take_getD ys j, List.getD_eq_getElem?_getD, List.getElem?_eq_getElem hlt2, Option.getD_some, ← Nat.add_assoc, Nat.pow_succ]
        generalize t % 4294967296 = q at *
        generalize t / 4294967296 = c' at *
        rw [Nat.pow_add] at h1 hv ⊢
        grind
      · refine own1 ?_
        rw [← u32s_set]
        simp [wr, Value.cells]
    ·
      have hlt2 : j = ys.length := by have := of_decide_eq_false hc; omega
      subst hlt2
      have hij : i + ys.length < L.length := by omega
      refine tr_exit ?_
      repeat with_reducible first | refine tr_skip ?_ | refine tr_exit ?_ | refine tr_then ?_ | refine tr_inX ?_ | refine tr_thenX ?_ | refine tr_inN ?_ | refine tr_inR ?_ | refine tr_thenR ?_
      refine tr_region ?_
      refine sq_q (qt_move rfl) rfl ?_
      refine sq_q (qt_move rfl) rfl ?_
      refine sq_q (qt_move rfl) rfl ?_
      refine sq_q (qt_len rfl) rfl ?_
      refine sq_q (qt_bin rfl rfl (bin_addI (by omega) (by omega))) rfl ?_
      refine sq_q (qt_move rfl) rfl ?_
      refine sq_q (qt_to32 rfl) rfl ?_
      refine sq_q (qt_index (i := i + ys.length) rfl rfl (by omega)) rfl ?_
      refine sq_store 0 rfl rfl rfl rfl (by simp [u32s, Value.cells]; omega) rfl rfl ?_
      refine sq_nil ?_
      repeat with_reducible first | refine tr_skip ?_ | refine tr_exit ?_ | refine tr_then ?_ | refine tr_inX ?_ | refine tr_thenX ?_ | refine tr_inN ?_ | refine tr_inR ?_ | refine tr_thenR ?_
      refine tr_region ?_
      refine sq_q (qt_bin rfl rfl (bin_addI (by omega) (by omega))) rfl ?_
      refine sq_q (qt_move rfl) rfl ?_
      refine sq_nil ?_
      repeat with_reducible first | refine tr_skip ?_ | refine tr_exit ?_ | refine tr_then ?_ | refine tr_inX ?_ | refine tr_thenX ?_ | refine tr_inN ?_ | refine tr_inR ?_ | refine tr_thenR ?_
      refine tr_round2 (i + 1) (L.set (i + ys.length) c) ⟨by omega, lim_set hl hcb, by simp [hlen], fun k hk => ?_, ?_⟩ (by omega) ⟨rfl, rfl, rfl, rfl, rfl, trivial⟩ ?_ (fun _ _ => trivial)
      · rw [List.getD_eq_getElem?_getD, List.getElem?_set_ne (by omega), ← List.getD_eq_getElem?_getD]; exact hz k (by omega)
      · have h1 := val_set (q := c) hij
        have h2 := hz (i + ys.length) (by omega)
        rw [List.getD_eq_getElem?_getD, List.getElem?_eq_getElem hij, Option.getD_some] at h2
        rw [h2] at h1
        rw [List.take_of_length_le (Nat.le_refl _)] at hv
        rw [val_take_getD xs i, List.getD_eq_getElem?_getD, List.getElem?_eq_getElem hlt, Option.getD_some]
        grind
      · refine own1 ?_
        have e : (c : Int) % 4294967296 = (c : Int) := by omega
        rw [← u32s_set]
        simp [wr, Value.cells, e]
  ·
    have hlt : i = xs.length := by have := of_decide_eq_false hc; omega
    subst hlt
    rw [List.take_of_length_le (Nat.le_refl _)] at hv0
    have hval : trimL L0 = limbsOf (val xs * val ys) := by rw [trimL_limbsOf hl0, hv0]
    refine tr_exit ?_
    repeat with_reducible first | refine tr_skip ?_ | refine tr_exit ?_ | refine tr_then ?_ | refine tr_inX ?_ | refine tr_thenX ?_ | refine tr_inN ?_ | refine tr_inR ?_ | refine tr_thenR ?_
    refine tr_rseq ?_
    refine sq_q (qt_move rfl) rfl ?_
    refine sq_call (val := fun _ : Unit => .slice (some ⟨r14, 0, none⟩) (trimL L0).length (trimL L0).length) (F := fun _ _ => True) rfl rfl rfl (fun w t => by have h := fun S' => trim_ret L0 (some ⟨r14, 0, none⟩) (xs.length + ys.length) w S' (Rd.own (t.has _ (ownAt_mem (i := 0) rfl))) (by omega) (by omega); rw [hlen0] at h; exact h _) fun _ => ?_
    refine sq_q (qt_assign rfl) rfl ?_
    refine sq_end ?_
    refine tr_ret ?_
    repeat with_reducible first | refine tr_skip ?_ | refine tr_exit ?_ | refine tr_then ?_ | refine tr_inX ?_ | refine tr_thenX ?_ | refine tr_inN ?_ | refine tr_inR ?_ | refine tr_thenR ?_
    refine tr_done (some ⟨r14, 0, none⟩, (trimL L0).length) (fun a w s t => results_1 rfl (resv_tmp s ?_)) ?_
    · rw [← hval]; rfl
    · intro w _ ho _
      rw [← hval]
      exact lm_trim (ho _ (ownAt_mem (i := 0) rfl))
end Go.Qk
end
section
set_option linter.unusedVariables false
namespace Go.Qk
open Go Go.Proofs
set_option maxRecDepth 100000
theorem shortDivide_ret (xs : List Nat) (b : Nat) (A : Option Addr) (ca : Nat) (w : World) (S : Nat → Prop) (hx : Rd A (u32s xs) w) (lx : lim xs) (hb : xs.length ≤ 35184372088832) (hb0 : 0 < b) (hb1 : b < 4294967296) :
    Ret Try.prog 125 [.slice A xs.length ca, .int .u32 (b : Int)] w S (fun p => .tuple #[slv (limbsOf (val xs / b)) p, .int .u32 ((val xs % b : Nat) : Int)]) (Lm (limbsOf (val xs / b))) := by
  refine ret_of Try.func125 rfl Try.ntmps125 rfl ?_
  refine tr_rseq ?_
  refine sq_q (qt_assign rfl) rfl ?_
  refine sq_q (qt_assign rfl) rfl ?_
  refine sq_end ?_
  refine tr_rseq ?_
  refine sq_q (qt_move rfl) rfl ?_
  refine sq_q (qt_len rfl) rfl ?_
  refine sq_make rfl rfl (by omega) (by omega) rfl fun r11 => ?_
  refine sq_q (qt_assign rfl) rfl ?_
  refine sq_end ?_
  refine tr_rseq ?_
  refine sq_q (qt_assign rfl) rfl ?_
  refine sq_end ?_
  refine tr_seq ?_
  refine tr_rseq ?_
  refine sq_q (qt_move rfl) rfl ?_
  refine sq_q (qt_len rfl) rfl ?_
  refine sq_q (qt_bin rfl rfl (bin_subI (by omega) (by omega))) rfl ?_
  refine sq_q (qt_assign rfl) rfl ?_
  refine sq_end ?_
  refine tr_block ?_
  refine tr_loop3 (fun (k : Nat) (qs : List Nat) (rest : Nat) => k + qs.length = xs.length ∧ lim qs ∧ rest < b ∧ val (xs.drop k) = b * val qs + rest)
    (fun k qs rest => [(0, .slice A xs.length ca), (1, .int .u32 (b : Int)), (6, .slice (some ⟨r11, 0, none⟩) xs.length xs.length), (7, .int .u64 (rest : Int)), (8, .int .i64 ((k : Int) - 1))])
    (fun k qs rest => [(r11, .cells (u32s (List.replicate k 0 ++ qs)).toArray 57 (0, 0))]) (fun _ _ _ _ => True) (fun k qs rest => k) xs.length [] 0 ⟨by simp, by simp [lim], hb0, by simp [val]⟩ ⟨rfl, rfl, rfl, rfl, rfl, trivial⟩ (by rw [made_u32, List.append_nil]) (fun _ _ => trivial) ?_
  rintro k qs rest ⟨hk, hl, hr, hv⟩
  refine tr_seq ?_
  refine tr_rseq ?_
  refine sq_q (qt_move rfl) rfl ?_
  refine sq_q (qt_bin rfl rfl bin_geq) rfl ?_
  refine sq_end ?_
  refine tr_if rfl (fun hc => ?_) (fun hc => ?_)
  ·
    have hk0 : 0 < k := by have := of_decide_eq_true hc; omega
    obtain ⟨j, rfl⟩ : ∃ j, k = j + 1 := ⟨k - 1, by omega⟩
    have hj : j < xs.length := by omega
    have gx := lx _ (List.getElem_mem hj)
    obtain ⟨ra, oa, rfl, hat⟩ := hx.at_ (u32s_get hj)
    have ej : (((j + 1 : Nat) : Int) - 1) = (j : Int) := by omega
    refine tr_sub [(0, .slice (some ⟨ra, oa, none⟩) xs.length ca), (1, .int .u32 (b : Int)), (6, .slice (some ⟨r11, 0, none⟩) xs.length xs.length), (7, .int .u64 (rest : Int)), (8, .int .i64 (j : Int))] ⟨rfl, rfl, rfl, rfl, congrArg (fun z => some (Value.int .i64 z)) ej, trivial⟩ ?_
    obtain ⟨t, ht⟩ : ∃ t, t = rest * 4294967296 + xs[j] := ⟨_, rfl⟩
    have htb : t < b * 4294967296 := by
      have : (rest + 1) * 4294967296 ≤ b * 4294967296 := Nat.mul_le_mul_right _ hr
      omega
    have hq : t / b < 4294967296 := by rw [Nat.div_lt_iff_lt_mul hb0]; rw [Nat.mul_comm]; exact htb
    have hdm := Nat.div_add_mod t b
    have hm := Nat.mod_lt t hb0
    have eT : ((rest : Nat) : Int) * 2 ^ 32 + ((xs[j] : Nat) : Int) = (t : Int) := by rw [ht]; omega
    have eQ : ((t : Int) / (b : Int)) % 4294967296 = ((t / b : Nat) : Int) := by
      rw [← Int.natCast_ediv]; exact (show ∀ q : Nat, q < 4294967296 → (q : Int) % 4294967296 = q from fun q h => by omega) _ hq
    have eR : (t : Int) % (b : Int) = ((t % b : Nat) : Int) := by rw [← Int.natCast_emod]
    refine tr_skip ?_
    repeat with_reducible first | refine tr_skip ?_ | refine tr_exit ?_ | refine tr_then ?_ | refine tr_inX ?_ | refine tr_thenX ?_ | refine tr_inN ?_ | refine tr_inR ?_ | refine tr_thenR ?_
    refine tr_seq ?_
    refine tr_block ?_
    refine tr_rseq ?_
    refine sq_q (qt_move rfl) rfl ?_
    refine sq_q (qt_bin rfl rfl (bin_shlU 32 rfl (by omega) (by omega) (by omega))) rfl ?_
    refine sq_q (qt_move rfl) rfl ?_
    refine sq_q (qt_move rfl) rfl ?_
    refine sq_q (qt_index rfl rfl (by omega)) rfl ?_
    refine sq_q (qt_load rfl (fun w t => t.a1 hat)) rfl ?_
    refine sq_q (qt_to64 rfl (by omega) (by omega)) rfl ?_
    refine sq_q (qt_bin rfl rfl (bin_join (by omega) (by omega) (by omega) (by omega))) rfl ?_
    refine sq_q (qt_assign rfl) rfl ?_
    refine sq_end ?_
    rw [eT]
    refine tr_rseq ?_
    refine sq_q (qt_move rfl) rfl ?_
    refine sq_q (qt_move rfl) rfl ?_
    refine sq_q (qt_move rfl) rfl ?_
    refine sq_q (qt_move rfl) rfl ?_
    refine sq_q (qt_to64 rfl (by omega) (by omega)) rfl ?_
    refine sq_q (qt_bin rfl rfl (bin_quoU (by omega) (by omega) (by omega))) rfl ?_
    refine sq_q (qt_to32 rfl) rfl ?_
    refine sq_q (qt_index rfl rfl (by omega)) rfl ?_
    refine sq_store 0 rfl rfl rfl rfl (by first | (simp [u32s, Value.cells]; done) | (simp [u32s, Value.cells]; omega)) rfl rfl ?_
    refine sq_end ?_
    refine tr_region ?_
    refine sq_q (qt_move rfl) rfl ?_
    refine sq_q (qt_move rfl) rfl ?_
    refine sq_q (qt_to64 rfl (by omega) (by omega)) rfl ?_
    refine sq_q (qt_bin rfl rfl (bin_remU (by omega) (by omega))) rfl ?_
    refine sq_q (qt_assign rfl) rfl ?_
    refine sq_nil ?_
    repeat with_reducible first | refine tr_skip ?_ | refine tr_exit ?_ | refine tr_then ?_ | refine tr_inX ?_ | refine tr_thenX ?_ | refine tr_inN ?_ | refine tr_inR ?_ | refine tr_thenR ?_
    refine tr_region ?_
    refine sq_q (qt_move rfl) rfl ?_
    refine sq_q (qt_bin rfl rfl (bin_subI (by omega) (by omega))) rfl ?_
    refine sq_q (qt_assign rfl) rfl ?_
    refine sq_nil ?_
    repeat with_reducible first | refine tr_skip ?_ | refine tr_exit ?_ | refine tr_then ?_ | refine tr_inX ?_ | refine tr_thenX ?_ | refine tr_inN ?_ | refine tr_inR ?_ | refine tr_thenR ?_
    refine tr_round3 j (t / b :: qs) (t % b) ⟨by simp; omega, lim_cons.2 ⟨hq, hl⟩, hm, ?_⟩ (by omega) ⟨rfl, rfl, rfl, congrArg (fun z => some (Value.int .u64 z)) eR, rfl, trivial⟩ ?_ (fun _ _ => trivial)
    · rw [← List.getElem_cons_drop hj, val, hv, val]
      generalize t / b = q at *
      generalize t % b = r at *
      grind
    · refine own1 ?_
      have e : (u32s (List.replicate (j + 1) 0 ++ qs)).set j (.int .u32 ((t / b : Nat) : Int)) = u32s (List.replicate j 0 ++ t / b :: qs) := by
        rw [u32s_set]
        congr 1
        rw [List.set_append_left _ _ (by simp), List.replicate_succ', List.set_append_right _ _ (by simp)]
        simp
      rw [← e]
      simp only [wr, Value.cells, Nat.mul_one, Nat.zero_add, eQ]
  ·
    have hk0 : k = 0 := by have := of_decide_eq_false hc; omega
    subst hk0
    simp only [List.drop_zero] at hv
    have hql : qs.length = xs.length := by omega
    have hd : val xs / b = val qs := by
      rw [hv, Nat.mul_add_div hb0, Nat.div_eq_of_lt hr, Nat.add_zero]
    have hm : val xs % b = rest := by
      rw [hv, Nat.mul_add_mod, Nat.mod_eq_of_lt hr]
    have hval : trimL qs = limbsOf (val xs / b) := by rw [trimL_limbsOf hl, hd]
    refine tr_exit ?_
    repeat with_reducible first | refine tr_skip ?_ | refine tr_exit ?_ | refine tr_then ?_ | refine tr_inX ?_ | refine tr_thenX ?_ | refine tr_inN ?_ | refine tr_inR ?_ | refine tr_thenR ?_
    simp only [List.replicate_zero, List.nil_append]
    refine tr_rseq ?_
    refine sq_q (qt_move rfl) rfl ?_
    refine sq_call (val := fun _ : Unit => .slice (some ⟨r11, 0, none⟩) (trimL qs).length (trimL qs).length) (F := fun _ _ => True) rfl rfl rfl (fun w t => by have h := fun S' => trim_ret qs (some ⟨r11, 0, none⟩) xs.length w S' (Rd.own (t.has _ (ownAt_mem (i := 0) rfl))) (by omega) (by omega); rw [hql] at h; exact h _) fun _ => ?_
    refine sq_q (qt_move rfl) rfl ?_
    refine sq_q (qt_to32 rfl) rfl ?_
    refine sq_q (qt_assign rfl) rfl ?_
    refine sq_q (qt_assign rfl) rfl ?_
    refine sq_end ?_
    refine tr_ret ?_
    repeat with_reducible first | refine tr_skip ?_ | refine tr_exit ?_ | refine tr_then ?_ | refine tr_inX ?_ | refine tr_thenX ?_ | refine tr_inN ?_ | refine tr_inR ?_ | refine tr_thenR ?_
    refine tr_done (some ⟨r11, 0, none⟩, (trimL qs).length) (fun a w s t => results_2 rfl (resv_tmp s ?_) (resv_tmp s ?_)) ?_
    · rw [← hval]; rfl
    · rw [hm]
      exact congrArg (fun z => some (Value.int .u32 z)) (show (rest : Int) % 4294967296 = (rest : Int) by omega)
    · intro w _ ho _
      rw [← hval]
      exact lm_trim (ho _ (ownAt_mem (i := 0) rfl))
theorem shift_ret (xs : List Nat) (m : Nat) (A : Option Addr) (ca : Nat) (w : World) (S : Nat → Prop) (hx : Rd A (u32s xs) w) (lx : lim xs) (hb : xs.length ≤ 35184372088832) (hm : m < 32) :
    Ret Try.prog 127 [.slice A xs.length ca, .int .u64 (m : Int)] w S (fun p : Nat × List Nat => .slice (some ⟨p.1, 0, none⟩) (xs.length + 1) (xs.length + 1))
      (fun p w' => w.heap.size ≤ p.1 ∧ w'.heap[p.1]? = some (.cells (u32s p.2).toArray 57 (0, 0)) ∧ p.2.length = xs.length + 1 ∧ lim p.2 ∧ val p.2 = val xs * 2 ^ m) := by
  have hpow : 2 ^ m ≤ 2147483648 := Nat.pow_le_pow_right (by decide) (show m ≤ 31 by omega)
  refine ret_of Try.func127 rfl Try.ntmps127 rfl ?_
  refine tr_rseq ?_
  refine sq_q (qt_assign rfl) rfl ?_
  refine sq_end ?_
  refine tr_rseq ?_
  refine sq_q (qt_move rfl) rfl ?_
  refine sq_q (qt_len rfl) rfl ?_
  refine sq_q (qt_bin rfl rfl (bin_addI (by omega) (by omega))) rfl ?_
  refine sq_make (c := xs.length + 1) rfl rfl (by omega) (by omega) rfl fun r11 => ?_
  refine sq_q (qt_assign rfl) rfl ?_
  refine sq_end ?_
  refine tr_seq ?_
  refine tr_rseq ?_
  refine sq_q (qt_move rfl) rfl ?_
  refine sq_q (qt_len rfl) rfl ?_
  refine sq_q (qt_move rfl) rfl ?_
  refine sq_end ?_
  refine tr_block ?_
  refine tr_loop2 (fun (ps : List Nat) (c : Nat) => ps.length ≤ xs.length ∧ lim ps ∧ c < 2 ^ m ∧ val ps + 4294967296 ^ ps.length * c = val (xs.take ps.length) * 2 ^ m)
    (fun ps c => [(0, .slice A xs.length ca), (1, .int .u64 (m : Int)), (5, .slice (some ⟨r11, 0, none⟩) (xs.length + 1) (xs.length + 1)), (13, .int .i64 (xs.length : Int)), (14, .int .i64 (ps.length : Int))])
    (fun ps c => [(r11, .cells (u32s (ps ++ c :: List.replicate (xs.length - ps.length) 0)).toArray 57 (0, 0))]) (fun _ _ _ => True) (fun ps c => xs.length - ps.length) [] 0 ⟨Nat.zero_le _, by simp [lim], Nat.pow_pos (by decide), by simp [val]⟩ ⟨rfl, rfl, rfl, rfl, rfl, trivial⟩ (by rw [made_u32]; rfl) (fun _ _ => trivial) ?_
  rintro ps c ⟨hle, hl, hc1, hinv⟩
  refine tr_rseq ?_
  refine sq_q (qt_bin rfl rfl bin_lss) rfl ?_
  refine sq_end ?_
  refine tr_seq ?_
  refine tr_if rfl (fun hc => ?_) (fun hc => ?_)
  ·
    have hlt : ps.length < xs.length := by have := of_decide_eq_true hc; omega
    have gx := lx _ (List.getElem_mem hlt)
    obtain ⟨ra, oa, rfl, hat⟩ := hx.at_ (u32s_get hlt)
    obtain ⟨t, ht⟩ : ∃ t, t = xs[ps.length] * 2 ^ m := ⟨_, rfl⟩
    have htb : t ≤ 4294967295 * 2147483648 := by rw [ht]; exact Nat.mul_le_mul (by omega) hpow
    have eT : ((xs[ps.length] : Nat) : Int) * 2 ^ m = (t : Int) := by rw [ht]; simp
    have hgc : (ps ++ c :: List.replicate (xs.length - ps.length) 0)[ps.length]? = some c := by simp
    have hor : c ||| (t % 4294967296) = c + t % 4294967296 := by
      have e : t % 4294967296 = 2 ^ m * (xs[ps.length] % 2 ^ (32 - m)) := by
        rw [ht, ← pow_split hm, Nat.mul_mod_mul_right, Nat.mul_comm]
      rw [e, Nat.or_comm, ← Nat.two_pow_add_eq_or_of_lt hc1, Nat.add_comm]
    have hs : c + t % 4294967296 < 4294967296 := by
      have e : t % 4294967296 = 2 ^ m * (xs[ps.length] % 2 ^ (32 - m)) := by
        rw [ht, ← pow_split hm, Nat.mul_mod_mul_right, Nat.mul_comm]
      have h1 := Nat.mod_lt xs[ps.length] (show 0 < 2 ^ (32 - m) from Nat.pow_pos (by decide))
      have h2 : 2 ^ m * (xs[ps.length] % 2 ^ (32 - m) + 1) ≤ 2 ^ m * 2 ^ (32 - m) := Nat.mul_le_mul_left _ h1
      rw [Nat.mul_comm (2 ^ m) (2 ^ (32 - m)), pow_split hm, Nat.mul_add] at h2
      rw [e]
      omega
    have hdiv : t / 4294967296 < 2 ^ m := by
      rw [Nat.div_lt_iff_lt_mul (by decide), ht, Nat.mul_comm (2 ^ m)]
      exact Nat.mul_lt_mul_of_pos_right gx (Nat.pow_pos (by decide))
    refine tr_skip ?_
    repeat with_reducible first | refine tr_skip ?_ | refine tr_exit ?_ | refine tr_then ?_ | refine tr_inX ?_ | refine tr_thenX ?_ | refine tr_inN ?_ | refine tr_inR ?_ | refine tr_thenR ?_
    refine tr_seq ?_
    refine tr_block ?_
    refine tr_rseq ?_
    refine sq_q (qt_move rfl) rfl ?_
    refine sq_q (qt_assign rfl) rfl ?_
    refine sq_end ?_
    refine tr_rseq ?_
    refine sq_q (qt_move rfl) rfl ?_
    refine sq_q (qt_move rfl) rfl ?_
    refine sq_q (qt_index rfl rfl (by omega)) rfl ?_
    refine sq_q (qt_load rfl (fun w t => t.a1 hat)) rfl ?_
    refine sq_q (qt_to64 rfl (by omega) (by omega)) rfl ?_
    refine sq_q (qt_move rfl) rfl ?_
    refine sq_q (qt_bin rfl rfl (bin_shlU m rfl (by omega) (by rw [eT]; omega) (by rw [eT]; omega))) rfl ?_
    refine sq_q (qt_assign rfl) rfl ?_
    refine sq_end ?_
    rw [eT]
    refine tr_rseq ?_
    refine sq_q (qt_move rfl) rfl ?_
    refine sq_q (qt_move rfl) rfl ?_
    refine sq_q (qt_index rfl rfl (by omega)) rfl ?_
    refine sq_q (qt_load rfl (fun w t => t.o1 0 rfl (by rw [u32s, List.getElem?_map, hgc]; rfl))) rfl ?_
    refine sq_q (qt_move rfl) rfl ?_
    refine sq_q (qt_to32 rfl) rfl ?_
    refine sq_q (qt_bin rfl rfl (bin_orN (a := c) (b := t % 4294967296) (by omega) (by omega))) rfl ?_
    refine sq_q (qt_index rfl rfl (by omega)) rfl ?_
    refine sq_store 0 rfl rfl rfl rfl (by first | (simp [u32s, Value.cells]; done) | (simp [u32s, Value.cells]; omega)) rfl rfl ?_
    refine sq_end ?_
    have ho : ownSet [(r11, Obj.cells (u32s (ps ++ c :: List.replicate (xs.length - ps.length) 0)).toArray 57 (0, 0))] 0 (.cells (wr (u32s (ps ++ c :: List.replicate (xs.length - ps.length) 0)) (0 + ps.length * 1) (Value.int .u32 ((c ||| (t % 4294967296) : Nat) : Int)).cells.toList).toArray 57 (0, 0)) = [(r11, Obj.cells (u32s ((ps ++ [c + t % 4294967296]) ++ List.replicate (xs.length - ps.length) 0)).toArray 57 (0, 0))] := by
      refine own1 ?_
      rw [hor]
      simp only [wr, Value.cells, Nat.mul_one, Nat.zero_add, u32s_set]
      rw [List.set_append_right _ _ (Nat.le_refl _)]
      simp
    rw [ho]
    refine tr_region ?_
    refine sq_q (qt_move rfl) rfl ?_
    refine sq_q (qt_move rfl) rfl ?_
    refine sq_q (qt_bin rfl rfl (bin_addI (by omega) (by omega))) rfl ?_
    refine sq_q (qt_move rfl) rfl ?_
    refine sq_q (qt_bin rfl rfl (bin_shr32 (by omega))) rfl ?_
    refine sq_q (qt_to32 rfl) rfl ?_
    refine sq_q (qt_index (i := ps.length + 1) rfl rfl (by omega)) rfl ?_
    refine sq_store 0 rfl rfl rfl rfl (by first | (simp [u32s, Value.cells]; done) | (simp [u32s, Value.cells]; omega)) rfl rfl ?_
    refine sq_nil ?_
    repeat with_reducible first | refine tr_skip ?_ | refine tr_exit ?_ | refine tr_then ?_ | refine tr_inX ?_ | refine tr_thenX ?_ | refine tr_inN ?_ | refine tr_inR ?_ | refine tr_thenR ?_
    refine tr_region ?_
    refine sq_q (qt_bin rfl rfl (bin_addI (by omega) (by omega))) rfl ?_
    refine sq_q (qt_move rfl) rfl ?_
    refine sq_nil ?_
    repeat with_reducible first | refine tr_skip ?_ | refine tr_exit ?_ | refine tr_then ?_ | refine tr_inX ?_ | refine tr_thenX ?_ | refine tr_inN ?_ | refine tr_inR ?_ | refine tr_thenR ?_
    refine tr_round2 (ps ++ [c + t % 4294967296]) (t / 4294967296) ⟨by simp; omega, lim_append.2 ⟨hl, by simp [lim]; omega⟩, hdiv, ?_⟩ (by simp; omega) ⟨rfl, rfl, rfl, rfl, by simp; rfl, trivial⟩ ?_ (fun _ _ => trivial)
    · have h2 : t = t % 4294967296 + 4294967296 * (t / 4294967296) := (Nat.mod_add_div _ _).symm
      simp only [List.length_append, List.length_singleton, val_take_getD, val_append, val, Nat.mul_zero, Nat.add_zero, Nat.pow_succ]
      rw [List.getD_eq_getElem?_getD, List.getElem?_eq_getElem hlt, Option.getD_some]
      generalize t % 4294967296 = u at *
      generalize t / 4294967296 = v at *
      grind
    · refine own1 ?_
      have e : xs.length - ps.length = (xs.length - (ps.length + 1)) + 1 := by omega
      have e2 : ((t : Int) / 4294967296) % 4294967296 = ((t / 4294967296 : Nat) : Int) := by omega
      have := set_next (ps ++ [c + t % 4294967296]) (xs.length - (ps.length + 1)) (t / 4294967296) (ps.length + 1) (by simp)
      rw [← e] at this
      simp only [wr, Value.cells, Nat.mul_one, Nat.zero_add, e2]
      rw [u32s_set, this]
      simp
  ·
    have hlt : ps.length = xs.length := by have := of_decide_eq_false hc; omega
    refine tr_exit ?_
    repeat with_reducible first | refine tr_skip ?_ | refine tr_exit ?_ | refine tr_then ?_ | refine tr_inX ?_ | refine tr_thenX ?_ | refine tr_inN ?_ | refine tr_inR ?_ | refine tr_thenR ?_
    refine tr_rseq ?_
    refine sq_q (qt_move rfl) rfl ?_
    refine sq_q (qt_assign rfl) rfl ?_
    refine sq_end ?_
    refine tr_ret ?_
    repeat with_reducible first | refine tr_skip ?_ | refine tr_exit ?_ | refine tr_then ?_ | refine tr_inX ?_ | refine tr_thenX ?_ | refine tr_inN ?_ | refine tr_inR ?_ | refine tr_thenR ?_
    refine tr_doneW (r11, ps ++ [c]) (fun a w s t => results_1 rfl (resv_tmp s rfl)) ?_
    intro w hw ho
    have e0 : xs.length - ps.length = 0 := by omega
    refine ⟨hw _ (ownAt_mem (i := 0) rfl), ?_, by simp; omega, lim_append.2 ⟨hl, by simp [lim]; omega⟩, ?_⟩
    · rw [ho _ (ownAt_mem (i := 0) rfl), e0]; rfl
    · rw [val_append]
      simp only [val, Nat.mul_zero, Nat.add_zero]
      rw [hinv, hlt, List.take_of_length_le (Nat.le_refl _)]
theorem unshift_ret (xs : List Nat) (m : Nat) (A : Option Addr) (ca : Nat) (w : World) (S : Nat → Prop) (hx : Rd A (u32s xs) w) (lx : lim xs) (hb : xs.length ≤ 35184372088832) (hm : m < 32) :
    Ret Try.prog 129 [.slice A xs.length ca, .int .u64 (m : Int)] w S (slv (limbsOf (val xs / 2 ^ m))) (Lm (limbsOf (val xs / 2 ^ m))) := by
  have hpow : 2 ^ m ≤ 2147483648 := Nat.pow_le_pow_right (by decide) (show m ≤ 31 by omega)
  refine ret_of Try.func129 rfl Try.ntmps129 rfl ?_
  refine tr_rseq ?_
  refine sq_q (qt_assign rfl) rfl ?_
  refine sq_end ?_
  refine tr_rseq ?_
  refine sq_q (qt_move rfl) rfl ?_
  refine sq_q (qt_len rfl) rfl ?_
  refine sq_make rfl rfl (by omega) (by omega) rfl fun r9 => ?_
  refine sq_q (qt_assign rfl) rfl ?_
  refine sq_end ?_
  refine tr_seq ?_
  refine tr_rseq ?_
  refine sq_q (qt_move rfl) rfl ?_
  refine sq_q (qt_len rfl) rfl ?_
  refine sq_q (qt_move rfl) rfl ?_
  refine sq_end ?_
  refine tr_block ?_
  refine tr_loop (fun i : Nat => i ≤ xs.length)
    (fun i => [(0, .slice A xs.length ca), (1, .int .u64 (m : Int)), (5, .slice (some ⟨r9, 0, none⟩) xs.length xs.length), (11, .int .i64 (xs.length : Int)), (12, .int .i64 (i : Int))])
    (fun i => [(r9, .cells (u32s ((unsh m xs).take i ++ List.replicate (xs.length - i) 0)).toArray 57 (0, 0))]) (fun _ _ => True) (fun i => xs.length - i) 0 (Nat.zero_le _) ⟨rfl, rfl, rfl, rfl, rfl, trivial⟩ (by rw [made_u32]; rfl) (fun _ _ => trivial) ?_
  rintro i hle
  refine tr_rseq ?_
  refine sq_q (qt_bin rfl rfl bin_lss) rfl ?_
  refine sq_end ?_
  refine tr_seq ?_
  refine tr_if rfl (fun hc => ?_) (fun hc => ?_)
  ·
    have hlt : i < xs.length := by have := of_decide_eq_true hc; omega
    have gx := lx _ (List.getElem_mem hlt)
    have gy := getD_lim lx (i + 1)
    obtain ⟨ra, oa, rfl, hat⟩ := hx.at_ (u32s_get hlt)
    obtain ⟨t, ht⟩ : ∃ t, t = xs.getD (i + 1) 0 * 4294967296 + xs[i] := ⟨_, rfl⟩
    have eT : ((xs.getD (i + 1) 0 : Nat) : Int) * 2 ^ 32 + ((xs[i] : Nat) : Int) = (t : Int) := by rw [ht]; omega
    have hlen := unsh_length m xs
    have hui : i < (unsh m xs).length := by omega
    have hu : (unsh m xs)[i] = t / 2 ^ m % 4294967296 := by rw [unsh_get m xs hlt, ht, Nat.add_comm, Nat.mul_comm]
    have eQ : ((t : Int) / 2 ^ m) % 4294967296 = (((unsh m xs)[i] : Nat) : Int) := by rw [hu]; simp
    refine tr_skip ?_
    repeat with_reducible first | refine tr_skip ?_ | refine tr_exit ?_ | refine tr_then ?_ | refine tr_inX ?_ | refine tr_thenX ?_ | refine tr_inN ?_ | refine tr_inR ?_ | refine tr_thenR ?_
    refine tr_seq ?_
    refine tr_block ?_
    refine tr_rseq ?_
    refine sq_q (qt_move rfl) rfl ?_
    refine sq_q (qt_assign rfl) rfl ?_
    refine sq_end ?_
    refine tr_draw 16 [] [] [0, 1, 4, 5, 6, 11, 12, 13, 15, 16, 30] (by kernel_rfl) ?_
    refine dx_q rfl (qt_move rfl) rfl ?_
    refine dx_q rfl (qt_move rfl) rfl ?_
    refine dx_q rfl (qt_move rfl) rfl ?_
    refine dx_q rfl (qt_move rfl) rfl ?_
    refine dx_q rfl (qt_bin rfl rfl (bin_addI (by omega) (by omega))) rfl ?_
    refine dx_callv rfl rfl rfl (fun w t => limb_ret xs _ ca (i + 1) _ _ (t.rd hx) lx (by omega)) ?_
    refine dx_q rfl (qt_bin rfl rfl (bin_shlU 32 rfl (by omega) (by omega) (by omega))) rfl ?_
    refine dx_q rfl (qt_move rfl) rfl ?_
    refine dx_q rfl (qt_move rfl) rfl ?_
    refine dx_q rfl (qt_index rfl rfl (by omega)) rfl ?_
    refine dx_q rfl (qt_load rfl (fun w t => t.a1 hat)) rfl ?_
    refine dx_q rfl (qt_to64 rfl (by omega) (by omega)) rfl ?_
    refine dx_q rfl (qt_bin rfl rfl (bin_join (by omega) (by omega) (by omega) (by omega))) rfl ?_
    refine dx_q rfl (qt_move rfl) rfl ?_
    refine dx_q rfl (qt_bin rfl rfl (bin_shrU m rfl (by omega) (by omega))) rfl ?_
    refine dx_q rfl (qt_to32 rfl) rfl ?_
    refine dx_nil ?_
    repeat (first | refine es_val rfl ?_ rfl | refine es_res rfl (fun x => ?_) rfl | refine es_skip rfl ?_)
    refine es_nil rfl ?_
    refine tx_q (qt_index rfl rfl (by omega)) rfl rfl rfl ?_
    refine tx_store 0 rfl rfl rfl rfl (by first | (simp [u32s, Value.cells]; done) | (simp [u32s, Value.cells]; omega)) rfl rfl rfl ?_
    refine tx_end ?_
    rw [eT, eQ]
    repeat with_reducible first | refine tr_skip ?_ | refine tr_exit ?_ | refine tr_then ?_ | refine tr_inX ?_ | refine tr_thenX ?_ | refine tr_inN ?_ | refine tr_inR ?_ | refine tr_thenR ?_
    refine tr_region ?_
    refine sq_q (qt_bin rfl rfl (bin_addI (by omega) (by omega))) rfl ?_
    refine sq_q (qt_move rfl) rfl ?_
    refine sq_nil ?_
    repeat with_reducible first | refine tr_skip ?_ | refine tr_exit ?_ | refine tr_then ?_ | refine tr_inX ?_ | refine tr_thenX ?_ | refine tr_inN ?_ | refine tr_inR ?_ | refine tr_thenR ?_
    refine tr_round (i + 1) (by omega) (by omega) ⟨rfl, rfl, rfl, rfl, rfl, trivial⟩ ?_ (fun _ _ => trivial)
    refine own1 ?_
    have e : xs.length - i = (xs.length - (i + 1)) + 1 := by omega
    have := set_next ((unsh m xs).take i) (xs.length - (i + 1)) ((unsh m xs)[i]) i (by simp; omega)
    rw [← e] at this
    simp only [wr, Value.cells, Nat.mul_one, Nat.zero_add, u32s_set]
    rw [this, List.take_succ_eq_append_getElem hui]
  ·
    have hlt : i = xs.length := by have := of_decide_eq_false hc; omega
    subst hlt
    have hlen := unsh_length m xs
    have hval : trimL (unsh m xs) = limbsOf (val xs / 2 ^ m) := by rw [trimL_limbsOf (unsh_lim m xs), unsh_val hm lx]
    refine tr_exit ?_
    repeat with_reducible first | refine tr_skip ?_ | refine tr_exit ?_ | refine tr_then ?_ | refine tr_inX ?_ | refine tr_thenX ?_ | refine tr_inN ?_ | refine tr_inR ?_ | refine tr_thenR ?_
    rw [Nat.sub_self, List.replicate_zero, List.append_nil, List.take_of_length_le (by omega)]
    refine tr_rseq ?_
    refine sq_q (qt_move rfl) rfl ?_
    refine sq_call (val := fun _ : Unit => .slice (some ⟨r9, 0, none⟩) (trimL (unsh m xs)).length (trimL (unsh m xs)).length) (F := fun _ _ => True) rfl rfl rfl (fun w t => by have h := fun S' => trim_ret (unsh m xs) (some ⟨r9, 0, none⟩) xs.length w S' (Rd.own (t.has _ (ownAt_mem (i := 0) rfl))) (by omega) (by omega); rw [hlen] at h; exact h _) fun _ => ?_
    refine sq_q (qt_assign rfl) rfl ?_
    refine sq_end ?_
    refine tr_ret ?_
    repeat with_reducible first | refine tr_skip ?_ | refine tr_exit ?_ | refine tr_then ?_ | refine tr_inX ?_ | refine tr_thenX ?_ | refine tr_inN ?_ | refine tr_inR ?_ | refine tr_thenR ?_
    refine tr_done (some ⟨r9, 0, none⟩, (trimL (unsh m xs)).length) (fun a w s t => results_1 rfl (resv_tmp s ?_)) ?_
    · rw [← hval]; rfl
    · intro w _ ho _
      rw [← hval]
      exact lm_trim (ho _ (ownAt_mem (i := 0) rfl))
end Go.Qk
end
section
namespace Go.Qk
/-- the first guess is not too small -/
theorem kn_first {M B U V U' V' u2 top v1 v2 q : Nat} (hM : 0 < M) (hV : V = V' + M * (v2 + B * v1)) (hU : U = U' + M * (u2 + B * top)) (hU' : U' < M) (hu2 : u2 < B) (hv1 : 0 < v1) (hV0 : 0 < V) (h : q = U / V) : q * v1 ≤ top := by
  have h1 : q * V ≤ U := by rw [h, Nat.mul_comm]; exact Nat.mul_div_le U V
  have hB : 0 < B := by omega
  rcases Nat.lt_or_ge top (q * v1) with hlt | hge
  · exfalso
    have a1 : M * (B * (top + 1)) ≤ M * (B * (q * v1)) := Nat.mul_le_mul_left _ (Nat.mul_le_mul_left _ hlt)
    have a2 : M * (B * (q * v1)) ≤ q * V := by
      rw [hV]
      have : q * (V' + M * (v2 + B * v1)) = q * V' + q * (M * v2) + M * (B * (q * v1)) := by grind
      omega
    have a3 : U < M * (B * (top + 1)) := by
      rw [hU]
      have e1 : M * (B * (top + 1)) = M * (B * top) + M * B := by grind
      have e2 : M * (u2 + 1) ≤ M * B := Nat.mul_le_mul_left _ hu2
      have e3 : M * (u2 + 1) = M * u2 + M := by grind
      have e4 : M * (u2 + B * top) = M * u2 + M * (B * top) := by grind
      omega
    omega
  · exact hge
/-- a guess that the test calls too great is too great -/
theorem kn_dec {M B U V U' V' u2 top v1 v2 q rest : Nat} (hM : 0 < M) (hV : V = V' + M * (v2 + B * v1)) (hU : U = U' + M * (u2 + B * top)) (hU' : U' < M) (hr : rest + q * v1 = top) (ht : rest * B + u2 < q * v2) : U / V < q := by
  rcases Nat.lt_or_ge (U / V) q with h | h
  · exact h
  · exfalso
    have h1 : q * V ≤ U := Nat.le_trans (Nat.mul_le_mul_right _ h) (by rw [Nat.mul_comm]; exact Nat.mul_div_le U V)
    have a1 : M * (rest * B + u2 + 1) ≤ M * (q * v2) := Nat.mul_le_mul_left _ ht
    have a2 : q * V = q * V' + M * (q * v2) + M * (B * (q * v1)) := by rw [hV]; grind
    have a3 : M * (u2 + B * top) = M * u2 + M * (B * rest) + M * (B * (q * v1)) := by rw [← hr]; grind
    have a4 : M * (rest * B + u2 + 1) = M * (B * rest) + M * u2 + M := by grind
    have a5 := Nat.zero_le (q * V')
    omega
/-- behind the test the guess is at most one too great -/
theorem kn_last {M B U V U' V' u2 top v1 v2 q rest : Nat} (hM : 0 < M) (hV : V = V' + M * (v2 + B * v1)) (hU : U = U' + M * (u2 + B * top)) (hV' : V' < M) (hv2 : v2 < B) (hq : q < B) (hv1 : 0 < v1) (hr : rest + q * v1 = top) (ht : B ≤ rest ∨ q * v2 ≤ rest * B + u2) : q ≤ U / V + 1 := by
  have hB : 0 < B := by omega
  have hV0 : 0 < V := by
    have : M * (B * v1) > 0 := Nat.mul_pos hM (Nat.mul_pos hB hv1)
    rw [hV, Nat.mul_add]; omega
  have hqv : q * V' ≤ q * M := Nat.mul_le_mul_left _ (Nat.le_of_lt hV')
  have hqM : (q + 1) * M ≤ B * M := Nat.mul_le_mul_right _ hq
  have eqV : q * V = q * V' + M * (q * v2) + M * (B * (q * v1)) := by rw [hV]; grind
  have eU : U = U' + M * u2 + M * (B * rest) + M * (B * (q * v1)) := by rw [hU, ← hr]; grind
  have eB : (q + 1) * M = q * M + M := by grind
  rcases ht with ht | ht
  · have h1 : q * V ≤ U := by
      have a1 : M * (q * v2) ≤ M * (q * B) := Nat.mul_le_mul_left _ (Nat.mul_le_mul_left _ (Nat.le_of_lt hv2))

      have a2 : V' + M * v2 ≤ M * B := by
        have : M * (v2 + 1) ≤ M * B := Nat.mul_le_mul_left _ hv2
        rw [Nat.mul_add] at this; omega
      have a3 : q * (V' + M * v2) ≤ q * (M * B) := Nat.mul_le_mul_left _ a2
      have a4 : q * (M * B) ≤ M * (B * rest) := by
        have : M * (B * q) ≤ M * (B * rest) := Nat.mul_le_mul_left _ (Nat.mul_le_mul_left _ (by omega))
        have e : q * (M * B) = M * (B * q) := by grind
        omega
      have a5 : q * (V' + M * v2) = q * V' + M * (q * v2) := by grind
      omega
    have : q ≤ U / V := (Nat.le_div_iff_mul_le hV0).2 h1
    omega
  · have a1 : M * (q * v2) ≤ M * (rest * B + u2) := Nat.mul_le_mul_left _ ht
    have a2 : M * (rest * B + u2) = M * (B * rest) + M * u2 := by grind
    have a3 : B * M ≤ V := by
      have : M * (B * 1) ≤ M * (B * v1) := Nat.mul_le_mul_left _ (Nat.mul_le_mul_left _ hv1)
      have e : M * (B * 1) = B * M := by grind
      have e' : V = V' + M * v2 + M * (B * v1) := by rw [hV]; grind
      omega
    have h1 : q * V < U + V := by omega
    rcases Nat.eq_zero_or_pos q with h0 | h0
    · rw [h0]; exact Nat.zero_le _
    · have h2 : (q - 1) * V < U := by
        have : q * V = (q - 1) * V + V := by
          obtain ⟨p, rfl⟩ : ∃ p, q = p + 1 := ⟨q - 1, by omega⟩
          rw [Nat.add_sub_cancel]; grind
        omega
      have : q - 1 ≤ U / V := (Nat.le_div_iff_mul_le hV0).2 (by omega)
      generalize U / V = z at *
      omega
/-- the guess was right: what is left -/
theorem kn_right {U V P q N un cb : Nat} (h : U + N * cb = P + q * V + N * un) (hle : cb ≤ un) (hV0 : 0 < V) (hge : U / V ≤ q) : q = U / V ∧ P + N * (un - cb) = U % V := by
  have e : N * un = N * cb + N * (un - cb) := by rw [← Nat.mul_add]; congr 1; omega
  have h1 : U = P + N * (un - cb) + q * V := by omega
  have h2 : q ≤ U / V := (Nat.le_div_iff_mul_le hV0).2 (by omega)
  have h3 : q = U / V := by omega
  refine ⟨h3, ?_⟩
  have h4 := Nat.div_add_mod U V
  rw [← h3, Nat.mul_comm] at h4
  omega
/-- the guess was one too great -/
theorem kn_wrong {U V P q N un cb : Nat} (h : U + N * cb = P + q * V + N * un) (hlt : un < cb) (hP : P < N) (hVN : V < N) (hV0 : 0 < V) (hle : q ≤ U / V + 1) : q = U / V + 1 ∧ cb = un + 1 ∧ P + V = U % V + N := by
  obtain ⟨d, hd⟩ : ∃ d, cb = un + 1 + d := ⟨cb - un - 1, by omega⟩
  subst hd
  have e : N * (un + 1 + d) = N * un + N + N * d := by grind
  have h4 := Nat.div_add_mod U V
  have h5 := Nat.mod_lt U hV0
  have h6 : q = U / V + 1 := by
    rcases Nat.lt_or_ge (U / V) q with hh | hh
    · omega
    · exfalso
      have : q * V ≤ U / V * V := Nat.mul_le_mul_right _ hh
      rw [Nat.mul_comm V] at h4
      omega
  have h7 : q * V = V * (U / V) + V := by rw [h6]; grind
  have h8 : d = 0 := by
    rcases Nat.eq_zero_or_pos d with h0 | h0
    · exact h0
    · exfalso
      have : N * 1 ≤ N * d := Nat.mul_le_mul_left _ h0
      omega
  subst h8
  exact ⟨h6, rfl, by omega⟩
/-- one round of the product that is taken away -/
theorem kn_step {T Bi c b x y q p b' p0 W t : Nat} (h : T + Bi * (c + b) = p0 + q * W) (ht : t = c + q * y) (hs : x + 4294967296 * b' = p + t % 4294967296 + b) : (T + Bi * x) + (Bi * 4294967296) * (t / 4294967296 + b') = (p0 + Bi * p) + q * (W + Bi * y) := by
  have e : t = t % 4294967296 + 4294967296 * (t / 4294967296) := (Nat.mod_add_div _ _).symm
  generalize t % 4294967296 = g at *
  generalize t / 4294967296 = k at *
  grind
theorem val_top2 {xs : List Nat} {k : Nat} (h : xs.length = k + 2) : val xs = val (xs.take k) + 4294967296 ^ k * (xs[k] + 4294967296 * xs[k + 1]) := by
  rw [val_split xs k (by omega)]
  have e : xs.drop (k + 1) = [xs[k + 1]] := by
    rw [← List.getElem_cons_drop (show k + 1 < xs.length by omega), List.drop_of_length_le (by omega)]
  rw [e]
  simp [val]
theorem val_top3 {xs : List Nat} {k : Nat} (h : xs.length = k + 3) : val xs = val (xs.take k) + 4294967296 ^ k * (xs[k] + 4294967296 * (xs[k + 2] * 4294967296 + xs[k + 1])) := by
  rw [val_split xs k (by omega)]
  have e : xs.drop (k + 1) = [xs[k + 1], xs[k + 2]] := by
    rw [← List.getElem_cons_drop (show k + 1 < xs.length by omega), ← List.getElem_cons_drop (show k + 1 + 1 < xs.length by omega), List.drop_of_length_le (by omega)]
  rw [e]
  simp only [val, Nat.mul_zero, Nat.add_zero]
  grind
theorem val_top1 {xs : List Nat} {k : Nat} (h : xs.length = k + 1) : val xs = val (xs.take k) + 4294967296 ^ k * xs[k] := by
  rw [val_split xs k (by omega), List.drop_of_length_le (by omega)]
  simp [val]
/-- the quotient and the remainder of the shifted numbers -/
theorem kn_shift {X Y P Q U : Nat} (hP : 0 < P) (hY : 0 < Y) (h : X * P = Y * P * Q + U) (hU : U < Y * P) : Q = X / Y ∧ U / P = X % Y := by
  have h1 : Y * Q ≤ X := by
    have : Y * Q * P ≤ X * P := by
      have e : Y * Q * P = Y * P * Q := by grind
      omega
    exact Nat.le_of_mul_le_mul_right this hP
  obtain ⟨r, hr⟩ : ∃ r, X = Y * Q + r := ⟨X - Y * Q, by omega⟩
  have h2 : U = r * P := by
    have e : X * P = Y * P * Q + r * P := by rw [hr]; grind
    omega
  have h3 : r < Y := by
    rw [h2] at hU
    exact Nat.lt_of_mul_lt_mul_right hU
  refine ⟨?_, ?_⟩
  · rw [hr, Nat.mul_add_div hY, Nat.div_eq_of_lt h3, Nat.add_zero]
  · rw [h2, Nat.mul_div_cancel _ hP, hr, Nat.mul_add_mod, Nat.mod_eq_of_lt h3]
theorem val_zero_of_lt {xs : List Nat} {a c : Nat} (h : a + c * val xs < c) : val xs = 0 := by
  rcases Nat.eq_zero_or_pos (val xs) with h0 | h0
  · exact h0
  · have := Nat.le_mul_of_pos_right c h0
    omega
theorem pow_two_up (B k : Nat) : B ^ (k + 2) = B ^ (k + 1) * B := Nat.pow_succ ..
theorem pow_three_up (B k : Nat) : B ^ (k + 3) = B ^ (k + 2) * B := Nat.pow_succ ..
/-- the shifted divisor has no limb more -/
theorem kn_top {ys : List Nat} {k P : Nat} (hk : ys.length = k + 2) (ly : lim ys) (h : (ys[k + 1] + 1) * P ≤ 4294967296) : val ys * P < 4294967296 ^ (k + 2) := by
  have e1 := val_top1 (k := k + 1) hk
  have e2 := val_lt (lim_take ly (k + 1))
  rw [show (ys.take (k + 1)).length = k + 1 by simp; omega] at e2
  rw [pow_two_up]
  generalize 4294967296 ^ (k + 1) = B at *
  generalize ys[k + 1] = y at *
  generalize val (ys.take (k + 1)) = v at *
  have e3 : val ys + 1 ≤ B * (y + 1) := by rw [Nat.mul_add]; omega
  have e4 : (val ys + 1) * P ≤ B * (y + 1) * P := Nat.mul_le_mul_right _ e3
  have e5 : B * ((y + 1) * P) ≤ B * 4294967296 := Nat.mul_le_mul_left _ h
  have e6 : (val ys + 1) * P = val ys * P + P := by rw [Nat.add_mul, Nat.one_mul]
  have e7 : B * ((y + 1) * P) = B * (y + 1) * P := (Nat.mul_assoc ..).symm
  have hP : 0 < P ∨ P = 0 := by omega
  rcases hP with hP | hP
  · omega
  · rw [hP, Nat.mul_zero]
    have : 0 < B := by
      rcases Nat.eq_zero_or_pos B with h0 | h0
      · rw [h0] at e2; omega
      · exact h0
    omega
theorem kn_vs {zv : List Nat} {n Y : Nat} (h : zv.length = n + 1) (hv : val zv = Y) (hY : Y < 4294967296 ^ n) : val (zv.take n) = Y := by
  have e := val_top1 (k := n) h
  rw [hv] at e
  rcases Nat.eq_zero_or_pos zv[n] with h0 | h0
  · rw [h0] at e; omega
  · have := Nat.le_mul_of_pos_right (4294967296 ^ n) h0
    omega
theorem kn_vtop {vs : List Nat} {k : Nat} (h : vs.length = k + 1) (l : lim vs) (hv : 4294967296 ^ k ≤ val vs) : 0 < vs[k] := by
  rcases Nat.eq_zero_or_pos vs[k] with h0 | h0
  · exfalso
    have e1 := val_top1 (k := k) h
    have e2 := val_lt (lim_take l k)
    rw [show (vs.take k).length = k by simp; omega] at e2
    rw [h0] at e1
    omega
  · exact h0
theorem kn_init {xs ys : List Nat} {k m P : Nat} (hx : xs.length = k + 2 + m) (lx : lim xs) (hy : 4294967296 ^ (k + 1) ≤ val ys) (hP : 0 < P) : val xs * P < val ys * P * 4294967296 ^ (m + 1) := by
  have e1 := val_lt lx
  rw [hx, show k + 2 + m = (k + 1) + (m + 1) by omega, Nat.pow_add] at e1
  have e3 := Nat.mul_le_mul_right (4294967296 ^ (m + 1)) hy
  generalize 4294967296 ^ (m + 1) = C at *
  generalize 4294967296 ^ (k + 1) = B at *
  have e4 : val xs * P < val ys * C * P := Nat.mul_lt_mul_of_pos_right (by omega) hP
  have e5 : val ys * P * C = val ys * C * P := by grind
  omega
/-- the window of a round -/
theorem kn_cut {us : List Nat} {i k V : Nat} (hl : i + (k + 3) ≤ us.length) (lu : lim us) (hV : 0 < V) (hV' : V < 4294967296 ^ (k + 2)) (hu : val us < V * 4294967296 ^ (i + 1)) :
    ∃ pre mid post, us = pre ++ mid ++ post ∧ pre.length = i ∧ mid.length = k + 3 ∧ lim pre ∧ lim mid ∧ lim post ∧ val post = 0 ∧ val us = val pre + 4294967296 ^ i * val mid ∧ val pre < 4294967296 ^ i ∧ val mid < V * 4294967296 := by
  obtain ⟨pre, hpre⟩ : ∃ pre, pre = us.take i := ⟨_, rfl⟩
  obtain ⟨mid, hmid⟩ : ∃ mid, mid = (us.drop i).take (k + 3) := ⟨_, rfl⟩
  obtain ⟨post, hpost⟩ : ∃ post, post = us.drop (i + (k + 3)) := ⟨_, rfl⟩
  have hsplit : us = pre ++ mid ++ post := by
    rw [hpre, hmid, hpost, List.append_assoc, ← List.drop_drop, List.take_append_drop, List.take_append_drop]
  have hprel : pre.length = i := by rw [hpre]; simp; omega
  have hmidl : mid.length = k + 3 := by rw [hmid]; simp; omega
  have lpre : lim pre := by rw [hpre]; exact lim_take lu _
  have lmid : lim mid := fun x hx => lu x (by rw [hsplit]; simp [hx])
  have lpost : lim post := fun x hx => lu x (by rw [hsplit]; simp [hx])
  have hval : val us = val pre + 4294967296 ^ i * (val mid + 4294967296 ^ (k + 3) * val post) := by
    conv => lhs; rw [hsplit]
    rw [List.append_assoc, val_append, val_append, hprel, hmidl]
  have hpl := val_lt lpre
  rw [hprel] at hpl
  have hBi : 0 < 4294967296 ^ i := Nat.pow_pos (by decide)
  rw [Nat.pow_succ] at hu
  have hpost0 : val post = 0 := by
    refine val_zero_of_lt (a := val mid) (c := 4294967296 ^ (k + 3)) ?_
    have e1 : 4294967296 ^ i * (val mid + 4294967296 ^ (k + 3) * val post) < 4294967296 ^ i * 4294967296 ^ (k + 3) := by
      rw [pow_three_up] at hval ⊢
      generalize 4294967296 ^ (k + 2) = D at *
      generalize 4294967296 ^ i = B at *
      have e2 : V * (B * 4294967296) ≤ D * (B * 4294967296) := Nat.mul_le_mul_right _ (Nat.le_of_lt hV')
      have e3 : D * (B * 4294967296) = B * (D * 4294967296) := by grind
      omega
    exact Nat.lt_of_mul_lt_mul_left e1
  rw [hpost0, Nat.mul_zero, Nat.add_zero] at hval
  refine ⟨pre, mid, post, hsplit, hprel, hmidl, lpre, lmid, lpost, hpost0, hval, hpl, ?_⟩
  have e1 : 4294967296 ^ i * val mid < 4294967296 ^ i * (V * 4294967296) := by
    generalize 4294967296 ^ i = B at *
    have e2 : V * (B * 4294967296) = B * (V * 4294967296) := by grind
    omega
  exact Nat.lt_of_mul_lt_mul_left e1
theorem kn_inv {Z V i Q U p md md' q : Nat} (h : Z = V * (4294967296 ^ (i + 1) * Q) + U) (hU : U = p + 4294967296 ^ i * md) (hd : V * q + md' = md) : Z = V * (4294967296 ^ i * (q + 4294967296 * Q)) + (p + 4294967296 ^ i * md') := by
  rw [Nat.pow_succ] at h
  generalize 4294967296 ^ i = B at *
  rw [h, hU, ← hd]
  grind
theorem kn_low {V i p r : Nat} (hp : p < 4294967296 ^ i) (hr : r < V) : p + 4294967296 ^ i * r < V * 4294967296 ^ i := by
  generalize 4294967296 ^ i = B at *
  have e2 : B * (r + 1) ≤ B * V := Nat.mul_le_mul_left _ hr
  rw [Nat.mul_add, Nat.mul_one] at e2
  rw [Nat.mul_comm V]
  omega
theorem kn_last' {us : List Nat} {n V : Nat} (hl : n ≤ us.length) (hV : val us < V) (h : V < 4294967296 ^ n) : val (us.take n) = val us := by
  have e : us = us.take n ++ us.drop n := (List.take_append_drop ..).symm
  have e2 : val us = val (us.take n) + 4294967296 ^ n * val (us.drop n) := by
    conv => lhs; rw [e]
    rw [val_append, List.length_take, Nat.min_eq_left hl]
  have e3 : val (us.drop n) = 0 := val_zero_of_lt (a := val (us.take n)) (c := 4294967296 ^ n) (by omega)
  rw [e3, Nat.mul_zero, Nat.add_zero] at e2
  exact e2.symm
theorem kn_put (i q : Nat) (qs : List Nat) : (List.replicate (i + 1) 0 ++ qs).set i q = List.replicate i 0 ++ q :: qs := by
  rw [List.set_append_left _ _ (by simp), List.replicate_succ', List.set_append_right _ _ (by simp)]
  simp
end Go.Qk
end
section
set_option linter.unusedVariables false
namespace Go.Qk
open Go Go.RowKit
section
variable {P : Program} {n : Nat} {w0 : World} {X : List Nat} {S : Nat → Prop} {E : Env} {own : Own} {R : World → Prop} {Q : Exit → Act → World → Prop} {ops : Array Oper} {rest : List Oper}
theorem SS.startX (w : World) (S : Nat → Prop) {r : Nat} {o : Obj} (h : w.heap[r]? = some o) : SS w [r] S [(r, o)] (fun _ => True) w :=
  ⟨rfl, rfl, rfl, Nat.le_refl _, fun _ _ _ => rfl, fun p hp => by simp at hp; subst hp; exact ⟨(Array.getElem?_eq_some_iff.1 h).1, .inl (by simp)⟩, fun p hp => by simp at hp; subst hp; exact h, by simp, fun _ _ _ => trivial⟩
/-- what a call comes to that may write into block 'r' -/
def RtU {α : Type} (w : World) (r : Nat) (val : α → Value) (obj : α → Obj) (p : α → Prop) (e : Ending) (w' : World) : Prop :=
  ∃ x, p x ∧ e = .returned (val x) ∧ w'.os = w.os ∧ w'.tape = w.tape ∧ w'.output = w.output ∧ w.heap.size ≤ w'.heap.size ∧ (∀ k, k < w.heap.size → k ≠ r → w'.heap[k]? = w.heap[k]?) ∧ w'.heap[r]? = some (obj x)
def RetU (P : Program) (f : FuncId) (vs : List Value) (w : World) (r : Nat) {α : Type} (val : α → Value) (obj : α → Obj) (p : α → Prop) : Prop := Calls P f vs.toArray w (RtU w r val obj p)
theorem SS.updG {w0 w w' : World} {X : List Nat} {S : Nat → Prop} {own : Own} {R : World → Prop} (h : SS w0 X S own R w) {i r : Nat} {o o' : Obj} (hi : ownAt own i = some (r, o)) (h1 : w'.os = w.os) (h2 : w'.tape = w.tape) (h3 : w'.output = w.output) (h4 : w.heap.size ≤ w'.heap.size)
    (h5 : ∀ k, k < w.heap.size → k ≠ r → w'.heap[k]? = w.heap[k]?) (h6 : w'.heap[r]? = some o') : SS w0 X S (ownSet own i o') R w' := by
  have hr := h.lt _ (ownAt_mem hi)
  refine ⟨h1.trans h.os, h2.trans h.tape, h3.trans h.output, Nat.le_trans h.size h4, ?_, ?_, ?_, ?_, ?_⟩
  · intro k hk hx
    rw [h5 k (Nat.lt_of_lt_of_le hk h.size) ?_]
    · exact h.pres k hk hx
    · rintro rfl
      rcases hr.2 with h1 | h1
      · exact hx h1
      · omega
  · intro p hp
    rcases ownSet_mem hi h.nd hp with rfl | ⟨g1, g2⟩
    · exact ⟨Nat.lt_of_lt_of_le hr.1 h4, hr.2⟩
    · exact ⟨Nat.lt_of_lt_of_le (h.lt p g1).1 h4, (h.lt p g1).2⟩
  · intro p hp
    rcases ownSet_mem hi h.nd hp with rfl | ⟨g1, g2⟩
    · exact h6
    · rw [h5 _ (h.lt p g1).1 g2]; exact h.has p g1
  · have : (own.map (·.1)).Pairwise (· ≠ ·) := by rw [List.pairwise_map]; exact h.nd
    rw [← ownSet_fst own i o', List.pairwise_map] at this
    exact this
  · intro w'' hs hk
    refine h.keep w'' (Nat.le_trans h4 hs) fun k g1 g2 g3 => ?_
    rw [hk k g1 (Nat.lt_of_lt_of_le g2 h4) (fun p hp e => by
      obtain ⟨q, hq, hq'⟩ := mem_fst_ownSet.1 ⟨p, hp, e⟩
      exact g3 q hq hq'), h5 k g2]
    rintro rfl
    exact g3 _ (ownAt_mem hi) rfl
theorem retU_of {f : FuncId} {fn : Func} {c : Code} {vs : List Value} {w : World} (S : Nat → Prop) {r : Nat} {o : Obj} {α : Type} {val : α → Value} {obj : α → Obj} {p : α → Prop} {n : Nat} (hf : P.funcs[f]? = some fn) (hb : fn.body = some c) (hn : fn.ntmps = n) (hle : Nat.ble vs.length n = true) (ho : w.heap[r]? = some o)
    (h : Tr n w [r] S (envOf 0 vs) [(r, o)] (fun _ => True) (c.wp P (bodyPost P fn (RtU w r val obj p)))) : RetU P f vs w r val obj p := by
  refine calls_of_wp hf hb (h _ _ ⟨?_, rfl, ?_⟩ (SS.startX w S ho))
  · have : vs.length ≤ n := by simpa using hle
    simp [hn]
    omega
  · intro t v hv
    obtain ⟨j, h1, h2⟩ := envOf_look hv
    have : j < vs.length := by
      rcases Nat.lt_or_ge j vs.length with h | h
      · exact h
      · simp [List.getElem?_eq_none h] at h2
    subst h1
    simp only [Nat.zero_add]
    rw [Array.getElem?_append_left (by simpa using this)]
    simpa using h2
theorem tr_doneU {fn : Func} {w0 : World} {r : Nat} {α : Type} {val : α → Value} {obj : α → Obj} {p : α → Prop} (x : α) (i : Nat) (hp : p x) (hres : ∀ a w, St n a E → SS w0 [r] S own R w → (results fn a.tmps).run P w = .ok (val x) w)
    (hi : ownAt own i = some (r, obj x)) : Tr n w0 [r] S E own R (bodyPost P fn (RtU w0 r val obj p) .ret) := fun a w s t =>
  ⟨s.defers, val x, hres a w s t, x, hp, rfl, t.os, t.tape, t.output, t.size, fun k hk hr => t.pres k hk (by simpa using hr), t.has _ (ownAt_mem hi)⟩
theorem sq_callU (i : Nat) {α : Type} {c : Operand} {f : FuncId} {pre cap : List Value} {xs : List Operand} {vs : List Value} {ats : Array TypeId} {ty : TypeId} {d : Nat} {pos : String} {af : Array Edge} {r : Nat} {o : Obj} (val : α → Value) (obj : α → Obj) (p : α → Prop) [hB : FnB P f]
    (hi : ownAt own i = some (r, o)) (hc : fnv (look E) c f pre cap) (hxs : evs (look E) xs = some vs) (hd : Nat.blt d n = true)
    (hcall : ∀ w, SS w0 X S own R w → RetU P f (pre ++ vs ++ cap) w r val obj p)
    (h : ∀ x, p x → Sq P ops Q n w0 X S rest ((d, val x) :: E) (ownSet own i (obj x)) R) :
    Sq P ops Q n w0 X S (⟨some d, .call { callee := .value c, args := xs.toArray, argTypes := ats }, ty, pos, af, none⟩ :: rest) E own R := by
  intro a w s t'
  refine wpList_plain rfl fun K hK => ?_
  unfold Oper.wp
  rw [run_call s.agr hc hxs, Oper.upon_enter]
  refine (hcall w t').mono ?_
  rintro e w' ⟨x, hp, rfl, h1, h2, h3, h4, h5, h6⟩
  exact hK _ _ (h x hp _ _ (s.put hd _) (t'.updG hi h1 h2 h3 h4 h5 h6))
/-- blocks that a callee has made become the call's own -/
theorem tr_adopt (ad : Own) {f : Act → World → Prop} (h1 : ∀ w, SS w0 X S own R w → (∀ p ∈ ad, w0.heap.size ≤ p.1 ∧ w.heap[p.1]? = some p.2) ∧ (ad ++ own).Pairwise fun p q => p.1 ≠ q.1)
    (h : Tr n w0 X S E (ad ++ own) (fun _ => True) f) : Tr n w0 X S E own R f := by
  intro a w s t
  obtain ⟨g1, g2⟩ := h1 w t
  refine h a w s ⟨t.os, t.tape, t.output, t.size, t.pres, ?_, ?_, g2, fun _ _ _ => trivial⟩
  · intro p hp
    rcases List.mem_append.1 hp with hp | hp
    · exact ⟨(Array.getElem?_eq_some_iff.1 (g1 p hp).2).1, .inr (g1 p hp).1⟩
    · exact t.lt p hp
  · intro p hp
    rcases List.mem_append.1 hp with hp | hp
    · exact (g1 p hp).2
    · exact t.has p hp
end
section
variable {w0 w : World} {X : List Nat} {S : Nat → Prop} {own : Own} {R : World → Prop}
theorem SS.a1x (t : SS w0 X S own R w) {r o i : Nat} {v : Value} (h : At r (o + i) v w0) (hx : r ∉ X) : At r (o + i * 1) v w := by rw [Nat.mul_one]; exact t.at_ h hx
theorem get_mid {pre us post : List Nat} {k : Nat} (hk : k < us.length) : (u32s (pre ++ us ++ post))[pre.length + k]? = some (.int .u32 ((us[k] : Nat) : Int)) := by
  rw [u32s, List.getElem?_map, List.append_assoc, List.getElem?_append_right (by omega), List.getElem?_append_left (by omega)]
  simp [hk]
theorem SS.om (i : Nat) (t : SS w0 X S own R w) {r : Nat} {pre us post : List Nat} {e : TypeId} {fr : Nat × Nat} {k : Nat} (h : ownAt own i = some (r, .cells (u32s (pre ++ us ++ post)).toArray e fr)) (hk : k < us.length) : At r (pre.length + k * 1) (.int .u32 ((us[k] : Nat) : Int)) w := by
  rw [Nat.mul_one]; exact t.atO i h (get_mid hk)
theorem set_next' {ps us : List Nat} {y : Nat} (h : ps.length < us.length) : (ps ++ us.drop ps.length).set ps.length y = (ps ++ [y]) ++ us.drop (ps ++ [y]).length := by
  have e : us.drop ps.length = us[ps.length] :: us.drop (ps.length + 1) := (List.getElem_cons_drop h).symm
  rw [List.set_append_right _ _ (Nat.le_refl _), e]
  simp only [Nat.sub_self, List.set_cons_zero, List.append_assoc, List.singleton_append, List.length_append, List.length_singleton]
theorem set_mid {pre us post : List Nat} {k y : Nat} (hk : k < us.length) : (u32s (pre ++ us ++ post)).set (pre.length + k) (.int .u32 (y : Int)) = u32s (pre ++ us.set k y ++ post) := by
  rw [u32s_set]
  congr 1
  rw [List.append_assoc, List.set_append_right _ _ (by omega), List.set_append_left _ _ (by omega), List.append_assoc]
  congr 3
  omega
end
end Go.Qk
end
section
set_option linter.unusedVariables false
namespace Go.Qk
open Go Go.Proofs
set_option maxRecDepth 100000
set_option maxHeartbeats 4000000
theorem digit_ret (pre us post vs : List Nat) (k r : Nat) (B : Option Addr) (cu cb : Nat) (w : World) (ho : w.heap[r]? = some (.cells (u32s (pre ++ us ++ post)).toArray 57 (0, 0))) (hy : Rd B (u32s vs) w) (hB : ∀ rb ob, B = some ⟨rb, ob, none⟩ → rb ≠ r) (lu : lim us) (lv : lim vs)
    (hv : vs.length = k + 2) (hu : us.length = k + 3) (hb : k ≤ 35184372088832) (hlt0 : val us < val vs * 4294967296) (hv1 : 0 < vs[k + 1]) :
    RetU Try.prog 128 [.slice (some ⟨r, pre.length, none⟩) (k + 3) cu, .slice B (k + 2) cb] w r (fun _ : List Nat => .int .u32 ((val us / val vs : Nat) : Int)) (fun us' => .cells (u32s (pre ++ us' ++ post)).toArray 57 (0, 0)) (fun us' => us'.length = k + 3 ∧ lim us' ∧ val us' = val us % val vs) := by
  obtain ⟨rb, ob, rfl, _⟩ := hy.at_ (u32s_get (show k < vs.length by omega))
  have hrb : rb ∉ [r] := by simpa using hB rb ob rfl
  have hyAt : ∀ i (h : i < vs.length), At rb (ob + i) (.int .u32 ((vs[i] : Nat) : Int)) w := by
    intro i h
    obtain ⟨r1, o1, h1, h2⟩ := hy.at_ (u32s_get h)
    injection h1 with h1
    injection h1 with h1 h3 _
    subst h1 h3
    exact h2
  have b0 := lu _ (List.getElem_mem (show k < us.length by omega))
  have b1 := lu _ (List.getElem_mem (show k + 1 < us.length by omega))
  have b2 := lu _ (List.getElem_mem (show k + 2 < us.length by omega))
  have c0 := lv _ (List.getElem_mem (show k < vs.length by omega))
  have c1 := lv _ (List.getElem_mem (show k + 1 < vs.length by omega))
  have eV := val_top2 hv
  have eU := val_top3 hu
  have hM : 0 < 4294967296 ^ k := Nat.pow_pos (by decide)
  have hV' := val_lt (lim_take lv k)
  rw [show (vs.take k).length = k by simp; omega] at hV'
  have hU' := val_lt (lim_take lu k)
  rw [show (us.take k).length = k by simp; omega] at hU'
  have hV0 : 0 < val vs := by
    rcases Nat.eq_zero_or_pos (val vs) with h | h
    · rw [h] at hlt0; omega
    · exact h
  have hQ : val us / val vs < 4294967296 := by rw [Nat.div_lt_iff_lt_mul hV0, Nat.mul_comm]; exact hlt0
  obtain ⟨top, htop⟩ : ∃ top, top = us[k + 2] * 4294967296 + us[k + 1] := ⟨_, rfl⟩
  rw [← htop] at eU
  have eT : ((us[k + 2] : Nat) : Int) * 2 ^ 32 + ((us[k + 1] : Nat) : Int) = (top : Int) := by rw [htop]; omega
  have hf := kn_first hM eV eU hU' b0 hv1 hV0 rfl
  obtain ⟨q0, hq0⟩ : ∃ q0, q0 = min (top / vs[k + 1]) 4294967295 := ⟨_, rfl⟩
  have eq0 : min ((top : Int) / ((vs[k + 1] : Nat) : Int)) 4294967295 = (q0 : Int) := by
    rw [hq0, ← Int.natCast_ediv]
    generalize top / vs[k + 1] = z
    omega
  have hq0b : q0 < 4294967296 := by rw [hq0]; omega
  have hq0t : q0 * vs[k + 1] ≤ top := Nat.le_trans (Nat.mul_le_mul_right _ (show q0 ≤ top / vs[k + 1] by rw [hq0]; exact Nat.min_le_left _ _)) (by rw [Nat.mul_comm]; exact Nat.mul_div_le _ _)
  have hq0Q : val us / val vs ≤ q0 := by
    have : val us / val vs ≤ top / vs[k + 1] := (Nat.le_div_iff_mul_le hv1).2 hf
    rw [hq0]
    generalize top / vs[k + 1] = z at *
    generalize val us / val vs = y at *
    omega
  have htopb : top < 18446744073709551616 := by omega
  refine retU_of none_ Try.func128 rfl Try.ntmps128 rfl ho ?_
  refine tr_rseq ?_
  refine sq_q (qt_assign rfl) rfl ?_
  refine sq_end ?_
  refine tr_rseq ?_
  refine sq_q (qt_move rfl) rfl ?_
  refine sq_q (qt_len rfl) rfl ?_
  refine sq_q (qt_assign rfl) rfl ?_
  refine sq_end ?_
  refine tr_rdraw0 [0, 1, 4, 5, 6, 7, 8, 9, 10, 11, 12, 13, 14, 70, 81, 82, 83, 130, 133, 134, 135] (by kernel_rfl) ?_
  refine dx_q rfl (qt_move rfl) rfl ?_
  refine dx_q rfl (qt_move rfl) rfl ?_
  refine dx_q rfl (qt_index (i := k + 2) rfl rfl (by omega)) rfl ?_
  refine dx_q rfl (qt_load rfl (fun w t => t.om 0 rfl (show k + 2 < us.length by omega))) rfl ?_
  refine dx_q rfl (qt_to64 rfl (by omega) (by omega)) rfl ?_
  refine dx_q rfl (qt_bin rfl rfl (bin_shlU 32 rfl (by omega) (by omega) (by omega))) rfl ?_
  refine dx_q rfl (qt_move rfl) rfl ?_
  refine dx_q rfl (qt_move rfl) rfl ?_
  refine dx_q rfl (qt_bin rfl rfl (bin_subN (a := k + 2) (b := 1) rfl (by omega) (by omega))) rfl ?_
  refine dx_q rfl (qt_index (i := k + 1) rfl rfl (by omega)) rfl ?_
  refine dx_q rfl (qt_load rfl (fun w t => t.om 0 rfl (show k + 1 < us.length by omega))) rfl ?_
  refine dx_q rfl (qt_to64 rfl (by omega) (by omega)) rfl ?_
  refine dx_q rfl (qt_bin rfl rfl (bin_join (by omega) (by omega) (by omega) (by omega))) rfl ?_
  refine dx_q rfl (qt_assign rfl) rfl ?_
  refine dx_nil ?_
  repeat (first | refine es_val rfl ?_ rfl | refine es_res rfl (fun x => ?_) rfl | refine es_skip rfl ?_)
  refine es_nil rfl ?_
  refine tx_endk ?_
  rw [eT]
  refine tr_rseq ?_
  refine sq_q (qt_move rfl) rfl ?_
  refine sq_q (qt_move rfl) rfl ?_
  refine sq_q (qt_move rfl) rfl ?_
  refine sq_q (qt_bin rfl rfl (bin_subN (a := k + 2) (b := 1) rfl (by omega) (by omega))) rfl ?_
  refine sq_q (qt_index (i := k + 1) rfl rfl (by omega)) rfl ?_
  refine sq_q (qt_load rfl (fun w t => t.a1x (hyAt (k + 1) (by omega)) hrb)) rfl ?_
  refine sq_q (qt_to64 rfl (by omega) (by omega)) rfl ?_
  refine sq_q (qt_bin rfl rfl (bin_quoU (by omega) (by omega) (by omega))) rfl ?_
  refine sq_q (qt_min rfl rfl) rfl ?_
  refine sq_q (qt_assign rfl) rfl ?_
  refine sq_end ?_
  rw [eq0]
  have hp0 : (q0 : Int) * ((vs[k + 1] : Nat) : Int) = ((q0 * vs[k + 1] : Nat) : Int) := by simp
  refine tr_cut (fun q : Nat => q < 4294967296 ∧ val us / val vs ≤ q ∧ q ≤ val us / val vs + 1) (fun q => [(0, .slice (some ⟨r, pre.length, none⟩) (k + 3) cu), (1, .slice (some ⟨rb, ob, none⟩) (k + 2) cb), (5, .int .i64 ((k + 2 : Nat) : Int)), (7, .int .u64 (q : Int))]) (fun q => [(r, .cells (u32s (pre ++ us ++ post)).toArray 57 (0, 0))]) (fun _ _ => True) ?_ ?_
  ·
    refine tr_rseq ?_
    refine sq_q (qt_move rfl) rfl ?_
    refine sq_q (qt_move rfl) rfl ?_
    refine sq_q (qt_move rfl) rfl ?_
    refine sq_q (qt_move rfl) rfl ?_
    refine sq_q (qt_bin rfl rfl (bin_subN (a := k + 2) (b := 1) rfl (by omega) (by omega))) rfl ?_
    refine sq_q (qt_index (i := k + 1) rfl rfl (by omega)) rfl ?_
    refine sq_q (qt_load rfl (fun w t => t.a1x (hyAt (k + 1) (by omega)) hrb)) rfl ?_
    refine sq_q (qt_to64 rfl (by omega) (by omega)) rfl ?_
    refine sq_q (qt_bin rfl rfl (bin_mulU (by rw [hp0]; omega) (by rw [hp0]; omega))) rfl ?_
    refine sq_q (qt_bin rfl rfl (bin_subU (by rw [hp0]; omega) (by rw [hp0]; omega))) rfl ?_
    refine sq_q (qt_assign rfl) rfl ?_
    refine sq_end ?_
    have er0 : (top : Int) - (q0 : Int) * ((vs[k + 1] : Nat) : Int) = ((top - q0 * vs[k + 1] : Nat) : Int) := by rw [hp0]; omega
    rw [er0]
    refine tr_block ?_
    refine tr_loop2 (fun (q rest : Nat) => q < 4294967296 ∧ val us / val vs ≤ q ∧ rest + q * vs[k + 1] = top)
      (fun q rest => [(0, .slice (some ⟨r, pre.length, none⟩) (k + 3) cu), (1, .slice (some ⟨rb, ob, none⟩) (k + 2) cb), (5, .int .i64 ((k + 2 : Nat) : Int)), (7, .int .u64 (q : Int)), (8, .int .u64 (rest : Int))])
      (fun q rest => [(r, .cells (u32s (pre ++ us ++ post)).toArray 57 (0, 0))]) (fun _ _ _ => True) (fun q rest => q) q0 (top - q0 * vs[k + 1]) ⟨hq0b, hq0Q, by omega⟩ ⟨rfl, rfl, rfl, rfl, rfl, trivial⟩ rfl (fun _ _ => trivial) ?_
    rintro q rest ⟨hqb, hqQ, hrest⟩
    have hm2 : q * vs[k] ≤ 4294967295 * 4294967295 := Nat.mul_le_mul (by omega) (by omega)
    have hm2I : (q : Int) * ((vs[k] : Nat) : Int) = ((q * vs[k] : Nat) : Int) := by simp
    have hcase : (¬ rest < 4294967296) ∨ (rest < 4294967296 ∧ ¬ (rest * 4294967296 + us[k] < q * vs[k])) ∨ (rest < 4294967296 ∧ rest * 4294967296 + us[k] < q * vs[k]) := by omega
    refine tr_seq ?_
    rcases hcase with hcs | ⟨hcs, hcs2⟩ | ⟨hcs, hcs2⟩
    ·
      have hlast : q ≤ val us / val vs + 1 := kn_last hM eV eU hV' c0 hqb hv1 hrest (.inl (by omega))
      refine tr_rdraw0 [0, 1, 4, 5, 6, 7, 8, 9, 10, 11, 12, 13, 14, 70, 81, 82, 83, 130, 133, 134, 135] (by kernel_rfl) ?_
      refine dx_q rfl (qt_move rfl) rfl ?_
      refine dx_q rfl (qt_bin rfl rfl (bF bin_lss (by omega))) rfl ?_
      refine dx_q rfl (qt_move rfl) rfl ?_
      refine dx_gF rfl rfl rfl rfl ?_
      refine dx_gF rfl rfl rfl rfl ?_
      refine dx_gF rfl rfl rfl rfl ?_
      refine dx_gF rfl rfl rfl rfl ?_
      refine dx_gF rfl rfl rfl rfl ?_
      refine dx_gF rfl rfl rfl rfl ?_
      refine dx_gF rfl rfl rfl rfl ?_
      refine dx_gF rfl rfl rfl rfl ?_
      refine dx_gF rfl rfl rfl rfl ?_
      refine dx_gF rfl rfl rfl rfl ?_
      refine dx_gF rfl rfl rfl rfl ?_
      refine dx_gF rfl rfl rfl rfl ?_
      refine dx_gF rfl rfl rfl rfl ?_
      refine dx_gF rfl rfl rfl rfl ?_
      refine dx_gF rfl rfl rfl rfl ?_
      refine dx_gF rfl rfl rfl rfl ?_
      refine dx_gF rfl rfl rfl rfl ?_
      refine dx_gF rfl rfl rfl rfl ?_
      refine dx_q rfl (qt_pick rfl rfl) rfl ?_
      refine dx_nil ?_
      repeat (first | refine es_val rfl ?_ rfl | refine es_res rfl (fun x => ?_) rfl | refine es_skip rfl ?_)
      refine es_nil rfl ?_
      refine tx_endk ?_
      refine tr_ifF rfl ?_
      refine tr_exit ?_
      repeat with_reducible first | refine tr_skip ?_ | refine tr_exit ?_ | refine tr_then ?_ | refine tr_inX ?_ | refine tr_thenX ?_ | refine tr_inN ?_ | refine tr_inR ?_ | refine tr_thenR ?_
      refine tr_mid q ⟨hqb, hqQ, hlast⟩ ⟨rfl, rfl, rfl, rfl, trivial⟩ rfl (fun _ _ => trivial)
    ·
      have hlast : q ≤ val us / val vs + 1 := kn_last hM eV eU hV' c0 hqb hv1 hrest (.inr (by omega))
      refine tr_rdraw0 [0, 1, 4, 5, 6, 7, 8, 9, 10, 11, 12, 13, 14, 70, 81, 82, 83, 130, 133, 134, 135] (by kernel_rfl) ?_
      refine dx_q rfl (qt_move rfl) rfl ?_
      refine dx_q rfl (qt_bin rfl rfl (bT bin_lss (by omega))) rfl ?_
      refine dx_q rfl (qt_move rfl) rfl ?_
      refine dx_gT rfl rfl rfl ?_
      refine dx_q rfl (qt_move rfl) rfl ?_
      refine dx_gT rfl rfl rfl ?_
      refine dx_q rfl (qt_move rfl) rfl ?_
      refine dx_gT rfl rfl rfl ?_
      refine dx_q rfl (qt_move rfl) rfl ?_
      refine dx_gT rfl rfl rfl ?_
      refine dx_q rfl (qt_bin rfl rfl (bin_subN (a := k + 2) (b := 2) rfl (by omega) (by omega))) rfl ?_
      refine dx_gT rfl rfl rfl ?_
      refine dx_q rfl (qt_index (i := k) rfl rfl (by omega)) rfl ?_
      refine dx_gT rfl rfl rfl ?_
      refine dx_q rfl (qt_load rfl (fun w t => t.a1x (hyAt k (by omega)) hrb)) rfl ?_
      refine dx_gT rfl rfl rfl ?_
      refine dx_q rfl (qt_to64 rfl (by omega) (by omega)) rfl ?_
      refine dx_gT rfl rfl rfl ?_
      refine dx_q rfl (qt_bin rfl rfl (bin_mulU (by rw [hm2I]; omega) (by rw [hm2I]; omega))) rfl ?_
      refine dx_gT rfl rfl rfl ?_
      refine dx_q rfl (qt_move rfl) rfl ?_
      refine dx_gT rfl rfl rfl ?_
      refine dx_q rfl (qt_bin rfl rfl (bin_shlU 32 rfl (by omega) (by omega) (by omega))) rfl ?_
      refine dx_gT rfl rfl rfl ?_
      refine dx_q rfl (qt_move rfl) rfl ?_
      refine dx_gT rfl rfl rfl ?_
      refine dx_q rfl (qt_move rfl) rfl ?_
      refine dx_gT rfl rfl rfl ?_
      refine dx_q rfl (qt_bin rfl rfl (bin_subN (a := k + 2) (b := 2) rfl (by omega) (by omega))) rfl ?_
      refine dx_gT rfl rfl rfl ?_
      refine dx_q rfl (qt_index (i := k) rfl rfl (by omega)) rfl ?_
      refine dx_gT rfl rfl rfl ?_
      refine dx_q rfl (qt_load rfl (fun w t => t.om 0 rfl (show k < us.length by omega))) rfl ?_
      refine dx_gT rfl rfl rfl ?_
      refine dx_q rfl (qt_to64 rfl (by omega) (by omega)) rfl ?_
      refine dx_gT rfl rfl rfl ?_
      refine dx_q rfl (qt_bin rfl rfl (bin_join (by omega) (by omega) (by omega) (by omega))) rfl ?_
      refine dx_gT rfl rfl rfl ?_
      refine dx_q rfl (qt_bin rfl rfl (bF bin_gtr (by rw [hm2I]; omega))) rfl ?_
      refine dx_q rfl (qt_pick rfl rfl) rfl ?_
      refine dx_nil ?_
      repeat (first | refine es_val rfl ?_ rfl | refine es_res rfl (fun x => ?_) rfl | refine es_skip rfl ?_)
      refine es_nil rfl ?_
      refine tx_endk ?_
      refine tr_ifF rfl ?_
      refine tr_exit ?_
      repeat with_reducible first | refine tr_skip ?_ | refine tr_exit ?_ | refine tr_then ?_ | refine tr_inX ?_ | refine tr_thenX ?_ | refine tr_inN ?_ | refine tr_inR ?_ | refine tr_thenR ?_
      refine tr_mid q ⟨hqb, hqQ, hlast⟩ ⟨rfl, rfl, rfl, rfl, trivial⟩ rfl (fun _ _ => trivial)
    ·
      have hdec : val us / val vs < q := kn_dec hM eV eU hU' hrest hcs2
      have hq1 : 0 < q := Nat.lt_of_le_of_lt (Nat.zero_le _) hdec
      refine tr_rdraw0 [0, 1, 4, 5, 6, 7, 8, 9, 10, 11, 12, 13, 14, 70, 81, 82, 83, 130, 133, 134, 135] (by kernel_rfl) ?_
      refine dx_q rfl (qt_move rfl) rfl ?_
      refine dx_q rfl (qt_bin rfl rfl (bT bin_lss (by omega))) rfl ?_
      refine dx_q rfl (qt_move rfl) rfl ?_
      refine dx_gT rfl rfl rfl ?_
      refine dx_q rfl (qt_move rfl) rfl ?_
      refine dx_gT rfl rfl rfl ?_
      refine dx_q rfl (qt_move rfl) rfl ?_
      refine dx_gT rfl rfl rfl ?_
      refine dx_q rfl (qt_move rfl) rfl ?_
      refine dx_gT rfl rfl rfl ?_
      refine dx_q rfl (qt_bin rfl rfl (bin_subN (a := k + 2) (b := 2) rfl (by omega) (by omega))) rfl ?_
      refine dx_gT rfl rfl rfl ?_
      refine dx_q rfl (qt_index (i := k) rfl rfl (by omega)) rfl ?_
      refine dx_gT rfl rfl rfl ?_
      refine dx_q rfl (qt_load rfl (fun w t => t.a1x (hyAt k (by omega)) hrb)) rfl ?_
      refine dx_gT rfl rfl rfl ?_
      refine dx_q rfl (qt_to64 rfl (by omega) (by omega)) rfl ?_
      refine dx_gT rfl rfl rfl ?_
      refine dx_q rfl (qt_bin rfl rfl (bin_mulU (by rw [hm2I]; omega) (by rw [hm2I]; omega))) rfl ?_
      refine dx_gT rfl rfl rfl ?_
      refine dx_q rfl (qt_move rfl) rfl ?_
      refine dx_gT rfl rfl rfl ?_
      refine dx_q rfl (qt_bin rfl rfl (bin_shlU 32 rfl (by omega) (by omega) (by omega))) rfl ?_
      refine dx_gT rfl rfl rfl ?_
      refine dx_q rfl (qt_move rfl) rfl ?_
      refine dx_gT rfl rfl rfl ?_
      refine dx_q rfl (qt_move rfl) rfl ?_
      refine dx_gT rfl rfl rfl ?_
      refine dx_q rfl (qt_bin rfl rfl (bin_subN (a := k + 2) (b := 2) rfl (by omega) (by omega))) rfl ?_
      refine dx_gT rfl rfl rfl ?_
      refine dx_q rfl (qt_index (i := k) rfl rfl (by omega)) rfl ?_
      refine dx_gT rfl rfl rfl ?_
      refine dx_q rfl (qt_load rfl (fun w t => t.om 0 rfl (show k < us.length by omega))) rfl ?_
      refine dx_gT rfl rfl rfl ?_
      refine dx_q rfl (qt_to64 rfl (by omega) (by omega)) rfl ?_
      refine dx_gT rfl rfl rfl ?_
      refine dx_q rfl (qt_bin rfl rfl (bin_join (by omega) (by omega) (by omega) (by omega))) rfl ?_
      refine dx_gT rfl rfl rfl ?_
      refine dx_q rfl (qt_bin rfl rfl (bT bin_gtr (by rw [hm2I]; omega))) rfl ?_
      refine dx_q rfl (qt_pick rfl rfl) rfl ?_
      refine dx_nil ?_
      repeat (first | refine es_val rfl ?_ rfl | refine es_res rfl (fun x => ?_) rfl | refine es_skip rfl ?_)
      refine es_nil rfl ?_
      refine tx_endk ?_
      refine tr_ifT rfl ?_
      refine tr_skip ?_
      repeat with_reducible first | refine tr_skip ?_ | refine tr_exit ?_ | refine tr_then ?_ | refine tr_inX ?_ | refine tr_thenX ?_ | refine tr_inN ?_ | refine tr_inR ?_ | refine tr_thenR ?_
      refine tr_seq ?_
      refine tr_block ?_
      refine tr_region ?_
      refine sq_q (qt_move rfl) rfl ?_
      refine sq_q (qt_bin rfl rfl (bin_subU (by omega) (by omega))) rfl ?_
      refine sq_q (qt_assign rfl) rfl ?_
      refine sq_nil ?_
      repeat with_reducible first | refine tr_skip ?_ | refine tr_exit ?_ | refine tr_then ?_ | refine tr_inX ?_ | refine tr_thenX ?_ | refine tr_inN ?_ | refine tr_inR ?_ | refine tr_thenR ?_
      refine tr_region ?_
      refine sq_q (qt_move rfl) rfl ?_
      refine sq_q (qt_move rfl) rfl ?_
      refine sq_q (qt_move rfl) rfl ?_
      refine sq_q (qt_bin rfl rfl (bin_subN (a := k + 2) (b := 1) rfl (by omega) (by omega))) rfl ?_
      refine sq_q (qt_index (i := k + 1) rfl rfl (by omega)) rfl ?_
      refine sq_q (qt_load rfl (fun w t => t.a1x (hyAt (k + 1) (by omega)) hrb)) rfl ?_
      refine sq_q (qt_to64 rfl (by omega) (by omega)) rfl ?_
      refine sq_q (qt_bin rfl rfl (bin_addU (by omega) (by omega))) rfl ?_
      refine sq_q (qt_assign rfl) rfl ?_
      refine sq_nil ?_
      repeat with_reducible first | refine tr_skip ?_ | refine tr_exit ?_ | refine tr_then ?_ | refine tr_inX ?_ | refine tr_thenX ?_ | refine tr_inN ?_ | refine tr_inR ?_ | refine tr_thenR ?_
      obtain ⟨p, rfl⟩ : ∃ p, q = p + 1 := ⟨q - 1, by omega⟩
      refine tr_round2 p (rest + vs[k + 1]) ⟨by omega, by omega, by rw [← hrest]; grind⟩ (by omega) ⟨rfl, rfl, rfl, congrArg (fun z => some (Value.int .u64 z)) (show ((p + 1 : Nat) : Int) - 1 = (p : Int) by omega), rfl, trivial⟩ rfl (fun _ _ => trivial)
  ·
    rintro q ⟨hqb, hqQ, hqL⟩
    refine tr_rseq ?_
    refine sq_q (qt_assign rfl) rfl ?_
    refine sq_q (qt_assign rfl) rfl ?_
    refine sq_end ?_
    refine tr_seq ?_
    refine tr_rseq ?_
    refine sq_q (qt_move rfl) rfl ?_
    refine sq_q (qt_move rfl) rfl ?_
    refine sq_end ?_
    refine tr_block ?_
    refine tr_loop3 (fun (ps : List Nat) (b c : Nat) => ps.length ≤ k + 2 ∧ lim ps ∧ b ≤ 1 ∧ c < 4294967296 ∧ val (us.take ps.length) + 4294967296 ^ ps.length * (c + b) = val ps + q * val (vs.take ps.length))
      (fun ps b c => [(0, .slice (some ⟨r, pre.length, none⟩) (k + 3) cu), (1, .slice (some ⟨rb, ob, none⟩) (k + 2) cb), (5, .int .i64 ((k + 2 : Nat) : Int)), (7, .int .u64 (q : Int)), (9, .int .u64 (b : Int)), (10, .int .u64 (c : Int)), (81, .int .i64 ((k + 2 : Nat) : Int)), (82, .int .i64 (ps.length : Int))])
      (fun ps b c => [(r, .cells (u32s (pre ++ (ps ++ us.drop ps.length) ++ post)).toArray 57 (0, 0))]) (fun _ _ _ _ => True) (fun ps b c => k + 2 - ps.length) [] 0 0 ⟨by simp, by simp [lim], by omega, by omega, by simp [val]⟩ ⟨rfl, rfl, rfl, rfl, rfl, rfl, rfl, rfl, trivial⟩ rfl (fun _ _ => trivial) ?_
    rintro ps b c ⟨hle, hl, hb1, hcb, hinv⟩
    refine tr_rseq ?_
    refine sq_q (qt_bin rfl rfl bin_lss) rfl ?_
    refine sq_end ?_
    refine tr_seq ?_
    refine tr_if rfl (fun hc => ?_) (fun hc => ?_)
    ·
      have hlt : ps.length < k + 2 := by have := of_decide_eq_true hc; omega
      have hltu : ps.length < us.length := by omega
      have hltv : ps.length < vs.length := by omega
      have gx := lu _ (List.getElem_mem hltu)
      have gy := lv _ (List.getElem_mem hltv)
      have hmul : q * vs[ps.length] ≤ 4294967295 * 4294967295 := Nat.mul_le_mul (by omega) (by omega)
      have hmulI : (q : Int) * ((vs[ps.length] : Nat) : Int) = ((q * vs[ps.length] : Nat) : Int) := by simp
      obtain ⟨t, ht⟩ : ∃ t, t = c + q * vs[ps.length] := ⟨_, rfl⟩
      have eT2 : (c : Int) + (q : Int) * ((vs[ps.length] : Nat) : Int) = (t : Int) := by rw [ht, hmulI]; simp
      have eTm : (t : Int) % 4294967296 = ((t % 4294967296 : Nat) : Int) := by omega
      have hlu : ps.length < (ps ++ us.drop ps.length).length := by simp; omega
      have hget : (ps ++ us.drop ps.length)[ps.length] = us[ps.length] := by simp
      obtain ⟨p, b', hp, hb', hp1, hb2, heq⟩ := sub_step gx (Nat.mod_lt t (show 0 < 4294967296 by decide)) hb1
      refine tr_skip ?_
      repeat with_reducible first | refine tr_skip ?_ | refine tr_exit ?_ | refine tr_then ?_ | refine tr_inX ?_ | refine tr_thenX ?_ | refine tr_inN ?_ | refine tr_inR ?_ | refine tr_thenR ?_
      refine tr_seq ?_
      refine tr_block ?_
      refine tr_rseq ?_
      refine sq_q (qt_move rfl) rfl ?_
      refine sq_q (qt_assign rfl) rfl ?_
      refine sq_end ?_
      refine tr_rseq ?_
      refine sq_q (qt_move rfl) rfl ?_
      refine sq_q (qt_move rfl) rfl ?_
      refine sq_q (qt_move rfl) rfl ?_
      refine sq_q (qt_move rfl) rfl ?_
      refine sq_q (qt_index rfl rfl (by omega)) rfl ?_
      refine sq_q (qt_load rfl (fun w t => t.a1x (hyAt ps.length hltv) hrb)) rfl ?_
      refine sq_q (qt_to64 rfl (by omega) (by omega)) rfl ?_
      refine sq_q (qt_bin rfl rfl (bin_mulU (by rw [hmulI]; omega) (by rw [hmulI]; omega))) rfl ?_
      refine sq_q (qt_bin rfl rfl (bin_addU (by rw [hmulI]; omega) (by rw [hmulI]; omega))) rfl ?_
      refine sq_q (qt_assign rfl) rfl ?_
      refine sq_end ?_
      rw [eT2]
      refine tr_rseq ?_
      refine sq_q (qt_move rfl) rfl ?_
      refine sq_q (qt_move rfl) rfl ?_
      refine sq_q (qt_index rfl rfl (by omega)) rfl ?_
      refine sq_q (qt_load rfl (fun w t => by have := t.om 0 rfl hlu; rw [hget] at this; exact this)) rfl ?_
      refine sq_q (qt_to64 rfl (by omega) (by omega)) rfl ?_
      refine sq_q (qt_move rfl) rfl ?_
      refine sq_q (qt_bin rfl rfl (bin_low (by omega) (by omega))) rfl ?_
      refine sq_q (qt_bin rfl rfl bin_subUw) rfl ?_
      refine sq_q (qt_move rfl) rfl ?_
      refine sq_q (qt_bin rfl rfl bin_subUw) rfl ?_
      refine sq_q (qt_assign rfl) rfl ?_
      refine sq_end ?_
      rw [eTm]
      generalize hd : ((((us[ps.length] : Nat) : Int) - ((t % 4294967296 : Nat) : Int)) % 18446744073709551616 - (b : Int)) % 18446744073709551616 = d at hp hb' ⊢
      have hd0 : 0 ≤ d := by omega
      refine tr_rseq ?_
      refine sq_q (qt_move rfl) rfl ?_
      refine sq_q (qt_move rfl) rfl ?_
      refine sq_q (qt_move rfl) rfl ?_
      refine sq_q (qt_to32 rfl) rfl ?_
      refine sq_q (qt_index rfl rfl (by omega)) rfl ?_
      refine sq_store 0 rfl rfl rfl rfl (by simp [u32s, Value.cells]; omega) rfl rfl ?_
      refine sq_end ?_
      refine tr_rseq ?_
      refine sq_q (qt_move rfl) rfl ?_
      refine sq_q (qt_bin rfl rfl (bin_shr63 hd0)) rfl ?_
      refine sq_q (qt_assign rfl) rfl ?_
      refine sq_end ?_
      refine tr_region ?_
      refine sq_q (qt_move rfl) rfl ?_
      refine sq_q (qt_bin rfl rfl (bin_shr32 (by omega))) rfl ?_
      refine sq_q (qt_assign rfl) rfl ?_
      refine sq_nil ?_
      repeat with_reducible first | refine tr_skip ?_ | refine tr_exit ?_ | refine tr_then ?_ | refine tr_inX ?_ | refine tr_thenX ?_ | refine tr_inN ?_ | refine tr_inR ?_ | refine tr_thenR ?_
      refine tr_region ?_
      refine sq_q (qt_bin rfl rfl (bin_addI (by omega) (by omega))) rfl ?_
      refine sq_q (qt_move rfl) rfl ?_
      refine sq_nil ?_
      repeat with_reducible first | refine tr_skip ?_ | refine tr_exit ?_ | refine tr_then ?_ | refine tr_inX ?_ | refine tr_thenX ?_ | refine tr_inN ?_ | refine tr_inR ?_ | refine tr_thenR ?_
      refine tr_round3 (ps ++ [p]) b' (t / 4294967296) ⟨by simp; omega, lim_append.2 ⟨hl, by simp [lim]; omega⟩, hb2, by omega, ?_⟩ (by simp; omega) ⟨rfl, rfl, rfl, rfl, congrArg (fun z => some (Value.int .u64 z)) hb', rfl, rfl, by simp; rfl, trivial⟩ ?_ (fun _ _ => trivial)
      · have hs := kn_step hinv ht heq
        simp only [List.length_append, List.length_singleton, val_take_getD, val_append, val, Nat.mul_zero, Nat.add_zero, Nat.pow_succ]
        rw [List.getD_eq_getElem?_getD, List.getD_eq_getElem?_getD, List.getElem?_eq_getElem hltu, List.getElem?_eq_getElem hltv, Option.getD_some, Option.getD_some]
        exact hs
      · refine own1 ?_
        simp only [wr, Value.cells, Nat.mul_one, hp]
        rw [set_mid hlu, set_next' hltu]
    ·
      have hlt : ps.length = k + 2 := by have := of_decide_eq_false hc; omega
      have b2' := b2
      have hdrop : us.drop ps.length = [us[k + 2]] := by
        rw [hlt, ← List.getElem_cons_drop (show k + 2 < us.length by omega), List.drop_of_length_le (by omega)]
      have hltv : vs.take ps.length = vs := List.take_of_length_le (by omega)
      rw [hltv] at hinv
      have e1 := val_top1 (k := k + 2) hu
      rw [hlt] at hinv
      have hmain : val us + 4294967296 ^ (k + 2) * (c + b) = val ps + q * val vs + 4294967296 ^ (k + 2) * us[k + 2] := by omega
      have hpb := val_lt hl
      rw [hlt] at hpb
      have hVb := val_lt lv
      rw [hv] at hVb
      have hcases : (c + b ≤ us[k + 2] ∧ q = val us / val vs ∧ val ps + 4294967296 ^ (k + 2) * (us[k + 2] - (c + b)) = val us % val vs) ∨ (c + b = us[k + 2] + 1 ∧ q = val us / val vs + 1 ∧ val ps + val vs = val us % val vs + 4294967296 ^ (k + 2)) := by
        rcases Nat.lt_or_ge us[k + 2] (c + b) with h | h
        · obtain ⟨a1, a2, a3⟩ := kn_wrong hmain h hpb hVb hV0 hqL
          exact .inr ⟨a2, a1, a3⟩
        · obtain ⟨a1, a2⟩ := kn_right hmain h hV0 hqQ
          exact .inl ⟨h, a1, a2⟩
      obtain ⟨p, hpd⟩ : ∃ p, p = if c + b ≤ us[k + 2] then us[k + 2] - (c + b) else 4294967295 := ⟨_, rfl⟩
      have hpl : p < 4294967296 := by rw [hpd]; split <;> omega
      have hd1 : ((((us[k + 2] : Nat) : Int) - (c : Int)) % 18446744073709551616 - (b : Int)) % 18446744073709551616 % 4294967296 = (p : Int) := by
        rcases hcases with ⟨h, _⟩ | ⟨h, _⟩
        · rw [hpd, if_pos h]; omega
        · rw [hpd, if_neg (by omega)]; omega
      have hd2 : ((((us[k + 2] : Nat) : Int) - (c : Int)) % 18446744073709551616 - (b : Int)) % 18446744073709551616 / 9223372036854775808 = if c + b ≤ us[k + 2] then 0 else 1 := by
        rcases hcases with ⟨h, _⟩ | ⟨h, _⟩
        · rw [if_pos h]; omega
        · rw [if_neg (by omega)]; omega
      rw [hdrop]
      have hlu : k + 2 < (ps ++ [us[k + 2]]).length := by simp; omega
      have hget : (ps ++ [us[k + 2]])[k + 2] = us[k + 2] := by
        rw [List.getElem_append_right (by omega)]
        simp
      refine tr_exit ?_
      repeat with_reducible first | refine tr_skip ?_ | refine tr_exit ?_ | refine tr_then ?_ | refine tr_inX ?_ | refine tr_thenX ?_ | refine tr_inN ?_ | refine tr_inR ?_ | refine tr_thenR ?_
      refine tr_rseq ?_
      refine sq_q (qt_move rfl) rfl ?_
      refine sq_q (qt_move rfl) rfl ?_
      refine sq_q (qt_index (i := k + 2) rfl rfl (by omega)) rfl ?_
      refine sq_q (qt_load rfl (fun w t => by have := t.om 0 rfl hlu; rw [hget] at this; exact this)) rfl ?_
      refine sq_q (qt_to64 rfl (by omega) (by omega)) rfl ?_
      refine sq_q (qt_move rfl) rfl ?_
      refine sq_q (qt_bin rfl rfl bin_subUw) rfl ?_
      refine sq_q (qt_move rfl) rfl ?_
      refine sq_q (qt_bin rfl rfl bin_subUw) rfl ?_
      refine sq_q (qt_assign rfl) rfl ?_
      refine sq_end ?_
      generalize hd : ((((us[k + 2] : Nat) : Int) - (c : Int)) % 18446744073709551616 - (b : Int)) % 18446744073709551616 = d at hd1 hd2 ⊢
      have hd0 : 0 ≤ d := by omega
      refine tr_rseq ?_
      refine sq_q (qt_move rfl) rfl ?_
      refine sq_q (qt_move rfl) rfl ?_
      refine sq_q (qt_move rfl) rfl ?_
      refine sq_q (qt_to32 rfl) rfl ?_
      refine sq_q (qt_index (i := k + 2) rfl rfl (by omega)) rfl ?_
      refine sq_store 0 rfl rfl rfl rfl (by simp [u32s, Value.cells]; omega) rfl rfl ?_
      refine sq_end ?_
      have ho2 : ownSet [(r, Obj.cells (u32s (pre ++ (ps ++ [us[k + 2]]) ++ post)).toArray 57 (0, 0))] 0 (.cells (wr (u32s (pre ++ (ps ++ [us[k + 2]]) ++ post)) (pre.length + (k + 2) * 1) (Value.int .u32 (d % 4294967296)).cells.toList).toArray 57 (0, 0)) = [(r, Obj.cells (u32s (pre ++ (ps ++ [p]) ++ post)).toArray 57 (0, 0))] := by
        refine own1 ?_
        simp only [wr, Value.cells, Nat.mul_one, hd1]
        rw [set_mid hlu, List.set_append_right _ _ (by omega), hlt]
        simp
      rw [ho2]
      refine tr_seq ?_
      refine tr_rseq ?_
      refine sq_q (qt_move rfl) rfl ?_
      refine sq_q (qt_bin rfl rfl (bin_shr63 hd0)) rfl ?_
      refine sq_q (qt_bin rfl rfl bin_eql) rfl ?_
      refine sq_end ?_
      refine tr_if rfl (fun hc => ?_) (fun hc => ?_)
      ·
        have hdz := of_decide_eq_true hc
        have hA : c + b ≤ us[k + 2] := by
          rw [hd2] at hdz
          split at hdz
          · assumption
          · omega
        obtain ⟨_, hq, hrem⟩ := hcases.resolve_right (by omega)
        have hpe : p = us[k + 2] - (c + b) := by rw [hpd, if_pos hA]
        refine tr_rseq ?_
        refine sq_q (qt_move rfl) rfl ?_
        refine sq_q (qt_to32 rfl) rfl ?_
        refine sq_q (qt_assign rfl) rfl ?_
        refine sq_end ?_
        refine tr_ret ?_
        repeat with_reducible first | refine tr_skip ?_ | refine tr_exit ?_ | refine tr_then ?_ | refine tr_inX ?_ | refine tr_thenX ?_ | refine tr_inN ?_ | refine tr_inR ?_ | refine tr_thenR ?_
        refine tr_doneU (ps ++ [p]) 0 ⟨by simp; omega, lim_append.2 ⟨hl, by simp [lim]; omega⟩, ?_⟩ (fun a w s t => results_1 rfl (resv_tmp s ?_)) rfl
        · rw [val_append, hlt, hpe]
          simp only [val, Nat.mul_zero, Nat.add_zero]
          exact hrem
        · rw [← hq]
          exact congrArg (fun z => some (Value.int .u32 z)) (show (q : Int) % 4294967296 = (q : Int) by omega)
      ·
        have hdz := of_decide_eq_false hc
        have hA : ¬ c + b ≤ us[k + 2] := by
          rw [hd2] at hdz
          intro h
          rw [if_pos h] at hdz
          exact hdz rfl
        obtain ⟨_, hq, hrem⟩ := hcases.resolve_left (fun h => hA h.1)
        have hpe : p = 4294967295 := by rw [hpd, if_neg hA]
        have hq1 : 1 ≤ q := by rw [hq]; exact Nat.succ_le_succ (Nat.zero_le _)
        refine tr_skip ?_
        repeat with_reducible first | refine tr_skip ?_ | refine tr_exit ?_ | refine tr_then ?_ | refine tr_inX ?_ | refine tr_thenX ?_ | refine tr_inN ?_ | refine tr_inR ?_ | refine tr_thenR ?_
        refine tr_rseq ?_
        refine sq_q (qt_assign rfl) rfl ?_
        refine sq_end ?_
        refine tr_seq ?_
        refine tr_rseq ?_
        refine sq_q (qt_move rfl) rfl ?_
        refine sq_q (qt_move rfl) rfl ?_
        refine sq_end ?_
        refine tr_block ?_
        refine tr_loop2 (fun (rs : List Nat) (c : Nat) => rs.length ≤ k + 2 ∧ lim rs ∧ c ≤ 1 ∧ val rs + 4294967296 ^ rs.length * c = val (ps.take rs.length) + val (vs.take rs.length))
          (fun rs c => [(0, .slice (some ⟨r, pre.length, none⟩) (k + 3) cu), (1, .slice (some ⟨rb, ob, none⟩) (k + 2) cb), (5, .int .i64 ((k + 2 : Nat) : Int)), (7, .int .u64 (q : Int)), (10, .int .u64 (c : Int)), (133, .int .i64 ((k + 2 : Nat) : Int)), (134, .int .i64 (rs.length : Int))])
          (fun rs c => [(r, .cells (u32s (pre ++ (rs ++ (ps ++ [p]).drop rs.length) ++ post)).toArray 57 (0, 0))]) (fun _ _ _ => True) (fun rs c => k + 2 - rs.length) [] 0 ⟨by simp, by simp [lim], by omega, by simp [val]⟩ ⟨rfl, rfl, rfl, rfl, rfl, rfl, rfl, trivial⟩ rfl (fun _ _ => trivial) ?_
        rintro rs c' ⟨hle', hl', hc1', hinv'⟩
        refine tr_rseq ?_
        refine sq_q (qt_bin rfl rfl bin_lss) rfl ?_
        refine sq_end ?_
        refine tr_seq ?_
        refine tr_if rfl (fun hc => ?_) (fun hc => ?_)
        ·
          have hlt' : rs.length < k + 2 := by have := of_decide_eq_true hc; omega
          have hltp : rs.length < ps.length := by omega
          have hltv' : rs.length < vs.length := by omega
          have hltu' : rs.length < (ps ++ [p]).length := by simp; omega
          have gx := hl _ (List.getElem_mem hltp)
          have gy := lv _ (List.getElem_mem hltv')
          have hlu' : rs.length < (rs ++ (ps ++ [p]).drop rs.length).length := by simp; omega
          have hget' : (rs ++ (ps ++ [p]).drop rs.length)[rs.length] = ps[rs.length] := by
            rw [List.getElem_append_right (Nat.le_refl _)]
            simp [List.getElem_append_left hltp]
          refine tr_skip ?_
          repeat with_reducible first | refine tr_skip ?_ | refine tr_exit ?_ | refine tr_then ?_ | refine tr_inX ?_ | refine tr_thenX ?_ | refine tr_inN ?_ | refine tr_inR ?_ | refine tr_thenR ?_
          refine tr_seq ?_
          refine tr_block ?_
          refine tr_rseq ?_
          refine sq_q (qt_move rfl) rfl ?_
          refine sq_q (qt_assign rfl) rfl ?_
          refine sq_end ?_
          refine tr_rdraw0 [0, 1, 4, 5, 6, 7, 8, 9, 10, 11, 12, 13, 14, 70, 81, 82, 83, 130, 133, 134, 135] (by kernel_rfl) ?_
          refine dx_q rfl (qt_move rfl) rfl ?_
          refine dx_q rfl (qt_move rfl) rfl ?_
          refine dx_q rfl (qt_move rfl) rfl ?_
          refine dx_q rfl (qt_index rfl rfl (by omega)) rfl ?_
          refine dx_q rfl (qt_load rfl (fun w t => by have := t.om 0 rfl hlu'; rw [hget'] at this; exact this)) rfl ?_
          refine dx_q rfl (qt_to64 rfl (by omega) (by omega)) rfl ?_
          refine dx_q rfl (qt_move rfl) rfl ?_
          refine dx_q rfl (qt_move rfl) rfl ?_
          refine dx_q rfl (qt_index rfl rfl (by omega)) rfl ?_
          refine dx_q rfl (qt_load rfl (fun w t => t.a1x (hyAt rs.length hltv') hrb)) rfl ?_
          refine dx_q rfl (qt_to64 rfl (by omega) (by omega)) rfl ?_
          refine dx_q rfl (qt_bin rfl rfl (bin_addU (by omega) (by omega))) rfl ?_
          refine dx_q rfl (qt_bin rfl rfl (bin_addU (by omega) (by omega))) rfl ?_
          refine dx_q rfl (qt_assign rfl) rfl ?_
          refine dx_nil ?_
          repeat (first | refine es_val rfl ?_ rfl | refine es_res rfl (fun x => ?_) rfl | refine es_skip rfl ?_)
          refine es_nil rfl ?_
          refine tx_endk ?_
          refine tr_rseq ?_
          refine sq_q (qt_move rfl) rfl ?_
          refine sq_q (qt_move rfl) rfl ?_
          refine sq_q (qt_move rfl) rfl ?_
          refine sq_q (qt_to32 rfl) rfl ?_
          refine sq_q (qt_index rfl rfl (by omega)) rfl ?_
          refine sq_store 0 rfl rfl rfl rfl (by simp [u32s, Value.cells]; omega) rfl rfl ?_
          refine sq_end ?_
          refine tr_region ?_
          refine sq_q (qt_move rfl) rfl ?_
          refine sq_q (qt_bin rfl rfl (bin_shr32 (by omega))) rfl ?_
          refine sq_q (qt_assign rfl) rfl ?_
          refine sq_nil ?_
          repeat with_reducible first | refine tr_skip ?_ | refine tr_exit ?_ | refine tr_then ?_ | refine tr_inX ?_ | refine tr_thenX ?_ | refine tr_inN ?_ | refine tr_inR ?_ | refine tr_thenR ?_
          refine tr_region ?_
          refine sq_q (qt_bin rfl rfl (bin_addI (by omega) (by omega))) rfl ?_
          refine sq_q (qt_move rfl) rfl ?_
          refine sq_nil ?_
          repeat with_reducible first | refine tr_skip ?_ | refine tr_exit ?_ | refine tr_then ?_ | refine tr_inX ?_ | refine tr_thenX ?_ | refine tr_inN ?_ | refine tr_inR ?_ | refine tr_thenR ?_
          have hs := add_step (x := ps[rs.length]) (y := vs[rs.length]) hinv'
          refine tr_round2 (rs ++ [(c' + (ps[rs.length] + vs[rs.length])) % 4294967296]) ((c' + (ps[rs.length] + vs[rs.length])) / 4294967296) ⟨by simp; omega, lim_append.2 ⟨hl', by simp [lim]; omega⟩, by omega, ?_⟩ (by simp; omega) ⟨rfl, rfl, rfl, rfl, rfl, rfl, by simp; rfl, trivial⟩ ?_ (fun _ _ => trivial)
          · simp only [List.length_append, List.length_singleton, val_take_getD, val_append, val, Nat.mul_zero, Nat.add_zero, Nat.pow_succ]
            rw [List.getD_eq_getElem?_getD, List.getD_eq_getElem?_getD, List.getElem?_eq_getElem hltp, List.getElem?_eq_getElem hltv', Option.getD_some, Option.getD_some]
            exact hs
          · refine own1 ?_
            have ec : ((c' : Int) + (((ps[rs.length] : Nat) : Int) + ((vs[rs.length] : Nat) : Int))) % 4294967296 = (((c' + (ps[rs.length] + vs[rs.length])) % 4294967296 : Nat) : Int) := by omega
            simp only [wr, Value.cells, Nat.mul_one, ec]
            rw [set_mid hlu', set_next' hltu']
        ·
          have hlt' : rs.length = k + 2 := by have := of_decide_eq_false hc; omega
          have hdrop' : (ps ++ [p]).drop rs.length = [p] := by rw [hlt', ← hlt, List.drop_left]
          rw [hlt', List.take_of_length_le (by omega), List.take_of_length_le (by omega)] at hinv'
          have hrb' := val_lt hl'
          rw [hlt'] at hrb'
          have hmod := Nat.mod_lt (val us) hV0
          have hc1 : c' = 1 := by
            rcases (by omega : c' = 0 ∨ c' = 1) with h | h
            · rw [h] at hinv'; omega
            · exact h
          subst hc1
          rw [hdrop']
          have hlu' : k + 2 < (rs ++ [p]).length := by simp; omega
          have hget' : (rs ++ [p])[k + 2] = p := by
            rw [List.getElem_append_right (by omega)]
            simp
          refine tr_exit ?_
          repeat with_reducible first | refine tr_skip ?_ | refine tr_exit ?_ | refine tr_then ?_ | refine tr_inX ?_ | refine tr_thenX ?_ | refine tr_inN ?_ | refine tr_inR ?_ | refine tr_thenR ?_
          refine tr_rseq ?_
          refine sq_q (qt_move rfl) rfl ?_
          refine sq_q (qt_move rfl) rfl ?_
          refine sq_q (qt_index (i := k + 2) rfl rfl (by omega)) rfl ?_
          refine sq_q (qt_load rfl (fun w t => by have := t.om 0 rfl hlu'; rw [hget'] at this; exact this)) rfl ?_
          refine sq_q (qt_move rfl) rfl ?_
          refine sq_q (qt_to32 rfl) rfl ?_
          refine sq_q (qt_bin rfl rfl bin_addU32w) rfl ?_
          refine sq_q (qt_index (i := k + 2) rfl rfl (by omega)) rfl ?_
          refine sq_store 0 rfl rfl rfl rfl (by simp [u32s, Value.cells]; omega) rfl rfl ?_
          refine sq_end ?_
          refine tr_rseq ?_
          refine sq_q (qt_move rfl) rfl ?_
          refine sq_q (qt_bin rfl rfl (bin_subU (by omega) (by omega))) rfl ?_
          refine sq_q (qt_to32 rfl) rfl ?_
          refine sq_q (qt_assign rfl) rfl ?_
          refine sq_end ?_
          refine tr_ret ?_
          repeat with_reducible first | refine tr_skip ?_ | refine tr_exit ?_ | refine tr_then ?_ | refine tr_inX ?_ | refine tr_thenX ?_ | refine tr_inN ?_ | refine tr_inR ?_ | refine tr_thenR ?_
          refine tr_doneU (rs ++ [0]) 0 ⟨by simp; omega, lim_append.2 ⟨hl', by simp [lim]⟩, ?_⟩ (fun a w s t => results_1 rfl (resv_tmp s ?_)) ?_
          · rw [val_append]
            simp only [val, Nat.mul_zero, Nat.add_zero]
            omega
          · exact congrArg (fun z => some (Value.int .u32 z)) (show ((q : Int) - 1) % 4294967296 = ((val us / val vs : Nat) : Int) by rw [hq]; exact (show ∀ z : Nat, z < 4294967296 → (((z + 1 : Nat) : Int) - 1) % 4294967296 = (z : Int) from fun z hz => by omega) _ hQ)
          · have e0 : ((p : Int) + ((1 : Nat) : Int) % 4294967296) % 4294967296 = ((0 : Nat) : Int) := by rw [hpe]; rfl
            simp only [wr, Value.cells, Nat.mul_one, e0]
            show some (r, Obj.cells _ _ _) = _
            rw [set_mid hlu', List.set_append_right _ _ (by omega), hlt']
            simp
end Go.Qk
end
section
set_option linter.unusedVariables false
namespace Go.Qk
open Go Go.RowKit
section
variable {P : Program} {n : Nat} {w0 : World} {X : List Nat} {S : Nat → Prop} {E : Env} {own : Own} {R : World → Prop} {Q : Exit → Act → World → Prop} {ops : Array Oper} {rest : List Oper}
/-- a panic's end does not look at the slots -/
def Pk (Q : Exit → Act → World → Prop) : Prop := ∀ c a w d v, Q (.panic c) (Act.put a d v) w → Q (.panic c) a w
theorem pk_then {k : Act → World → Prop} (h : Pk Q) : Pk (Exit.then k Q) := h
theorem pk_in {id : Nat} (h : Pk Q) : Pk (Exit.inBlock id Q) := h
theorem pk_body {fn : Func} {R : Ending → World → Prop} : Pk (bodyPost P fn R) := fun c a w d v h => ⟨by rw [← defers_put (a := a) (dst := d) (v := v)]; exact h.1, h.2⟩
def Sc (P : Program) (ops : Array Oper) (Q : Exit → Act → World → Prop) (n : Nat) (w0 : World) (X : List Nat) (S : Nat → Prop) (fuel : Nat) (listed : Array Bool) (E : Env) (own : Own) (R : World → Prop) : Prop :=
  ∀ a w, St n a E → SS w0 X S own R w → wpAny P .any ops Q fuel listed a w
theorem tr_sc [hM : Mx P] {id : Nat} {l : List Oper} (h : Sc P l.toArray Q n w0 X S l.length (Array.replicate l.length false) E own R) : Tr n w0 X S E own R ((Code.region id l.toArray true).wp P Q) := fun a w s t =>
  wp_region_any hM.m (by have := h a _ s (t.drawn (w.drawn + 1)); simp only [List.size_toArray]; exact this)
theorem tr_rsc [hM : Mx P] {id : Nat} {l : List Oper} {d : Code} (h : Sc P l.toArray (Exit.then (d.wp P Q) Q) n w0 X S l.length (Array.replicate l.length false) E own R) : Tr n w0 X S E own R ((Code.seq (.region id l.toArray true) d).wp P Q) := tr_seq (tr_sc h)
theorem sc_take (i : Nat) {fuel : Nat} {listed : Array Bool} {op : Op} {ty : TypeId} {v : Value} {d : Nat} {pos : String} {af : Array Edge} (hi : ops[i]? = some ⟨some d, op, ty, pos, af, none⟩) (hc : (Region.noSelect ops && Region.free .any ops listed i && (Region.ready .any ops listed).contains i) = true)
    (hQ : Pk Q) (hq : Qt P (fun _ => True) (look E) op ty v) (hd : Nat.blt d n = true) (h : Sc P ops Q n w0 X S fuel (listed.setIfInBounds i true) ((d, v) :: E) own R) : Sc P ops Q n w0 X S (fuel + 1) listed E own R := by
  intro a w s t
  simp only [Bool.and_eq_true] at hc
  exact wpAny_take hi hc.1.1 hc.1.2 hc.2 (fun c a w h => hQ c a w _ _ h) (.inl ⟨wanted_none rfl, fun w => hq _ w s.agr trivial _ _ _ _⟩) (h _ _ (s.put hd v) t)
theorem sc_call (i : Nat) {α : Type} {fuel : Nat} {listed : Array Bool} {c : Operand} {f : FuncId} {pre cap : List Value} {xs : List Operand} {vs : List Value} {ats : Array TypeId} {ty : TypeId} {d : Nat} {pos : String} {af : Array Edge} (val : α → Value) (F : α → World → Prop) [hB : FnB P f]
    (hi : ops[i]? = some ⟨some d, .call { callee := .value c, args := xs.toArray, argTypes := ats }, ty, pos, af, none⟩) (hr : Region.ready .any ops listed = [i]) (hc : fnv (look E) c f pre cap) (hxs : evs (look E) xs = some vs) (hd : Nat.blt d n = true)
    (hcall : ∀ w, SS w0 X S own R w → Ret P f (pre ++ vs ++ cap) w (Nn w0 S own w) val F)
    (h : ∀ x, Sc P ops Q n w0 X S fuel (listed.setIfInBounds i true) ((d, val x) :: E) own (fun w => R w ∧ F x w)) : Sc P ops Q n w0 X S (fuel + 1) listed E own R := by
  intro a w s t
  refine wpAny_all hr (by simp) fun j hj => ?_
  simp at hj
  subst hj
  unfold wpOp
  rw [hi]
  refine (if_pos (wanted_none rfl)).mpr (.inl ?_)
  unfold Oper.wp
  rw [run_call s.agr hc hxs, Oper.upon_enter]
  refine (hcall w t).mono ?_
  rintro e w' ⟨x, rfl, hb, hf⟩
  exact h x _ _ (s.put hd _) (t.add hb hf fun k hk => hk)
theorem sc_end {fuel : Nat} {listed : Array Bool} (hr : Region.ready .any ops listed = []) (h : Tr n w0 X S E own R (Q .normal)) : Sc P ops Q n w0 X S fuel listed E own R := fun a w s t => wpAny_done hr (h a w s t) fuel
theorem sc_endk {fuel : Nat} {listed : Array Bool} {k : Act → World → Prop} (hr : Region.ready .any ops listed = []) (h : Tr n w0 X S E own R k) : Sc P ops (Exit.then k Q) n w0 X S fuel listed E own R := fun a w s t => wpAny_done hr (h a w s t) fuel
theorem sq_tab {t : TypeId} {s : ByteArray} {x ix : Operand} {k : IntKind} {y : Nat} {ty : TypeId} {d : Nat} {pos : String} {af : Array Edge} (ht : P.underlying t = some .string) (hx : ev (look E) x = some (.string s)) (hi : ev (look E) ix = some (.int k (y : Int))) (htab : tabOk s = true) (hy : y < 256) (hd : Nat.blt d n = true)
    (h : ∀ b : Nat, y < 2 ^ b → b ≤ 8 → (y ≠ 0 → 1 ≤ b) → Sq P ops Q n w0 X S rest ((d, .int .u8 (b : Int)) :: E) own R) : Sq P ops Q n w0 X S (⟨some d, .index t x ix, ty, pos, af, none⟩ :: rest) E own R := by
  obtain ⟨b, h1, h2, h3, h4⟩ := tabOk_at htab hy
  exact sq_q (qt_indexStr ht hx hi h1) hd (h b.toNat h2 h3 h4)
theorem run_append_nil {t e : TypeId} {agg : Bool} {sz by_ : Nat} {z : Value} (hs : P.underlying t = some (.slice e)) (hT : TyI P e agg sz by_ z) {ty : TypeId} {A : Option Addr} {m c : Nat} {vs : List Value} {w : World} (hvs : vs.length = m * sz) (hsz0 : 0 < sz) (hby : 0 < by_) (hrd : Rd A vs w) (hm : m * by_ ≤ 281474976710656) :
    ∃ p : Sv, ∃ w', (Builtin.append_ #[t, t] ty #[.slice none 0 0, .slice A m c]).run P w = .ok (.slice p.1 m p.2) w' ∧ Below w.heap.size w w' ∧ Fr none_ w w' (fun w => Rd p.1 vs w ∧ m ≤ p.2) := by
  have hsz := hT.sizeOf w
  obtain ⟨i, i1, i2, i3, i4⟩ := hT.info
  rcases Nat.eq_zero_or_pos m with h0 | h0
  · subst h0
    have hv : vs = [] := List.eq_nil_of_length_eq_zero (by rw [hvs]; simp)
    subst hv
    refine ⟨(none, 0), w, ?_, Below.refl _ _, fun w'' _ _ => ⟨Rd.nil _ _, Nat.le_refl _⟩⟩
    cases A with
    | none => simp [Builtin.append_, run_underlying hs, hsz, Builtin.lenOf, Builtin.firstCells]
    | some a => simp [Builtin.append_, run_underlying hs, hsz, Builtin.lenOf, Builtin.firstCells, loadCells, loadCellsFrom]
  · have hpos : 0 < vs.length := by rw [hvs]; exact Nat.mul_pos h0 hsz0
    obtain ⟨r, o, rfl, _⟩ := hrd 0 vs[0] (by simp [hpos])
    have hload : ∀ w' : World, w'.heap = w.heap → (loadCells ⟨r, o, none⟩ (m * sz)).run P w' = .ok vs.toArray w' := by
      intro w' hw'
      have := run_loadCells_list (P := P) w' ⟨r, o, none⟩ vs (fun j v hv => by
        rw [add_mk]
        obtain ⟨r', o', e1, e2⟩ := hrd j v hv
        injection e1 with e1
        injection e1 with e1 e3 _
        subst e1 e3
        exact e2.of_heap (by rw [hw']))
      rw [hvs] at this
      exact this
    obtain ⟨k, hk⟩ : ∃ k, k = (Question.appendCap m 0 e).cut (w.tape w.drawn (.appendCap m 0 e)) := ⟨_, rfl⟩
    have hkm : m ≤ k := by rw [hk]; simp [Question.cut]
    refine ⟨(some ⟨w.heap.size, 0, none⟩, k), (w.drew).alloc (.cells (#[] ++ vs.toArray ++ Builtin.zeroCells z.cells (k - m)) e), ?_, ?_, ?_⟩
    · have hne : ¬ m = 0 := by omega
      have hcap : Builtin.nextslicecap m 0 = m := by
        unfold Builtin.nextslicecap
        rw [if_pos (by omega)]
      have hbig : ¬ (281474976710656 < m * i.bytes) := by rw [i4]; omega
      have hzero : (zeroValue e).run P w.drew = .ok z w.drew := hT.zero _
      have hl0 : ∀ w' : World, (loadCells ⟨r, o, none⟩ 0).run P w' = .ok #[] w' := fun w' => rfl
      have h63 : ¬ ((9223372036854775807 < (m : Int)) ∧ i.bytes = 0) := by omega
      have hld := hload w.drew rfl
      rw [← i3] at hld
      simp [Builtin.append_, run_underlying hs, hsz, Builtin.lenOf, Builtin.firstCells, hne, typeInfo, i1, hcap, hbig, Question.forced, ← hk, hld, hzero, newRow, sizeOf, h63]
    · exact ((Below.refl _ _).drew).alloc (by simp) _
    · intro w'' hs' hk'
      refine ⟨?_, hkm⟩
      intro j v hv
      refine ⟨w.heap.size, 0, rfl, ?_⟩
      have e1 := hk' w.heap.size (.inl (Nat.le_refl _)) (by simp)
      refine at_cells (c := #[] ++ vs.toArray ++ Builtin.zeroCells z.cells (k - m)) (e := e) (fr := (0, 0)) ?_ ?_
      · rw [e1]
        exact heap_alloc_new w.drew _
      · have hj : j < vs.length := by
          rcases Nat.lt_or_ge j vs.length with h | h
          · exact h
          · rw [List.getElem?_eq_none h] at hv; simp at hv
        rw [Nat.zero_add, Array.getElem?_append_left (by simpa using hj)]
        simpa using hv
theorem sq_appendNil {t e : TypeId} {agg : Bool} {sz by_ : Nat} {z : Value} [hs : SlT P t e] [hT : TyI P e agg sz by_ z] {x y : Operand} {A : Option Addr} {m c : Nat} (vs : List Value) {ty : TypeId} {d : Nat} {pos : String} {af : Array Edge} (hx : ev (look E) x = some (.slice none 0 0)) (hy : ev (look E) y = some (.slice A m c))
    (hsz0 : Nat.blt 0 sz = true) (hby : Nat.blt 0 by_ = true) (hvs : vs.length = m * sz) (hm : m * by_ ≤ 281474976710656) (hrd : ∀ w, SS w0 X S own R w → Rd A vs w) (hd : Nat.blt d n = true)
    (h : ∀ p : Sv, Sq P ops Q n w0 X S rest ((d, .slice p.1 m p.2) :: E) own (fun w => R w ∧ (Rd p.1 vs w ∧ m ≤ p.2))) :
    Sq P ops Q n w0 X S (⟨some d, .call { callee := .builtin .append, args := #[x, y], argTypes := #[t, t] }, ty, pos, af, none⟩ :: rest) E own R := by
  intro a w s t'
  refine wpList_plain rfl fun K hK => ?_
  obtain ⟨p, w', e1, e2, e3⟩ := run_append_nil (P := P) hs.u hT (ty := ty) hvs (by simpa using hsz0) (by simpa using hby) (hrd w t') hm
  have e : (execOp a.eval ⟨some d, .call { callee := .builtin .append, args := #[x, y], argTypes := #[t, t] }, ty, pos, af, none⟩).run P w = .ok (.value (.slice p.1 m p.2)) w' := by
    have hx' := s.agr x _ hx
    have hy' := s.agr y _ hy
    simp [execOp, resolve, invoke, builtin, hx', hy']
    rw [e1]
    rfl
  unfold Oper.wp
  rw [e]
  exact hK _ _ (h p _ _ (s.put hd _) (t'.add e2 e3 fun k hk => hk.elim))
theorem run_copy_all {t e t2 : TypeId} {agg : Bool} {sz by_ : Nat} {z : Value} (hs : P.underlying t = some (.slice e)) (hT : TyI P e agg sz by_ z) {ty : TypeId} {A : Option Addr} {m c c' r : Nat} {l vs : List Value} {w : World} (hw : w.heap[r]? = some (.cells l.toArray e (0, 0))) (hl : l.length = m * sz) (hvs : vs.length = m * sz) (hrd : Rd A vs w) (h1 : one' vs = true) :
    ∃ w', (Builtin.copy_ #[t, t2] ty #[.slice (some ⟨r, 0, none⟩) m c, .slice A m c']).run P w = .ok (.int .i64 m) w' ∧ Upd r (.cells vs.toArray e (0, 0)) w w' := by
  have hsz := hT.sizeOf w
  have hload : (Builtin.firstCells sz m (.slice A m c')).run P w = .ok vs.toArray w := by
    cases A with
    | none =>
      have : vs = [] := by
        cases vs with
        | nil => rfl
        | cons v vs => obtain ⟨r, o, e1, _⟩ := hrd 0 v rfl; exact absurd e1 (by simp)
      subst this
      simp [Builtin.firstCells]
    | some a =>
      rcases Nat.eq_zero_or_pos vs.length with h0 | h0
      · have : vs = [] := List.eq_nil_of_length_eq_zero h0
        subst this
        have hz : m * sz = 0 := by simpa using hvs.symm
        simp [Builtin.firstCells, hz, loadCells, loadCellsFrom]
      · obtain ⟨r', o', e1, _⟩ := hrd 0 vs[0] (by simp [h0])
        injection e1 with e1
        subst e1
        have := run_loadCells_list (P := P) w ⟨r', o', none⟩ vs (fun j v hv => by
          rw [add_mk]
          obtain ⟨r2, o2, e1, e2⟩ := hrd j v hv
          injection e1 with e1
          injection e1 with e1 e3 _
          subst e1 e3
          exact e2)
        rw [hvs] at this
        simp [Builtin.firstCells, this]
  rcases Nat.eq_zero_or_pos vs.length with h0 | h0
  · have hv : vs = [] := List.eq_nil_of_length_eq_zero h0
    subst hv
    have hl0 : l = [] := List.eq_nil_of_length_eq_zero (by rw [hl, ← hvs]; rfl)
    subst hl0
    refine ⟨w, ?_, ⟨rfl, rfl, rfl, rfl, hw, fun _ _ => rfl⟩⟩
    simp [Builtin.copy_, run_underlying hs, Builtin.lenOf, hsz, hload, storeCells, goInt]
  · obtain ⟨w', e1, e2⟩ := run_storeCells_own (P := P) (w := w) (off := 0) vs hw (by omega) (fun v hv => List.all_eq_true.1 h1 v hv) 0 0 rfl (by intro h; subst h; simp at h0)
    have hwr : wr l 0 vs = vs := by
      have key : ∀ (vs pre l : List Value), l.length = vs.length → wr (pre ++ l) pre.length vs = pre ++ vs := by
        intro vs
        induction vs with
        | nil => intro pre l hl; simp at hl; subst hl; rfl
        | cons v vs ih =>
          intro pre l hl
          cases l with
          | nil => simp at hl
          | cons x l =>
            simp only [wr]
            rw [List.set_append_right _ _ (Nat.le_refl _)]
            simp only [Nat.sub_self, List.set_cons_zero]
            have := ih (pre ++ [v]) l (by simpa using hl)
            simp only [List.length_append, List.length_singleton, List.append_assoc, List.singleton_append] at this
            exact this
      have := key vs [] l (by omega)
      simpa using this
    rw [hwr] at e2
    refine ⟨w', ?_, e2⟩
    simp [Builtin.copy_, run_underlying hs, Builtin.lenOf, hsz, hload, e1, goInt]
theorem sq_copy (i : Nat) {t e t2 : TypeId} {agg : Bool} {sz by_ : Nat} {z : Value} [hs : SlT P t e] [hT : TyI P e agg sz by_ z] {x y : Operand} {A : Option Addr} {m c c' r : Nat} {l : List Value} (vs : List Value) {ty : TypeId} {d : Nat} {pos : String} {af : Array Edge} (hx : ev (look E) x = some (.slice (some ⟨r, 0, none⟩) m c)) (hy : ev (look E) y = some (.slice A m c'))
    (hi : ownAt own i = some (r, .cells l.toArray e (0, 0))) (hl : l.length = m * sz) (hvs : vs.length = m * sz) (h1 : one' vs = true) (hrd : ∀ w, SS w0 X S own R w → Rd A vs w) (hd : Nat.blt d n = true)
    (h : Sq P ops Q n w0 X S rest ((d, .int .i64 m) :: E) (ownSet own i (.cells vs.toArray e (0, 0))) R) :
    Sq P ops Q n w0 X S (⟨some d, .call { callee := .builtin .copy, args := #[x, y], argTypes := #[t, t2] }, ty, pos, af, none⟩ :: rest) E own R := by
  intro a w s t'
  refine wpList_plain rfl fun K hK => ?_
  obtain ⟨w', e1, e2⟩ := run_copy_all (P := P) hs.u hT (ty := ty) (t2 := t2) (c := c) (c' := c') (t'.has _ (ownAt_mem hi)) hl hvs (hrd w t') h1
  have e : (execOp a.eval ⟨some d, .call { callee := .builtin .copy, args := #[x, y], argTypes := #[t, t2] }, ty, pos, af, none⟩).run P w = .ok (.value (.int .i64 m)) w' := by
    have hx' := s.agr x _ hx
    have hy' := s.agr y _ hy
    simp [execOp, resolve, invoke, builtin, hx', hy', e1]
  unfold Oper.wp
  rw [e]
  exact hK _ _ (h _ _ (s.put hd _) (t'.upd hi e2))
theorem tx_copy (i : Nat) {sl : List Nat} {Γ : Ctx} {os : List Oper} {t e t2 : TypeId} {agg : Bool} {sz by_ : Nat} {z : Value} [hs : SlT P t e] [hT : TyI P e agg sz by_ z] {x y : Operand} {A : Option Addr} {m c c' r : Nat} {l : List Value} (vs : List Value) {ty : TypeId} {d : Nat} {pos : String} {af : Array Edge} (hx : ev (lkT E sl Γ) x = some (.slice (some ⟨r, 0, none⟩) m c)) (hy : ev (lkT E sl Γ) y = some (.slice A m c'))
    (hi : ownAt own i = some (r, .cells l.toArray e (0, 0))) (hl : l.length = m * sz) (hvs : vs.length = m * sz) (h1 : one' vs = true) (hrd : ∀ w, SS w0 X S own R w → Rd A vs w) (hd : Nat.blt d n = true) (hE : noLate sl ((d, .int .i64 m) :: E) = true)
    (h : Tx P ops Q n sl Γ os (Sx n w0 X S ((d, .int .i64 m) :: E) (ownSet own i (.cells vs.toArray e (0, 0))) R)) :
    Tx P ops Q n sl Γ (⟨some d, .call { callee := .builtin .copy, args := #[x, y], argTypes := #[t, t2] }, ty, pos, af, none⟩ :: os) (Sx n w0 X S E own R) := by
  refine ⟨Sx n w0 X S ((d, .int .i64 m) :: E) (ownSet own i (.cells vs.toArray e (0, 0))) R, sx_closed hE, fun a w hs' hdf ⟨s, t'⟩ hl' => ⟨rfl, ?_⟩, h⟩
  obtain ⟨w', e1, e2⟩ := run_copy_all (P := P) hs.u hT (ty := ty) (t2 := t2) (c := c) (c' := c') (t'.has _ (ownAt_mem hi)) hl hvs (hrd w t') h1
  have e : (execOp (fix (lkT E sl Γ) a.eval) ⟨some d, .call { callee := .builtin .copy, args := #[x, y], argTypes := #[t, t2] }, ty, pos, af, none⟩).run P w = .ok (.value (.int .i64 m)) w' := by
    have hx' := fix_agr (lkT E sl Γ) a.eval x _ hx
    have hy' := fix_agr (lkT E sl Γ) a.eval y _ hy
    simp [execOp, resolve, invoke, builtin, hx', hy', e1]
  unfold Oper.wp
  rw [tail_fix (o := ⟨some d, .call { callee := .builtin .copy, args := #[x, y], argTypes := #[t, t2] }, ty, pos, af, none⟩) rfl s hl', e]
  exact ⟨⟨_, rfl⟩, s.put hd _, t'.upd hi e2⟩
end
end Go.Qk
end
section
set_option linter.unusedVariables false
namespace Go.Qk
open Go Go.Proofs
set_option maxRecDepth 100000
set_option maxHeartbeats 4000000
theorem len32_ret (x : Nat) (w : World) (S : Nat → Prop) (hx : x < 4294967296) :
    Ret Try.prog 131 [.int .u32 (x : Int)] w S (fun L : Nat => .int .i64 (L : Int)) (fun L _ => x < 2 ^ L ∧ L ≤ 32 ∧ (x ≠ 0 → 1 ≤ L)) := by
  refine ret_of Try.func131 rfl Try.ntmps131 rfl ?_
  refine tr_rseq ?_
  refine sq_q (qt_assign rfl) rfl ?_
  refine sq_end ?_
  refine tr_cut2 (fun m y : Nat => y < 65536 ∧ m ≤ 16 ∧ x / 2 ^ m = y ∧ (y = 0 → x = 0)) (fun m y => [(0, .int .u32 (y : Int)), (2, .int .i64 (m : Int))]) (fun _ _ => []) (fun _ _ _ => True) ?_ ?_
  ·
    refine tr_rseq ?_
    refine sq_q (qt_move rfl) rfl ?_
    refine sq_q (qt_bin rfl rfl bin_geq) rfl ?_
    refine sq_end ?_
    refine tr_if rfl (fun hc => ?_) (fun hc => ?_)
    ·
      have hc := of_decide_eq_true hc
      refine tr_rseq ?_
      refine sq_q (qt_move rfl) rfl ?_
      refine sq_q (qt_bin rfl rfl (bin_shrU32 16 rfl (by omega) (by omega))) rfl ?_
      refine sq_q (qt_assign rfl) rfl ?_
      refine sq_end ?_
      refine tr_region ?_
      refine sq_q (qt_assign rfl) rfl ?_
      refine sq_nil ?_
      repeat with_reducible first | refine tr_skip ?_ | refine tr_exit ?_ | refine tr_then ?_ | refine tr_inX ?_ | refine tr_thenX ?_ | refine tr_inN ?_ | refine tr_inR ?_ | refine tr_thenR ?_
      refine tr_mid2 (16) (x / 65536) ⟨by show x / 65536 < 65536; omega, by simp, rfl, by show x / 65536 = 0 → x = 0; omega⟩ ⟨rfl, rfl, trivial⟩ rfl (fun _ h => h)
    ·
      have hc := of_decide_eq_false hc
      refine tr_skip ?_
      repeat with_reducible first | refine tr_skip ?_ | refine tr_exit ?_ | refine tr_then ?_ | refine tr_inX ?_ | refine tr_thenX ?_ | refine tr_inN ?_ | refine tr_inR ?_ | refine tr_thenR ?_
      refine tr_mid2 (0) (x) ⟨by show x < 65536; omega, by simp, by simp, fun h => h⟩ ⟨rfl, rfl, trivial⟩ rfl (fun _ h => h)
  ·
    rintro m y ⟨hy, hm, hd, h0⟩
    refine tr_cut2 (fun m y : Nat => y < 256 ∧ m ≤ 24 ∧ x / 2 ^ m = y ∧ (y = 0 → x = 0)) (fun m y => [(0, .int .u32 (y : Int)), (2, .int .i64 (m : Int))]) (fun _ _ => []) (fun _ _ _ => True) ?_ ?_
    ·
      refine tr_rseq ?_
      refine sq_q (qt_move rfl) rfl ?_
      refine sq_q (qt_bin rfl rfl bin_geq) rfl ?_
      refine sq_end ?_
      refine tr_if rfl (fun hc => ?_) (fun hc => ?_)
      ·
        have hc := of_decide_eq_true hc
        refine tr_rseq ?_
        refine sq_q (qt_move rfl) rfl ?_
        refine sq_q (qt_bin rfl rfl (bin_shrU32 8 rfl (by omega) (by omega))) rfl ?_
        refine sq_q (qt_assign rfl) rfl ?_
        refine sq_end ?_
        refine tr_region ?_
        refine sq_q (qt_move rfl) rfl ?_
        refine sq_q (qt_bin rfl rfl (bin_addI (by omega) (by omega))) rfl ?_
        refine sq_q (qt_assign rfl) rfl ?_
        refine sq_nil ?_
        repeat with_reducible first | refine tr_skip ?_ | refine tr_exit ?_ | refine tr_then ?_ | refine tr_inX ?_ | refine tr_thenX ?_ | refine tr_inN ?_ | refine tr_inR ?_ | refine tr_thenR ?_
        refine tr_mid2 (m + 8) (y / 256) ⟨by show y / 256 < 256; omega, by simp; omega, by show x / 2 ^ (m + 8) = y / 256; rw [Nat.pow_add, ← Nat.div_div_eq_div_mul, hd], by show y / 256 = 0 → x = 0; omega⟩ ⟨rfl, rfl, trivial⟩ rfl (fun _ h => h)
      ·
        have hc := of_decide_eq_false hc
        refine tr_skip ?_
        repeat with_reducible first | refine tr_skip ?_ | refine tr_exit ?_ | refine tr_then ?_ | refine tr_inX ?_ | refine tr_thenX ?_ | refine tr_inN ?_ | refine tr_inR ?_ | refine tr_thenR ?_
        refine tr_mid2 (m) (y) ⟨by show y < 256; omega, by show m ≤ 24; omega, hd, h0⟩ ⟨rfl, rfl, trivial⟩ rfl (fun _ h => h)
    ·
      rintro m' y' ⟨hy', hm', hd', h0'⟩
      refine tr_rseq ?_
      refine sq_q (qt_move rfl) rfl ?_
      refine sq_q (qt_move rfl) rfl ?_
      refine sq_q (qt_to8 rfl (by omega) (by omega)) rfl ?_
      refine sq_tab stringT rfl rfl (by kernel_rfl) hy' rfl fun b hb1 hb2 hb3 => ?_
      refine sq_q (qt_toI rfl (by omega) (by omega)) rfl ?_
      refine sq_q (qt_bin rfl rfl (bin_addI (by omega) (by omega))) rfl ?_
      refine sq_q (qt_assign rfl) rfl ?_
      refine sq_end ?_
      refine tr_ret ?_
      repeat with_reducible first | refine tr_skip ?_ | refine tr_exit ?_ | refine tr_then ?_ | refine tr_inX ?_ | refine tr_thenX ?_ | refine tr_inN ?_ | refine tr_inR ?_ | refine tr_thenR ?_
      refine tr_done (m' + b) (fun a w s t => results_1 rfl (resv_tmp s rfl)) (fun _ _ _ _ => ⟨?_, by omega, fun hx0 => ?_⟩)
      · have hp : 0 < 2 ^ m' := Nat.pow_pos (by decide)
        rw [Nat.pow_add, Nat.mul_comm, ← Nat.div_lt_iff_lt_mul hp, hd']
        exact hb1
      · have : y' ≠ 0 := fun h => hx0 (h0' h)
        have := hb3 this
        omega
theorem lz32_ret (x : Nat) (w : World) (S : Nat → Prop) (hx : x < 4294967296) (hx0 : x ≠ 0) :
    Ret Try.prog 126 [.int .u32 (x : Int)] w S (fun s : Nat => .int .i64 (s : Int)) (fun s _ => s ≤ 31 ∧ (x + 1) * 2 ^ s ≤ 4294967296) := by
  refine ret_of Try.func126 rfl Try.ntmps126 rfl ?_
  refine tr_rseq ?_
  refine sq_q (qt_assign rfl) rfl ?_
  refine sq_end ?_
  refine tr_rseq ?_
  refine sq_q (qt_move rfl) rfl ?_
  refine sq_call (fun L : Nat => .int .i64 (L : Int)) (fun L _ => x < 2 ^ L ∧ L ≤ 32 ∧ (x ≠ 0 → 1 ≤ L)) rfl rfl rfl (fun w t => len32_ret x w _ hx) fun L => ?_
  refine sq_have (fun w t => t.r.2) fun hL => ?_
  obtain ⟨h1, h2, h3⟩ := hL
  have h3 := h3 hx0
  refine sq_q (qt_bin rfl rfl (bin_subI (by omega) (by omega))) rfl ?_
  refine sq_q (qt_assign rfl) rfl ?_
  refine sq_end ?_
  refine tr_ret ?_
  repeat with_reducible first | refine tr_skip ?_ | refine tr_exit ?_ | refine tr_then ?_ | refine tr_inX ?_ | refine tr_thenX ?_ | refine tr_inN ?_ | refine tr_inR ?_ | refine tr_thenR ?_
  refine tr_done (32 - L) (fun a w s t => results_1 rfl (resv_tmp s ?_)) (fun _ _ _ _ => ⟨by omega, ?_⟩)
  · exact congrArg (fun z => some (Value.int .i64 z)) (show (32 : Int) - (L : Int) = ((32 - L : Nat) : Int) by omega)
  · have : (x + 1) * 2 ^ (32 - L) ≤ 2 ^ L * 2 ^ (32 - L) := Nat.mul_le_mul_right _ h1
    rw [← Nat.pow_add, show L + (32 - L) = 32 by omega] at this
    exact this
end Go.Qk
end
