/- Lemmas and contracts of functions that the law reaches. -/
import Derived.Test.YtencodepmbhpiaaGy4
set_option linter.unusedVariables false
set_option linter.unusedSimpArgs false
section
set_option linter.unusedVariables false
namespace Go.Qk
open Go Go.Proofs Go.RowKit
set_option maxRecDepth 100000
set_option maxHeartbeats 4000000
theorem inverse_ret (m : Mt) (B : Nat) (w0 : World) (S : Nat → Prop) (hm : m.ok B w0) (hB : B ≤ 8388607) (hB1 : 1 ≤ B) (hlen : m.rs.length ≤ 35184372088832) (hrow : ∀ r ∈ m.rs, r.l.length ≤ 35184372088832) :
    Ret Try.prog 40 [m.v] w0 S (optV (invO m.zs)) (optF 549755813889 (invO m.zs)) := by
  obtain ⟨N, hN⟩ : ∃ N : Nat, N = ((shp m.zs).getD (0, 0)).1 := ⟨_, rfl⟩
  obtain ⟨sq, hsq⟩ : ∃ sq, sq = sqb (shp m.zs) := ⟨_, rfl⟩
  refine ret_of Try.func40 rfl Try.ntmps40 rfl ?_
  refine tr_rseq ?_
  refine sq_q (qt_assign rfl) rfl ?_
  refine sq_q (qt_assign rfl) rfl ?_
  refine sq_end ?_
  refine tr_rseq ?_
  refine sq_q (qt_move rfl) rfl ?_
  refine sq_call (val := fun _ : Unit => .tuple #[.int .i64 (N : Int), .bool sq]) (F := fun _ _ => True) rfl rfl rfl (fun w t => by rw [hN, hsq]; exact square_ret m B w _ (t.mt hm) hlen hrow) fun _ => ?_
  refine sq_q (qt_move rfl) rfl ?_
  refine sq_q (qt_extract rfl rfl) rfl ?_
  refine sq_q (qt_extract rfl rfl) rfl ?_
  refine sq_q (qt_assign rfl) rfl ?_
  refine sq_q (qt_assign rfl) rfl ?_
  refine sq_end ?_
  refine tr_seq ?_
  refine tr_rseq ?_
  refine sq_q (qt_move rfl) rfl ?_
  refine sq_q (qt_not rfl) rfl ?_
  refine sq_end ?_
  refine tr_if rfl (fun hc => ?_) (fun hc => ?_)
  ·
    have hs : sqb (shp m.zs) = false := by rw [← hsq]; simpa using hc
    have e : invO m.zs = none := by unfold invO; rw [if_neg (by rw [hs]; decide)]
    rw [e]
    refine tr_rseq ?_
    refine sq_q (qt_assign rfl) rfl ?_
    refine sq_q (qt_assign rfl) rfl ?_
    refine sq_end ?_
    refine tr_ret ?_
    repeat with_reducible first | refine tr_skip ?_ | refine tr_exit ?_ | refine tr_then ?_ | refine tr_inX ?_ | refine tr_thenX ?_ | refine tr_inN ?_ | refine tr_inR ?_ | refine tr_thenR ?_
    exact tr_done ⟨[], (none, 0)⟩ (fun a w s t => results_2 rfl (resv_tmp s rfl) (resv_tmp s rfl)) (fun w _ _ _ => optF_none _ _)
  ·
    have hs : sqb (shp m.zs) = true := by rw [← hsq]; simpa using hc
    obtain ⟨h1, h2, h3⟩ := sqr_rows hs
    have hNm : m.rs.length = N := by
      cases hq : shp m.zs with
      | none => rw [hq] at hs; simp [sqb] at hs
      | some rc =>
        have := (shp_inv (r := rc.1) (c := rc.2) hq).1
        rw [m.zs_len] at this
        rw [hN, hq, this]
        rfl
    obtain ⟨D, hD⟩ : ∃ D, D = bdet m.rs.length (ent m.zs) := ⟨_, rfl⟩
    obtain ⟨g2, hg2⟩ := adjO_rows hs
    rw [m.zs_len, hNm] at hg2
    have hO : invO m.zs = if D = 1 ∨ D = -1 then some (grid (invE m.zs D) N N) else none := by unfold invO; rw [if_pos hs, m.zs_len, ← hD, hNm]
    refine tr_skip ?_
    repeat with_reducible first | refine tr_skip ?_ | refine tr_exit ?_ | refine tr_then ?_ | refine tr_inX ?_ | refine tr_thenX ?_ | refine tr_inN ?_ | refine tr_inR ?_ | refine tr_thenR ?_
    refine tr_rseq ?_
    refine sq_q (qt_move rfl) rfl ?_
    refine sq_call (iv D) (fun p w => Lz D.natAbs p w ∧ nl D.natAbs ≤ 549755813887) rfl rfl rfl (fun w t => by rw [hD]; exact determinant_ret m B m.rs.length w _ (t.mt hm) hB hB1 rfl h1 h2 h3) fun x19 => ?_
    refine sq_call (val := fun _ : Unit => int64V D) (F := fun _ _ => True) rfl rfl rfl (fun w t => int64_iv D x19 w _ t.r.2.1 (by have := t.r.2.2; omega)) fun _ => ?_
    obtain ⟨dv, hdv⟩ : ∃ dv : Int, dv = if In64 D then D else 0 := ⟨_, rfl⟩
    obtain ⟨okb, hokb⟩ : ∃ okb : Bool, okb = decide (In64 D) := ⟨_, rfl⟩
    have e64 : int64V D = .tuple #[.int .i64 dv, .bool okb] := by rw [hdv, hokb]; rfl
    rw [e64]
    refine sq_q (qt_move rfl) rfl ?_
    refine sq_q (qt_extract rfl rfl) rfl ?_
    refine sq_q (qt_extract rfl rfl) rfl ?_
    refine sq_alloc rfl fun r6 => ?_
    refine sq_store 0 rfl rfl rfl rfl (by first | (simp [u32s, Value.cells]; done) | (simp [u32s, Value.cells]; omega) | exact Nat.le_refl 2) rfl rfl ?_
    refine sq_q (qt_assign rfl) rfl ?_
    refine sq_end ?_
    refine tr_seq ?_
    have hcase : okb = false ∨ (okb = true ∧ dv = 1) ∨ (okb = true ∧ dv = -1) ∨ (okb = true ∧ dv ≠ 1 ∧ dv ≠ -1) := by
      cases okb
      · exact .inl rfl
      · by_cases h1 : dv = 1
        · exact .inr (.inl ⟨rfl, h1⟩)
        · by_cases h2 : dv = -1
          · exact .inr (.inr (.inl ⟨rfl, h2⟩))
          · exact .inr (.inr (.inr ⟨rfl, h1, h2⟩))
    have hin : okb = true → In64 D ∧ dv = D := fun h => by
      rw [h] at hokb
      have h1 : In64 D := by simpa using hokb.symm
      exact ⟨h1, by rw [hdv, if_pos h1]⟩
    rcases hcase with h0 | ⟨h0, h1v⟩ | ⟨h0, h1v⟩ | ⟨h0, h1v, h2v⟩
    ·
      subst h0
      have hO2 : invO m.zs = none := by
        rw [hO, if_neg]
        have hn : ¬ In64 D := by simpa using hokb.symm
        rintro (h | h) <;> exact hn (by unfold In64; omega)
      rw [hO2]
      refine tr_rseq ?_
      refine sq_q (qt_move rfl) rfl ?_
      refine sq_q (qt_not rfl) rfl ?_
      refine sq_q (qt_move rfl) rfl ?_
      refine sq_gF rfl rfl rfl rfl ?_
      refine sq_gF rfl rfl rfl rfl ?_
      refine sq_gF rfl rfl rfl rfl ?_
      refine sq_gU rfl rfl rfl ?_
      refine sq_gU rfl rfl rfl ?_
      refine sq_gF rfl rfl rfl rfl ?_
      refine sq_q (qt_pick rfl rfl) rfl ?_
      refine sq_end ?_
      refine tr_ifT rfl ?_
      refine tr_rseq ?_
      refine sq_q (qt_assign rfl) rfl ?_
      refine sq_q (qt_assign rfl) rfl ?_
      refine sq_end ?_
      refine tr_ret ?_
      repeat with_reducible first | refine tr_skip ?_ | refine tr_exit ?_ | refine tr_then ?_ | refine tr_inX ?_ | refine tr_thenX ?_ | refine tr_inN ?_ | refine tr_inR ?_ | refine tr_thenR ?_
      exact tr_done ⟨[], (none, 0)⟩ (fun a w s t => results_2 rfl (resv_tmp s rfl) (resv_tmp s rfl)) (fun w _ _ _ => optF_none _ _)
    ·
      have hDv : D = 1 := by rw [← (hin h0).2]; exact h1v
      have hDin : In64 D := (hin h0).1
      have hO2 : invO m.zs = some (grid (invE m.zs D) N N) := by rw [hO, if_pos (.inl hDv)]
      rw [hO2]
      have hdvD : dv = D := (hin h0).2
      clear hin hdv hokb hO e64
      subst h0
      refine tr_rseq ?_
      refine sq_q (qt_move rfl) rfl ?_
      refine sq_q (qt_not rfl) rfl ?_
      refine sq_q (qt_move rfl) rfl ?_
      refine sq_gT rfl rfl ?_
      refine sq_q (qt_load rfl (fun w t => t.atO 0 rfl rfl)) rfl ?_
      refine sq_gT rfl rfl ?_
      refine sq_q (qt_bin rfl rfl (bF bin_neq (by omega))) rfl ?_
      refine sq_gT rfl rfl ?_
      refine sq_q (qt_move rfl) rfl ?_
      refine sq_gF rfl rfl rfl rfl ?_
      refine sq_gF rfl rfl rfl rfl ?_
      refine sq_gT rfl rfl ?_
      refine sq_q (qt_pick rfl rfl) rfl ?_
      refine sq_q (qt_pick rfl rfl) rfl ?_
      refine sq_end ?_
      refine tr_ifF rfl ?_
      refine tr_skip ?_
      repeat with_reducible first | refine tr_skip ?_ | refine tr_exit ?_ | refine tr_then ?_ | refine tr_inX ?_ | refine tr_thenX ?_ | refine tr_inN ?_ | refine tr_inR ?_ | refine tr_thenR ?_
      refine tr_rseq ?_
      refine sq_q (qt_move rfl) rfl ?_
      subst hdvD
      refine sq_call (optV (adjO m.zs)) (optF 549755813887 (adjO m.zs)) rfl rfl rfl (fun w t => adjugate_ret m B w _ (t.mt hm) hB hB1 hlen hrow) fun m2 => ?_
      refine sq_have (fun w t => t.r.2.2.1) fun hz2 => ?_
      rw [hg2] at hz2
      obtain ⟨hl2, hr2⟩ := grid_rows hz2
      refine sq_q (qt_move rfl) rfl ?_
      refine sq_q (qt_extract rfl rfl) rfl ?_
      refine sq_q (qt_extract rfl rfl) rfl ?_
      refine sq_alloc rfl fun r8 => ?_
      refine sq_store 0 rfl rfl rfl rfl (Nat.le_refl 1) rfl rfl ?_
      refine sq_q (qt_assign rfl) rfl ?_
      refine sq_end ?_
      refine tr_rseq ?_
      refine sq_q (qt_move rfl) rfl ?_
      refine sq_q (qt_move rfl) rfl ?_
      refine sq_q (qt_makeFunc rfl) rfl ?_
      refine sq_call Mt.v (fun m' w => m'.ok 549755813889 w ∧ m'.zs = grid (invE m.zs dv) N N ∧ m'.can) rfl rfl rfl (fun w t => ?_) fun m' => ?_
      · refine build_ret N N 549755813889 (invE m.zs dv) 86 [] [.pointer (some ⟨r8, 0, none⟩), .pointer (some ⟨r6, 0, none⟩)] w _ (by omega) (by omega) (fun i j w' S' hi hj hbel => ?_)
        have e : invE m.zs dv i j = ent m2.zs i j * dv := by unfold invE; rw [hg2, hz2]
        rw [e]
        exact inv1_ret m2 549755813887 r8 r6 i j dv w' S' (t.r.2.1.below hbel) (by omega) ((t.atO 0 rfl rfl).below hbel) ((t.atO 1 rfl rfl).below hbel) hDin (by omega) (by rw [hr2 _ (List.getElem_mem _)]; exact hj)
      refine sq_q (qt_assign rfl) rfl ?_
      refine sq_q (qt_assign rfl) rfl ?_
      refine sq_end ?_
      refine tr_ret ?_
      repeat with_reducible first | refine tr_skip ?_ | refine tr_exit ?_ | refine tr_then ?_ | refine tr_inX ?_ | refine tr_thenX ?_ | refine tr_inN ?_ | refine tr_inR ?_ | refine tr_thenR ?_
      exact tr_done m' (fun a w s t => results_2 rfl (resv_tmp s rfl) (resv_tmp s rfl)) (fun w h _ _ => h.2)
    ·
      have hDv : D = -1 := by rw [← (hin h0).2]; exact h1v
      have hDin : In64 D := (hin h0).1
      have hO2 : invO m.zs = some (grid (invE m.zs D) N N) := by rw [hO, if_pos (.inr hDv)]
      rw [hO2]
      have hdvD : dv = D := (hin h0).2
      clear hin hdv hokb hO e64
      subst h0
      refine tr_rseq ?_
      refine sq_q (qt_move rfl) rfl ?_
      refine sq_q (qt_not rfl) rfl ?_
      refine sq_q (qt_move rfl) rfl ?_
      refine sq_gT rfl rfl ?_
      refine sq_q (qt_load rfl (fun w t => t.atO 0 rfl rfl)) rfl ?_
      refine sq_gT rfl rfl ?_
      refine sq_q (qt_bin rfl rfl (bT bin_neq (by omega))) rfl ?_
      refine sq_gT rfl rfl ?_
      refine sq_q (qt_move rfl) rfl ?_
      refine sq_gT rfl rfl ?_
      refine sq_q (qt_load rfl (fun w t => t.atO 0 rfl rfl)) rfl ?_
      refine sq_gT rfl rfl ?_
      refine sq_q (qt_bin rfl rfl (bF bin_neq (by omega))) rfl ?_
      refine sq_gT rfl rfl ?_
      refine sq_q (qt_pick rfl rfl) rfl ?_
      refine sq_q (qt_pick rfl rfl) rfl ?_
      refine sq_end ?_
      refine tr_ifF rfl ?_
      refine tr_skip ?_
      repeat with_reducible first | refine tr_skip ?_ | refine tr_exit ?_ | refine tr_then ?_ | refine tr_inX ?_ | refine tr_thenX ?_ | refine tr_inN ?_ | refine tr_inR ?_ | refine tr_thenR ?_
      refine tr_rseq ?_
      refine sq_q (qt_move rfl) rfl ?_
      subst hdvD
      refine sq_call (optV (adjO m.zs)) (optF 549755813887 (adjO m.zs)) rfl rfl rfl (fun w t => adjugate_ret m B w _ (t.mt hm) hB hB1 hlen hrow) fun m2 => ?_
      refine sq_have (fun w t => t.r.2.2.1) fun hz2 => ?_
      rw [hg2] at hz2
      obtain ⟨hl2, hr2⟩ := grid_rows hz2
      refine sq_q (qt_move rfl) rfl ?_
      refine sq_q (qt_extract rfl rfl) rfl ?_
      refine sq_q (qt_extract rfl rfl) rfl ?_
      refine sq_alloc rfl fun r8 => ?_
      refine sq_store 0 rfl rfl rfl rfl (Nat.le_refl 1) rfl rfl ?_
      refine sq_q (qt_assign rfl) rfl ?_
      refine sq_end ?_
      refine tr_rseq ?_
      refine sq_q (qt_move rfl) rfl ?_
      refine sq_q (qt_move rfl) rfl ?_
      refine sq_q (qt_makeFunc rfl) rfl ?_
      refine sq_call Mt.v (fun m' w => m'.ok 549755813889 w ∧ m'.zs = grid (invE m.zs dv) N N ∧ m'.can) rfl rfl rfl (fun w t => ?_) fun m' => ?_
      · refine build_ret N N 549755813889 (invE m.zs dv) 86 [] [.pointer (some ⟨r8, 0, none⟩), .pointer (some ⟨r6, 0, none⟩)] w _ (by omega) (by omega) (fun i j w' S' hi hj hbel => ?_)
        have e : invE m.zs dv i j = ent m2.zs i j * dv := by unfold invE; rw [hg2, hz2]
        rw [e]
        exact inv1_ret m2 549755813887 r8 r6 i j dv w' S' (t.r.2.1.below hbel) (by omega) ((t.atO 0 rfl rfl).below hbel) ((t.atO 1 rfl rfl).below hbel) hDin (by omega) (by rw [hr2 _ (List.getElem_mem _)]; exact hj)
      refine sq_q (qt_assign rfl) rfl ?_
      refine sq_q (qt_assign rfl) rfl ?_
      refine sq_end ?_
      refine tr_ret ?_
      repeat with_reducible first | refine tr_skip ?_ | refine tr_exit ?_ | refine tr_then ?_ | refine tr_inX ?_ | refine tr_thenX ?_ | refine tr_inN ?_ | refine tr_inR ?_ | refine tr_thenR ?_
      exact tr_done m' (fun a w s t => results_2 rfl (resv_tmp s rfl) (resv_tmp s rfl)) (fun w h _ _ => h.2)
    ·
      have hO2 : invO m.zs = none := by
        rw [hO, if_neg]
        rw [← (hin h0).2]
        rintro (h | h)
        · exact h1v h
        · exact h2v h
      rw [hO2]
      clear hin hdv hokb hO e64
      subst h0
      refine tr_rseq ?_
      refine sq_q (qt_move rfl) rfl ?_
      refine sq_q (qt_not rfl) rfl ?_
      refine sq_q (qt_move rfl) rfl ?_
      refine sq_gT rfl rfl ?_
      refine sq_q (qt_load rfl (fun w t => t.atO 0 rfl rfl)) rfl ?_
      refine sq_gT rfl rfl ?_
      refine sq_q (qt_bin rfl rfl (bT bin_neq (by omega))) rfl ?_
      refine sq_gT rfl rfl ?_
      refine sq_q (qt_move rfl) rfl ?_
      refine sq_gT rfl rfl ?_
      refine sq_q (qt_load rfl (fun w t => t.atO 0 rfl rfl)) rfl ?_
      refine sq_gT rfl rfl ?_
      refine sq_q (qt_bin rfl rfl (bT bin_neq (by omega))) rfl ?_
      refine sq_gT rfl rfl ?_
      refine sq_q (qt_pick rfl rfl) rfl ?_
      refine sq_q (qt_pick rfl rfl) rfl ?_
      refine sq_end ?_
      refine tr_ifT rfl ?_
      refine tr_rseq ?_
      refine sq_q (qt_assign rfl) rfl ?_
      refine sq_q (qt_assign rfl) rfl ?_
      refine sq_end ?_
      refine tr_ret ?_
      repeat with_reducible first | refine tr_skip ?_ | refine tr_exit ?_ | refine tr_then ?_ | refine tr_inX ?_ | refine tr_thenX ?_ | refine tr_inN ?_ | refine tr_inR ?_ | refine tr_thenR ?_
      exact tr_done ⟨[], (none, 0)⟩ (fun a w s t => results_2 rfl (resv_tmp s rfl) (resv_tmp s rfl)) (fun w _ _ _ => optF_none _ _)
end Go.Qk
end
section
set_option linter.unusedVariables false
namespace Go.Qk
open Go Go.Proofs Go.RowKit
section
variable {P : Program} {ops : Array Oper} {Q : Exit → Act → World → Prop} {n : Nat} {w0 : World} {X : List Nat} {S : Nat → Prop} {own : Own} {R : World → Prop}
variable {late : Nat → Bool} {i : Nat} {os : List Oper} {Γ : Ctx} {K : Ctx → Prop}
theorem hok_lkC {a : Act} {w : World} {o : Oper} (hok : ∀ t ∈ o.looksAt ops, ∀ e, lookC Γ t = some e → e.ok (a.tmps.getD t undef) w) : ∀ t, Operand.tmp t ∈ o.op.operands → ∀ v, lkC Γ t = some v → a.tmps.getD t undef = v := fun t ht u hu => by
  unfold lkC at hu
  split at hu
  · rename_i u' he
    injection hu with hu
    subst hu
    exact hok t (mem_looksAt ht) _ he
  · simp at hu
theorem hok_lk2 {a : Act} {w : World} {o : Oper} {t t' : Nat} {v v' : Value} (hok : ∀ t ∈ o.looksAt ops, ∀ e, lookC Γ t = some e → e.ok (a.tmps.getD t undef) w) (h1 : a.tmps.getD t undef = v) (h2 : a.tmps.getD t' undef = v') : ∀ s, Operand.tmp s ∈ o.op.operands → ∀ u, lk2 Γ t v t' v' s = some u → a.tmps.getD s undef = u := fun s hs u hu => by
  unfold lk2 at hu
  cases hb : Nat.beq t s with
  | true =>
    rw [hb] at hu
    have := Nat.eq_of_beq_eq_true hb
    subst this
    simp at hu
    rw [← hu]; exact h1
  | false =>
    rw [hb] at hu
    simp only [cond_false] at hu
    cases hb' : Nat.beq t' s with
    | true =>
      rw [hb'] at hu
      have := Nat.eq_of_beq_eq_true hb'
      subst this
      simp at hu
      rw [← hu]; exact h2
    | false =>
      rw [hb'] at hu
      simp only [cond_false] at hu
      exact hok_lkC hok s hs u hu
theorem run_lit {t e : TypeId} {agg : Bool} {sz by_ : Nat} {z : Value} [hs : SlT P t e] [hT : TyI P e agg sz by_ z] {lk : Nat → Option Value} {ρ : Operand → Value} (hρ : Agr lk ρ) {len : Nat} {xs : List (Nat × Operand)} {vs : List (Nat × Value)} {cells : List Value} {ty : TypeId} {d : Option Tmp} {pos : String} {af : Array Edge} {g : Option (Nat × Bool)} {w : World} (hx : evp lk xs = some vs)
    (hlen : Nat.ble (len * sz) 1000 = true) (hpos : Nat.blt 0 (len * sz) = true) (hf : Instr.fill (fun i => some (i * sz, sz)) ((Array.range (len * sz)).map (z.cells[· % z.cells.size]!)) vs = some cells.toArray) :
    (execOp ρ ⟨d, .buildSlice t len xs.toArray, ty, pos, af, g⟩).run P w = .ok (.value (.slice (some ⟨w.heap.size, 0, none⟩) len len)) (w.alloc (.cells cells.toArray e (0, 0))) := by
  have h1 : ¬ (len * sz > 2 ^ 24) := by have : len * sz ≤ 1000 := by simpa using hlen
                                        omega
  have h2 : ¬ (len * sz = 0) := by have : 0 < len * sz := by simpa using hpos
                                   omega
  have e0 : (List.map (fun (x : Nat × Operand) => match x with | (i, x) => (i, ρ x)) xs) = vs := by rw [← evp_map hρ hx]
  simp only [execOp, List.map_toArray, e0, Instr.buildSlice, Sem.run_bind, run_underlying hs.u, Result.andThen_ok, hT.sizeOf w, if_neg h1, if_neg h2, Sem.run_pure, hT.zero w, hf]
  simp [newRow]
theorem dx_lit {t e : TypeId} {agg : Bool} {sz by_ : Nat} {z : Value} [hs : SlT P t e] [hT : TyI P e agg sz by_ z] {len : Nat} {xs : List (Nat × Operand)} {vs : List (Nat × Value)} {cells : List Value} {ty : TypeId} {d : Nat} {pos : String} {af : Array Edge} (hl : late i = false) (hx : evp (lkC Γ) xs = some vs)
    (hlen : Nat.ble (len * sz) 1000 = true) (hpos : Nat.blt 0 (len * sz) = true) (hf : Instr.fill (fun i => some (i * sz, sz)) ((Array.range (len * sz)).map (z.cells[· % z.cells.size]!)) vs = some cells.toArray)
    (h : Dx P ops Q n (SS w0 X S own R) Bl late (i + 1) os ((d, .pr (ResF w0 S own (fun r : Nat => .slice (some ⟨r, 0, none⟩) len len) (fun r w => w.heap[r]? = some (.cells cells.toArray e (0, 0))))) :: Γ) K) :
    Dx P ops Q n (SS w0 X S own R) Bl late i (⟨some d, .buildSlice t len xs.toArray, ty, pos, af, none⟩ :: os) Γ K := by
  refine ⟨.pr (ResF w0 S own (fun r : Nat => .slice (some ⟨r, 0, none⟩) len len) (fun r w => w.heap[r]? = some (.cells cells.toArray e (0, 0)))), .inl ⟨hl, fun _ _ _ hb ⟨x, e, hk⟩ => ⟨x, e, hk.below hb⟩, fun a w hsz hd hJ hok => ?_⟩, h⟩
  rw [if_pos (wanted_none rfl)]
  have e1 := exec_fix (lk := lkC Γ) (a := a) (o := ⟨some d, .buildSlice t len xs.toArray, ty, pos, af, none⟩) rfl (hok_lkC hok)
  unfold Oper.wp
  rw [e1, run_lit (fix_agr _ _) hx hlen hpos hf]
  have hb : Below w.heap.size w (w.alloc (.cells cells.toArray e (0, 0))) := (Below.refl _ _).alloc (Nat.le_refl _) _
  refine ⟨_, rfl, hb, hJ.grow hb, w.heap.size, rfl, fun w'' h1 h2 => ?_⟩
  show w''.heap[w.heap.size]? = _
  rw [h2 w.heap.size (.inl hJ.size) (by simp) (fun p hp e => by have := (hJ.lt p hp).1; omega)]
  exact heap_alloc_new w _
/-- a literal of two earlier results -/
theorem dx_lit2 {β γ : Type} {val₁ : β → Value} {G₁ : β → World → Prop} {val₂ : γ → Value} {G₂ : γ → World → Prop} (q q' : Nat) {t e : TypeId} {agg : Bool} {sz by_ : Nat} {z : Value} [hs : SlT P t e] [hT : TyI P e agg sz by_ z] {len : Nat} {xs : List (Nat × Operand)} {vs : β → γ → List (Nat × Value)} (cells : β → γ → List Value) {ty : TypeId} {d : Nat} {pos : String} {af : Array Edge} (hl : late i = false)
    (hΓ : lookC Γ q = some (.pr (ResF w0 S own val₁ G₁))) (hΓ' : lookC Γ q' = some (.pr (ResF w0 S own val₂ G₂))) (hmem : Operand.tmp q ∈ xs.map (·.2)) (hmem' : Operand.tmp q' ∈ xs.map (·.2))
    (hx : ∀ y z, evp (lk2 Γ q (val₁ y) q' (val₂ z)) xs = some (vs y z))
    (hlen : Nat.ble (len * sz) 1000 = true) (hpos : Nat.blt 0 (len * sz) = true) (hf : ∀ y u, Instr.fill (fun i => some (i * sz, sz)) ((Array.range (len * sz)).map (z.cells[· % z.cells.size]!)) (vs y u) = some (cells y u).toArray)
    (h : Dx P ops Q n (SS w0 X S own R) Bl late (i + 1) os ((d, .pr (ResF w0 S own (fun r : Nat × β × γ => .slice (some ⟨r.1, 0, none⟩) len len) (fun r w => w.heap[r.1]? = some (.cells (cells r.2.1 r.2.2).toArray e (0, 0)) ∧ G₁ r.2.1 w ∧ G₂ r.2.2 w))) :: Γ) K) :
    Dx P ops Q n (SS w0 X S own R) Bl late i (⟨some d, .buildSlice t len xs.toArray, ty, pos, af, none⟩ :: os) Γ K := by
  refine ⟨.pr (ResF w0 S own (fun r : Nat × β × γ => .slice (some ⟨r.1, 0, none⟩) len len) (fun r w => w.heap[r.1]? = some (.cells (cells r.2.1 r.2.2).toArray e (0, 0)) ∧ G₁ r.2.1 w ∧ G₂ r.2.2 w)), .inl ⟨hl, fun _ _ _ hb ⟨x, e, hk⟩ => ⟨x, e, hk.below hb⟩, fun a w hsz hd hJ hok => ?_⟩, h⟩
  rw [if_pos (wanted_none rfl)]
  have hop : ∀ s, Operand.tmp s ∈ xs.map (·.2) → Operand.tmp s ∈ (Op.buildSlice t len xs.toArray).operands := by
    intro s hs
    simp only [Op.operands]
    simpa using hs
  obtain ⟨y, hy, hk⟩ := hok q (mem_looksAt (hop q hmem)) _ hΓ
  obtain ⟨u, hu, hk'⟩ := hok q' (mem_looksAt (hop q' hmem')) _ hΓ'
  have e1 := exec_fix (lk := lk2 Γ q (val₁ y) q' (val₂ u)) (a := a) (o := ⟨some d, .buildSlice t len xs.toArray, ty, pos, af, none⟩) rfl (hok_lk2 hok hy hu)
  unfold Oper.wp
  rw [e1, run_lit (fix_agr _ _) (hx y u) hlen hpos (hf y u)]
  have hb : Below w.heap.size w (w.alloc (.cells (cells y u).toArray e (0, 0))) := (Below.refl _ _).alloc (Nat.le_refl _) _
  refine ⟨_, rfl, hb, hJ.grow hb, (w.heap.size, y, u), rfl, fun w'' h1 h2 => ⟨?_, (hk.below hb) w'' h1 h2, (hk'.below hb) w'' h1 h2⟩⟩
  show w''.heap[w.heap.size]? = _
  rw [h2 w.heap.size (.inl hJ.size) (by simp) (fun p hp e => by have := (hJ.lt p hp).1; omega)]
  exact heap_alloc_new w _
/-- a call that takes an earlier result and whose answer is known -/
theorem dx_callv1 {β : Type} {val₁ : β → Value} {G₁ : β → World → Prop} (t : Nat) {c : Operand} {f : FuncId} {pre cap : List Value} {xs : List Operand} {vs : β → List Value} {ats : Array TypeId} {ty : TypeId} {d : Nat} {pos : String} {af : Array Edge} {v : Value} {F : Unit → World → Prop} (hl : late i = false) [hB : FnB P f]
    (hΓ : lookC Γ t = some (.pr (ResF w0 S own val₁ G₁))) (hmem : Operand.tmp t ∈ xs) (hc' : ∀ y, fnv (lk1 Γ t (val₁ y)) c f pre cap) (hxs : ∀ y, evs (lk1 Γ t (val₁ y)) xs = some (vs y))
    (hcall : ∀ y w, SS w0 X S own (fun w => R w ∧ G₁ y w) w → Ret P f (pre ++ vs y ++ cap) w (Nn w0 S own w) (fun _ : Unit => v) F)
    (h : Dx P ops Q n (SS w0 X S own R) Bl late (i + 1) os ((d, .val v) :: Γ) K) :
    Dx P ops Q n (SS w0 X S own R) Bl late i (⟨some d, .call { callee := .value c, args := xs.toArray, argTypes := ats }, ty, pos, af, none⟩ :: os) Γ K := by
  refine ⟨.val v, .inl ⟨hl, fun _ _ _ _ h => h, fun a w hs hd hJ hok => ?_⟩, h⟩
  rw [if_pos (wanted_none rfl)]
  have hop : Operand.tmp t ∈ (Op.call { callee := .value c, args := xs.toArray, argTypes := ats }).operands := by
    simp only [Op.operands, Call.operands]
    exact Array.mem_append.2 (.inr (by simpa using hmem))
  obtain ⟨y, hy, hk⟩ := hok t (mem_looksAt hop) _ hΓ
  have e := exec_fix (lk := lk1 Γ t (val₁ y)) (a := a) (o := ⟨some d, .call { callee := .value c, args := xs.toArray, argTypes := ats }, ty, pos, af, none⟩) rfl fun s hs u hu => by
    unfold lk1 at hu
    cases hb : Nat.beq t s with
    | true =>
      rw [hb] at hu
      have := Nat.eq_of_beq_eq_true hb
      subst this
      simp at hu
      rw [← hu]; exact hy
    | false =>
      rw [hb] at hu
      simp only [cond_false] at hu
      exact hok_lkC hok s hs u hu
  unfold Oper.wp
  rw [e, run_call (fix_agr _ _) (hc' y) (hxs y), Oper.upon_enter]
  refine (hcall y w (hk.add hJ)).mono ?_
  rintro e w' ⟨x, rfl, hb, hf⟩
  exact ⟨v, rfl, hb, hJ.grow hb, rfl⟩
end
theorem lens_of {m : Mt} {L : List (List Int)} (h : m.zs = L) (k : Nat) (h1 : L.length ≤ k) (h2 : ∀ q ∈ L, q.length ≤ k) : m.rs.length ≤ k ∧ ∀ r ∈ m.rs, r.l.length ≤ k := by
  refine ⟨by rw [← m.zs_len, h]; exact h1, fun r hr => ?_⟩
  rw [← Rw.zs_len]
  exact h2 _ (by rw [← h]; exact List.mem_map.2 ⟨r, hr, rfl⟩)
/-- a literal of two rows of two -/
theorem of2_ret (r8 r9 r10 : Nat) (a b c d : Int) (w : World) (S : Nat → Prop) (h8 : w.heap[r8]? = some (.cells (i64s [a, b]).toArray 2 (0, 0))) (h9 : w.heap[r9]? = some (.cells (i64s [c, d]).toArray 2 (0, 0)))
    (h10 : w.heap[r10]? = some (.cells ([Value.slice (some ⟨r8, 0, none⟩) 2 2, Value.slice (some ⟨r9, 0, none⟩) 2 2] : List Value).toArray 71 (0, 0))) (ha : In64 a) (hb : In64 b) (hc : In64 c) (hd : In64 d) :
    Ret Try.prog 38 [.slice (some ⟨r10, 0, none⟩) 2 2] w S Mt.v (optF 2 (some [[a, b], [c, d]])) := by
  have h := of_ret ⟨[⟨[a, b], (some ⟨r8, 0, none⟩, 2)⟩, ⟨[c, d], (some ⟨r9, 0, none⟩, 2)⟩], (some ⟨r10, 0, none⟩, 2)⟩ w S ⟨Rd.own h10, Nat.le_refl _, ?_⟩ (by simp) (by simp)
  · have e : keepO (Xm.zs ⟨[⟨[a, b], (some ⟨r8, 0, none⟩, 2)⟩, ⟨[c, d], (some ⟨r9, 0, none⟩, 2)⟩], (some ⟨r10, 0, none⟩, 2)⟩) = some [[a, b], [c, d]] := by
      simp [keepO, Xm.zs, shp]
    rw [e] at h
    exact h
  · intro r hr
    simp only [List.mem_cons, List.not_mem_nil, or_false] at hr
    rcases hr with rfl | rfl
    · exact ⟨Rd.own h8, Nat.le_refl _, by simp; exact ⟨ha, hb⟩⟩
    · exact ⟨Rd.own h9, Nat.le_refl _, by simp; exact ⟨hc, hd⟩⟩
end Go.Qk
end
section
set_option linter.unusedVariables false
namespace Go.Qk
open Go Go.Proofs Go.RowKit
set_option maxRecDepth 100000
set_option maxHeartbeats 4000000
theorem awake_ret (w0 : World) (S : Nat → Prop) :
    Ret Try.prog 23 [] w0 S (fun _ : Unit => .bool true) (fun _ _ => True) := by
  have hd : detO [[2, 1], [1, 2]] = some 3 := by decide
  have hi1 : invO [[2, 1], [1, 1]] = some [[1, -1], [-1, 2]] := by decide
  have hi2 : invO [[2, 1], [1, 2]] = none := by decide
  have i2 : In64 2 := by decide
  have i1 : In64 1 := by decide
  have im : In64 (-1) := by decide
  refine ret_of Try.func23 rfl Try.ntmps23 rfl ?_
  refine tr_rseq ?_
  refine sq_q (qt_assign rfl) rfl ?_
  refine sq_end ?_
  refine tr_rseq ?_
  refine sq_lit (vs := [(0, .int .i64 2), (1, .int .i64 1)]) (cells := i64s [2, 1]) rfl rfl rfl (by simp [Instr.fill, i64s, Value.cells, show Array.range 2 = #[0, 1] from by decide]) rfl fun r8 => ?_
  refine sq_lit (vs := [(0, .int .i64 1), (1, .int .i64 2)]) (cells := i64s [1, 2]) rfl rfl rfl (by simp [Instr.fill, i64s, Value.cells, show Array.range 2 = #[0, 1] from by decide]) rfl fun r9 => ?_
  refine sq_lit (vs := [(0, .slice (some ⟨r8, 0, none⟩) 2 2), (1, .slice (some ⟨r9, 0, none⟩) 2 2)]) (cells := [Value.slice (some ⟨r8, 0, none⟩) 2 2, Value.slice (some ⟨r9, 0, none⟩) 2 2]) rfl rfl rfl (by simp [Instr.fill, Value.cells, show Array.range 2 = #[0, 1] from by decide]) rfl fun r10 => ?_
  refine sq_call Mt.v (optF 2 (some [[2, 1], [1, 2]])) rfl rfl rfl (fun w t => of2_ret r8 r9 r10 2 1 1 2 w _ (t.has _ (ownAt_mem (i := 2) rfl)) (t.has _ (ownAt_mem (i := 1) rfl)) (t.has _ (ownAt_mem (i := 0) rfl)) i2 i1 i1 i2) fun m1 => ?_
  refine sq_have (fun w t => t.r.2.2.1) fun (hz1 : m1.zs = [[2, 1], [1, 2]]) => ?_
  obtain ⟨hl1, hr1⟩ := lens_of hz1 16 (by decide) (by decide)
  refine sq_q (qt_assign rfl) rfl ?_
  refine sq_end ?_
  refine tr_drop [] (List.nil_sublist _) ?_
  refine tr_rseq ?_
  refine sq_q (qt_move rfl) rfl ?_
  refine sq_call (optZV (some 3)) (optZF (some 3)) rfl rfl rfl (fun w t => by have h := fun S' => det_ret m1 2 w S' t.r.2.1 (by omega) (by omega) (by omega) (fun r hr => by have := hr1 r hr; omega); rw [hz1, hd] at h; exact h _) fun x14 => ?_
  refine sq_q (qt_move rfl) rfl ?_
  refine sq_q (qt_extract rfl rfl) rfl ?_
  refine sq_q (qt_extract rfl rfl) rfl ?_
  refine sq_alloc rfl fun r2 => ?_
  refine sq_store 0 rfl rfl rfl rfl (Nat.le_refl 2) rfl rfl ?_
  refine sq_q (qt_assign rfl) rfl ?_
  refine sq_end ?_
  refine tr_rseq ?_
  refine sq_lit (vs := [(0, .int .i64 2), (1, .int .i64 1)]) (cells := i64s [2, 1]) rfl rfl rfl (by simp [Instr.fill, i64s, Value.cells, show Array.range 2 = #[0, 1] from by decide]) rfl fun r18 => ?_
  refine sq_lit (vs := [(0, .int .i64 1), (1, .int .i64 1)]) (cells := i64s [1, 1]) rfl rfl rfl (by simp [Instr.fill, i64s, Value.cells, show Array.range 2 = #[0, 1] from by decide]) rfl fun r19 => ?_
  refine sq_lit (vs := [(0, .slice (some ⟨r18, 0, none⟩) 2 2), (1, .slice (some ⟨r19, 0, none⟩) 2 2)]) (cells := [Value.slice (some ⟨r18, 0, none⟩) 2 2, Value.slice (some ⟨r19, 0, none⟩) 2 2]) rfl rfl rfl (by simp [Instr.fill, Value.cells, show Array.range 2 = #[0, 1] from by decide]) rfl fun r20 => ?_
  refine sq_call Mt.v (optF 2 (some [[2, 1], [1, 1]])) rfl rfl rfl (fun w t => of2_ret r18 r19 r20 2 1 1 1 w _ (t.has _ (ownAt_mem (i := 2) rfl)) (t.has _ (ownAt_mem (i := 1) rfl)) (t.has _ (ownAt_mem (i := 0) rfl)) i2 i1 i1 i1) fun m2 => ?_
  refine sq_have (fun w t => t.r.2.2.1) fun (hz2 : m2.zs = [[2, 1], [1, 1]]) => ?_
  obtain ⟨hl2, hr2⟩ := lens_of hz2 16 (by decide) (by decide)
  refine sq_call (optV (some [[1, -1], [-1, 2]])) (optF 549755813889 (some [[1, -1], [-1, 2]])) rfl rfl rfl (fun w t => by have h := fun S' => inverse_ret m2 2 w S' t.r.2.1 (by omega) (by omega) (by omega) (fun r hr => by have := hr2 r hr; omega); rw [hz2, hi1] at h; exact h _) fun m3 => ?_
  refine sq_have (fun w t => t.r.2.2.1) fun (hz3 : m3.zs = [[1, -1], [-1, 2]]) => ?_
  obtain ⟨hl3, hr3⟩ := lens_of hz3 16 (by decide) (by decide)
  refine sq_q (qt_move rfl) rfl ?_
  refine sq_q (qt_extract rfl rfl) rfl ?_
  refine sq_q (qt_extract rfl rfl) rfl ?_
  refine sq_q (qt_assign rfl) rfl ?_
  refine sq_q (qt_assign rfl) rfl ?_
  refine sq_end ?_
  refine tr_rseq ?_
  refine sq_q (qt_move rfl) rfl ?_
  refine sq_call (optV none) (optF 549755813889 none) rfl rfl rfl (fun w t => by have h := fun S' => inverse_ret m1 2 w S' t.r.1.1.1.2.1 (by omega) (by omega) (by omega) (fun r hr => by have := hr1 r hr; omega); rw [hz1, hi2] at h; exact h _) fun m4 => ?_
  refine sq_q (qt_move rfl) rfl ?_
  refine sq_q (qt_extract rfl rfl) rfl ?_
  refine sq_q (qt_extract rfl rfl) rfl ?_
  refine sq_q (qt_assign rfl) rfl ?_
  refine sq_q (qt_assign rfl) rfl ?_
  refine sq_end ?_
  refine tr_rdraw0 [0, 1, 2, 3, 4, 5, 7] (by kernel_rfl) ?_
  refine dx_q rfl (qt_move rfl) rfl ?_
  refine dx_q rfl (qt_move rfl) rfl ?_
  refine dx_gT rfl rfl rfl ?_
  refine dx_q rfl (qt_move rfl) rfl ?_
  refine dx_q rfl (qt_pick rfl rfl) rfl ?_
  refine dx_q rfl (qt_move rfl) rfl ?_
  refine dx_gT rfl rfl rfl ?_
  refine dx_q rfl (qt_move rfl) rfl ?_
  refine dx_gT rfl rfl rfl ?_
  refine dx_q rfl (qt_not rfl) rfl ?_
  refine dx_q rfl (qt_pick rfl rfl) rfl ?_
  refine dx_q rfl (qt_move rfl) rfl ?_
  refine dx_gT rfl rfl rfl ?_
  refine dx_q rfl (qt_load2 rfl (fun w t => t.atO 3 rfl rfl) (fun w t => t.atO 3 rfl rfl)) rfl ?_
  refine dx_gT rfl rfl rfl ?_
  refine dx_call (iv 3) (Lz (3 : Int).natAbs) rfl rfl rfl (fun w t => rsmall_ret 3 w _ (by omega) (by omega)) ?_
  refine dx_gT rfl rfl rfl ?_
  refine dx_callv1 40 (v := .bool true) (F := fun _ _ => True) rfl rfl (by simp) (fun _ => rfl) (fun _ => rfl) (fun y w t => by have h := fun S' => rsame_ret 3 3 x14 y w S' t.r.1.1.1.1.2.1 t.r.2 (Nat.le_trans (nl_64 (a := 3) (by decide)) (by decide)) (Nat.le_trans (nl_64 (a := 3) (by decide)) (by decide)); exact h _) ?_
  refine dx_q rfl (qt_pick rfl rfl) rfl ?_
  refine dx_q rfl (qt_move rfl) rfl ?_
  refine dx_gT rfl rfl rfl ?_
  refine dx_q rfl (qt_move rfl) rfl ?_
  refine dx_gT rfl rfl rfl ?_
  refine dx_lit (vs := [(0, .int .i64 1), (1, .int .i64 (-1))]) (cells := i64s [1, -1]) rfl rfl rfl rfl (by simp [Instr.fill, i64s, Value.cells, show Array.range 2 = #[0, 1] from by decide]) ?_
  refine dx_gT rfl rfl rfl ?_
  refine dx_lit (vs := [(0, .int .i64 (-1)), (1, .int .i64 2)]) (cells := i64s [-1, 2]) rfl rfl rfl rfl (by simp [Instr.fill, i64s, Value.cells, show Array.range 2 = #[0, 1] from by decide]) ?_
  refine dx_gT rfl rfl rfl ?_
  refine dx_lit2 45 46 (vs := fun (r r' : Nat) => [(0, .slice (some ⟨r, 0, none⟩) 2 2), (1, .slice (some ⟨r', 0, none⟩) 2 2)]) (fun (r r' : Nat) => [Value.slice (some ⟨r, 0, none⟩) 2 2, Value.slice (some ⟨r', 0, none⟩) 2 2]) rfl rfl rfl (by simp) (by simp) (fun _ _ => rfl) rfl rfl (fun _ _ => by simp [Instr.fill, Value.cells, show Array.range 2 = #[0, 1] from by decide]) ?_
  refine dx_gT rfl rfl rfl ?_
  refine dx_call1 47 Mt.v (optF 2 (some [[1, -1], [-1, 2]])) rfl rfl (by simp) rfl (fun _ => rfl) (fun _ => rfl) (fun y w t => of2_ret y.2.1 y.2.2 y.1 1 (-1) (-1) 2 w _ t.r.2.2.1 t.r.2.2.2 t.r.2.1 i1 im im i2) ?_
  refine dx_gT rfl rfl rfl ?_
  refine dx_callv1 48 (v := .bool true) (F := fun _ _ => True) rfl rfl (by simp) (fun _ => rfl) (fun _ => rfl) (fun y w t => by
    obtain ⟨hl5, hr5⟩ := lens_of t.r.2.2.1 16 (by decide) (by decide)
    have h := fun S' => same_ret m3 y 549755813889 w S' t.r.1.1.2.1 (t.r.2.1.mono (by omega)) t.r.1.1.2.2.2 t.r.2.2.2 (by omega) (by omega) (by omega) (fun q hq => by have := hr3 q hq; omega) (fun q hq => by have := hr5 q hq; omega)
    rw [decide_eq_true (show m3.zs = y.zs by rw [hz3, t.r.2.2.1]; rfl)] at h
    exact h _) ?_
  refine dx_q rfl (qt_pick rfl rfl) rfl ?_
  refine dx_q rfl (qt_assign rfl) rfl ?_
  refine dx_nil ?_
  repeat (first | refine es_val rfl ?_ rfl | refine es_res rfl (fun x => ?_) rfl | refine es_skip rfl ?_)
  refine es_nil rfl ?_
  refine tx_endk ?_
  refine tr_ret ?_
  repeat with_reducible first | refine tr_skip ?_ | refine tr_exit ?_ | refine tr_then ?_ | refine tr_inX ?_ | refine tr_thenX ?_ | refine tr_inN ?_ | refine tr_inR ?_ | refine tr_thenR ?_
  exact tr_done () (fun a w s t => results_1 rfl (resv_tmp s rfl)) (fun _ _ _ _ => trivial)
end Go.Qk
end
section
set_option linter.unusedVariables false
namespace Go.Qk
open Go Go.Proofs Go.RowKit Go.ChangeShapes Go.WideShapes Go.Deep
instance : Inhabited Zd := ⟨z0⟩
instance : Inhabited Rw := ⟨⟨[], (none, 0)⟩⟩
theorem rd_of {a : Addr} {l : List Value} {w : World} (h : ∀ i v, l[i]? = some v → w.cell? (a.add i) = some v) : Rd (some a) l w := by
  intro i v hv
  have hl : 0 < l.length := by have := (List.getElem?_eq_some_iff.1 hv).1; omega
  have h0 := h 0 l[0] (List.getElem?_eq_getElem hl)
  rw [show a.add 0 = a by simp [Addr.add]] at h0
  have h1 := World.cell?_spot h0
  have h2 := h i v hv
  obtain ⟨r, o, s⟩ := a
  simp only at h1
  subst h1
  rw [add_mk] at h2
  exact ⟨r, o, rfl, h2⟩
theorem map_get {α : Type} {n : Nat} {f : Nat → α} {i : Nat} {v : α} (h : ((List.range n).map f)[i]? = some v) : i < n ∧ v = f i := by
  rw [List.getElem?_map] at h
  cases hi : (List.range n)[i]? with
  | none => rw [hi] at h; simp at h
  | some k =>
    rw [hi] at h
    simp at h
    obtain ⟨h1, h2⟩ := List.getElem?_eq_some_iff.1 hi
    simp at h1 h2
    subst h2
    exact ⟨h1, h.symm⟩
section
variable {H : Type} {enc : TypeId × Value → H} {P : Program} {w : World} {fuel : Nat} {x : DataW H × List MemPlace} {cs : List Value}
theorem weights_all {e : TypeId} : ∀ {l : List (DataW H)} {d : DataW H}, d ∈ l → ∀ n ∈ d.weights P e, n ∈ DataW.weightsAll P e l
  | d' :: l, d, hd, n, hn => by
    rw [DataW.weightsAll, List.mem_append]
    rcases List.mem_cons.1 hd with rfl | h
    · exact .inl hn
    · exact .inr (weights_all h n hn)
theorem weights_slice {t e : TypeId} (ht : P.underlying t = some (.slice e)) {l s : List (DataW H)} (hw : ∀ n ∈ (DataW.slice l s).weights P t, n ≤ reachBytes) : (l.length + s.length) * P.bytesOf e ≤ reachBytes ∧ ∀ d ∈ l, ∀ n ∈ d.weights P e, n ≤ reachBytes := by
  simp only [DataW.weights, ht, List.mem_cons, List.mem_append] at hw
  exact ⟨hw _ (.inl rfl), fun d hd n hn => hw n (.inr (.inl (weights_all hd n hn)))⟩
/-- a row of one-cell integers -/
theorem open_row1 {t e : TypeId} {k : IntKind} (ht : P.underlying t = some (.slice e)) (he : P.underlying e = some (.int k)) (hc : P.cellsOf e = 1) (h : DataW.trod enc P w 0 (fun _ => true) true fuel t cs = some x) (hw : ∀ n ∈ x.1.weights P t, n ≤ reachBytes) :
    ∃ (zs : List Int) (p : Sv), cs = [.slice p.1 zs.length p.2] ∧ Rd p.1 (zs.map fun z => .int k z) w ∧ zs.length ≤ p.2 ∧ (∀ z ∈ zs, (Lit.int k z).wf = true) ∧ zs.length * P.bytesOf e ≤ reachBytes := by
  rcases open_slice1 ht hc h with ⟨rfl, rfl⟩ | ⟨a, len, cap, m, n, V, D, Pl, rfl, hb, hl, hm, hmm, rfl, hx⟩
  · exact ⟨[], (none, 0), rfl, Rd.nil _ _, Nat.le_refl _, by simp, by simp⟩
  · simp only [if_true] at hmm
    subst hmm
    obtain ⟨Z, hZ⟩ := choose_lt (α := Int) (p := fun i z => V i = .int k z ∧ (Lit.int k z).wf = true) (fun i hi => by
      obtain ⟨z, h1, h2, h3⟩ := DataW.trod_int he (hx i hi).2
      exact ⟨z, by simpa using h1, h3⟩)
    have h2 := (weights_slice ht hw).1
    refine ⟨(List.range len).map Z, (some a, m), by simp, rd_of fun i v hv => ?_, by simpa using hl, fun z hz => ?_, ?_⟩
    · rw [List.map_map] at hv
      obtain ⟨h3, rfl⟩ := map_get hv
      rw [(hx i (by omega)).1, (hZ i (by omega)).1]
      rfl
    · obtain ⟨i, hi, rfl⟩ := List.mem_map.1 hz
      exact (hZ i (by have := List.mem_range.1 hi; omega)).2
    · simp only [List.length_map, List.length_range] at h2 ⊢
      exact Nat.le_trans (Nat.mul_le_mul_right _ (by omega)) h2
end
theorem wf_u32 {z : Int} (h : (Lit.int .u32 z).wf = true) : 0 ≤ z ∧ z < 4294967296 := by
  have h1 : IntKind.u32.min = 0 := rfl
  have h2 : IntKind.u32.max = 4294967295 := rfl
  simp [Lit.wf, h1, h2] at h
  omega
theorem wf_i8 {z : Int} (h : (Lit.int .i8 z).wf = true) : -128 ≤ z ∧ z < 128 := by
  have h1 : IntKind.i8.min = -128 := rfl
  have h2 : IntKind.i8.max = 127 := rfl
  simp [Lit.wf, h1, h2] at h
  omega
theorem wf_u8 {z : Int} (h : (Lit.int .u8 z).wf = true) : 0 ≤ z ∧ z < 256 := by
  have h1 : IntKind.u8.min = 0 := rfl
  have h2 : IntKind.u8.max = 255 := rfl
  simp [Lit.wf, h1, h2] at h
  omega
def RB : Nat := 35184372087808
section
variable {H : Type} {enc : TypeId × Value → H} {w : World} {fuel : Nat} {x : DataW H × List MemPlace} {cs : List Value}
theorem bytes_u32 : Try.prog.bytesOf 57 = 4 := by kernel_rfl
theorem bytes_zint : Try.prog.bytesOf 35 = 32 := by kernel_rfl
theorem bytes_zrow : Try.prog.bytesOf 44 = 24 := by kernel_rfl
theorem cells_u32 : Try.prog.cellsOf 57 = 1 := by kernel_rfl
theorem cells_bool : Try.prog.cellsOf 4 = 1 := by kernel_rfl
theorem cells_zint : Try.prog.cellsOf 35 = 2 := by kernel_rfl
theorem cells_mag : Try.prog.cellsOf 33 = 1 := by kernel_rfl
theorem cells_zrow : Try.prog.cellsOf 44 = 1 := by kernel_rfl
theorem und_zint : ∃ f0 f1 : Field, Try.prog.underlying 35 = some (.struct #[f0, f1]) ∧ f0.offset = 0 ∧ f1.offset = 1 ∧ f0.type = 4 ∧ f1.type = 33 := ⟨_, _, Try.underlying35, rfl, rfl, rfl, rfl⟩
/-- limbs -/
theorem open_mag (h : DataW.trod enc Try.prog w 0 (fun _ => true) true fuel 33 cs = some x) (hw : ∀ n ∈ x.1.weights Try.prog 33, n ≤ reachBytes) : ∃ (xs : List Nat) (p : Sv), cs = [slv xs p] ∧ Lm xs p w ∧ lim xs ∧ xs.length ≤ RB := by
  obtain ⟨zs, p, rfl, h1, h2, h3, h4⟩ := open_row1 Try.underlying33 Try.underlying57 cells_u32 h hw
  have e : u32s (zs.map Int.toNat) = zs.map fun z => .int .u32 z := by
    unfold u32s
    rw [List.map_map]
    refine List.map_congr_left fun z hz => ?_
    have := wf_u32 (h3 z hz)
    simp only [Function.comp]
    rw [Int.toNat_of_nonneg this.1]
  refine ⟨zs.map Int.toNat, p, by simp [slv], ⟨by rw [e]; exact h1, by simpa using h2⟩, fun a ha => ?_, ?_⟩
  · obtain ⟨z, hz, rfl⟩ := List.mem_map.1 ha
    have := wf_u32 (h3 z hz)
    omega
  · rw [bytes_u32] at h4
    unfold reachBytes at h4
    unfold RB
    simp only [List.length_map]
    omega
/-- a row of integers -/
theorem open_zrow (h : DataW.trod enc Try.prog w 0 (fun _ => true) true fuel 44 cs = some x) (hw : ∀ n ∈ x.1.weights Try.prog 44, n ≤ reachBytes) : ∃ r : Rw, cs = [r.v] ∧ r.ok RB w ∧ r.l.length ≤ RB := by
  obtain ⟨f0, f1, hu, o0, o1, t0, t1⟩ := und_zint
  rcases open_slice_pairs Try.underlying44 hu cells_zint o0 o1 (by rw [t0]; exact cells_bool) (by rw [t1]; exact cells_mag) h with ⟨rfl, rfl⟩ | ⟨a, len, cap, m, n, V0, V1, D0, D1, P0, P1, rfl, hb, hl, hm, hmm, rfl, hx⟩
  · exact ⟨⟨[], (none, 0)⟩, rfl, ⟨Rd.nil _ _, Nat.le_refl _, by simp⟩, by simp [RB]⟩
  · simp only [if_true] at hmm
    subst hmm
    obtain ⟨hw1, hw2⟩ := weights_slice Try.underlying44 hw
    obtain ⟨Z, hZ⟩ := choose_lt (n := len) (α := Zd) (p := fun i z => V0 i = .bool z.n ∧ V1 i = slv z.xs z.p ∧ z.ok RB w) (fun i hi => by
      obtain ⟨_, _, h0, h1⟩ := hx i (by omega)
      rw [t0] at h0
      rw [t1] at h1
      obtain ⟨b, e0, _⟩ := DataW.trod_bool Try.underlying4 h0
      obtain ⟨xs, p, e1, e2, e3, e4⟩ := open_mag h1 (fun k hk => hw2 (.agg [D0 i, D1 i]) (List.mem_map.2 ⟨i, List.mem_range.2 hi, rfl⟩) k (by
        simp only [DataW.weights, hu]
        simp only [List.map_cons, List.map_nil, DataW.weightsEach, t1, List.mem_append]
        exact .inr (.inl hk)))
      exact ⟨⟨b, xs, p⟩, by simpa using e0, by simpa using e1, e2, e3, e4⟩)
    refine ⟨⟨(List.range len).map Z, (some a, m)⟩, by simp [Rw.v], ⟨rd_of fun j v hv => ?_, by simpa using hl, fun z hz => ?_⟩, ?_⟩
    · have hj : j < ((List.range len).map Z).length * 2 := by
        rw [← zcs_length]
        exact (List.getElem?_eq_some_iff.1 hv).1
      simp only [List.length_map, List.length_range] at hj
      obtain ⟨i, hi⟩ : ∃ i, i = j / 2 := ⟨_, rfl⟩
      have hil : i < ((List.range len).map Z).length := by simp; omega
      have hil' : i < len := by simpa using hil
      rcases Nat.mod_two_eq_zero_or_one j with h2 | h2
      · have e : j = i * 2 := by omega
        rw [e, zcs_get0 hil] at hv
        have hv := Option.some.inj hv
        rw [e, ← hv, (hx i (by omega)).1, (hZ i hil').1]
        simp
      · have e : j = i * 2 + 1 := by omega
        rw [e, zcs_get1 hil] at hv
        have hv := Option.some.inj hv
        rw [e, ← hv, (hx i (by omega)).2.1, (hZ i hil').2.1]
        simp
    · obtain ⟨i, hi, rfl⟩ := List.mem_map.1 hz
      exact (hZ i (by simpa using hi)).2.2
    · simp only [List.length_map, List.length_range, bytes_zint] at hw1 ⊢
      unfold reachBytes at hw1
      unfold RB
      omega
/-- a matrix -/
theorem open_mt (h : DataW.trod enc Try.prog w 0 (fun _ => true) true fuel 23 cs = some x) (hw : ∀ n ∈ x.1.weights Try.prog 23, n ≤ reachBytes) : ∃ m : Mt, cs = [m.v] ∧ m.ok RB w ∧ m.rs.length ≤ RB ∧ ∀ r ∈ m.rs, r.l.length ≤ RB := by
  rcases open_slice1 Try.underlying23 cells_zrow h with ⟨rfl, rfl⟩ | ⟨a, len, cap, m, n, V, D, Pl, rfl, hb, hl, hm, hmm, rfl, hx⟩
  · exact ⟨⟨[], (none, 0)⟩, rfl, ⟨Rd.nil _ _, Nat.le_refl _, by simp⟩, by simp [RB], by simp⟩
  · simp only [if_true] at hmm
    subst hmm
    obtain ⟨hw1, hw2⟩ := weights_slice Try.underlying23 hw
    obtain ⟨Z, hZ⟩ := choose_lt (n := len) (α := Rw) (p := fun i r => V i = r.v ∧ r.ok RB w ∧ r.l.length ≤ RB) (fun i hi => by
      obtain ⟨r, h1, h2, h3⟩ := open_zrow (hx i (by omega)).2 (hw2 (D i) (List.mem_map.2 ⟨i, List.mem_range.2 hi, rfl⟩))
      exact ⟨r, by simpa using h1, h2, h3⟩)
    refine ⟨⟨(List.range len).map Z, (some a, m)⟩, by simp [Mt.v], ⟨rd_of fun i v hv => ?_, by simpa using hl, fun r hr => ?_⟩, ?_, fun r hr => ?_⟩
    · rw [List.map_map] at hv
      obtain ⟨h3, rfl⟩ := map_get hv
      rw [(hx i (by omega)).1, (hZ i h3).1]
      rfl
    · obtain ⟨i, hi, rfl⟩ := List.mem_map.1 hr
      exact (hZ i (by simpa using hi)).2.1
    · simp only [List.length_map, List.length_range, bytes_zrow] at hw1 ⊢
      unfold reachBytes at hw1
      unfold RB
      omega
    · obtain ⟨i, hi, rfl⟩ := List.mem_map.1 hr
      exact (hZ i (by simpa using hi)).2.2
end
end Go.Qk
end
section
set_option linter.unusedVariables false
namespace Go.Qk
open Go Go.Proofs Go.RowKit
/-- the counts up to row i are at most n -/
def upto (m : Mt) (n i : Nat) : Prop := m.rs.length ≤ n ∧ ∀ k (h : k < m.rs.length), k < i → m.rs[k].l.length ≤ n ∧ ∀ z ∈ m.rs[k].l, z.xs.length ≤ n
theorem upto.mono {m : Mt} {n n' i : Nat} (h : upto m n i) (hn : n ≤ n') : upto m n' i := ⟨by have := h.1; omega, fun k hk hi => ⟨by have := (h.2 k hk hi).1; omega, fun z hz => by have := (h.2 k hk hi).2 z hz; omega⟩⟩
theorem upto.next {m : Mt} {n i : Nat} (h : upto m n i) (hi : i < m.rs.length) (h1 : m.rs[i].l.length ≤ n) (h2 : ∀ b (h : b < m.rs[i].l.length), m.rs[i].l[b].xs.length ≤ n) : upto m n (i + 1) := by
  refine ⟨h.1, fun k hk hki => ?_⟩
  by_cases e : k = i
  · subst e
    exact ⟨h1, fun z hz => by obtain ⟨b, hb, rfl⟩ := List.getElem_of_mem hz; exact h2 b hb⟩
  · exact h.2 k hk (by omega)
def smallM (m : Mt) : Prop := m.rs.length ≤ 600 ∧ ∀ r ∈ m.rs, r.l.length ≤ 600 ∧ ∀ z ∈ r.l, z.xs.length ≤ 600
theorem upto.small {m : Mt} {n : Nat} (h : upto m n m.rs.length) (hn : n ≤ 600) : smallM m := by
  refine ⟨by have := h.1; omega, fun r hr => ?_⟩
  obtain ⟨k, hk, rfl⟩ := List.getElem_of_mem hr
  exact ⟨by have := (h.2 k hk hk).1; omega, fun z hz => by have := (h.2 k hk hk).2 z hz; omega⟩
theorem smallM.ok {m : Mt} (h : smallM m) {B : Nat} {w : World} (hm : m.ok B w) : m.ok 600 w := ⟨hm.1, hm.2.1, fun r hr => ⟨(hm.2.2 r hr).1, (hm.2.2 r hr).2.1, fun z hz => ⟨((hm.2.2 r hr).2.2 z hz).1, ((hm.2.2 r hr).2.2 z hz).2.1, (h.2 r hr).2 z hz⟩⟩⟩
end Go.Qk
end
section
set_option linter.unusedVariables false
namespace Go.Qk
open Go Go.Proofs Go.RowKit
set_option maxRecDepth 100000
set_option maxHeartbeats 4000000
theorem large_ret (m : Mt) (w0 : World) (S : Nat → Prop) (hm : m.ok RB w0) (hlen : m.rs.length ≤ RB) (hrow : ∀ r ∈ m.rs, r.l.length ≤ RB) :
    Ret Try.prog 24 [m.v] w0 S (fun b : Bool => .bool b) (fun b _ => b = false → smallM m) := by
  have hRB : RB = 35184372087808 := rfl
  refine ret_of Try.func24 rfl Try.ntmps24 rfl ?_
  refine tr_rseq ?_
  refine sq_q (qt_assign rfl) rfl ?_
  refine sq_end ?_
  refine tr_rseq ?_
  refine sq_q (qt_move rfl) rfl ?_
  refine sq_q (qt_len rfl) rfl ?_
  refine sq_q (qt_assign rfl) rfl ?_
  refine sq_end ?_
  refine tr_seq ?_
  refine tr_rseq ?_
  refine sq_q (qt_assign rfl) rfl ?_
  refine sq_end ?_
  refine tr_block ?_
  refine tr_loop2 (fun (i n : Nat) => i ≤ m.rs.length ∧ n ≤ 1000 + RB ∧ (n < 1000 → upto m n i)) (fun i n => [(0, m.v), (3, .int .i64 (n : Int)), (4, .int .i64 (i : Int))]) (fun _ _ => []) (fun _ _ _ => True) (fun i _ => m.rs.length - i) 0 m.rs.length ⟨Nat.zero_le _, by omega, fun _ => ⟨Nat.le_refl _, fun k _ h => by omega⟩⟩ ⟨rfl, rfl, rfl, trivial⟩ rfl (fun _ _ => trivial) ?_
  rintro i n ⟨hi, hn, hu⟩
  refine tr_seq ?_
  have hcs : (i < m.rs.length ∧ n < 1000) ∨ (i < m.rs.length ∧ ¬ n < 1000) ∨ ¬ i < m.rs.length := by omega
  rcases hcs with ⟨h1, h2⟩ | ⟨h1, h2⟩ | h1
  ·
    obtain ⟨ro, oo, evm, hat⟩ := hm.at_ (show 0 < m.rs.length by omega)
    have hrl := hrow _ (List.getElem_mem h1)
    refine tr_sub [(0, .slice (some ⟨ro, oo, none⟩) m.rs.length m.p.2), (3, .int .i64 (n : Int)), (4, .int .i64 (i : Int))] ⟨congrArg some evm, rfl, rfl, trivial⟩ ?_
    have hu := hu h2
    refine tr_rseq ?_
    refine sq_q (qt_move rfl) rfl ?_
    refine sq_q (qt_move rfl) rfl ?_
    refine sq_q (qt_len rfl) rfl ?_
    refine sq_q (qt_bin rfl rfl (bT bin_lss (by omega))) rfl ?_
    refine sq_q (qt_move rfl) rfl ?_
    refine sq_gT rfl rfl ?_
    refine sq_q (qt_move rfl) rfl ?_
    refine sq_gT rfl rfl ?_
    refine sq_q (qt_bin rfl rfl (bT bin_lss (by omega))) rfl ?_
    refine sq_q (qt_pick rfl rfl) rfl ?_
    refine sq_end ?_
    refine tr_ifT rfl ?_
    refine tr_skip ?_
    repeat with_reducible first | refine tr_skip ?_ | refine tr_exit ?_ | refine tr_then ?_ | refine tr_inX ?_ | refine tr_thenX ?_ | refine tr_inN ?_ | refine tr_inR ?_ | refine tr_thenR ?_
    refine tr_seq ?_
    refine tr_block ?_
    refine tr_rseq ?_
    refine sq_q (qt_move rfl) rfl ?_
    refine sq_q (qt_move rfl) rfl ?_
    refine sq_q (qt_move rfl) rfl ?_
    refine sq_q (qt_index (i := i) rfl rfl h1) rfl ?_
    refine sq_q (qt_load rfl (fun w t => t.a1 (hat i h1))) rfl ?_
    refine sq_q (qt_len rfl) rfl ?_
    refine sq_q (qt_bin rfl rfl (bin_addI (by omega) (by omega))) rfl ?_
    refine sq_q (qt_assign rfl) rfl ?_
    refine sq_end ?_
    refine tr_rseq ?_
    refine sq_q (qt_assign rfl) rfl ?_
    refine sq_end ?_
    refine tr_block ?_
    refine tr_loop2 (fun (j n' : Nat) => j ≤ m.rs[i].l.length ∧ n' ≤ 1000 + RB ∧ (n' < 1000 → upto m n' i ∧ m.rs[i].l.length ≤ n' ∧ ∀ b (h : b < m.rs[i].l.length), b < j → m.rs[i].l[b].xs.length ≤ n')) (fun j n' => [(0, .slice (some ⟨ro, oo, none⟩) m.rs.length m.p.2), (3, .int .i64 (n' : Int)), (4, .int .i64 (i : Int)), (5, .int .i64 (j : Int))]) (fun _ _ => []) (fun _ _ _ => True) (fun j _ => m.rs[i].l.length - j) 0 (n + m.rs[i].l.length) ⟨Nat.zero_le _, by omega, fun _ => ⟨hu.mono (by omega), by omega, fun b _ h => by omega⟩⟩ ⟨rfl, rfl, rfl, rfl, trivial⟩ rfl (fun _ _ => trivial) ?_
    rintro j n' ⟨hj, hn', hu'⟩
    refine tr_seq ?_
    have hcs : (j < m.rs[i].l.length ∧ n' < 1000) ∨ (j < m.rs[i].l.length ∧ ¬ n' < 1000) ∨ ¬ j < m.rs[i].l.length := by omega
    rcases hcs with ⟨g1, g2⟩ | ⟨g1, g2⟩ | g1
    ·
      obtain ⟨rr, orr, evr, hatr⟩ := (hm.2.2 _ (List.getElem_mem h1)).at_ (show 0 < m.rs[i].l.length by omega)
      have hr := hat i h1
      rw [evr] at hr
      have hz1 := (hatr j g1).2
      have hzl := ((hm.2.2 _ (List.getElem_mem h1)).2.2 _ (List.getElem_mem g1)).2.2
      have hu' := hu' g2
      refine tr_rseq ?_
      refine sq_q (qt_move rfl) rfl ?_
      refine sq_q (qt_move rfl) rfl ?_
      refine sq_q (qt_move rfl) rfl ?_
      refine sq_q (qt_index (i := i) rfl rfl h1) rfl ?_
      refine sq_q (qt_load rfl (fun w t => t.a1 (hat i h1))) rfl ?_
      refine sq_q (qt_len rfl) rfl ?_
      refine sq_q (qt_bin rfl rfl (bT bin_lss (by omega))) rfl ?_
      refine sq_q (qt_move rfl) rfl ?_
      refine sq_gT rfl rfl ?_
      refine sq_q (qt_move rfl) rfl ?_
      refine sq_gT rfl rfl ?_
      refine sq_q (qt_bin rfl rfl (bT bin_lss (by omega))) rfl ?_
      refine sq_q (qt_pick rfl rfl) rfl ?_
      refine sq_end ?_
      refine tr_ifT rfl ?_
      refine tr_skip ?_
      repeat with_reducible first | refine tr_skip ?_ | refine tr_exit ?_ | refine tr_then ?_ | refine tr_inX ?_ | refine tr_thenX ?_ | refine tr_inN ?_ | refine tr_inR ?_ | refine tr_thenR ?_
      refine tr_seq ?_
      refine tr_block ?_
      refine tr_region ?_
      refine sq_q (qt_move rfl) rfl ?_
      refine sq_q (qt_move rfl) rfl ?_
      refine sq_q (qt_move rfl) rfl ?_
      refine sq_q (qt_index (i := i) rfl rfl h1) rfl ?_
      refine sq_q (qt_load rfl (fun w t => t.a1 hr)) rfl ?_
      refine sq_q (qt_move rfl) rfl ?_
      refine sq_q (qt_index (i := j) rfl rfl g1) rfl ?_
      refine sq_q (qt_fieldAddr rfl) rfl ?_
      refine sq_q (qt_load rfl (fun w t => t.atA hz1)) rfl ?_
      refine sq_q (qt_len rfl) rfl ?_
      refine sq_q (qt_bin rfl rfl (bin_addI (by omega) (by omega))) rfl ?_
      refine sq_q (qt_assign rfl) rfl ?_
      refine sq_nil ?_
      repeat with_reducible first | refine tr_skip ?_ | refine tr_exit ?_ | refine tr_then ?_ | refine tr_inX ?_ | refine tr_thenX ?_ | refine tr_inN ?_ | refine tr_inR ?_ | refine tr_thenR ?_
      refine tr_region ?_
      refine sq_q (qt_move rfl) rfl ?_
      refine sq_q (qt_bin rfl rfl (bin_addI (by omega) (by omega))) rfl ?_
      refine sq_q (qt_assign rfl) rfl ?_
      refine sq_nil ?_
      repeat with_reducible first | refine tr_skip ?_ | refine tr_exit ?_ | refine tr_then ?_ | refine tr_inX ?_ | refine tr_thenX ?_ | refine tr_inN ?_ | refine tr_inR ?_ | refine tr_thenR ?_
      refine tr_round2 (j + 1) (n' + m.rs[i].l[j].xs.length) ⟨by omega, by omega, fun h => ⟨hu'.1.mono (by omega), by omega, fun b hb hbj => ?_⟩⟩ (by omega) ⟨rfl, rfl, rfl, rfl, trivial⟩ rfl (fun _ h => h)
      by_cases e : b = j
      · subst e; omega
      · have := hu'.2.2 b hb (by omega); omega
    ·
      refine tr_rseq ?_
      refine sq_q (qt_move rfl) rfl ?_
      refine sq_q (qt_move rfl) rfl ?_
      refine sq_q (qt_move rfl) rfl ?_
      refine sq_q (qt_index (i := i) rfl rfl h1) rfl ?_
      refine sq_q (qt_load rfl (fun w t => t.a1 (hat i h1))) rfl ?_
      refine sq_q (qt_len rfl) rfl ?_
      refine sq_q (qt_bin rfl rfl (bT bin_lss (by omega))) rfl ?_
      refine sq_q (qt_move rfl) rfl ?_
      refine sq_gT rfl rfl ?_
      refine sq_q (qt_move rfl) rfl ?_
      refine sq_gT rfl rfl ?_
      refine sq_q (qt_bin rfl rfl (bF bin_lss (by omega))) rfl ?_
      refine sq_q (qt_pick rfl rfl) rfl ?_
      refine sq_end ?_
      refine tr_ifF rfl ?_
      refine tr_exit ?_
      repeat with_reducible first | refine tr_skip ?_ | refine tr_exit ?_ | refine tr_then ?_ | refine tr_inX ?_ | refine tr_thenX ?_ | refine tr_inN ?_ | refine tr_inR ?_ | refine tr_thenR ?_
      refine tr_region ?_
      refine sq_q (qt_move rfl) rfl ?_
      refine sq_q (qt_bin rfl rfl (bin_addI (by omega) (by omega))) rfl ?_
      refine sq_q (qt_assign rfl) rfl ?_
      refine sq_nil ?_
      repeat with_reducible first | refine tr_skip ?_ | refine tr_exit ?_ | refine tr_then ?_ | refine tr_inX ?_ | refine tr_thenX ?_ | refine tr_inN ?_ | refine tr_inR ?_ | refine tr_thenR ?_
      exact tr_round2 (i + 1) n' ⟨by omega, by omega, fun h => absurd h g2⟩ (by omega) ⟨congrArg some evm.symm, rfl, rfl, trivial⟩ rfl (fun _ h => h)
    ·
      refine tr_rseq ?_
      refine sq_q (qt_move rfl) rfl ?_
      refine sq_q (qt_move rfl) rfl ?_
      refine sq_q (qt_move rfl) rfl ?_
      refine sq_q (qt_index (i := i) rfl rfl h1) rfl ?_
      refine sq_q (qt_load rfl (fun w t => t.a1 (hat i h1))) rfl ?_
      refine sq_q (qt_len rfl) rfl ?_
      refine sq_q (qt_bin rfl rfl (bF bin_lss (by omega))) rfl ?_
      refine sq_q (qt_move rfl) rfl ?_
      refine sq_gF rfl rfl rfl rfl ?_
      refine sq_gF rfl rfl rfl rfl ?_
      refine sq_q (qt_pick rfl rfl) rfl ?_
      refine sq_end ?_
      refine tr_ifF rfl ?_
      refine tr_exit ?_
      repeat with_reducible first | refine tr_skip ?_ | refine tr_exit ?_ | refine tr_then ?_ | refine tr_inX ?_ | refine tr_thenX ?_ | refine tr_inN ?_ | refine tr_inR ?_ | refine tr_thenR ?_
      refine tr_region ?_
      refine sq_q (qt_move rfl) rfl ?_
      refine sq_q (qt_bin rfl rfl (bin_addI (by omega) (by omega))) rfl ?_
      refine sq_q (qt_assign rfl) rfl ?_
      refine sq_nil ?_
      repeat with_reducible first | refine tr_skip ?_ | refine tr_exit ?_ | refine tr_then ?_ | refine tr_inX ?_ | refine tr_thenX ?_ | refine tr_inN ?_ | refine tr_inR ?_ | refine tr_thenR ?_
      exact tr_round2 (i + 1) n' ⟨by omega, by omega, fun h => (hu' h).1.next h1 (hu' h).2.1 fun b hb => (hu' h).2.2 b hb (by omega)⟩ (by omega) ⟨congrArg some evm.symm, rfl, rfl, trivial⟩ rfl (fun _ h => h)
  ·
    refine tr_rseq ?_
    refine sq_q (qt_move rfl) rfl ?_
    refine sq_q (qt_move rfl) rfl ?_
    refine sq_q (qt_len rfl) rfl ?_
    refine sq_q (qt_bin rfl rfl (bT bin_lss (by omega))) rfl ?_
    refine sq_q (qt_move rfl) rfl ?_
    refine sq_gT rfl rfl ?_
    refine sq_q (qt_move rfl) rfl ?_
    refine sq_gT rfl rfl ?_
    refine sq_q (qt_bin rfl rfl (bF bin_lss (by omega))) rfl ?_
    refine sq_q (qt_pick rfl rfl) rfl ?_
    refine sq_end ?_
    refine tr_ifF rfl ?_
    refine tr_exit ?_
    repeat with_reducible first | refine tr_skip ?_ | refine tr_exit ?_ | refine tr_then ?_ | refine tr_inX ?_ | refine tr_thenX ?_ | refine tr_inN ?_ | refine tr_inR ?_ | refine tr_thenR ?_
    refine tr_rseq ?_
    refine sq_q (qt_move rfl) rfl ?_
    refine sq_q (qt_bin rfl rfl bin_gtr) rfl ?_
    refine sq_q (qt_assign rfl) rfl ?_
    refine sq_end ?_
    refine tr_ret ?_
    repeat with_reducible first | refine tr_skip ?_ | refine tr_exit ?_ | refine tr_then ?_ | refine tr_inX ?_ | refine tr_thenX ?_ | refine tr_inN ?_ | refine tr_inR ?_ | refine tr_thenR ?_
    exact tr_done _ (fun a w s t => results_1 rfl (resv_tmp s rfl)) (fun w _ _ _ h => absurd (of_decide_eq_false h) (by omega))
  ·
    refine tr_rseq ?_
    refine sq_q (qt_move rfl) rfl ?_
    refine sq_q (qt_move rfl) rfl ?_
    refine sq_q (qt_len rfl) rfl ?_
    refine sq_q (qt_bin rfl rfl (bF bin_lss (by omega))) rfl ?_
    refine sq_q (qt_move rfl) rfl ?_
    refine sq_gF rfl rfl rfl rfl ?_
    refine sq_gF rfl rfl rfl rfl ?_
    refine sq_q (qt_pick rfl rfl) rfl ?_
    refine sq_end ?_
    refine tr_ifF rfl ?_
    refine tr_exit ?_
    repeat with_reducible first | refine tr_skip ?_ | refine tr_exit ?_ | refine tr_then ?_ | refine tr_inX ?_ | refine tr_thenX ?_ | refine tr_inN ?_ | refine tr_inR ?_ | refine tr_thenR ?_
    refine tr_rseq ?_
    refine sq_q (qt_move rfl) rfl ?_
    refine sq_q (qt_bin rfl rfl bin_gtr) rfl ?_
    refine sq_q (qt_assign rfl) rfl ?_
    refine sq_end ?_
    refine tr_ret ?_
    repeat with_reducible first | refine tr_skip ?_ | refine tr_exit ?_ | refine tr_then ?_ | refine tr_inX ?_ | refine tr_thenX ?_ | refine tr_inN ?_ | refine tr_inR ?_ | refine tr_thenR ?_
    exact tr_done _ (fun a w s t => results_1 rfl (resv_tmp s rfl)) (fun w _ _ _ h => by have := of_decide_eq_false h; have he : i = m.rs.length := (by omega); exact upto.small (by rw [← he]; exact hu (by omega)) (n := n) (by omega))
end Go.Qk
end
section
set_option linter.unusedVariables false
namespace Go.Qk
open Go Go.Proofs Go.RowKit
set_option maxRecDepth 100000
set_option maxHeartbeats 4000000
theorem rshape_ret (m : Mt) (B : Nat) (w0 : World) (S : Nat → Prop) (hm : m.ok B w0) (hlen : m.rs.length ≤ 35184372088832) (hrow : ∀ r ∈ m.rs, r.l.length ≤ 35184372088832) :
    Ret Try.prog 43 [m.v] w0 S (fun _ : Unit => shpV (shp m.zs)) (fun _ _ => True) := by
  have hzl := m.zs_len
  refine ret_of Try.func43 rfl Try.ntmps43 rfl ?_
  refine tr_rseq ?_
  refine sq_q (qt_assign rfl) rfl ?_
  refine sq_q (qt_assign rfl) rfl ?_
  refine sq_q (qt_assign rfl) rfl ?_
  refine sq_end ?_
  refine tr_seq ?_
  have hcs : m.rs.length < 1 ∨ (1 ≤ m.rs.length ∧ 16 < m.rs.length) ∨ (0 < m.rs.length ∧ m.rs.length ≤ 16) := by omega
  rcases hcs with h1 | ⟨h1, h2⟩ | ⟨hp0, h2⟩
  ·
    rw [shp_none_len (L := m.zs) (by omega)]
    refine tr_rseq ?_
    refine sq_q (qt_move rfl) rfl ?_
    refine sq_q (qt_len rfl) rfl ?_
    refine sq_q (qt_bin rfl rfl (bT bin_lss (by omega))) rfl ?_
    refine sq_q (qt_move rfl) rfl ?_
    refine sq_gF rfl rfl rfl rfl ?_
    refine sq_gF rfl rfl rfl rfl ?_
    refine sq_gF rfl rfl rfl rfl ?_
    refine sq_q (qt_pick rfl rfl) rfl ?_
    refine sq_end ?_
    refine tr_ifT rfl ?_
    refine tr_rseq ?_
    refine sq_q (qt_assign rfl) rfl ?_
    refine sq_q (qt_assign rfl) rfl ?_
    refine sq_q (qt_assign rfl) rfl ?_
    refine sq_end ?_
    refine tr_ret ?_
    repeat with_reducible first | refine tr_skip ?_ | refine tr_exit ?_ | refine tr_then ?_ | refine tr_inX ?_ | refine tr_thenX ?_ | refine tr_inN ?_ | refine tr_inR ?_ | refine tr_thenR ?_
    exact tr_done () (fun a w s t => results_3 rfl (resv_tmp s rfl) (resv_tmp s rfl) (resv_tmp s rfl)) (fun w _ _ _ => trivial)
  ·
    rw [shp_none_len (L := m.zs) (by omega)]
    refine tr_rseq ?_
    refine sq_q (qt_move rfl) rfl ?_
    refine sq_q (qt_len rfl) rfl ?_
    refine sq_q (qt_bin rfl rfl (bF bin_lss (by omega))) rfl ?_
    refine sq_q (qt_move rfl) rfl ?_
    refine sq_gT rfl rfl ?_
    refine sq_q (qt_move rfl) rfl ?_
    refine sq_gT rfl rfl ?_
    refine sq_q (qt_len rfl) rfl ?_
    refine sq_gT rfl rfl ?_
    refine sq_q (qt_bin rfl rfl (bT bin_gtr (by omega))) rfl ?_
    refine sq_q (qt_pick rfl rfl) rfl ?_
    refine sq_end ?_
    refine tr_ifT rfl ?_
    refine tr_rseq ?_
    refine sq_q (qt_assign rfl) rfl ?_
    refine sq_q (qt_assign rfl) rfl ?_
    refine sq_q (qt_assign rfl) rfl ?_
    refine sq_end ?_
    refine tr_ret ?_
    repeat with_reducible first | refine tr_skip ?_ | refine tr_exit ?_ | refine tr_then ?_ | refine tr_inX ?_ | refine tr_thenX ?_ | refine tr_inN ?_ | refine tr_inR ?_ | refine tr_thenR ?_
    exact tr_done () (fun a w s t => results_3 rfl (resv_tmp s rfl) (resv_tmp s rfl) (resv_tmp s rfl)) (fun w _ _ _ => trivial)
  ·
    obtain ⟨ro, oo, evm, hat⟩ := hm.at_ hp0
    rw [evm]
    have hno : ∀ k (hk : k < m.rs.length), (m.rs[k].l.length < 1 ∨ 16 < m.rs[k].l.length ∨ m.rs[k].l.length ≠ m.rs[0].l.length) → shp m.zs = none := fun k hk h => shp_none_row (k := k) (by omega) (by omega) (by rw [m.zs_at hk, m.zs_at hp0, Rw.zs_len, Rw.zs_len]; exact h)
    refine tr_rseq ?_
    refine sq_q (qt_move rfl) rfl ?_
    refine sq_q (qt_len rfl) rfl ?_
    refine sq_q (qt_bin rfl rfl (bF bin_lss (by omega))) rfl ?_
    refine sq_q (qt_move rfl) rfl ?_
    refine sq_gT rfl rfl ?_
    refine sq_q (qt_move rfl) rfl ?_
    refine sq_gT rfl rfl ?_
    refine sq_q (qt_len rfl) rfl ?_
    refine sq_gT rfl rfl ?_
    refine sq_q (qt_bin rfl rfl (bF bin_gtr (by omega))) rfl ?_
    refine sq_q (qt_pick rfl rfl) rfl ?_
    refine sq_end ?_
    refine tr_ifF rfl ?_
    refine tr_skip ?_
    repeat with_reducible first | refine tr_skip ?_ | refine tr_exit ?_ | refine tr_then ?_ | refine tr_inX ?_ | refine tr_thenX ?_ | refine tr_inN ?_ | refine tr_inR ?_ | refine tr_thenR ?_
    refine tr_seq ?_
    refine tr_rseq ?_
    refine sq_q (qt_move rfl) rfl ?_
    refine sq_q (qt_len rfl) rfl ?_
    refine sq_q (qt_move rfl) rfl ?_
    refine sq_end ?_
    refine tr_block ?_
    refine tr_loop (fun k : Nat => k ≤ m.rs.length ∧ ∀ a (h : a < m.rs.length), a < k → 1 ≤ m.rs[a].l.length ∧ m.rs[a].l.length ≤ 16 ∧ m.rs[a].l.length = m.rs[0].l.length) (fun k => [(0, .slice (some ⟨ro, oo, none⟩) m.rs.length m.p.2), (15, .slice (some ⟨ro, oo, none⟩) m.rs.length m.p.2), (16, .int .i64 (m.rs.length : Int)), (17, .int .i64 (k : Int))]) (fun _ => []) (fun _ _ => True) (fun k => m.rs.length - k) 0 ⟨Nat.zero_le _, fun a _ h => by omega⟩ ⟨rfl, rfl, rfl, rfl, trivial⟩ rfl (fun _ _ => trivial) ?_
    rintro k ⟨hk, hall⟩
    refine tr_rseq ?_
    refine sq_q (qt_bin rfl rfl bin_lss) rfl ?_
    refine sq_end ?_
    refine tr_seq ?_
    refine tr_if rfl (fun hc => ?_) (fun hc => ?_)
    ·
      have hlt : k < m.rs.length := by have := of_decide_eq_true hc; omega
      have hrk := hrow _ (List.getElem_mem hlt)
      have hr0 := hrow _ (List.getElem_mem hp0)
      refine tr_skip ?_
      repeat with_reducible first | refine tr_skip ?_ | refine tr_exit ?_ | refine tr_then ?_ | refine tr_inX ?_ | refine tr_thenX ?_ | refine tr_inN ?_ | refine tr_inR ?_ | refine tr_thenR ?_
      refine tr_seq ?_
      refine tr_block ?_
      refine tr_rseq ?_
      refine sq_q (qt_index (i := k) rfl rfl hlt) rfl ?_
      refine sq_q (qt_load rfl (fun w t => t.a1 (hat k hlt))) rfl ?_
      refine sq_q (qt_assign rfl) rfl ?_
      refine sq_end ?_
      have hcs : m.rs[k].l.length < 1 ∨ (1 ≤ m.rs[k].l.length ∧ 16 < m.rs[k].l.length) ∨ (1 ≤ m.rs[k].l.length ∧ m.rs[k].l.length ≤ 16 ∧ m.rs[k].l.length ≠ m.rs[0].l.length) ∨ (1 ≤ m.rs[k].l.length ∧ m.rs[k].l.length ≤ 16 ∧ m.rs[k].l.length = m.rs[0].l.length) := by omega
      rcases hcs with g1 | ⟨g1, g2⟩ | ⟨g1, g2, g3⟩ | ⟨g1, g2, g3⟩
      ·
        rw [hno k hlt (.inl g1)]
        refine tr_rseq ?_
        refine sq_q (qt_move rfl) rfl ?_
        refine sq_q (qt_len rfl) rfl ?_
        refine sq_q (qt_bin rfl rfl (bT bin_lss (by omega))) rfl ?_
        refine sq_q (qt_move rfl) rfl ?_
        refine sq_gF rfl rfl rfl rfl ?_
        refine sq_gF rfl rfl rfl rfl ?_
        refine sq_gF rfl rfl rfl rfl ?_
        refine sq_q (qt_pick rfl rfl) rfl ?_
        refine sq_q (qt_move rfl) rfl ?_
        refine sq_gF rfl rfl rfl rfl ?_
        refine sq_gF rfl rfl rfl rfl ?_
        refine sq_gF rfl rfl rfl rfl ?_
        refine sq_gF rfl rfl rfl rfl ?_
        refine sq_gF rfl rfl rfl rfl ?_
        refine sq_gF rfl rfl rfl rfl ?_
        refine sq_gF rfl rfl rfl rfl ?_
        refine sq_q (qt_pick rfl rfl) rfl ?_
        refine sq_end ?_
        refine tr_ifT rfl ?_
        refine tr_rseq ?_
        refine sq_q (qt_assign rfl) rfl ?_
        refine sq_q (qt_assign rfl) rfl ?_
        refine sq_q (qt_assign rfl) rfl ?_
        refine sq_end ?_
        refine tr_ret ?_
        repeat with_reducible first | refine tr_skip ?_ | refine tr_exit ?_ | refine tr_then ?_ | refine tr_inX ?_ | refine tr_thenX ?_ | refine tr_inN ?_ | refine tr_inR ?_ | refine tr_thenR ?_
        exact tr_done () (fun a w s t => results_3 rfl (resv_tmp s rfl) (resv_tmp s rfl) (resv_tmp s rfl)) (fun w _ _ _ => trivial)
      ·
        rw [hno k hlt (.inr (.inl g2))]
        refine tr_rseq ?_
        refine sq_q (qt_move rfl) rfl ?_
        refine sq_q (qt_len rfl) rfl ?_
        refine sq_q (qt_bin rfl rfl (bF bin_lss (by omega))) rfl ?_
        refine sq_q (qt_move rfl) rfl ?_
        refine sq_gT rfl rfl ?_
        refine sq_q (qt_move rfl) rfl ?_
        refine sq_gT rfl rfl ?_
        refine sq_q (qt_len rfl) rfl ?_
        refine sq_gT rfl rfl ?_
        refine sq_q (qt_bin rfl rfl (bT bin_gtr (by omega))) rfl ?_
        refine sq_q (qt_pick rfl rfl) rfl ?_
        refine sq_q (qt_move rfl) rfl ?_
        refine sq_gF rfl rfl rfl rfl ?_
        refine sq_gF rfl rfl rfl rfl ?_
        refine sq_gF rfl rfl rfl rfl ?_
        refine sq_gF rfl rfl rfl rfl ?_
        refine sq_gF rfl rfl rfl rfl ?_
        refine sq_gF rfl rfl rfl rfl ?_
        refine sq_gF rfl rfl rfl rfl ?_
        refine sq_q (qt_pick rfl rfl) rfl ?_
        refine sq_end ?_
        refine tr_ifT rfl ?_
        refine tr_rseq ?_
        refine sq_q (qt_assign rfl) rfl ?_
        refine sq_q (qt_assign rfl) rfl ?_
        refine sq_q (qt_assign rfl) rfl ?_
        refine sq_end ?_
        refine tr_ret ?_
        repeat with_reducible first | refine tr_skip ?_ | refine tr_exit ?_ | refine tr_then ?_ | refine tr_inX ?_ | refine tr_thenX ?_ | refine tr_inN ?_ | refine tr_inR ?_ | refine tr_thenR ?_
        exact tr_done () (fun a w s t => results_3 rfl (resv_tmp s rfl) (resv_tmp s rfl) (resv_tmp s rfl)) (fun w _ _ _ => trivial)
      ·
        rw [hno k hlt (.inr (.inr g3))]
        refine tr_rseq ?_
        refine sq_q (qt_move rfl) rfl ?_
        refine sq_q (qt_len rfl) rfl ?_
        refine sq_q (qt_bin rfl rfl (bF bin_lss (by omega))) rfl ?_
        refine sq_q (qt_move rfl) rfl ?_
        refine sq_gT rfl rfl ?_
        refine sq_q (qt_move rfl) rfl ?_
        refine sq_gT rfl rfl ?_
        refine sq_q (qt_len rfl) rfl ?_
        refine sq_gT rfl rfl ?_
        refine sq_q (qt_bin rfl rfl (bF bin_gtr (by omega))) rfl ?_
        refine sq_q (qt_pick rfl rfl) rfl ?_
        refine sq_q (qt_move rfl) rfl ?_
        refine sq_gT rfl rfl ?_
        refine sq_q (qt_move rfl) rfl ?_
        refine sq_gT rfl rfl ?_
        refine sq_q (qt_len rfl) rfl ?_
        refine sq_gT rfl rfl ?_
        refine sq_q (qt_move rfl) rfl ?_
        refine sq_gT rfl rfl ?_
        refine sq_q (qt_index (i := 0) rfl rfl hp0) rfl ?_
        refine sq_gT rfl rfl ?_
        refine sq_q (qt_load rfl (fun w t => t.a1 (hat 0 hp0))) rfl ?_
        refine sq_gT rfl rfl ?_
        refine sq_q (qt_len rfl) rfl ?_
        refine sq_gT rfl rfl ?_
        refine sq_q (qt_bin rfl rfl (bT bin_neq (by omega))) rfl ?_
        refine sq_q (qt_pick rfl rfl) rfl ?_
        refine sq_end ?_
        refine tr_ifT rfl ?_
        refine tr_rseq ?_
        refine sq_q (qt_assign rfl) rfl ?_
        refine sq_q (qt_assign rfl) rfl ?_
        refine sq_q (qt_assign rfl) rfl ?_
        refine sq_end ?_
        refine tr_ret ?_
        repeat with_reducible first | refine tr_skip ?_ | refine tr_exit ?_ | refine tr_then ?_ | refine tr_inX ?_ | refine tr_thenX ?_ | refine tr_inN ?_ | refine tr_inR ?_ | refine tr_thenR ?_
        exact tr_done () (fun a w s t => results_3 rfl (resv_tmp s rfl) (resv_tmp s rfl) (resv_tmp s rfl)) (fun w _ _ _ => trivial)
      ·
        refine tr_rseq ?_
        refine sq_q (qt_move rfl) rfl ?_
        refine sq_q (qt_len rfl) rfl ?_
        refine sq_q (qt_bin rfl rfl (bF bin_lss (by omega))) rfl ?_
        refine sq_q (qt_move rfl) rfl ?_
        refine sq_gT rfl rfl ?_
        refine sq_q (qt_move rfl) rfl ?_
        refine sq_gT rfl rfl ?_
        refine sq_q (qt_len rfl) rfl ?_
        refine sq_gT rfl rfl ?_
        refine sq_q (qt_bin rfl rfl (bF bin_gtr (by omega))) rfl ?_
        refine sq_q (qt_pick rfl rfl) rfl ?_
        refine sq_q (qt_move rfl) rfl ?_
        refine sq_gT rfl rfl ?_
        refine sq_q (qt_move rfl) rfl ?_
        refine sq_gT rfl rfl ?_
        refine sq_q (qt_len rfl) rfl ?_
        refine sq_gT rfl rfl ?_
        refine sq_q (qt_move rfl) rfl ?_
        refine sq_gT rfl rfl ?_
        refine sq_q (qt_index (i := 0) rfl rfl hp0) rfl ?_
        refine sq_gT rfl rfl ?_
        refine sq_q (qt_load rfl (fun w t => t.a1 (hat 0 hp0))) rfl ?_
        refine sq_gT rfl rfl ?_
        refine sq_q (qt_len rfl) rfl ?_
        refine sq_gT rfl rfl ?_
        refine sq_q (qt_bin rfl rfl (bF bin_neq (by omega))) rfl ?_
        refine sq_q (qt_pick rfl rfl) rfl ?_
        refine sq_end ?_
        refine tr_ifF rfl ?_
        refine tr_skip ?_
        repeat with_reducible first | refine tr_skip ?_ | refine tr_exit ?_ | refine tr_then ?_ | refine tr_inX ?_ | refine tr_thenX ?_ | refine tr_inN ?_ | refine tr_inR ?_ | refine tr_thenR ?_
        refine tr_region ?_
        refine sq_q (qt_bin rfl rfl (bin_addI (by omega) (by omega))) rfl ?_
        refine sq_q (qt_move rfl) rfl ?_
        refine sq_nil ?_
        repeat with_reducible first | refine tr_skip ?_ | refine tr_exit ?_ | refine tr_then ?_ | refine tr_inX ?_ | refine tr_thenX ?_ | refine tr_inN ?_ | refine tr_inR ?_ | refine tr_thenR ?_
        refine tr_round (k + 1) ⟨by omega, fun a ha hak => ?_⟩ (by omega) ⟨rfl, rfl, rfl, rfl, trivial⟩ rfl (fun _ h => h)
        by_cases e : a = k
        · subst e; exact ⟨g1, g2, g3⟩
        · exact hall a ha (by omega)
    ·
      have hke : k = m.rs.length := by have := of_decide_eq_false hc; omega
      have hs := shp_some (L := m.zs) (by omega) (by omega) (by rw [m.zs_at hp0, Rw.zs_len]; exact (hall 0 hp0 (by omega)).1) (by rw [m.zs_at hp0, Rw.zs_len]; exact (hall 0 hp0 (by omega)).2.1) (fun i hi => by rw [m.zs_at (by omega), m.zs_at hp0, Rw.zs_len, Rw.zs_len]; exact (hall i (by omega) (by omega)).2.2)
      have hs2 : shp m.zs = some (m.rs.length, m.rs[0].l.length) := by rw [hs, m.zs_at hp0, Rw.zs_len, hzl]
      rw [hs2]
      refine tr_exit ?_
      repeat with_reducible first | refine tr_skip ?_ | refine tr_exit ?_ | refine tr_then ?_ | refine tr_inX ?_ | refine tr_thenX ?_ | refine tr_inN ?_ | refine tr_inR ?_ | refine tr_thenR ?_
      refine tr_rdraw0 [0, 2, 3, 4, 6, 14, 15, 16, 17, 18, 37] (by kernel_rfl) ?_
      refine dx_q rfl (qt_move rfl) rfl ?_
      refine dx_q rfl (qt_len rfl) rfl ?_
      refine dx_q rfl (qt_move rfl) rfl ?_
      refine dx_q rfl (qt_index (i := 0) rfl rfl hp0) rfl ?_
      refine dx_q rfl (qt_load rfl (fun w t => t.a1 (hat 0 hp0))) rfl ?_
      refine dx_q rfl (qt_len rfl) rfl ?_
      refine dx_q rfl (qt_assign rfl) rfl ?_
      refine dx_q rfl (qt_assign rfl) rfl ?_
      refine dx_q rfl (qt_assign rfl) rfl ?_
      refine dx_nil ?_
      repeat (first | refine es_val rfl ?_ rfl | refine es_res rfl (fun x => ?_) rfl | refine es_skip rfl ?_)
      refine es_nil rfl ?_
      refine tx_endk ?_
      refine tr_ret ?_
      repeat with_reducible first | refine tr_skip ?_ | refine tr_exit ?_ | refine tr_then ?_ | refine tr_inX ?_ | refine tr_thenX ?_ | refine tr_inN ?_ | refine tr_inR ?_ | refine tr_thenR ?_
      exact tr_done () (fun a w s t => results_3 rfl (resv_tmp s rfl) (resv_tmp s rfl) (resv_tmp s rfl)) (fun w _ _ _ => trivial)
end Go.Qk
end
section
set_option linter.unusedVariables false
namespace Go.Qk
open Go Go.Proofs Go.RowKit
set_option maxRecDepth 100000
set_option maxHeartbeats 4000000
theorem rnormalize_ret (n : Bool) (xs : List Nat) (p : Sv) (w : World) (S : Nat → Prop) (hx : Lm xs p w) (lx : lim xs) (hb : xs.length ≤ 35184372088832) :
    Ret Try.prog 91 [ig n xs p] w S (iv (sgn n (val xs))) (Lz (val xs)) := by
  refine ret_of Try.func91 rfl Try.ntmps91 rfl ?_
  refine tr_rseq ?_
  refine sq_box rfl rfl fun r1 => ?_
  refine sq_alloc rfl fun r2 => ?_
  refine sq_end ?_
  refine tr_rseq ?_
  refine sq_q (qt_fieldAddr rfl) rfl ?_
  refine sq_q (qt_load rfl (fun w t => t.atO 1 rfl rfl)) rfl ?_
  refine sq_q (qt_fieldAddr rfl) rfl ?_
  refine sq_q (qt_load rfl (fun w t => t.atO 1 rfl rfl)) rfl ?_
  refine sq_call (iv (sgn n (val xs))) (Lz (val xs)) rfl rfl rfl (fun w t => make_ret n xs p.1 p.2 w _ (t.lm hx).1 lx hx.2 hb) fun x => ?_
  refine sq_store 0 rfl rfl rfl rfl (Nat.le_refl 2) rfl rfl ?_
  refine sq_end ?_
  refine tr_ret ?_
  repeat with_reducible first | refine tr_skip ?_ | refine tr_exit ?_ | refine tr_then ?_ | refine tr_inX ?_ | refine tr_thenX ?_ | refine tr_inN ?_ | refine tr_inR ?_ | refine tr_thenR ?_
  exact tr_done x (fun a w s t => results_1 rfl (resv_cell 0 s t rfl rfl rfl)) (fun w h _ _ => h.2)
end Go.Qk
end
section
set_option linter.unusedVariables false
namespace Go.Qk
open Go Go.Proofs Go.RowKit
theorem own1c {r : Nat} {a b : List Value} {e : TypeId} {tl : Own} (h : a = b) : ((r, Obj.cells a.toArray e (0, 0)) :: tl) = (r, Obj.cells b.toArray e (0, 0)) :: tl := by rw [h]
end Go.Qk
end
section
set_option linter.unusedVariables false
namespace Go.Qk
open Go Go.Proofs Go.RowKit
section
variable {P : Program} {n : Nat} {w0 : World} {X : List Nat} {S : Nat → Prop} {E : Env} {own : Own} {R : World → Prop} {Q : Exit → Act → World → Prop} {ops : Array Oper}
theorem tr_cutL {ι : Type} {c : Code} (I : ι → Prop) (Ef : ι → Env) (of : ι → Own) (Rf : ι → World → Prop) (h1 : Tr n w0 X S E own R (c.wp P (Exit.then (Md n w0 X S I Ef of Rf) Q)))
    (h2 : ∀ x, I x → Tr n w0 X S (Ef x) (of x) (Rf x) (Q .normal)) : Tr n w0 X S E own R (c.wp P Q) := fun a w s t =>
  wp_mono (h1 a w s t) fun e a' w' q => by
    cases e with
    | normal => obtain ⟨y, hy, s', t'⟩ := q; exact h2 y hy a' w' s' t'
    | exit id => exact q
    | goto l => exact q
    | ret => exact q
    | panic ch => exact q
    | outgrown => exact q
/-- one operation first, then the others -/
def So (P : Program) (ops : Array Oper) (Q : Exit → Act → World → Prop) (n : Nat) (w0 : World) (X : List Nat) (S : Nat → Prop) (fuel : Nat) (listed : Array Bool) (i : Nat) (E : Env) (own : Own) (R : World → Prop) : Prop :=
  ∀ a w, St n a E → SS w0 X S own R w → wpOp P ops Q i (wpAny P .any ops Q fuel (listed.setIfInBounds i true)) a w
theorem sc_two (i j : Nat) {fuel : Nat} {listed : Array Bool} (hr : Region.ready .any ops listed = [i, j]) (h1 : So P ops Q n w0 X S fuel listed i E own R) (h2 : So P ops Q n w0 X S fuel listed j E own R) : Sc P ops Q n w0 X S (fuel + 1) listed E own R := by
  intro a w s t
  refine wpAny_all hr (by simp) fun k hk => ?_
  simp at hk
  rcases hk with rfl | rfl
  · exact h1 a w s t
  · exact h2 a w s t
theorem sc_one (i : Nat) {fuel : Nat} {listed : Array Bool} (hr : Region.ready .any ops listed = [i]) (h1 : So P ops Q n w0 X S fuel listed i E own R) : Sc P ops Q n w0 X S (fuel + 1) listed E own R := by
  intro a w s t
  refine wpAny_all hr (by simp) fun k hk => ?_
  simp at hk
  subst hk
  exact h1 a w s t
theorem so_q {i : Nat} {fuel : Nat} {listed : Array Bool} {op : Op} {ty : TypeId} {v : Value} {d : Nat} {pos : String} {af : Array Edge} (hi : ops[i]? = some ⟨some d, op, ty, pos, af, none⟩)
    (hq : Qt P (SS w0 X S own R) (look E) op ty v) (hd : Nat.blt d n = true) (h : Sc P ops Q n w0 X S fuel (listed.setIfInBounds i true) ((d, v) :: E) own R) : So P ops Q n w0 X S fuel listed i E own R := by
  intro a w s t
  unfold wpOp
  rw [hi]
  refine (if_pos (wanted_none rfl)).mpr (.inl ?_)
  unfold Oper.wp
  rw [hq _ w s.agr t]
  exact h _ _ (s.put hd v) t
theorem so_callU {i : Nat} (k : Nat) {α : Type} {fuel : Nat} {listed : Array Bool} {c : Operand} {f : FuncId} {pre cap : List Value} {xs : List Operand} {vs : List Value} {ats : Array TypeId} {ty : TypeId} {d : Nat} {pos : String} {af : Array Edge} {r : Nat} {o : Obj} (val : α → Value) (obj : α → Obj) (p : α → Prop) [hB : FnB P f]
    (hi : ops[i]? = some ⟨some d, .call { callee := .value c, args := xs.toArray, argTypes := ats }, ty, pos, af, none⟩) (hk : ownAt own k = some (r, o)) (hc : fnv (look E) c f pre cap) (hxs : evs (look E) xs = some vs) (hd : Nat.blt d n = true)
    (hcall : ∀ w, SS w0 X S own R w → RetU P f (pre ++ vs ++ cap) w r val obj p)
    (h : ∀ x, p x → Sc P ops Q n w0 X S fuel (listed.setIfInBounds i true) ((d, val x) :: E) (ownSet own k (obj x)) R) : So P ops Q n w0 X S fuel listed i E own R := by
  intro a w s t
  unfold wpOp
  rw [hi]
  refine (if_pos (wanted_none rfl)).mpr (.inl ?_)
  unfold Oper.wp
  rw [run_call s.agr hc hxs, Oper.upon_enter]
  refine (hcall w t).mono ?_
  rintro e w' ⟨x, hp, rfl, h1, h2, h3, h4, h5, h6⟩
  exact h x hp _ _ (s.put hd _) (t.updG hk h1 h2 h3 h4 h5 h6)
theorem so_store {i : Nat} (k : Nat) {fuel : Nat} {listed : Array Bool} {t : TypeId} {agg : Bool} {sz by_ : Nat} {z : Value} [hT : TyI P t agg sz by_ z] {x y : Operand} {r off : Nat} {l : List Value} {e : TypeId} {v : Value} {ty : TypeId} {pos : String} {af : Array Edge} (hi : ops[i]? = some ⟨none, .store t x y, ty, pos, af, none⟩)
    (hx : ev (look E) x = some (.pointer (some ⟨r, off, none⟩))) (hy : ev (look E) y = some v)
    (hk : ownAt own k = some (r, .cells l.toArray e (0, 0))) (hv : v.cells.size = sz) (hl : off + sz ≤ l.length) (hsz : Nat.blt 0 sz = true) (h1 : one' v.cells.toList = true)
    (h : Sc P ops Q n w0 X S fuel (listed.setIfInBounds i true) E (ownSet own k (.cells (wr l off v.cells.toList).toArray e (0, 0))) R) : So P ops Q n w0 X S fuel listed i E own R := by
  intro a w s t'
  unfold wpOp
  rw [hi]
  refine (if_pos (wanted_none rfl)).mpr (.inl ?_)
  obtain ⟨w', e1, e2⟩ := run_storeVar_own (P := P) (t := t) (w := w) (off := off) (v := v) (t'.has _ (ownAt_mem hk)) hv hl (by simpa using hsz) (fun u hu => (List.all_eq_true.1 h1) u hu)
  have e : (execOp a.eval ⟨none, .store t x y, ty, pos, af, none⟩).run P w = .ok .skip w' := by
    simp only [execOp, s.agr x _ hx, s.agr y _ hy, Instr.storeAt, Instr.sureAddr, Sem.run_bind, Sem.run_pure, Result.andThen_ok, e1]
  unfold Oper.wp
  rw [e]
  exact h _ _ s (t'.upd hk e2)
end
def i8s (l : List Int) : List Value := l.map fun a => .int .i8 a
theorem i8s_get {l : List Int} {i : Nat} (h : i < l.length) : (i8s l)[i]? = some (.int .i8 l[i]) := by simp [i8s, h]
theorem made_i64 (c : Nat) : madeCells (Value.int .i64 0).cells (c * 1) = (i64s (List.replicate c 0)).toArray := by
  apply Array.ext
  · simp [madeCells, i64s]
  · intro i h1 h2
    simp [madeCells, i64s, Value.cells, Nat.mod_one]
theorem i64s_set (l : List Int) (k : Nat) (v : Int) : (i64s l).set k (.int .i64 v) = i64s (l.set k v) := by simp [i64s, List.map_set]
/-- a grid of small numbers -/
structure Gd where
  r : Nat
  c : Nat
  l : List Int
  p : Sv
def Gd.v (g : Gd) : Value := .agg #[.int .u8 (g.r : Int), .int .u8 (g.c : Int), .slice g.p.1 g.l.length g.p.2]
def Gd.ok (g : Gd) (w : World) : Prop := g.r < 256 ∧ g.c < 256 ∧ Rd g.p.1 (i8s g.l) w ∧ g.l.length ≤ g.p.2 ∧ g.l.length ≤ 281474976710656 ∧ ∀ a ∈ g.l, -128 ≤ a ∧ a < 128
/-- the numbers that it stands for -/
def Gd.e (g : Gd) (k : Nat) (i j : Nat) : Int := g.l.getD (i * (1 + g.c % k) + j) 0
def Gd.zs (g : Gd) (k : Nat) : List (List Int) := grid (g.e k) (1 + g.r % k) (1 + g.c % k)
theorem Gd.small {g : Gd} {w : World} (h : g.ok w) (i : Nat) : In64 (g.l.getD i 0) := by
  unfold In64
  rw [List.getD_eq_getElem?_getD]
  cases hq : g.l[i]? with
  | none => simp
  | some a => have := h.2.2.2.2.2 a (List.mem_of_getElem? hq); simp; omega
theorem SS.gd {w0 w : World} {S : Nat → Prop} {own : Own} {R : World → Prop} (t : SS w0 [] S own R w) {g : Gd} (h : g.ok w0) : g.ok w := ⟨h.1, h.2.1, t.rd h.2.2.1, h.2.2.2⟩
/-- a tape's block -/
def tapeO (A : Option Addr) (l : List Int) (c k : Nat) : Obj := .cells ([Value.slice A l.length c, .int .i64 (k : Int)] : List Value).toArray 88 (0, 0)
theorem builtTape (A : Option Addr) (l c : Nat) : Try.prog.built 88 [(0, .slice A l c)] = some #[.slice A l c, .int .i64 0] := by kernel_rfl
end Go.Qk
end
section
set_option linter.unusedVariables false
namespace Go.Qk
open Go Go.Proofs Go.RowKit
set_option maxRecDepth 100000
set_option maxHeartbeats 4000000
theorem next_ret (l : List Int) (A : Option Addr) (c k r : Nat) (w : World) (hL : Rd A (i8s l) w) (hA : 0 < l.length → ∀ r' o, A = some ⟨r', o, none⟩ → r' ≠ r) (hl : l.length ≤ 281474976710656) (hk : k ≤ l.length) (hin : ∀ a ∈ l, -128 ≤ a ∧ a < 128) (ho : w.heap[r]? = some (tapeO A l c k)) :
    RetU Try.prog 84 [.pointer (some ⟨r, 0, none⟩)] w r (fun _ : Unit => .int .i64 (l.getD k 0)) (fun _ => tapeO A l c (min (k + 1) l.length)) (fun _ => True) := by
  refine retU_of none_ Try.func84 rfl Try.ntmps84 rfl ho ?_
  refine tr_rseq ?_
  refine sq_q (qt_assign rfl) rfl ?_
  refine sq_end ?_
  refine tr_seq ?_
  refine tr_rdraw0 [0, 2, 12] (by kernel_rfl) ?_
  refine dx_q rfl (qt_move rfl) rfl ?_
  refine dx_q rfl (qt_nilCheck rfl) rfl ?_
  refine dx_q rfl (qt_fieldAddr rfl) rfl ?_
  refine dx_q rfl (qt_load rfl (fun w t => t.atO 0 rfl rfl)) rfl ?_
  refine dx_q rfl (qt_move rfl) rfl ?_
  refine dx_q rfl (qt_nilCheck rfl) rfl ?_
  refine dx_q rfl (qt_fieldAddr rfl) rfl ?_
  refine dx_q rfl (qt_load rfl (fun w t => t.atO 0 rfl rfl)) rfl ?_
  refine dx_q rfl (qt_len rfl) rfl ?_
  refine dx_q rfl (qt_bin rfl rfl bin_geq) rfl ?_
  refine dx_nil ?_
  repeat (first | refine es_val rfl ?_ rfl | refine es_res rfl (fun x => ?_) rfl | refine es_skip rfl ?_)
  refine es_nil rfl ?_
  refine tx_endk ?_
  refine tr_if rfl (fun hc => ?_) (fun hc => ?_)
  ·
    have hke : k = l.length := by have := of_decide_eq_true hc; omega
    have e1 : min (k + 1) l.length = k := by omega
    have e2 : l.getD k 0 = 0 := by rw [List.getD_eq_getElem?_getD, List.getElem?_eq_none (by omega)]; rfl
    refine tr_rseq ?_
    refine sq_q (qt_assign rfl) rfl ?_
    refine sq_end ?_
    refine tr_ret ?_
    repeat with_reducible first | refine tr_skip ?_ | refine tr_exit ?_ | refine tr_then ?_ | refine tr_inX ?_ | refine tr_thenX ?_ | refine tr_inN ?_ | refine tr_inR ?_ | refine tr_thenR ?_
    exact tr_doneU () 0 trivial (fun a w s t => results_1 rfl (resv_tmp s (by rw [e2]; rfl))) (by rw [e1]; rfl)
  ·
    have hlt : k < l.length := by have := of_decide_eq_false hc; omega
    have e1 : min (k + 1) l.length = k + 1 := by omega
    obtain ⟨ra, oa, rfl, hat⟩ := hL.at_ (i8s_get hlt)
    have hne := hA (by omega) ra oa rfl
    have e2 : l.getD k 0 = l[k] := by simp [List.getD, hlt]
    have hv := hin _ (List.getElem_mem hlt)
    refine tr_skip ?_
    repeat with_reducible first | refine tr_skip ?_ | refine tr_exit ?_ | refine tr_then ?_ | refine tr_inX ?_ | refine tr_thenX ?_ | refine tr_inN ?_ | refine tr_inR ?_ | refine tr_thenR ?_
    refine tr_rseq ?_
    refine sq_q (qt_move rfl) rfl ?_
    refine sq_q (qt_nilCheck rfl) rfl ?_
    refine sq_q (qt_fieldAddr rfl) rfl ?_
    refine sq_q (qt_load rfl (fun w t => t.atO 0 rfl rfl)) rfl ?_
    refine sq_q (qt_bin rfl rfl (bin_addI (by omega) (by omega))) rfl ?_
    refine sq_q (qt_nilCheck rfl) rfl ?_
    refine sq_q (qt_fieldAddr rfl) rfl ?_
    refine sq_store 0 rfl rfl rfl rfl (Nat.le_refl 2) rfl rfl ?_
    refine sq_end ?_
    refine tr_rdraw0 [0, 2, 12] (by kernel_rfl) ?_
    refine dx_q rfl (qt_move rfl) rfl ?_
    refine dx_q rfl (qt_nilCheck rfl) rfl ?_
    refine dx_q rfl (qt_fieldAddr rfl) rfl ?_
    refine dx_q rfl (qt_load rfl (fun w t => t.atO 0 rfl rfl)) rfl ?_
    refine dx_q rfl (qt_move rfl) rfl ?_
    refine dx_q rfl (qt_nilCheck rfl) rfl ?_
    refine dx_q rfl (qt_fieldAddr rfl) rfl ?_
    refine dx_q rfl (qt_load rfl (fun w t => t.atO 0 rfl rfl)) rfl ?_
    refine dx_q rfl (qt_bin rfl rfl (bin_subI (by omega) (by omega))) rfl ?_
    rw [show ((k : Int) + 1) - 1 = (k : Int) by omega]
    refine dx_q rfl (qt_index (i := k) rfl rfl hlt) rfl ?_
    refine dx_q rfl (qt_load rfl (fun w t => t.a1x hat (by simpa using hne))) rfl ?_
    refine dx_q rfl (qt_toI rfl (by omega) (by omega)) rfl ?_
    refine dx_q rfl (qt_assign rfl) rfl ?_
    refine dx_nil ?_
    repeat (first | refine es_val rfl ?_ rfl | refine es_res rfl (fun x => ?_) rfl | refine es_skip rfl ?_)
    refine es_nil rfl ?_
    refine tx_endk ?_
    refine tr_ret ?_
    repeat with_reducible first | refine tr_skip ?_ | refine tr_exit ?_ | refine tr_then ?_ | refine tr_inX ?_ | refine tr_thenX ?_ | refine tr_inN ?_ | refine tr_inR ?_ | refine tr_thenR ?_
    exact tr_doneU () 0 trivial (fun a w s t => results_1 rfl (resv_tmp s (by rw [e2]; rfl))) (by rw [e1]; rfl)
end Go.Qk
end
section
set_option linter.unusedVariables false
namespace Go.Qk
open Go Go.Proofs Go.RowKit
set_option maxRecDepth 100000
set_option maxHeartbeats 4000000
theorem ints_ret (g : Gd) (k : Nat) (w0 : World) (S : Nat → Prop) (hg : g.ok w0) (hk : 1 ≤ k) (hk16 : k ≤ 16) :
    Ret Try.prog 74 [g.v, .int .i64 (k : Int)] w0 S Xm.v (fun m w => m.ok w ∧ m.zs = g.zs k) := by
  obtain ⟨R, hR⟩ : ∃ R, R = 1 + g.r % k := ⟨_, rfl⟩
  obtain ⟨C, hC⟩ : ∃ C, C = 1 + g.c % k := ⟨_, rfl⟩
  have hR16 : R ≤ 16 := by have := Nat.mod_lt g.r (show 0 < k by omega); omega
  have hC16 : C ≤ 16 := by have := Nat.mod_lt g.c (show 0 < k by omega); omega
  have hr256 := hg.1
  have hc256 := hg.2.1
  have hRI : (1 : Int) + ((g.r : Nat) : Int) % ((k : Nat) : Int) = (R : Int) := by rw [hR]; simp
  have hCI : (1 : Int) + ((g.c : Nat) : Int) % ((k : Nat) : Int) = (C : Int) := by rw [hC]; simp
  have hrm : ((g.r : Nat) : Int) % ((k : Nat) : Int) = ((g.r % k : Nat) : Int) := by simp
  have hcm : ((g.c : Nat) : Int) % ((k : Nat) : Int) = ((g.c % k : Nat) : Int) := by simp
  have hrb := Nat.mod_lt g.r (show 0 < k by omega)
  have hcb := Nat.mod_lt g.c (show 0 < k by omega)
  have hz : g.zs k = grid (fun i j => g.l.getD (i * C + j) 0) R C := by unfold Gd.zs; rw [← hR, ← hC]; unfold Gd.e; rw [← hC]
  rw [hz]
  refine ret_of Try.func74 rfl Try.ntmps74 rfl ?_
  refine tr_rseq ?_
  refine sq_box rfl rfl fun r2 => ?_
  refine sq_q (qt_assign rfl) rfl ?_
  refine sq_end ?_
  refine tr_rseq ?_
  refine sq_q (qt_fieldAddr rfl) rfl ?_
  refine sq_q (qt_load rfl (fun w t => t.atO 0 rfl rfl)) rfl ?_
  refine sq_q (qt_build rfl (builtTape _ _ _)) rfl ?_
  refine sq_box rfl rfl fun r12 => ?_
  refine sq_q (qt_assign rfl) rfl ?_
  refine sq_end ?_
  refine tr_rseq ?_
  refine sq_q (qt_fieldAddr rfl) rfl ?_
  refine sq_q (qt_load rfl (fun w t => t.atO 1 rfl rfl)) rfl ?_
  refine sq_q (qt_toI rfl (by omega) (by omega)) rfl ?_
  refine sq_q (qt_move rfl) rfl ?_
  refine sq_q (qt_bin rfl rfl (bin_rem (by omega) (by omega))) rfl ?_
  refine sq_q (qt_bin rfl rfl (bin_addI (by rw [hrm]; omega) (by rw [hrm]; omega))) rfl ?_
  rw [hRI]
  refine sq_make (c := R) rfl rfl (by omega) (by omega) rfl fun r19 => ?_
  refine sq_q (qt_assign rfl) rfl ?_
  refine sq_end ?_
  refine tr_seq ?_
  refine tr_rseq ?_
  refine sq_q (qt_move rfl) rfl ?_
  refine sq_q (qt_len rfl) rfl ?_
  refine sq_q (qt_move rfl) rfl ?_
  refine sq_end ?_
  refine tr_block ?_
  refine tr_loop (fun done : List Xr => done.length ≤ R ∧ done.map Xr.l = (List.range done.length).map fun i => (List.range C).map fun j => g.l.getD (i * C + j) 0)
    (fun done => [(1, .int .i64 (k : Int)), (2, .pointer (some ⟨r2, 0, none⟩)), (5, .pointer (some ⟨r12, 0, none⟩)), (6, .slice (some ⟨r19, 0, none⟩) R R), (21, .int .i64 (R : Int)), (22, .int .i64 (done.length : Int))])
    (fun done => [(r19, .cells (done.map Xr.v ++ List.replicate (R - done.length) (Value.slice none 0 0)).toArray 71 (0, 0)), (r12, tapeO g.p.1 g.l g.p.2 (min (done.length * C) g.l.length)), (r2, .cells g.v.cells 31 (0, 0))])
    (fun done w => ∀ q ∈ done, q.ok w) (fun done => R - done.length) [] ⟨Nat.zero_le _, rfl⟩ ⟨rfl, rfl, rfl, rfl, rfl, rfl, trivial⟩ (by rw [made_s]; simp; rfl) (fun _ _ => by simp) ?_
  rintro done ⟨hle, hzd⟩
  refine tr_rseq ?_
  refine sq_q (qt_bin rfl rfl bin_lss) rfl ?_
  refine sq_end ?_
  refine tr_seq ?_
  refine tr_if rfl (fun hc => ?_) (fun hc => ?_)
  ·
    have hlt : done.length < R := by have := of_decide_eq_true hc; omega
    refine tr_skip ?_
    repeat with_reducible first | refine tr_skip ?_ | refine tr_exit ?_ | refine tr_then ?_ | refine tr_inX ?_ | refine tr_thenX ?_ | refine tr_inN ?_ | refine tr_inR ?_ | refine tr_thenR ?_
    refine tr_seq ?_
    refine tr_block ?_
    refine tr_rseq ?_
    refine sq_q (qt_move rfl) rfl ?_
    refine sq_q (qt_assign rfl) rfl ?_
    refine sq_end ?_
    refine tr_rseq ?_
    refine sq_q (qt_move rfl) rfl ?_
    refine sq_q (qt_move rfl) rfl ?_
    refine sq_q (qt_fieldAddr rfl) rfl ?_
    refine sq_q (qt_load rfl (fun w t => t.atO 2 rfl rfl)) rfl ?_
    refine sq_q (qt_toI rfl (by omega) (by omega)) rfl ?_
    refine sq_q (qt_move rfl) rfl ?_
    refine sq_q (qt_bin rfl rfl (bin_rem (by omega) (by omega))) rfl ?_
    refine sq_q (qt_bin rfl rfl (bin_addI (by rw [hcm]; omega) (by rw [hcm]; omega))) rfl ?_
    rw [hCI]
    refine sq_make (c := C) rfl rfl (by omega) (by omega) rfl fun r33 => ?_
    refine sq_q (qt_index (i := done.length) rfl rfl hlt) rfl ?_
    refine sq_store 1 rfl rfl rfl rfl (by simp [Value.cells]; omega) rfl rfl ?_
    refine sq_end ?_
    obtain ⟨kk, hkk⟩ : ∃ kk, R - done.length = kk + 1 := ⟨R - done.length - 1, by omega⟩
    have hkk' : R - (done.length + 1) = kk := by omega
    have hset : wr (done.map Xr.v ++ List.replicate (kk + 1) (Value.slice none 0 0)) (0 + done.length * 1) [Value.slice (some ⟨r33, 0, none⟩) C C] = (done.map Xr.v ++ [Value.slice (some ⟨r33, 0, none⟩) C C]) ++ List.replicate kk (Value.slice none 0 0) := by
      have := next_set (done.map Xr.v) kk (Value.slice none 0 0) (.slice (some ⟨r33, 0, none⟩) C C)
      rw [List.length_map] at this
      rw [← this, Nat.zero_add, Nat.mul_one]
      rfl
    have hget : ((done.map Xr.v ++ [Value.slice (some ⟨r33, 0, none⟩) C C]) ++ List.replicate kk (Value.slice none 0 0))[done.length]? = some (.slice (some ⟨r33, 0, none⟩) C C) := by simp [List.getElem?_append]
    refine tr_own [(r33, .cells (i64s (List.replicate C 0)).toArray 2 (0, 0)), (r19, .cells ((done.map Xr.v ++ [Value.slice (some ⟨r33, 0, none⟩) C C]) ++ List.replicate kk (Value.slice none 0 0)).toArray 71 (0, 0)), (r12, tapeO g.p.1 g.l g.p.2 (min (done.length * C) g.l.length)), (r2, .cells g.v.cells 31 (0, 0))] (by rw [← hset, ← hkk, ← made_i64]; rfl) ?_
    refine tr_rseq ?_
    refine sq_q (qt_move rfl) rfl ?_
    refine sq_q (qt_move rfl) rfl ?_
    refine sq_q (qt_index (i := done.length) rfl rfl hlt) rfl ?_
    refine sq_q (qt_load rfl (fun w t => t.o1 1 rfl hget)) rfl ?_
    refine sq_q (qt_len rfl) rfl ?_
    refine sq_q (qt_move rfl) rfl ?_
    refine sq_end ?_
    refine tr_block ?_
    refine tr_loop (fun vs : List Int => vs.length ≤ C ∧ vs = (List.range vs.length).map fun j => g.l.getD (done.length * C + j) 0)
      (fun vs => [(1, .int .i64 (k : Int)), (2, .pointer (some ⟨r2, 0, none⟩)), (5, .pointer (some ⟨r12, 0, none⟩)), (6, .slice (some ⟨r19, 0, none⟩) R R), (7, .int .i64 (done.length : Int)), (21, .int .i64 (R : Int)), (22, .int .i64 (done.length : Int)), (39, .int .i64 (C : Int)), (40, .int .i64 (vs.length : Int))])
      (fun vs => [(r33, .cells (i64s (vs ++ List.replicate (C - vs.length) 0)).toArray 2 (0, 0)), (r19, .cells ((done.map Xr.v ++ [Value.slice (some ⟨r33, 0, none⟩) C C]) ++ List.replicate kk (Value.slice none 0 0)).toArray 71 (0, 0)), (r12, tapeO g.p.1 g.l g.p.2 (min (done.length * C + vs.length) g.l.length)), (r2, .cells g.v.cells 31 (0, 0))])
      (fun vs w => ∀ q ∈ done, q.ok w) (fun vs => C - vs.length) [] ⟨Nat.zero_le _, rfl⟩ ⟨rfl, rfl, rfl, rfl, rfl, rfl, rfl, rfl, rfl, trivial⟩ rfl (fun _ h => h) ?_
    rintro vs ⟨hvl, hvs⟩
    refine tr_rseq ?_
    refine sq_q (qt_bin rfl rfl bin_lss) rfl ?_
    refine sq_end ?_
    refine tr_seq ?_
    refine tr_if rfl (fun hc => ?_) (fun hc => ?_)
    ·
      have hlt2 : vs.length < C := by have := of_decide_eq_true hc; omega
      refine tr_skip ?_
      repeat with_reducible first | refine tr_skip ?_ | refine tr_exit ?_ | refine tr_then ?_ | refine tr_inX ?_ | refine tr_thenX ?_ | refine tr_inN ?_ | refine tr_inR ?_ | refine tr_thenR ?_
      refine tr_seq ?_
      refine tr_block ?_
      refine tr_rseq ?_
      refine sq_q (qt_move rfl) rfl ?_
      refine sq_q (qt_assign rfl) rfl ?_
      refine sq_end ?_
      obtain ⟨v, hv⟩ : ∃ v, v = g.l.getD (done.length * C + vs.length) 0 := ⟨_, rfl⟩
      have hnext : ∀ (w : World) (_ : w.os = w0.os) {own : Own} {Rr : World → Prop} (t : SS w0 [] S own Rr w) (_ : w.heap[r12]? = some (tapeO g.p.1 g.l g.p.2 (min (done.length * C + vs.length) g.l.length))) (_ : r12 < w.heap.size ∧ (r12 ∈ ([] : List Nat) ∨ w0.heap.size ≤ r12)), RetU Try.prog 84 [.pointer (some ⟨r12, 0, none⟩)] w r12 (fun _ : Unit => .int .i64 v) (fun _ => tapeO g.p.1 g.l g.p.2 (min (done.length * C + vs.length + 1) g.l.length)) (fun _ => True) := by
        intro w _ own Rr t ho hlt12
        have h := next_ret g.l g.p.1 g.p.2 (min (done.length * C + vs.length) g.l.length) r12 w (t.rd hg.2.2.1) (fun h0 r' o e => by
          obtain ⟨r'', o'', e', ha⟩ := hg.2.2.1.at_ (i8s_get h0)
          rw [e] at e'
          injection e' with e'
          injection e' with e1 _ _
          have h1 := ha.lt
          have h2 := hlt12.2.resolve_left (by simp)
          omega) hg.2.2.2.2.1 (by omega) hg.2.2.2.2.2 ho
        have e1 : g.l.getD (min (done.length * C + vs.length) g.l.length) 0 = v := by
          rw [hv]
          by_cases hh : done.length * C + vs.length ≤ g.l.length
          · rw [Nat.min_eq_left hh]
          · rw [List.getD_eq_getElem?_getD, List.getD_eq_getElem?_getD, List.getElem?_eq_none (by omega), List.getElem?_eq_none (by omega)]
        have e2 : min (min (done.length * C + vs.length) g.l.length + 1) g.l.length = min (done.length * C + vs.length + 1) g.l.length := by omega
        rw [e1, e2] at h
        exact h
      have hown : [(r33, .cells (wr (i64s (vs ++ List.replicate (C - vs.length) 0)) (0 + vs.length * 1) (Value.int .i64 v).cells.toList).toArray 2 (0, 0)), (r19, .cells ((done.map Xr.v ++ [Value.slice (some ⟨r33, 0, none⟩) C C]) ++ List.replicate kk (Value.slice none 0 0)).toArray 71 (0, 0)), (r12, tapeO g.p.1 g.l g.p.2 (min (done.length * C + vs.length + 1) g.l.length)), (r2, .cells g.v.cells 31 (0, 0))] = [(r33, .cells (i64s ((vs ++ [v]) ++ List.replicate (C - (vs.length + 1)) 0)).toArray 2 (0, 0)), (r19, .cells ((done.map Xr.v ++ [Value.slice (some ⟨r33, 0, none⟩) C C]) ++ List.replicate kk (Value.slice none 0 0)).toArray 71 (0, 0)), (r12, tapeO g.p.1 g.l g.p.2 (min (done.length * C + vs.length + 1) g.l.length)), (r2, .cells g.v.cells 31 (0, 0))] := by
        refine own1c ?_
        have e : C - vs.length = (C - (vs.length + 1)) + 1 := by omega
        have := next_set vs (C - (vs.length + 1)) 0 v
        rw [← e] at this
        rw [← this, ← i64s_set, Nat.zero_add, Nat.mul_one]
        rfl
      refine tr_cutL (ι := Unit) (fun _ => True) (fun _ => [(1, .int .i64 (k : Int)), (2, .pointer (some ⟨r2, 0, none⟩)), (5, .pointer (some ⟨r12, 0, none⟩)), (6, .slice (some ⟨r19, 0, none⟩) R R), (7, .int .i64 (done.length : Int)), (21, .int .i64 (R : Int)), (22, .int .i64 (done.length : Int)), (39, .int .i64 (C : Int)), (40, .int .i64 (vs.length : Int))]) (fun _ => [(r33, .cells (i64s ((vs ++ [v]) ++ List.replicate (C - (vs.length + 1)) 0)).toArray 2 (0, 0)), (r19, .cells ((done.map Xr.v ++ [Value.slice (some ⟨r33, 0, none⟩) C C]) ++ List.replicate kk (Value.slice none 0 0)).toArray 71 (0, 0)), (r12, tapeO g.p.1 g.l g.p.2 (min (done.length * C + vs.length + 1) g.l.length)), (r2, .cells g.v.cells 31 (0, 0))]) (fun _ w => ∀ q ∈ done, q.ok w) ?_ (fun _ _ => ?_)
      · refine tr_sc ?_
        refine sc_take 0 rfl (by kernel_rfl) (by repeat (first | exact pk_body | refine pk_then ?_ | refine pk_in ?_)) (qt_move rfl) rfl ?_
        refine sc_take 1 rfl (by kernel_rfl) (by repeat (first | exact pk_body | refine pk_then ?_ | refine pk_in ?_)) (qt_move rfl) rfl ?_
        refine sc_take 2 rfl (by kernel_rfl) (by repeat (first | exact pk_body | refine pk_then ?_ | refine pk_in ?_)) (qt_index (i := done.length) rfl rfl hlt) rfl ?_
        refine sc_take 4 rfl (by kernel_rfl) (by repeat (first | exact pk_body | refine pk_then ?_ | refine pk_in ?_)) (qt_move rfl) rfl ?_
        refine sc_take 5 rfl (by kernel_rfl) (by repeat (first | exact pk_body | refine pk_then ?_ | refine pk_in ?_)) (qt_move rfl) rfl ?_
        refine sc_two 3 6 (by kernel_rfl) ?_ ?_
        · refine so_q rfl (qt_load (v := .slice (some ⟨r33, 0, none⟩) C C) rfl (fun w t => t.o1 1 rfl hget)) rfl ?_
          refine sc_one 6 (by kernel_rfl) ?_
          refine so_callU 2 (fun _ : Unit => .int .i64 v) (fun _ => tapeO g.p.1 g.l g.p.2 (min (done.length * C + vs.length + 1) g.l.length)) (fun _ => True) rfl rfl rfl rfl rfl (fun w t => hnext w t.os t (t.has _ (ownAt_mem (i := 2) rfl)) (t.lt _ (ownAt_mem (i := 2) rfl))) fun _ _ => ?_
          refine sc_one 7 (by kernel_rfl) ?_
          refine so_q rfl (qt_index (i := vs.length) rfl rfl hlt2) rfl ?_
          refine sc_one 8 (by kernel_rfl) ?_
          refine so_store 0 rfl rfl rfl rfl rfl (show 0 + vs.length * 1 + 1 ≤ (i64s (vs ++ List.replicate (C - vs.length) 0)).length by simp [i64s]; omega) rfl rfl ?_
          refine sc_end (by kernel_rfl) ?_
          exact tr_mid () trivial ⟨rfl, rfl, rfl, rfl, rfl, rfl, rfl, rfl, rfl, trivial⟩ hown (fun _ h => h)
        · refine so_callU 2 (fun _ : Unit => .int .i64 v) (fun _ => tapeO g.p.1 g.l g.p.2 (min (done.length * C + vs.length + 1) g.l.length)) (fun _ => True) rfl rfl rfl rfl rfl (fun w t => hnext w t.os t (t.has _ (ownAt_mem (i := 2) rfl)) (t.lt _ (ownAt_mem (i := 2) rfl))) fun _ _ => ?_
          refine sc_one 3 (by kernel_rfl) ?_
          refine so_q rfl (qt_load (v := .slice (some ⟨r33, 0, none⟩) C C) rfl (fun w t => t.o1 1 rfl hget)) rfl ?_
          refine sc_one 7 (by kernel_rfl) ?_
          refine so_q rfl (qt_index (i := vs.length) rfl rfl hlt2) rfl ?_
          refine sc_one 8 (by kernel_rfl) ?_
          refine so_store 0 rfl rfl rfl rfl rfl (show 0 + vs.length * 1 + 1 ≤ (i64s (vs ++ List.replicate (C - vs.length) 0)).length by simp [i64s]; omega) rfl rfl ?_
          refine sc_end (by kernel_rfl) ?_
          exact tr_mid () trivial ⟨rfl, rfl, rfl, rfl, rfl, rfl, rfl, rfl, rfl, trivial⟩ hown (fun _ h => h)
      repeat with_reducible first | refine tr_skip ?_ | refine tr_exit ?_ | refine tr_then ?_ | refine tr_inX ?_ | refine tr_thenX ?_ | refine tr_inN ?_ | refine tr_inR ?_ | refine tr_thenR ?_
      refine tr_region ?_
      refine sq_q (qt_bin rfl rfl (bin_addI (by omega) (by omega))) rfl ?_
      refine sq_q (qt_move rfl) rfl ?_
      refine sq_nil ?_
      repeat with_reducible first | refine tr_skip ?_ | refine tr_exit ?_ | refine tr_then ?_ | refine tr_inX ?_ | refine tr_thenX ?_ | refine tr_inN ?_ | refine tr_inR ?_ | refine tr_thenR ?_
      refine tr_round (vs ++ [v]) ⟨by simp; omega, ?_⟩ (by simp; omega) ⟨rfl, rfl, rfl, rfl, rfl, rfl, rfl, rfl, by rw [List.length_append]; rfl, trivial⟩ (by rw [List.length_append, List.length_singleton]; rfl) (fun _ h => h)
      rw [List.length_append, List.length_singleton, List.range_succ, List.map_append, ← hvs, hv]
      rfl
    ·
      have hve : vs.length = C := by have := of_decide_eq_false hc; omega
      refine tr_exit ?_
      repeat with_reducible first | refine tr_skip ?_ | refine tr_exit ?_ | refine tr_then ?_ | refine tr_inX ?_ | refine tr_thenX ?_ | refine tr_inN ?_ | refine tr_inR ?_ | refine tr_thenR ?_
      refine tr_retire ?_
      refine tr_region ?_
      refine sq_q (qt_bin rfl rfl (bin_addI (by omega) (by omega))) rfl ?_
      refine sq_q (qt_move rfl) rfl ?_
      refine sq_nil ?_
      repeat with_reducible first | refine tr_skip ?_ | refine tr_exit ?_ | refine tr_then ?_ | refine tr_inX ?_ | refine tr_thenX ?_ | refine tr_inN ?_ | refine tr_inR ?_ | refine tr_thenR ?_
      refine tr_round (done ++ [⟨vs, (some ⟨r33, 0, none⟩, C)⟩]) ⟨by simp; omega, ?_⟩ (by simp; omega) ⟨rfl, rfl, rfl, rfl, rfl, by simp; rfl, trivial⟩ ?_ ?_
      · rw [List.length_append, List.length_singleton, List.range_succ, List.map_append, List.map_append, hzd, List.map_singleton, List.map_singleton]
        congr 2
        rw [← hve]
        rw [← hve] at hvs
        exact hvs
      · rw [List.length_append, List.length_singleton, hkk', List.map_append]
        simp only [List.map_cons, List.map_nil, Xr.v, hve, Nat.add_mul, Nat.one_mul]
      · rintro w ⟨h2, h3⟩ q hq
        rcases List.mem_append.1 hq with h | h
        · exact h2 q h
        · rw [List.mem_singleton.1 h]
          rw [hve, Nat.sub_self, List.replicate_zero, List.append_nil] at h3
          refine ⟨Rd.own h3, Nat.le_of_eq hve, fun a ha => ?_⟩
          have ha : a ∈ vs := ha
          rw [hvs] at ha
          obtain ⟨j, _, rfl⟩ := List.mem_map.1 ha
          exact Gd.small hg _
  ·
    have hlr : done.length = R := by have := of_decide_eq_false hc; omega
    refine tr_exit ?_
    repeat with_reducible first | refine tr_skip ?_ | refine tr_exit ?_ | refine tr_then ?_ | refine tr_inX ?_ | refine tr_thenX ?_ | refine tr_inN ?_ | refine tr_inR ?_ | refine tr_thenR ?_
    refine tr_rseq ?_
    refine sq_q (qt_move rfl) rfl ?_
    refine sq_q (qt_assign rfl) rfl ?_
    refine sq_end ?_
    refine tr_ret ?_
    repeat with_reducible first | refine tr_skip ?_ | refine tr_exit ?_ | refine tr_then ?_ | refine tr_inX ?_ | refine tr_thenX ?_ | refine tr_inN ?_ | refine tr_inR ?_ | refine tr_thenR ?_
    refine tr_done ⟨done, (some ⟨r19, 0, none⟩, R)⟩ (fun a w s t => results_1 rfl (resv_tmp s ?_)) (fun w h ho _ => ⟨⟨?_, Nat.le_of_eq hlr, h⟩, ?_⟩)
    · unfold Xm.v
      rw [hlr]
      rfl
    · have := Rd.own (ho _ (ownAt_mem (i := 0) rfl))
      rwa [hlr, Nat.sub_self, List.replicate_zero, List.append_nil] at this
    · show done.map Xr.l = _
      rw [hzd, hlr]
      rfl
end Go.Qk
end
section
set_option linter.unusedVariables false
namespace Go.Qk
open Go Go.Proofs Go.RowKit
theorem xm_lens {m : Xm} {f : Nat → Nat → Int} {r c : Nat} (h : m.zs = grid f r c) : m.rs.length = r ∧ ∀ q ∈ m.rs, q.l.length = c := by
  have h1 := congrArg List.length h
  simp only [Xm.zs, grid, List.length_map, List.length_range] at h1
  refine ⟨h1, fun q hq => ?_⟩
  have h2 : q.l ∈ m.zs := List.mem_map.2 ⟨q, hq, rfl⟩
  rw [h] at h2
  simp only [grid, List.mem_map] at h2
  obtain ⟨i, _, e⟩ := h2
  rw [← e]
  simp
theorem shp_grid (f : Nat → Nat → Int) {r c : Nat} (hr : 1 ≤ r) (hr16 : r ≤ 16) (hc : 1 ≤ c) (hc16 : c ≤ 16) : shp (grid f r c) = some (r, c) := by
  have hl : (grid f r c).length = r := by simp [grid]
  have hq : ∀ i (h : i < (grid f r c).length), (grid f r c)[i].length = c := fun i h => by simp [grid]
  have h := shp_some (L := grid f r c) (by omega) (by omega) (by rw [hq]; exact hc) (by rw [hq]; exact hc16) (fun i hi => by rw [hq, hq])
  rw [h, hq, hl]
theorem Gd.keep (g : Gd) {k : Nat} (hk : 1 ≤ k) (hk16 : k ≤ 16) : keepO (g.zs k) = some (g.zs k) := by
  have h1 := Nat.mod_lt g.r (show 0 < k by omega)
  have h2 := Nat.mod_lt g.c (show 0 < k by omega)
  unfold keepO Gd.zs
  rw [shp_grid _ (by omega) (by omega) (by omega) (by omega)]
  rfl
end Go.Qk
end
section
set_option linter.unusedVariables false
namespace Go.Qk
open Go Go.Proofs Go.RowKit
set_option maxRecDepth 100000
set_option maxHeartbeats 4000000
theorem gmatrix_ret (g : Gd) (k : Nat) (w0 : World) (S : Nat → Prop) (hg : g.ok w0) (hk : 1 ≤ k) (hk16 : k ≤ 16) :
    Ret Try.prog 30 [g.v, .int .i64 (k : Int)] w0 S Mt.v (fun m w => m.ok 2 w ∧ m.zs = g.zs k ∧ m.can) := by
  refine ret_of Try.func30 rfl Try.ntmps30 rfl ?_
  refine tr_rseq ?_
  refine sq_box rfl rfl fun r2 => ?_
  refine sq_q (qt_assign rfl) rfl ?_
  refine sq_end ?_
  refine tr_rseq ?_
  refine sq_q (qt_load_agg (vs := [.int .u8 (g.r : Int), .int .u8 (g.c : Int), .slice g.p.1 g.l.length g.p.2]) rfl rfl (fun w t j v hv => by rw [Nat.zero_add]; exact t.atO 0 rfl hv)) rfl ?_
  refine sq_q (qt_move rfl) rfl ?_
  refine sq_call Xm.v (fun m w => m.ok w ∧ m.zs = g.zs k) rfl rfl rfl (fun w t => ints_ret g k w _ (t.gd hg) hk hk16) fun m => ?_
  refine sq_have (fun w t => t.r.2.2) fun hz => ?_
  obtain ⟨hl, hr⟩ := xm_lens hz
  have h1 := Nat.mod_lt g.r (show 0 < k by omega)
  have h2 := Nat.mod_lt g.c (show 0 < k by omega)
  refine sq_call Mt.v (optF 2 (some (g.zs k))) rfl rfl rfl (fun w t => by have h := fun S' => of_ret m w S' t.r.2.1 (by omega) (fun r hr' => by rw [hr r hr']; omega); rw [hz, g.keep hk hk16] at h; exact h _) fun m2 => ?_
  refine sq_q (qt_assign rfl) rfl ?_
  refine sq_end ?_
  refine tr_ret ?_
  repeat with_reducible first | refine tr_skip ?_ | refine tr_exit ?_ | refine tr_then ?_ | refine tr_inX ?_ | refine tr_thenX ?_ | refine tr_inN ?_ | refine tr_inR ?_ | refine tr_thenR ?_
  exact tr_done m2 (fun a w s t => results_1 rfl (resv_tmp s rfl)) (fun w h _ _ => h.2)
end Go.Qk
end
section
set_option linter.unusedVariables false
namespace Go.Qk
open Go Go.Proofs Go.RowKit
theorem mt_ent {m : Mt} {i j : Nat} (hi : i < m.rs.length) (hj : j < m.rs[i].l.length) : ent m.zs i j = m.rs[i].l[j].z := by
  rw [ent_at (by rw [m.zs_len]; exact hi) (by rw [m.zs_at hi, Rw.zs_len]; exact hj)]
  simp [m.zs_at hi, Rw.zs]
theorem mt_shp {m : Mt} {r c : Nat} (h : shp m.zs = some (r, c)) : m.rs.length = r ∧ 1 ≤ r ∧ r ≤ 16 ∧ 1 ≤ c ∧ c ≤ 16 ∧ ∀ q ∈ m.rs, q.l.length = c := by
  obtain ⟨h1, h2, h3, h4, h5, h6⟩ := shp_inv h
  rw [m.zs_len] at h1
  exact ⟨h1, h2, h3, h4, h5, fun q hq => by have := h6 q.zs (List.mem_map.2 ⟨q, hq, rfl⟩); rwa [Rw.zs_len] at this⟩
end Go.Qk
end
section
set_option linter.unusedVariables false
namespace Go.Qk
open Go Go.Proofs Go.RowKit Go.ChangeShapes Go.WideShapes Go.Deep
section
variable {H : Type} {enc : TypeId × Value → H} {w : World} {fuel : Nat} {x : DataW H × List MemPlace} {cs : List Value}
theorem bytes_i8 : Try.prog.bytesOf 106 = 1 := by kernel_rfl
theorem cells_i8 : Try.prog.cellsOf 106 = 1 := by kernel_rfl
theorem cells_u8 : Try.prog.cellsOf 5 = 1 := by kernel_rfl
theorem cells_i8s : Try.prog.cellsOf 29 = 1 := by kernel_rfl
theorem cells_grid : Try.prog.cellsOf 31 = 3 := by kernel_rfl
theorem und_grid : ∃ f0 f1 f2 : Field, Try.prog.underlying 31 = some (.struct #[f0, f1, f2]) ∧ f0.offset = 0 ∧ f1.offset = 1 ∧ f2.offset = 2 ∧ f0.type = 5 ∧ f1.type = 5 ∧ f2.type = 29 := ⟨_, _, _, Try.underlying31, rfl, rfl, rfl, rfl, rfl, rfl⟩
theorem open_i8row (h : DataW.trod enc Try.prog w 0 (fun _ => true) true fuel 29 cs = some x) (hw : ∀ n ∈ x.1.weights Try.prog 29, n ≤ reachBytes) : ∃ (l : List Int) (p : Sv), cs = [.slice p.1 l.length p.2] ∧ Rd p.1 (i8s l) w ∧ l.length ≤ p.2 ∧ (∀ a ∈ l, -128 ≤ a ∧ a < 128) ∧ l.length ≤ 281474976710656 := by
  obtain ⟨zs, p, rfl, h1, h2, h3, h4⟩ := open_row1 Try.underlying29 Try.underlying106 cells_i8 h hw
  refine ⟨zs, p, rfl, h1, h2, fun a ha => wf_i8 (h3 a ha), ?_⟩
  have h5 := Nat.le_trans h4 (Nat.le_refl reachBytes)
  rw [bytes_i8, Nat.mul_one] at h5
  exact Nat.le_trans h5 (by unfold reachBytes; decide)
set_option maxRecDepth 100000 in
theorem open_grid {base : Nat} {v : Value} {d : DataW H} {p : List MemPlace} (hv : Value.okWide Try.prog w .any base 31 v) (h : DataW.Trod enc Try.prog w 0 (fun _ => true) true 31 v d p) (hw : ∀ n ∈ d.weights Try.prog 31, n ≤ reachBytes) : ∃ g : Gd, v = g.v ∧ g.ok w := by
  obtain ⟨f0, f1, f2, hu, o0, o1, o2, t0, t1, t2⟩ := und_grid
  obtain ⟨cs, rfl, hsz⟩ := okWide_struct hu hv
  rw [cells_grid] at hsz
  obtain ⟨fu, hf⟩ := h
  obtain ⟨xs, n, _, hx, _, hxl, hxs⟩ := DataW.trod_struct hu hf
  match cs, hsz with
  | ⟨[c0, c1, c2]⟩, _ =>
    match xs, hxl with
    | [y0, y1, y2], _ =>
      have h0 := hxs 0 f0 rfl
      have h1 := hxs 1 f1 rfl
      have h2 := hxs 2 f2 rfl
      rw [o0, t0, cells_u8] at h0
      rw [o1, t1, cells_u8] at h1
      rw [o2, t2, cells_i8s] at h2
      simp only [Value.cells, List.drop, List.take, List.getElem?_cons_zero, List.getElem?_cons_succ] at h0 h1 h2
      obtain ⟨r, e0, _, r1⟩ := DataW.trod_int Try.underlying5 h0
      obtain ⟨c, e1, _, c1'⟩ := DataW.trod_int Try.underlying5 h1
      obtain ⟨l, q, e2, l1, l2, l3, l4⟩ := open_i8row h2 (fun k hk => hw k (by
        injection hx with hx _
        rw [hx]
        simp only [DataW.weights, hu, List.map_cons, List.map_nil, DataW.weightsEach, t2, List.mem_append]
        exact .inr (.inr (.inl hk))))
      have r2 := wf_u8 r1
      have c2' := wf_u8 c1'
      obtain ⟨rn, rfl⟩ := Int.eq_ofNat_of_zero_le r2.1
      obtain ⟨cn, rfl⟩ := Int.eq_ofNat_of_zero_le c2'.1
      simp only [List.cons.injEq, and_true] at e0 e1 e2
      refine ⟨⟨rn, cn, l, q⟩, ?_, by dsimp only; omega, by dsimp only; omega, l1, l2, l4, l3⟩
      rw [e0, e1, e2]
      rfl
end
end Go.Qk
end
section
set_option linter.unusedVariables false
namespace Go.Qk
open Go Go.Proofs Go.RowKit
theorem bits_of {o : Option (List (List Int))} {m : Mt} {n B : Nat} {w : World} (h : optF B o m w) (h1 : (o.getD []).length ≤ n) (h2 : ∀ q ∈ o.getD [], q.length ≤ n) : m.rs.length ≤ n ∧ ∀ r ∈ m.rs, r.l.length ≤ n := lens_of h.2.1 n h1 h2
/-- two answers of one thing are the same -/
theorem same_opt {o : Option (List (List Int))} {m m' : Mt} {B B' : Nat} {w : World} {S : Nat → Prop} (h : optF B o m w) (h' : optF B' o m' w) (hB : B ≤ 35184372088832) (hB' : B' ≤ 35184372088832) (h1 : (o.getD []).length ≤ 35184372088832) (h2 : ∀ q ∈ o.getD [], q.length ≤ 35184372088832) :
    Ret Try.prog 22 [m.v, m'.v] w S (fun _ : Unit => .bool true) (fun _ _ => True) := by
  obtain ⟨a1, a2⟩ := bits_of h h1 h2
  obtain ⟨b1, b2⟩ := bits_of h' h1 h2
  have hh := same_ret m m' (max B B') w S (h.1.mono (Nat.le_max_left _ _)) (h'.1.mono (Nat.le_max_right _ _)) h.2.2 h'.2.2 (Nat.max_le.2 ⟨hB, hB'⟩) a1 b1 a2 b2
  rw [decide_eq_true (show m.zs = m'.zs by rw [h.2.1, h'.2.1])] at hh
  exact hh
theorem grid_lens (f : Nat → Nat → Int) (r c : Nat) {n : Nat} (hr : r ≤ n) (hc : c ≤ n) : ((some (grid f r c)).getD []).length ≤ n ∧ ∀ q ∈ (some (grid f r c)).getD [], q.length ≤ n := by
  refine ⟨by simpa [grid] using hr, fun q hq => ?_⟩
  simp only [Option.getD_some, grid, List.mem_map] at hq
  obtain ⟨i, _, rfl⟩ := hq
  simpa using hc
theorem none_lens {n : Nat} : ((none : Option (List (List Int))).getD []).length ≤ n ∧ ∀ q ∈ (none : Option (List (List Int))).getD [], q.length ≤ n := ⟨by simp, fun q hq => by simp at hq⟩
end Go.Qk
end
section
set_option linter.unusedVariables false
set_option linter.unusedSimpArgs false
namespace Go.Qk
abbrev Mf := Nat → Nat → Int
def tr (g : Mf) : Mf := fun a b => g b a
section
variable {n : Nat} {F : Mf → Int}
end
end Go.Qk
end
section
set_option linter.unusedVariables false
namespace Go.Qk
open Go Go.Proofs Go.RowKit
def trP (o : Option (Nat × Nat)) (L : List (List Int)) : Option (List (List Int)) := match o with
  | some rc => some (grid (tr (ent L)) rc.2 rc.1)
  | none => none
def trO (L : List (List Int)) : Option (List (List Int)) := trP (shp L) L
theorem trO_lens (L : List (List Int)) {n : Nat} (hn : 16 ≤ n) : ((trO L).getD []).length ≤ n ∧ ∀ q ∈ (trO L).getD [], q.length ≤ n := by
  unfold trO trP
  split
  · rename_i rc h1
    obtain ⟨r, c⟩ := rc
    obtain ⟨g1, g2, g3, g4, g5, g6⟩ := shp_inv h1
    exact grid_lens _ _ _ (by dsimp only; omega) (by dsimp only; omega)
  · exact none_lens
theorem zd_natAbs (z : Zd) : z.z.natAbs = val z.xs := sgn_natAbs _ _
theorem rnorm_zd {z : Zd} {B : Nat} {w : World} {S : Nat → Prop} (h : z.ok B w) (hB : B ≤ 35184372088832) : Ret Try.prog 91 [z.v] w S (iv z.z) (Lz z.z.natAbs) := by
  have g := rnormalize_ret z.n z.xs z.p w S h.1 h.2.1 (by have := h.2.2; omega)
  rw [zd_natAbs]
  exact g
theorem mt_lens {m : Mt} {f : Nat → Nat → Int} {r c : Nat} (h : m.zs = grid f r c) : m.rs.length = r ∧ ∀ q ∈ m.rs, q.l.length = c := by
  have h1 := congrArg List.length h
  simp only [Mt.zs, grid, List.length_map, List.length_range] at h1
  refine ⟨h1, fun q hq => ?_⟩
  have h2 : q.zs ∈ m.zs := List.mem_map.2 ⟨q, hq, rfl⟩
  rw [h] at h2
  simp only [grid, List.mem_map] at h2
  obtain ⟨i, _, e⟩ := h2
  rw [← Rw.zs_len, ← e]
  simp
end Go.Qk
end
section
set_option linter.unusedVariables false
set_option linter.unusedSimpArgs false
namespace Go.Qk
open Go Go.RowKit
section
variable {P : Program} {n : Nat} {w0 : World} {X : List Nat} {S : Nat → Prop} {E : Env} {own : Own} {R : World → Prop} {Q : Exit → Act → World → Prop} {ops : Array Oper} {rest : List Oper} {ws : List Nat}
/-- in every order; operations that are not among 'ws' leave the old memory as it is -/
def wpAnyT (P : Program) (ops : Array Oper) (Q : Exit → Act → World → Prop) (ws : List Nat) : Nat → Array Bool → Act → World → Prop
  | 0, listed, a, w => Region.ready .any ops listed = [] ∧ Q .normal a w
  | fuel + 1, listed, a, w => (Region.ready .any ops listed = [] → Q .normal a w) ∧
    ∀ i ∈ Region.ready .any ops listed, wpOp P ops Q i (fun a' w' => (ws.contains i = false → Below w.heap.size w w') ∧ wpAnyT P ops Q ws fuel (listed.setIfInBounds i true) a' w') a w
theorem wpAny_of_T : ∀ (fuel : Nat) (listed : Array Bool) (a : Act) (w : World), wpAnyT P ops Q ws fuel listed a w → wpAny P .any ops Q fuel listed a w
  | 0, _, _, _, h => h
  | fuel + 1, _, _, _, h => ⟨h.1, fun i hi => wpOp_mono (fun a' w' h' => wpAny_of_T fuel _ a' w' h'.2) (h.2 i hi)⟩
theorem mem_aft {o : Oper} {k : Nat} : k ∈ aft o ↔ ∃ e ∈ o.after, Region.binds .any e = true ∧ e.on = k := by
  unfold aft
  simp only [List.mem_map, List.mem_filter, Array.mem_toList_iff]
  constructor
  · rintro ⟨e, ⟨h1, h2⟩, h3⟩; exact ⟨e, h1, h2, h3⟩
  · rintro ⟨e, h1, h2, h3⟩; exact ⟨e, ⟨h1, h2⟩, h3⟩
theorem closed_set {listed : Array Bool} {j : Nat} (hclo : ∀ q o, ops[q]? = some o → listed.getD q false = true → ∀ k ∈ aft o, listed.getD k false = true) (hj : j ∈ Region.ready .any ops listed) :
    ∀ q o, ops[q]? = some o → (listed.setIfInBounds j true).getD q false = true → ∀ k ∈ aft o, (listed.setIfInBounds j true).getD k false = true := by
  intro q o ho hq k hk
  refine getD_set_true ?_
  by_cases hqj : q = j
  · subst hqj
    obtain ⟨_, o', ho', hall⟩ := mem_ready.1 hj
    rw [ho] at ho'
    injection ho' with ho'
    subst ho'
    obtain ⟨e, he, hb, rfl⟩ := mem_aft.1 hk
    exact hall e he hb
  · rw [getD_set_ne false (Ne.symm hqj)] at hq
    exact hclo q o ho hq k hk
/-- the worlds in which an operation that is taken first must answer: all, or those in which the old memory is as it was -/
def Sw (pu : Bool) (w w' : World) : Prop := pu = true ∨ Below w.heap.size w w'
theorem wpAnyT_first (pu : Bool) {i : Nat} {oi : Oper} {v : Value} (hi : ops[i]? = some oi) (hsel : ∀ (j : Nat) (o : Oper) cs b, ops[j]? = some o → o.op ≠ .select cs b)
    (hQ : ∀ c a w, Q (.panic c) (a.put oi.dst v) w → Q (.panic c) a w) :
    ∀ (fuel : Nat) (listed : Array Bool) (a : Act) (w : World),
      (∀ s ∈ ws, ∀ o, ops[s]? = some o → pu = true ∨ listed.getD s false = true ∨ reach ops 2 (aft o) i = true) →
      (∀ j oj, ops[j]? = some oj → j ≠ i → listed.getD j true = false → (∀ e ∈ oj.after, Region.binds .any e = true → e.on ≠ i) → oi.apart ops oj = true) →
      (∀ q o, ops[q]? = some o → listed.getD q false = true → ∀ k ∈ aft o, listed.getD k false = true) →
      i ∈ Region.ready .any ops listed → YieldsIf P ops (Sw pu w) oi v a →
      wpAnyT P ops Q ws fuel (listed.setIfInBounds i true) (a.put oi.dst v) w → wpAnyT P ops Q ws (fuel + 1) listed a w := by
  intro fuel
  induction fuel with
  | zero =>
    intro listed a w _ _ _ hr hy H
    refine ⟨fun h => (by rw [h] at hr; cases hr), fun j hj => ?_⟩
    by_cases hji : j = i
    · subst hji; exact hy.wpOp hi (.inr (Below.refl _ _)) ⟨fun _ => Below.refl _ _, H⟩
    · have := ready_mono hj hji
      rw [H.1] at this
      cases this
  | succ fuel ih =>
    intro listed a w hws hfree hclo hr hy H
    refine ⟨fun h => (by rw [h] at hr; cases hr), fun j hj => ?_⟩
    by_cases hji : j = i
    · subst hji; exact hy.wpOp hi (.inr (Below.refl _ _)) ⟨fun _ => Below.refl _ _, H⟩
    · have h1 := H.2 j (ready_mono hj hji)
      obtain ⟨hjun, oj, hoj, hall⟩ := mem_ready.1 hj
      have hnl : listed.getD i false = false := by
        have h0 := (mem_ready.1 hr).1
        cases hq : listed.getD i false with
        | false => rfl
        | true =>
          exfalso
          rcases Nat.lt_or_ge i listed.size with h' | h'
          · simp [h'] at h0 hq; rw [h0] at hq; cases hq
          · simp [Array.getElem?_eq_none h'] at hq
      have hnot : ∀ e ∈ oj.after, Region.binds .any e = true → e.on ≠ i := fun e he hb heq => by
        have h1 := hall e he hb
        rw [heq, hnl] at h1
        cases h1
      have hnw : pu = true ∨ ws.contains j = false := by
        cases hc : ws.contains j with
        | false => exact .inr rfl
        | true =>
          refine (hws j (by simpa using hc) oj hoj).imp id fun h2 => ?_
          exfalso
          have h2 := h2.resolve_left fun h => (by
            rcases Nat.lt_or_ge j listed.size with h' | h'
            · simp [h'] at hjun h; rw [hjun] at h; cases h
            · simp [Array.getElem?_eq_none h'] at h)
          have h3 := reach_ok (D := fun k => listed.getD k false) hclo 2 (aft oj) i (fun k hk => by
            obtain ⟨e, he, hb, rfl⟩ := mem_aft.1 hk
            exact hall e he hb) h2
          rw [hnl] at h3
          cases h3
      have h2 := wpOp_putIf hoj (hfree j oj hoj hji hjun hnot) (fun cs b => hsel i oi cs b hi) (fun cs b => hsel j oj cs b hoj) hQ hy h1
      have hfree' : ∀ k ok, ops[k]? = some ok → k ≠ i → (listed.setIfInBounds j true).getD k true = false →
          (∀ e ∈ ok.after, Region.binds .any e = true → e.on ≠ i) → oi.apart ops ok = true := fun k ok hk hki hun hno => by
        refine hfree k ok hk hki ?_ hno
        by_cases hjk : j = k
        · subst hjk; exact hjun
        · rw [getD_set_ne true hjk] at hun; exact hun
      refine wpOp_mono (fun a' w' h3 => ?_) h2
      obtain ⟨h4, h5, h6⟩ := h3
      have hb : Sw pu w w' := hnw.imp id h5
      refine ⟨h5, ih (listed.setIfInBounds j true) a' w' (fun s hs o ho => (hws s hs o ho).imp id (·.imp getD_set_true id)) hfree' (closed_set hclo hj) (ready_mono hr (Ne.symm hji)) ?_ ?_⟩
      · rcases h4 with ⟨e1, e2⟩ | e1
        · refine .inl ⟨e1, fun w'' h => e2 w'' ?_⟩
          rcases h with h | h
          · exact .inl h
          · exact hb.imp id fun hb => hb.trans (h.mono hb.size)
        · exact .inr e1
      · rw [Array.setIfInBounds_comm _ _ hji]
        exact h6
def closedB (ops : Array Oper) (listed : Array Bool) : Bool := (List.range ops.size).all fun q => !listed.getD q false || match ops[q]? with
  | some o => (aft o).all fun k => listed.getD k false
  | none => true
theorem closedB_ok {listed : Array Bool} (h : closedB ops listed = true) : ∀ q o, ops[q]? = some o → listed.getD q false = true → ∀ k ∈ aft o, listed.getD k false = true := by
  intro q o ho hq k hk
  have hlt : q < ops.size := (Array.getElem?_eq_some_iff.1 ho).1
  have h1 := List.all_eq_true.1 h q (by simpa using hlt)
  rw [hq, ho] at h1
  simp only [Bool.not_true, Bool.false_or] at h1
  exact List.all_eq_true.1 h1 k hk
/-- may operation 'i' be taken now, though it reads memory? -/
def tkB (ops : Array Oper) (ws : List Nat) (listed : Array Bool) (i : Nat) : Bool := Region.noSelect ops && Region.free .any ops listed i && (Region.ready .any ops listed).contains i && closedB ops listed &&
  ws.all fun s => match ops[s]? with
    | some o => listed.getD s false || reach ops 2 (aft o) i
    | none => true
/-- a panic's end does not look at the slots -/
class PkI (Q : Exit → Act → World → Prop) : Prop where
  h : Pk Q
instance {k : Act → World → Prop} [h : PkI Q] : PkI (Exit.then k Q) := ⟨pk_then h.h⟩
instance {id : Nat} [h : PkI Q] : PkI (Exit.inBlock id Q) := ⟨pk_in h.h⟩
instance {fn : Func} {F : Ending → World → Prop} : PkI (bodyPost P fn F) := ⟨pk_body⟩
/-- the walk of such a region -/
def Sb (P : Program) (ops : Array Oper) (Q : Exit → Act → World → Prop) (n : Nat) (w0 : World) (X : List Nat) (S : Nat → Prop) (ws : List Nat) (fuel : Nat) (listed : Array Bool) (E : Env) (own : Own) (R : World → Prop) : Prop :=
  ∀ a w, St n a E → SS w0 X S own R w → wpAnyT P ops Q ws fuel listed a w
theorem tr_sb (ws : List Nat) [hM : Mx P] {id : Nat} {l : List Oper} (h : Sb P l.toArray Q n w0 X S ws l.length (Array.replicate l.length false) E own R) : Tr n w0 X S E own R ((Code.region id l.toArray true).wp P Q) := fun a w s t =>
  wp_region_any hM.m (wpAny_of_T _ _ _ _ (by have := h a _ s (t.drawn (w.drawn + 1)); simp only [List.size_toArray]; exact this))
/-- an operation that changes nothing is taken first -/
theorem sb_q (i : Nat) {fuel : Nat} {listed : Array Bool} {op : Op} {ty : TypeId} {v : Value} {d : Nat} {pos : String} {af : Array Edge} (hi : ops[i]? = some ⟨some d, op, ty, pos, af, none⟩) (hc : tkB ops ws listed i = true) [hQ : PkI Q]
    (hq : Qt P (SS w0 X S own R) (look E) op ty v) (hd : Nat.blt d n = true) (h : Sb P ops Q n w0 X S ws fuel (listed.setIfInBounds i true) ((d, v) :: E) own R) : Sb P ops Q n w0 X S ws (fuel + 1) listed E own R := by
  intro a w s t
  unfold tkB at hc
  simp only [Bool.and_eq_true] at hc
  refine wpAnyT_first false hi (Region.noSelect_spec hc.1.1.1.1) (fun c a w h => hQ.h c a w _ _ h) _ _ _ _ (fun q hq o ho => ?_) (Region.free_spec hi hc.1.1.1.2) (closedB_ok hc.1.2) (by simpa using hc.1.1.2) (.inl ⟨wanted_none rfl, fun w' hw' => hq _ w' s.agr (t.grow (hw'.resolve_left (by simp))) _ _ _ _⟩) (h _ _ (s.put hd v) t)
  have := List.all_eq_true.1 hc.2 q hq
  rw [ho] at this
  exact .inr ((Bool.or_eq_true _ _).mp this)
/-- one operation first, then the others -/
def Sbo (P : Program) (ops : Array Oper) (Q : Exit → Act → World → Prop) (n : Nat) (w0 : World) (X : List Nat) (S : Nat → Prop) (ws : List Nat) (fuel : Nat) (listed : Array Bool) (i : Nat) (E : Env) (own : Own) (R : World → Prop) : Prop :=
  ∀ a w, St n a E → SS w0 X S own R w → wpOp P ops Q i (fun a' w' => (ws.contains i = false → Below w.heap.size w w') ∧ wpAnyT P ops Q ws fuel (listed.setIfInBounds i true) a' w') a w
theorem sb_one (i : Nat) {fuel : Nat} {listed : Array Bool} (hr : Region.ready .any ops listed = [i]) (h1 : Sbo P ops Q n w0 X S ws fuel listed i E own R) : Sb P ops Q n w0 X S ws (fuel + 1) listed E own R := by
  intro a w s t
  unfold wpAnyT
  refine ⟨fun h => (by rw [hr] at h; cases h), fun k hk => ?_⟩
  rw [hr] at hk
  obtain rfl := List.mem_singleton.1 hk
  exact h1 a w s t
theorem sb_end {fuel : Nat} {listed : Array Bool} (hr : Region.ready .any ops listed = []) (h : Tr n w0 X S E own R (Q .normal)) : Sb P ops Q n w0 X S ws fuel listed E own R := fun a w s t => by
  cases fuel with
  | zero => unfold wpAnyT; exact ⟨hr, h a w s t⟩
  | succ f => unfold wpAnyT; exact ⟨fun _ => h a w s t, by rw [hr]; simp⟩
theorem so2_store {i : Nat} (k : Nat) {fuel : Nat} {listed : Array Bool} {t : TypeId} {agg : Bool} {sz by_ : Nat} {z : Value} [hT : TyI P t agg sz by_ z] {x y : Operand} {r off : Nat} {l : List Value} {e : TypeId} {v : Value} {ty : TypeId} {pos : String} {af : Array Edge} (hi : ops[i]? = some ⟨none, .store t x y, ty, pos, af, none⟩) (hw : ws.contains i = true)
    (hx : ev (look E) x = some (.pointer (some ⟨r, off, none⟩))) (hy : ev (look E) y = some v)
    (hk : ownAt own k = some (r, .cells l.toArray e (0, 0))) (hv : v.cells.size = sz) (hl : off + sz ≤ l.length) (hsz : Nat.blt 0 sz = true) (h1 : one' v.cells.toList = true)
    (h : Sb P ops Q n w0 X S ws fuel (listed.setIfInBounds i true) E (ownSet own k (.cells (wr l off v.cells.toList).toArray e (0, 0))) R) : Sbo P ops Q n w0 X S ws fuel listed i E own R := by
  intro a w s t'
  unfold wpOp
  rw [hi]
  refine (if_pos (wanted_none rfl)).mpr (.inl ?_)
  obtain ⟨w', e1, e2⟩ := run_storeVar_own (P := P) (t := t) (w := w) (off := off) (v := v) (t'.has _ (ownAt_mem hk)) hv hl (by simpa using hsz) (fun u hu => (List.all_eq_true.1 h1) u hu)
  have e : (execOp a.eval ⟨none, .store t x y, ty, pos, af, none⟩).run P w = .ok .skip w' := by
    simp only [execOp, s.agr x _ hx, s.agr y _ hy, Instr.storeAt, Instr.sureAddr, Sem.run_bind, Sem.run_pure, Result.andThen_ok, e1]
  unfold Oper.wp
  rw [e]
  exact ⟨fun hc => (by rw [hw] at hc; cases hc), h _ _ s (t'.upd hk e2)⟩
end
end Go.Qk
end
section
set_option linter.unusedVariables false
namespace Go.Qk
open Go Go.Proofs Go.RowKit
set_option maxRecDepth 100000
set_option maxHeartbeats 4000000
theorem transpose1_ret (m : Mt) (B b2 i j : Nat) (w : World) (S : Nat → Prop) (hm : m.ok B w) (hB : B ≤ 35184372088832) (h2 : At b2 0 m.v w) (hj : j < m.rs.length) (hi : i < m.rs[j].l.length) :
    Ret Try.prog 89 [.int .i64 (i : Int), .int .i64 (j : Int), .pointer (some ⟨b2, 0, none⟩)] w S (iv (tr (ent m.zs) i j)) (fun p w => Lz (tr (ent m.zs) i j).natAbs p w ∧ nl (tr (ent m.zs) i j).natAbs ≤ B) := by
  obtain ⟨ro, oo, evm, hat⟩ := hm.at_ (show 0 < m.rs.length by omega)
  obtain ⟨rr, orr, evr, hatr⟩ := (hm.2.2 _ (List.getElem_mem hj)).at_ (show 0 < m.rs[j].l.length by omega)
  rw [evm] at h2
  have hr := hat j hj
  rw [evr] at hr
  obtain ⟨hz0, hz1⟩ := hatr i hi
  have hzok := (hm.2.2 _ (List.getElem_mem hj)).2.2 _ (List.getElem_mem hi)
  rw [show tr (ent m.zs) i j = m.rs[j].l[i].z from mt_ent hj hi]
  have hbd := nl_zd hzok
  refine ret_of Try.func89 rfl Try.ntmps89 rfl ?_
  refine tr_rseq ?_
  refine sq_alloc rfl fun r5 => ?_
  refine sq_end ?_
  refine tr_rseq ?_
  refine sq_q (qt_load rfl (fun w t => t.atA h2)) rfl ?_
  refine sq_q (qt_move rfl) rfl ?_
  refine sq_q (qt_index (i := j) rfl rfl hj) rfl ?_
  refine sq_q (qt_load rfl (fun w t => t.a1 hr)) rfl ?_
  refine sq_q (qt_move rfl) rfl ?_
  refine sq_q (qt_index (i := i) rfl rfl hi) rfl ?_
  refine sq_q (qt_load2 rfl (fun w t => t.atA hz0) (fun w t => t.atA hz1)) rfl ?_
  refine sq_call (iv m.rs[j].l[i].z) (Lz m.rs[j].l[i].z.natAbs) rfl rfl rfl (fun w t => norm_zd (t.zd hzok) hB) fun x => ?_
  refine sq_store 0 rfl rfl rfl rfl (Nat.le_refl 2) rfl rfl ?_
  refine sq_end ?_
  refine tr_ret ?_
  repeat with_reducible first | refine tr_skip ?_ | refine tr_exit ?_ | refine tr_then ?_ | refine tr_inX ?_ | refine tr_thenX ?_ | refine tr_inN ?_ | refine tr_inR ?_ | refine tr_thenR ?_
  exact tr_done x (fun a w s t => results_1 rfl (resv_cell 0 s t rfl rfl rfl)) (fun w h _ _ => ⟨h.2, hbd⟩)
theorem transpose_ret (m : Mt) (B : Nat) (w0 : World) (S : Nat → Prop) (hm : m.ok B w0) (hB : B ≤ 35184372088832) (hl : m.rs.length ≤ 35184372088832) (hr : ∀ r ∈ m.rs, r.l.length ≤ 35184372088832) :
    Ret Try.prog 44 [m.v] w0 S (optV (trO m.zs)) (optF B (trO m.zs)) := by
  obtain ⟨o, ho⟩ : ∃ o, o = shp m.zs := ⟨_, rfl⟩
  have hO : trO m.zs = trP o m.zs := by rw [ho]; rfl
  rw [hO]
  clear hO
  refine ret_of Try.func44 rfl Try.ntmps44 rfl ?_
  refine tr_rseq ?_
  refine sq_box rfl rfl fun r1 => ?_
  refine sq_q (qt_assign rfl) rfl ?_
  refine sq_q (qt_assign rfl) rfl ?_
  refine sq_end ?_
  refine tr_rseq ?_
  refine sq_q (qt_load rfl (fun w t => t.atO 0 rfl rfl)) rfl ?_
  refine sq_call (val := fun _ : Unit => shpV o) (F := fun _ _ => True) rfl rfl rfl (fun w t => by rw [ho]; exact shape_ret m B w _ (t.mt hm) hl hr) fun _ => ?_
  refine sq_q (qt_move rfl) rfl ?_
  refine sq_q (qt_extract rfl rfl) rfl ?_
  refine sq_q (qt_extract rfl rfl) rfl ?_
  refine sq_q (qt_extract rfl rfl) rfl ?_
  refine sq_q (qt_assign rfl) rfl ?_
  refine sq_q (qt_assign rfl) rfl ?_
  refine sq_q (qt_assign rfl) rfl ?_
  refine sq_end ?_
  refine tr_seq ?_
  rcases (show o = none ∨ ∃ r c, o = some (r, c) by cases o with | none => exact .inl rfl | some x => exact .inr ⟨x.1, x.2, rfl⟩) with h1 | ⟨r, c, h1⟩
  ·
    subst h1
    rw [show trP none m.zs = none from rfl]
    refine tr_rseq ?_
    refine sq_q (qt_move rfl) rfl ?_
    refine sq_q (qt_not rfl) rfl ?_
    refine sq_end ?_
    refine tr_ifT rfl ?_
    refine tr_rseq ?_
    refine sq_q (qt_assign rfl) rfl ?_
    refine sq_q (qt_assign rfl) rfl ?_
    refine sq_end ?_
    refine tr_ret ?_
    repeat with_reducible first | refine tr_skip ?_ | refine tr_exit ?_ | refine tr_then ?_ | refine tr_inX ?_ | refine tr_thenX ?_ | refine tr_inN ?_ | refine tr_inR ?_ | refine tr_thenR ?_
    exact tr_done ⟨[], (none, 0)⟩ (fun a w s t => results_2 rfl (resv_tmp s rfl) (resv_tmp s rfl)) (fun w _ _ _ => optF_none _ _)
  ·
    subst h1
    rw [show trP (some (r, c)) m.zs = some (grid (tr (ent m.zs)) c r) from rfl]
    obtain ⟨g1, g2, g3, g4, g5, g6⟩ := mt_shp ho.symm
    refine tr_rseq ?_
    refine sq_q (qt_move rfl) rfl ?_
    refine sq_q (qt_not rfl) rfl ?_
    refine sq_end ?_
    refine tr_ifF rfl ?_
    refine tr_skip ?_
    repeat with_reducible first | refine tr_skip ?_ | refine tr_exit ?_ | refine tr_then ?_ | refine tr_inX ?_ | refine tr_thenX ?_ | refine tr_inN ?_ | refine tr_inR ?_ | refine tr_thenR ?_
    refine tr_rseq ?_
    refine sq_q (qt_move rfl) rfl ?_
    refine sq_q (qt_move rfl) rfl ?_
    refine sq_q (qt_makeFunc rfl) rfl ?_
    refine sq_call Mt.v (fun x w => x.ok B w ∧ x.zs = grid (tr (ent m.zs)) c r ∧ x.can) rfl rfl rfl (fun w t => ?_) fun x => ?_
    · exact build_ret c r B (tr (ent m.zs)) 89 [] [.pointer (some ⟨r1, 0, none⟩)] w _ (by omega) (by omega) (fun i j w' S' hi hj hbel => transpose1_ret m B r1 i j w' S' ((t.mt hm).below hbel) hB ((t.atO 0 rfl rfl).below hbel) (by omega) (by rw [g6 _ (List.getElem_mem _)]; exact hi))
    refine sq_q (qt_assign rfl) rfl ?_
    refine sq_q (qt_assign rfl) rfl ?_
    refine sq_end ?_
    refine tr_ret ?_
    repeat with_reducible first | refine tr_skip ?_ | refine tr_exit ?_ | refine tr_then ?_ | refine tr_inX ?_ | refine tr_thenX ?_ | refine tr_inN ?_ | refine tr_inR ?_ | refine tr_thenR ?_
    exact tr_done x (fun a w s t => results_2 rfl (resv_tmp s rfl) (resv_tmp s rfl)) (fun w h _ _ => h.2)
theorem rtranspose_ret (m : Mt) (B : Nat) (w0 : World) (S : Nat → Prop) (hm : m.ok B w0) (hB : B ≤ 35184372088832) (hl : m.rs.length ≤ 35184372088832) (hr : ∀ r ∈ m.rs, r.l.length ≤ 35184372088832) :
    Ret Try.prog 45 [m.v] w0 S (optV (trO m.zs)) (optF B (trO m.zs)) := by
  obtain ⟨o, ho⟩ : ∃ o, o = shp m.zs := ⟨_, rfl⟩
  have hO : trO m.zs = trP o m.zs := by rw [ho]; rfl
  rw [hO]
  clear hO
  refine ret_of Try.func45 rfl Try.ntmps45 rfl ?_
  refine tr_rseq ?_
  refine sq_q (qt_assign rfl) rfl ?_
  refine sq_q (qt_assign rfl) rfl ?_
  refine sq_end ?_
  refine tr_rseq ?_
  refine sq_q (qt_move rfl) rfl ?_
  refine sq_call (val := fun _ : Unit => shpV o) (F := fun _ _ => True) rfl rfl rfl (fun w t => by rw [ho]; exact rshape_ret m B w _ (t.mt hm) hl hr) fun _ => ?_
  refine sq_q (qt_move rfl) rfl ?_
  refine sq_q (qt_extract rfl rfl) rfl ?_
  refine sq_q (qt_extract rfl rfl) rfl ?_
  refine sq_q (qt_extract rfl rfl) rfl ?_
  refine sq_q (qt_assign rfl) rfl ?_
  refine sq_q (qt_assign rfl) rfl ?_
  refine sq_q (qt_assign rfl) rfl ?_
  refine sq_end ?_
  refine tr_seq ?_
  rcases (show o = none ∨ ∃ r c, o = some (r, c) by cases o with | none => exact .inl rfl | some x => exact .inr ⟨x.1, x.2, rfl⟩) with h1 | ⟨r, c, h1⟩
  ·
    subst h1
    rw [show trP none m.zs = none from rfl]
    refine tr_rseq ?_
    refine sq_q (qt_move rfl) rfl ?_
    refine sq_q (qt_not rfl) rfl ?_
    refine sq_end ?_
    refine tr_ifT rfl ?_
    refine tr_rseq ?_
    refine sq_q (qt_assign rfl) rfl ?_
    refine sq_q (qt_assign rfl) rfl ?_
    refine sq_end ?_
    refine tr_ret ?_
    repeat with_reducible first | refine tr_skip ?_ | refine tr_exit ?_ | refine tr_then ?_ | refine tr_inX ?_ | refine tr_thenX ?_ | refine tr_inN ?_ | refine tr_inR ?_ | refine tr_thenR ?_
    exact tr_done ⟨[], (none, 0)⟩ (fun a w s t => results_2 rfl (resv_tmp s rfl) (resv_tmp s rfl)) (fun w _ _ _ => optF_none _ _)
  ·
    subst h1
    rw [show trP (some (r, c)) m.zs = some (grid (tr (ent m.zs)) c r) from rfl]
    obtain ⟨g1, g2, g3, g4, g5, g6⟩ := mt_shp ho.symm
    refine tr_rseq ?_
    refine sq_q (qt_move rfl) rfl ?_
    refine sq_q (qt_not rfl) rfl ?_
    refine sq_end ?_
    refine tr_ifF rfl ?_
    refine tr_skip ?_
    repeat with_reducible first | refine tr_skip ?_ | refine tr_exit ?_ | refine tr_then ?_ | refine tr_inX ?_ | refine tr_thenX ?_ | refine tr_inN ?_ | refine tr_inR ?_ | refine tr_thenR ?_
    refine tr_rseq ?_
    refine sq_q (qt_move rfl) rfl ?_
    refine sq_q (qt_move rfl) rfl ?_
    refine sq_call (fun x : Nat × List Wr => .slice (some ⟨x.1, 0, none⟩) c c) (fun x w' => Fresh w0.heap.size (mown x.1 x.2) w' ∧ x.2.map (·.2) = List.replicate c (List.replicate r z0)) rfl rfl rfl (fun w t => zero_call t c r (by omega) (by omega)) fun x => ?_
    refine sq_q (qt_assign rfl) rfl ?_
    refine sq_end ?_
    obtain ⟨ob, qs⟩ := x
    refine tr_have (fun w t => t.r.2.2) fun hqs => ?_
    refine tr_adopt0 (mown ob qs) (fun w h => h.2.1) ?_
    obtain ⟨ro, oo, evm, hat⟩ := hm.at_ (show 0 < m.rs.length by omega)
    refine tr_seq ?_
    refine tr_rseq ?_
    refine sq_q (qt_move rfl) rfl ?_
    refine sq_q (qt_len rfl) rfl ?_
    refine sq_q (qt_move rfl) rfl ?_
    refine sq_end ?_
    refine tr_block ?_
    refine tr_loop2 (fun (i : Nat) (qs : List Wr) => i ≤ r ∧ MG (fun a b => if b < i then ent m.zs b a else 0) c r qs ∧ allz Zd.can qs) (fun i qs => [(0, m.v), (7, .slice (some ⟨ob, 0, none⟩) c c), (22, .int .i64 (r : Int)), (23, .int .i64 (i : Int))])
      (fun i qs => mown ob qs) (fun i qs w => allz (fun z => z.ok B w) qs) (fun i qs => r - i) 0 qs ⟨Nat.zero_le _, (MG.of_zero hqs).congr (fun a b _ _ => by rw [if_neg (by omega)]), allz.of_zero hqs z0_can⟩ ⟨rfl, rfl, congrArg (fun z => some (Value.int .i64 ((z : Nat) : Int))) g1, rfl, trivial⟩ rfl (fun w _ => allz.of_zero hqs (z0_ok B w)) ?_
    clear hqs qs
    rintro i qs ⟨hle, hG, hcan⟩
    refine tr_rseq ?_
    refine sq_q (qt_bin rfl rfl bin_lss) rfl ?_
    refine sq_end ?_
    refine tr_seq ?_
    refine tr_if rfl (fun hc => ?_) (fun hc => ?_)
    ·
      have hlt : i < r := by have := of_decide_eq_true hc; omega
      have hmi : i < m.rs.length := by omega
      have hcl := g6 _ (List.getElem_mem hmi)
      obtain ⟨rr, orr, evr, hatr⟩ := (hm.2.2 _ (List.getElem_mem hmi)).at_ (show 0 < m.rs[i].l.length by omega)
      have hrw := hat i hmi
      rw [evr] at hrw
      refine tr_sub [(0, .slice (some ⟨ro, oo, none⟩) m.rs.length m.p.2), (7, .slice (some ⟨ob, 0, none⟩) c c), (22, .int .i64 (r : Int)), (23, .int .i64 (i : Int))] ⟨congrArg some evm, rfl, rfl, rfl, trivial⟩ ?_
      refine tr_skip ?_
      repeat with_reducible first | refine tr_skip ?_ | refine tr_exit ?_ | refine tr_then ?_ | refine tr_inX ?_ | refine tr_thenX ?_ | refine tr_inN ?_ | refine tr_inR ?_ | refine tr_thenR ?_
      refine tr_seq ?_
      refine tr_block ?_
      refine tr_rseq ?_
      refine sq_q (qt_move rfl) rfl ?_
      refine sq_q (qt_assign rfl) rfl ?_
      refine sq_end ?_
      refine tr_rseq ?_
      refine sq_q (qt_move rfl) rfl ?_
      refine sq_q (qt_move rfl) rfl ?_
      refine sq_q (qt_index (i := i) rfl rfl hmi) rfl ?_
      refine sq_q (qt_load rfl (fun w t => t.a1 hrw)) rfl ?_
      refine sq_q (qt_len rfl) rfl ?_
      refine sq_q (qt_move rfl) rfl ?_
      refine sq_end ?_
      refine tr_block ?_
      have hG0 : MG (fun a b => if b < i ∨ (b = i ∧ a < 0) then ent m.zs b a else 0) c r qs := hG.congr fun a b _ _ => by
        by_cases h : b < i
        · rw [if_pos h, if_pos (.inl h)]
        · rw [if_neg h, if_neg (by omega)]
      refine tr_loop2 (fun (j : Nat) (qs : List Wr) => j ≤ c ∧ MG (fun a b => if b < i ∨ (b = i ∧ a < j) then ent m.zs b a else 0) c r qs ∧ allz Zd.can qs) (fun j qs => [(0, .slice (some ⟨ro, oo, none⟩) m.rs.length m.p.2), (7, .slice (some ⟨ob, 0, none⟩) c c), (8, .int .i64 (i : Int)), (22, .int .i64 (r : Int)), (23, .int .i64 (i : Int)), (30, .int .i64 (c : Int)), (31, .int .i64 (j : Int))])
        (fun j qs => mown ob qs) (fun j qs w => allz (fun z => z.ok B w) qs) (fun j qs => c - j) 0 qs ⟨Nat.zero_le _, hG0, hcan⟩ ⟨rfl, rfl, rfl, rfl, rfl, congrArg (fun z => some (Value.int .i64 ((z : Nat) : Int))) hcl, rfl, trivial⟩ rfl (fun w h => h) ?_
      clear hG0 hG hcan qs
      rintro j qs ⟨hjc, hG, hcan⟩
      refine tr_rseq ?_
      refine sq_q (qt_bin rfl rfl bin_lss) rfl ?_
      refine sq_end ?_
      refine tr_seq ?_
      refine tr_if rfl (fun hc => ?_) (fun hc => ?_)
      ·
        have hlt2 : j < c := by have := of_decide_eq_true hc; omega
        have hjl : j < m.rs[i].l.length := by omega
        obtain ⟨hz0, hz1⟩ := hatr j hjl
        have hzok := (hm.2.2 _ (List.getElem_mem hmi)).2.2 _ (List.getElem_mem hjl)
        have he : m.rs[i].l[j].z = ent m.zs i j := (mt_ent hmi hjl).symm
        have hbd : nl (ent m.zs i j).natAbs ≤ B := by rw [← he]; exact nl_zd hzok
        obtain ⟨q, hq, hql⟩ := hG.get hlt2
        refine tr_skip ?_
        repeat with_reducible first | refine tr_skip ?_ | refine tr_exit ?_ | refine tr_then ?_ | refine tr_inX ?_ | refine tr_thenX ?_ | refine tr_inN ?_ | refine tr_inR ?_ | refine tr_thenR ?_
        refine tr_seq ?_
        refine tr_block ?_
        refine tr_rseq ?_
        refine sq_q (qt_move rfl) rfl ?_
        refine sq_q (qt_assign rfl) rfl ?_
        refine sq_end ?_
        refine tr_draw 13 [] [] [0, 2, 3, 4, 5, 6, 7, 8, 9, 17, 22, 23, 24, 30, 31, 32, 37, 38, 46] (by kernel_rfl) ?_
        refine dx_q rfl (qt_move rfl) rfl ?_
        refine dx_q rfl (qt_move rfl) rfl ?_
        refine dx_q rfl (qt_index (i := j) rfl rfl hlt2) rfl ?_
        refine dx_q rfl (qt_load rfl (fun w t => t.o1 0 rfl (mout_get hq))) rfl ?_
        refine dx_q rfl (qt_move rfl) rfl ?_
        refine dx_q rfl (qt_move rfl) rfl ?_
        refine dx_q rfl (qt_move rfl) rfl ?_
        refine dx_q rfl (qt_index (i := i) rfl rfl hmi) rfl ?_
        refine dx_q rfl (qt_load rfl (fun w t => t.a1 hrw)) rfl ?_
        refine dx_q rfl (qt_move rfl) rfl ?_
        refine dx_q rfl (qt_index (i := j) rfl rfl hjl) rfl ?_
        refine dx_q rfl (qt_load2 rfl (fun w t => t.atA hz0) (fun w t => t.atA hz1)) rfl ?_
        refine dx_call (iv (ent m.zs i j)) (Lz (ent m.zs i j).natAbs) rfl rfl rfl (fun w t => by rw [← he]; exact rnorm_zd (t.zd hzok) hB) ?_
        refine dx_nil ?_
        repeat (first | refine es_val rfl ?_ rfl | refine es_skip rfl ?_)
        refine es_res rfl (fun x => ?_) rfl
        repeat (first | refine es_val rfl ?_ rfl | refine es_skip rfl ?_)
        refine es_nil rfl ?_
        refine tx_q (qt_index (i := i) rfl rfl (by omega)) rfl rfl rfl ?_
        refine tx_store (j + 1) rfl rfl (mown_at hq) rfl (show 0 + i * 2 + 2 ≤ (zcs q.2).length by rw [zcs_length, hql]; omega) rfl rfl rfl ?_
        refine tx_end ?_
        repeat with_reducible first | refine tr_skip ?_ | refine tr_exit ?_ | refine tr_then ?_ | refine tr_inX ?_ | refine tr_thenX ?_ | refine tr_inN ?_ | refine tr_inR ?_ | refine tr_thenR ?_
        refine tr_region ?_
        refine sq_q (qt_bin rfl rfl (bin_addI (by omega) (by omega))) rfl ?_
        refine sq_q (qt_move rfl) rfl ?_
        refine sq_nil ?_
        repeat with_reducible first | refine tr_skip ?_ | refine tr_exit ?_ | refine tr_then ?_ | refine tr_inX ?_ | refine tr_thenX ?_ | refine tr_inN ?_ | refine tr_inR ?_ | refine tr_thenR ?_
        refine tr_own (mown ob (qs.set j (q.1, q.2.set i (zd (ent m.zs i j) x)))) (mown_wr (zd (ent m.zs i j) x) hq (by omega)) ?_
        refine tr_round2 (j + 1) (qs.set j (q.1, q.2.set i (zd (ent m.zs i j) x))) ⟨by omega, (hG.set hq (zd (ent m.zs i j) x) (ent m.zs i j) (zd_z _ _)).congr (fun a b _ _ => ?_), hcan.set hq (zd_can _ _)⟩ (by omega) ⟨rfl, rfl, rfl, rfl, rfl, rfl, rfl, trivial⟩ rfl (fun w h => h.1.set hq (zd_ok h.2 hbd))
        unfold gset
        dsimp only
        split
        · rename_i h; rw [if_pos (by omega), h.1, h.2]
        · rename_i h
          by_cases h' : b < i ∨ (b = i ∧ a < j)
          · rw [if_pos h', if_pos (by omega)]
          · rw [if_neg h', if_neg (by omega)]
      ·
        have hje : j = c := by have := of_decide_eq_false hc; omega
        refine tr_exit ?_
        repeat with_reducible first | refine tr_skip ?_ | refine tr_exit ?_ | refine tr_then ?_ | refine tr_inX ?_ | refine tr_thenX ?_ | refine tr_inN ?_ | refine tr_inR ?_ | refine tr_thenR ?_
        refine tr_region ?_
        refine sq_q (qt_bin rfl rfl (bin_addI (by omega) (by omega))) rfl ?_
        refine sq_q (qt_move rfl) rfl ?_
        refine sq_nil ?_
        repeat with_reducible first | refine tr_skip ?_ | refine tr_exit ?_ | refine tr_then ?_ | refine tr_inX ?_ | refine tr_thenX ?_ | refine tr_inN ?_ | refine tr_inR ?_ | refine tr_thenR ?_
        refine tr_round2 (i + 1) qs ⟨by omega, hG.congr (fun a b ha hb => ?_), hcan⟩ (by omega) ⟨congrArg some evm.symm, rfl, rfl, rfl, trivial⟩ rfl (fun w h => h)
        by_cases h : b < i ∨ (b = i ∧ a < j)
        · rw [if_pos h, if_pos (by omega)]
        · rw [if_neg h, if_neg (by omega)]
    ·
      have hik : i = r := by have := of_decide_eq_false hc; omega
      subst hik
      refine tr_exit ?_
      repeat with_reducible first | refine tr_skip ?_ | refine tr_exit ?_ | refine tr_then ?_ | refine tr_inX ?_ | refine tr_thenX ?_ | refine tr_inN ?_ | refine tr_inR ?_ | refine tr_thenR ?_
      refine tr_rseq ?_
      refine sq_q (qt_move rfl) rfl ?_
      refine sq_q (qt_assign rfl) rfl ?_
      refine sq_q (qt_assign rfl) rfl ?_
      refine sq_end ?_
      refine tr_ret ?_
      repeat with_reducible first | refine tr_skip ?_ | refine tr_exit ?_ | refine tr_then ?_ | refine tr_inX ?_ | refine tr_thenX ?_ | refine tr_inN ?_ | refine tr_inR ?_ | refine tr_thenR ?_
      refine tr_done (mmt ob qs) (fun a w s t => results_2 rfl (resv_tmp s (by rw [mmt_v, hG.1]; rfl)) (resv_tmp s rfl)) (fun w h ho _ => ⟨mmt_ok ho h, ?_, mmt_can hcan⟩)
      rw [mmt_zs, hG.zs]
      show grid _ c i = grid (tr (ent m.zs)) c i
      unfold grid
      refine List.map_congr_left fun a ha => List.map_congr_left fun b hb => ?_
      have hb := List.mem_range.1 hb
      exact if_pos hb
end Go.Qk
end
section
set_option linter.unusedVariables false
namespace Go.Qk
open Go Go.Proofs Go.RowKit
section
variable {P : Program} {n : Nat} {w0 : World} {X : List Nat} {S : Nat → Prop} {E : Env} {own : Own} {R : World → Prop} {Q : Exit → Act → World → Prop} {ops : Array Oper} {rest : List Oper}
theorem SS.give {w w' : World} (t : SS w0 X S own R w) (hb : Below w.heap.size w w') {ad : Own} (hf : Fresh w.heap.size ad w') : SS w0 X S (ad ++ own) R w' := by
  have g := t.grow hb
  have hlt : ∀ p ∈ ad, p.1 < w'.heap.size := fun p hp => (Array.getElem?_eq_some_iff.1 (hf.2 p hp).2).1
  refine ⟨g.os, g.tape, g.output, g.size, g.pres, ?_, ?_, ?_, ?_⟩
  · intro p hp
    rcases List.mem_append.1 hp with h | h
    · exact ⟨hlt p h, .inr (Nat.le_trans t.size (hf.2 p h).1)⟩
    · exact g.lt p h
  · intro p hp
    rcases List.mem_append.1 hp with h | h
    · exact (hf.2 p h).2
    · exact g.has p h
  · refine List.pairwise_append.2 ⟨hf.1, g.nd, fun p hp q hq e => ?_⟩
    have h1 := (hf.2 p hp).1
    have h2 := (t.lt q hq).1
    omega
  · intro w'' hs hk
    refine t.keep w'' (Nat.le_trans hb.size hs) fun k h1 h2 h3 => ?_
    rw [hk k h1 (Nat.lt_of_lt_of_le h2 hb.size) fun p hp e => ?_, hb.block k h2]
    rcases List.mem_append.1 hp with h | h
    · have := (hf.2 p h).1; omega
    · exact h3 p h e
end
end Go.Qk
end
section
set_option linter.unusedVariables false
namespace Go.Qk
open Go Go.Proofs Go.RowKit
/-- what stands behind the integers of a row, by the row's block -/
abbrev Sk := Nat → List Value
section
variable {σ : Sk} {o : Nat} {qs : List Wr}
end
section
variable {P : Program} {n : Nat} {w0 w : World} {X : List Nat} {S : Nat → Prop} {E : Env} {own : Own} {R : World → Prop} {Q : Exit → Act → World → Prop} {ops : Array Oper} {σ : Sk}
/-- a call that hands out fresh blocks -/
theorem SS.giveK {w w' : World} {S' : Nat → Prop} {G : World → Prop} (t : SS w0 X S own R w) (hb : Below w.heap.size w w') {ad : Own} (hf : Fresh w.heap.size ad w') (hg : Kp w S' ad G w') (hS : ∀ k, S' k → Nn w0 S own w k) : SS w0 X S (ad ++ own) (fun w => R w ∧ G w) w' := by
  have g := t.give hb hf
  refine ⟨g.os, g.tape, g.output, g.size, g.pres, g.lt, g.has, g.nd, fun w'' hs hk => ⟨g.keep w'' hs hk, hg w'' hs fun k h1 h2 h3 => ?_⟩⟩
  rcases h1 with h1 | h1
  · exact hk k (.inl (Nat.le_trans t.size h1)) h2 fun p hp e => by
      rcases List.mem_append.1 hp with h | h
      · exact h3 p h e
      · have := (t.lt p h).1; omega
  · exact hk k (hS k h1).1 h2 fun p hp e => by
      rcases List.mem_append.1 hp with h | h
      · exact h3 p h e
      · exact (hS k h1).2.2 p h e
theorem sq_callK {rest : List Oper} {α : Type} {c : Operand} {f : FuncId} {pre cap : List Value} {xs : List Operand} {vs : List Value} {ats : Array TypeId} {ty : TypeId} {d : Nat} {pos : String} {af : Array Edge} (val : α → Value) (ad : α → Own) (p : α → Prop) (G : α → World → Prop) [hB : FnB P f]
    (hc : fnv (look E) c f pre cap) (hxs : evs (look E) xs = some vs) (hd : Nat.blt d n = true)
    (hcall : ∀ w, SS w0 X S own R w → Ret P f (pre ++ vs ++ cap) w (Nn w0 S own w) val (fun x w' => Fresh w.heap.size (ad x) w' ∧ p x ∧ Kp w (Nn w0 S own w) (ad x) (G x) w'))
    (h : ∀ x, p x → Sq P ops Q n w0 X S rest ((d, val x) :: E) (ad x ++ own) (fun w => R w ∧ G x w)) :
    Sq P ops Q n w0 X S (⟨some d, .call { callee := .value c, args := xs.toArray, argTypes := ats }, ty, pos, af, none⟩ :: rest) E own R := by
  intro a w s t'
  refine wpList_plain rfl fun K hK => ?_
  unfold Oper.wp
  rw [run_call s.agr hc hxs, Oper.upon_enter]
  refine (hcall w t').mono ?_
  rintro e w' ⟨x, rfl, hb, hf⟩
  exact hK _ _ (h x hf.now.2.1 _ _ (s.put hd _) (t'.giveK hb hf.now.1 hf.now.2.2 fun k hk => hk))
theorem so2_callK {ws : List Nat} {i : Nat} {fuel : Nat} {listed : Array Bool} {α : Type} {c : Operand} {f : FuncId} {pre cap : List Value} {xs : List Operand} {vs : List Value} {ats : Array TypeId} {ty : TypeId} {d : Nat} {pos : String} {af : Array Edge} (val : α → Value) (ad : α → Own) (p : α → Prop) (G : α → World → Prop) [hB : FnB P f]
    (hi : ops[i]? = some ⟨some d, .call { callee := .value c, args := xs.toArray, argTypes := ats }, ty, pos, af, none⟩) (hc : fnv (look E) c f pre cap) (hxs : evs (look E) xs = some vs) (hd : Nat.blt d n = true)
    (hcall : ∀ w, SS w0 X S own R w → Ret P f (pre ++ vs ++ cap) w (Nn w0 S own w) val (fun x w' => Fresh w.heap.size (ad x) w' ∧ p x ∧ Kp w (Nn w0 S own w) (ad x) (G x) w'))
    (h : ∀ x, p x → Sb P ops Q n w0 X S ws fuel (listed.setIfInBounds i true) ((d, val x) :: E) (ad x ++ own) (fun w => R w ∧ G x w)) : Sbo P ops Q n w0 X S ws fuel listed i E own R := by
  intro a w s t
  unfold wpOp
  rw [hi]
  refine (if_pos (wanted_none rfl)).mpr (.inl ?_)
  unfold Oper.wp
  rw [run_call s.agr hc hxs, Oper.upon_enter]
  refine (hcall w t).mono ?_
  rintro e w' ⟨x, rfl, hb, hf⟩
  exact ⟨fun _ => hb, h x hf.now.2.1 _ _ (s.put hd _) (t.giveK hb hf.now.1 hf.now.2.2 fun k hk => hk)⟩
end
end Go.Qk
end
section
set_option linter.unusedVariables false
namespace Go.Qk
open Go Go.Proofs Go.RowKit
section
variable {P : Program} {J : World → Prop} {lk : Nat → Option Value} {ty : TypeId}
end
def lb (B : Nat) : Nat → Nat
  | 0 => 2
  | n + 1 => B + lb B n + (n + 1)
section
variable {P : Program} {n : Nat} {w0 : World} {X : List Nat} {S : Nat → Prop} {E : Env} {own : Own} {R : World → Prop}
end
theorem tr_weak {n : Nat} {w0 : World} {X : List Nat} {S : Nat → Prop} {E : Env} {own : Own} {R : World → Prop} {f : Act → World → Prop} (R' : World → Prop) (hs : ∀ w, R w → R' w) (h : Tr n w0 X S E own R' f) : Tr n w0 X S E own R f := fun a w s t => h a w s (t.mono hs)
end Go.Qk
end
section
set_option linter.unusedVariables false
namespace Go.Qk
open Go Go.Proofs Go.RowKit
abbrev Wi := Nat × List Int
section
variable {o : Nat} {qs : List Wi} {g g' : Mf} {r c : Nat}
end
section
variable {P : Program} {t : TypeId} {J : World → Prop} {lk : Nat → Option Value} {ty : TypeId}
end
end Go.Qk
end
section
set_option linter.unusedVariables false
namespace Go.Qk
open Go Go.Proofs Go.RowKit
section
variable {P : Program} {n : Nat} {w0 w : World} {S : Nat → Prop} {E : Env} {own : Own} {R : World → Prop}
/-- the end of a function that hands out some of its own blocks -/
theorem tr_doneD {fn : Func} {α : Type} {val : α → Value} {F : α → World → Prop} (x : α) (own' : Own) (hsub : own'.Sublist own) (hres : ∀ a w, St n a E → SS w0 [] S own R w → (results fn a.tmps).run P w = .ok (val x) w)
    (hF : ∀ w, Fresh w0.heap.size own' w → Kp w0 S own' R w → F x w) : Tr n w0 [] S E own R (bodyPost P fn (Rt w0 S val F) .ret) := by
  intro a w s t0
  have t := t0.drop hsub
  refine ⟨s.defers, val x, hres a w s t0, x, rfl, t.arg, fun w'' hs hk => hF w'' ⟨t.nd, fun p hp => ⟨(t.lt p hp).2.resolve_left (by simp), ?_⟩⟩ fun w3 hs3 hk3 => t.keep w3 (Nat.le_trans hs hs3) fun k h1 h2 h3 => ?_⟩
  · rw [hk p.1 (.inl ((t.lt p hp).2.resolve_left (by simp))) (t.lt p hp).1]
    exact t.has p hp
  · rw [hk3 k h1 (Nat.lt_of_lt_of_le h2 hs) h3, hk k h1 h2]
end
theorem ownAt_l {p : Nat × Obj} : ∀ {a : Own} {i : Nat} (b : Own), ownAt a i = some p → ownAt (a ++ b) i = some p
  | [], _, _, h => by simp [ownAt] at h
  | _ :: _, 0, _, h => h
  | _ :: a, i + 1, b, h => ownAt_l (a := a) b h
theorem ownSet_l {p : Nat × Obj} {o : Obj} : ∀ {a : Own} {i : Nat} (b : Own), ownAt a i = some p → ownSet (a ++ b) i o = ownSet a i o ++ b
  | [], _, _, h => by simp [ownAt] at h
  | _ :: _, 0, _, h => rfl
  | q :: a, i + 1, b, h => by show q :: ownSet (a ++ b) i o = _; rw [ownSet_l (a := a) b h]; rfl
theorem ownAt_r {b : Own} {i : Nat} : ∀ (a : Own), ownAt (a ++ b) (a.length + i) = ownAt b i
  | [] => by simp
  | q :: a => by rw [List.length_cons, show a.length + 1 + i = (a.length + i) + 1 by omega]; exact ownAt_r a
theorem ownSet_r {b : Own} {i : Nat} {o : Obj} : ∀ (a : Own), ownSet (a ++ b) (a.length + i) o = a ++ ownSet b i o
  | [] => by simp
  | q :: a => by rw [List.length_cons, show a.length + 1 + i = (a.length + i) + 1 by omega]; show q :: ownSet (a ++ b) (a.length + i) o = _; rw [ownSet_r a]; rfl
/-- an integer and the block of its limbs -/
def lz (e : Int × Nat) : Zd := zd e.1 (sgP e.1.natAbs (some ⟨e.2, 0, none⟩))
def lbo (e : Nat × List Nat) : Nat × Obj := (e.1, .cells (u32s e.2).toArray 57 (0, 0))
def lpr (e : Int × Nat) : Nat × List Nat := (e.2, limbsOf e.1.natAbs)
def lobj (e : Int × Nat) : Nat × Obj := lbo (lpr e)
abbrev Lw := Nat × List (Int × Nat)
def wz (q : Lw) : Wr := (q.1, q.2.map lz)
def lown (o : Nat) (qs : List Lw) : Own := mown o (qs.map wz) ++ (qs.flatMap (·.2)).map lobj
def LG (g : Mf) (r c : Nat) (qs : List Lw) : Prop := qs.length = r ∧ ∀ a q, qs[a]? = some q → q.2.map (·.1) = (List.range c).map (g a)
theorem lz_v (e : Int × Nat) : (lz e).v = iv e.1 (sgP e.1.natAbs (some ⟨e.2, 0, none⟩)) := rfl
theorem LG.len {g : Mf} {r c : Nat} {qs : List Lw} (h : LG g r c qs) {a : Nat} {q : Lw} (hq : qs[a]? = some q) : q.2.length = c := by
  have := congrArg List.length (h.2 a q hq)
  simpa using this
end Go.Qk
end
section
set_option linter.unusedVariables false
namespace Go.Qk
open Go Go.Proofs Go.RowKit
set_option maxRecDepth 100000
set_option maxHeartbeats 4000000
theorem normK_ret (n : Bool) (xs : List Nat) (p : Sv) (w : World) (S : Nat → Prop) (hx : Lm xs p w) (lx : lim xs) (hb : xs.length ≤ 35184372088832) :
    Ret Try.prog 90 [ig n xs p] w S (fun r : Nat => iv (sgn n (val xs)) (sgP (val xs) (some ⟨r, 0, none⟩))) (fun r w' => Fresh w.heap.size [(r, .cells (u32s (limbsOf (val xs))).toArray 57 (0, 0))] w' ∧ True ∧ Kp w S [(r, .cells (u32s (limbsOf (val xs))).toArray 57 (0, 0))] (fun _ => True) w') := by
  have hxr := cut_rd hx lx
  have hxn := nl_val lx
  have hl : (limbsOf (val xs)).length ≤ 35184372088832 := Nat.le_trans hxn hb
  have hbm : nl (val xs) ≤ 35184372088832 := hl
  refine ret_of Try.func90 rfl Try.ntmps90 rfl ?_
  refine tr_rseq ?_
  refine sq_box rfl rfl fun r1 => ?_
  refine sq_alloc rfl fun r2 => ?_
  refine sq_end ?_
  refine tr_rseq ?_
  refine sq_q (qt_load2 rfl (fun w t => t.atO 1 rfl rfl) (fun w t => t.atO 1 rfl rfl)) rfl ?_
  refine sq_call (val := fun _ : Unit => .slice p.1 (limbsOf (val xs)).length (limbsOf (val xs)).length) (F := fun _ _ => True) rfl rfl rfl (fun w t => magnitude_ret n xs p w _ (t.lm hx) lx hb) fun _ => ?_
  refine sq_q (qt_assign rfl) rfl ?_
  refine sq_end ?_
  refine tr_rseq ?_
  refine sq_q (qt_move rfl) rfl ?_
  refine sq_q (qt_len rfl) rfl ?_
  refine sq_make rfl rfl (by omega) (by omega) rfl fun r9 => ?_
  refine sq_q (qt_assign rfl) rfl ?_
  refine sq_end ?_
  rw [made_u32]
  refine tr_rseq ?_
  refine sq_q (qt_move rfl) rfl ?_
  refine sq_q (qt_move rfl) rfl ?_
  refine sq_copy 0 (u32s (limbsOf (val xs))) rfl rfl rfl (by simp [u32s]) (by simp [u32s]) (one_u32s _) (fun w t => t.rd hxr) rfl ?_
  refine sq_end ?_
  refine tr_rseq ?_
  refine sq_q (qt_fieldAddr rfl) rfl ?_
  refine sq_q (qt_load rfl (fun w t => t.atO 2 rfl rfl)) rfl ?_
  refine sq_q (qt_move rfl) rfl ?_
  refine sq_call (val := fun _ : Unit => iv (sgn n (val xs)) (sgP (val xs) (some ⟨r9, 0, none⟩))) (F := fun _ _ => True) rfl rfl rfl (fun w t => signed_own n (val xs) _ _ w _ (Rd.own (t.has _ (ownAt_mem (i := 0) rfl))) (Nat.le_refl _) hbm) fun _ => ?_
  refine sq_store 1 rfl rfl rfl rfl (Nat.le_refl 2) rfl rfl ?_
  refine sq_end ?_
  refine tr_ret ?_
  repeat with_reducible first | refine tr_skip ?_ | refine tr_exit ?_ | refine tr_then ?_ | refine tr_inX ?_ | refine tr_thenX ?_ | refine tr_inN ?_ | refine tr_inR ?_ | refine tr_thenR ?_
  exact tr_doneD r9 [(r9, .cells (u32s (limbsOf (val xs))).toArray 57 (0, 0))] (List.Sublist.cons_cons _ (List.nil_sublist _)) (fun a w s t => results_1 rfl (resv_cell 1 s t rfl rfl rfl)) (fun w hf hk => ⟨hf, trivial, hk.mono fun _ _ => trivial⟩)
theorem transpose1K_ret (m : Mt) (B b2 i j : Nat) (w : World) (S : Nat → Prop) (hm : m.ok B w) (hB : B ≤ 35184372088832) (h2 : At b2 0 m.v w) (hj : j < m.rs.length) (hi : i < m.rs[j].l.length) :
    Ret Try.prog 89 [.int .i64 (i : Int), .int .i64 (j : Int), .pointer (some ⟨b2, 0, none⟩)] w S (fun k : Nat => (lz (tr (ent m.zs) i j, k)).v) (fun k w' => Fresh w.heap.size [lobj (tr (ent m.zs) i j, k)] w' ∧ True ∧ Kp w S [lobj (tr (ent m.zs) i j, k)] (fun _ => True) w') := by
  obtain ⟨ro, oo, evm, hat⟩ := hm.at_ (show 0 < m.rs.length by omega)
  obtain ⟨rr, orr, evr, hatr⟩ := (hm.2.2 _ (List.getElem_mem hj)).at_ (show 0 < m.rs[j].l.length by omega)
  rw [evm] at h2
  have hr := hat j hj
  rw [evr] at hr
  obtain ⟨hz0, hz1⟩ := hatr i hi
  have hzok := (hm.2.2 _ (List.getElem_mem hj)).2.2 _ (List.getElem_mem hi)
  rw [show tr (ent m.zs) i j = m.rs[j].l[i].z from mt_ent hj hi]
  refine ret_of Try.func89 rfl Try.ntmps89 rfl ?_
  refine tr_rseq ?_
  refine sq_alloc rfl fun r5 => ?_
  refine sq_end ?_
  refine tr_rseq ?_
  refine sq_q (qt_load rfl (fun w t => t.atA h2)) rfl ?_
  refine sq_q (qt_move rfl) rfl ?_
  refine sq_q (qt_index (i := j) rfl rfl hj) rfl ?_
  refine sq_q (qt_load rfl (fun w t => t.a1 hr)) rfl ?_
  refine sq_q (qt_move rfl) rfl ?_
  refine sq_q (qt_index (i := i) rfl rfl hi) rfl ?_
  refine sq_q (qt_load2 rfl (fun w t => t.atA hz0) (fun w t => t.atA hz1)) rfl ?_
  refine sq_callK (fun k : Nat => (lz (m.rs[j].l[i].z, k)).v) (fun k => [lobj (m.rs[j].l[i].z, k)]) (fun _ => True) (fun _ _ => True) rfl rfl rfl (fun w t => by
    have hz := t.zd hzok
    have h := fun S' => normK_ret m.rs[j].l[i].n m.rs[j].l[i].xs m.rs[j].l[i].p w S' hz.1 hz.2.1 (Nat.le_trans hz.2.2 hB)
    have e : m.rs[j].l[i].z.natAbs = val m.rs[j].l[i].xs := sgn_natAbs _ _
    simp only [lz_v, lobj, lbo, lpr, e]
    exact h _) fun x _ => ?_
  refine sq_store 1 rfl rfl rfl rfl (Nat.le_refl 2) rfl rfl ?_
  refine sq_end ?_
  refine tr_ret ?_
  repeat with_reducible first | refine tr_skip ?_ | refine tr_exit ?_ | refine tr_then ?_ | refine tr_inX ?_ | refine tr_thenX ?_ | refine tr_inN ?_ | refine tr_inR ?_ | refine tr_thenR ?_
  exact tr_doneD x [lobj (m.rs[j].l[i].z, x)] (List.Sublist.cons_cons _ (List.nil_sublist _)) (fun a w s t => results_1 rfl (resv_cell 1 s t rfl rfl rfl)) (fun w hf hk => ⟨hf, trivial, hk.mono fun _ _ => trivial⟩)
theorem buildL_ret (r c : Nat) (g : Mf) (f : FuncId) [hB : FnB Try.prog f] (pre cap : List Value) (w0 : World) (S : Nat → Prop) (hr16 : r ≤ 65536) (hc16 : c ≤ 65536) 
    (hf : ∀ i j w' S', i < r → j < c → Below w0.heap.size w0 w' → Ret Try.prog f (pre ++ [.int .i64 (i : Int), .int .i64 (j : Int)] ++ cap) w' S' (fun k : Nat => (lz (g i j, k)).v) (fun k w'' => Fresh w'.heap.size [lobj (g i j, k)] w'' ∧ True ∧ Kp w' S' [lobj (g i j, k)] (fun _ => True) w'')) :
    Ret Try.prog 64 [.int .i64 (r : Int), .int .i64 (c : Int), .func (.func f) pre.toArray cap.toArray] w0 S (fun x : Nat × List Lw => .slice (some ⟨x.1, 0, none⟩) r r) (fun x w' => Fresh w0.heap.size (lown x.1 x.2) w' ∧ LG g r c x.2 ∧ Kp w0 S (lown x.1 x.2) (fun _ => True) w') := by
  refine ret_of Try.func64 rfl Try.ntmps64 rfl ?_
  refine tr_rseq ?_
  refine sq_q (qt_assign rfl) rfl ?_
  refine sq_end ?_
  refine tr_rseq ?_
  refine sq_q (qt_move rfl) rfl ?_
  refine sq_make (c := r) rfl rfl (by omega) (by omega) rfl fun r11 => ?_
  refine sq_q (qt_assign rfl) rfl ?_
  refine sq_end ?_
  refine tr_seq ?_
  refine tr_rseq ?_
  refine sq_q (qt_move rfl) rfl ?_
  refine sq_q (qt_len rfl) rfl ?_
  refine sq_q (qt_move rfl) rfl ?_
  refine sq_end ?_
  refine tr_block ?_
  refine tr_loop (fun done : List Lw => done.length ≤ r ∧ ∀ a q, done[a]? = some q → q.2.map (·.1) = (List.range c).map (g a)) (fun done => [(1, .int .i64 (c : Int)), (2, .func (.func f) pre.toArray cap.toArray), (7, .slice (some ⟨r11, 0, none⟩) r r), (13, .int .i64 (r : Int)), (14, .int .i64 (done.length : Int))])
    (fun done => mout r11 (done.map wz) (r - done.length) :: ((done.map wz).map mrow ++ (done.flatMap (·.2)).map lobj)) (fun _ _ => True) (fun done => r - done.length) [] ⟨Nat.zero_le _, fun a q h => by simp at h⟩ ⟨rfl, rfl, rfl, rfl, rfl, trivial⟩ (by rw [made_s]; rfl) (fun _ _ => trivial) ?_
  rintro done ⟨hle, hd⟩
  refine tr_rseq ?_
  refine sq_q (qt_bin rfl rfl bin_lss) rfl ?_
  refine sq_end ?_
  refine tr_seq ?_
  refine tr_if rfl (fun hc => ?_) (fun hc => ?_)
  ·
    have hlt : done.length < r := by have := of_decide_eq_true hc; omega
    obtain ⟨k, hk⟩ : ∃ k, r - done.length = k + 1 := ⟨r - done.length - 1, by omega⟩
    obtain ⟨A, hA⟩ : ∃ A, A = (done.map wz).map mrow := ⟨_, rfl⟩
    obtain ⟨Bl, hBl⟩ : ∃ Bl, Bl = (done.flatMap (·.2)).map lobj := ⟨_, rfl⟩
    obtain ⟨H, hH⟩ : ∃ H, H = (done.map wz).map mhdr := ⟨_, rfl⟩
    have hHl : H.length = done.length := by rw [hH]; simp
    rw [← hA, ← hBl, hk]
    refine tr_skip ?_
    repeat with_reducible first | refine tr_skip ?_ | refine tr_exit ?_ | refine tr_then ?_ | refine tr_inX ?_ | refine tr_thenX ?_ | refine tr_inN ?_ | refine tr_inR ?_ | refine tr_thenR ?_
    refine tr_seq ?_
    refine tr_block ?_
    refine tr_rseq ?_
    refine sq_q (qt_move rfl) rfl ?_
    refine sq_q (qt_assign rfl) rfl ?_
    refine sq_end ?_
    refine tr_rseq ?_
    refine sq_q (qt_move rfl) rfl ?_
    refine sq_q (qt_move rfl) rfl ?_
    refine sq_q (qt_move rfl) rfl ?_
    refine sq_make (c := c) rfl rfl (by omega) (by omega) rfl fun r20 => ?_
    refine sq_q (qt_index (i := done.length) rfl rfl hlt) rfl ?_
    refine sq_store 1 rfl rfl rfl rfl (by first | (simp [Value.cells]; done) | (simp [Value.cells]; omega)) rfl rfl ?_
    refine sq_end ?_
    have hset : wr (H ++ List.replicate (k + 1) (Value.slice none 0 0)) (0 + done.length * 1) [Value.slice (some ⟨r20, 0, none⟩) c c] = (H ++ [Value.slice (some ⟨r20, 0, none⟩) c c]) ++ List.replicate k (Value.slice none 0 0) := by
      have := next_set H k (Value.slice none 0 0) (.slice (some ⟨r20, 0, none⟩) c c)
      rw [hHl] at this
      rw [← this, Nat.zero_add, Nat.mul_one]
      rfl
    have hget : ((H ++ [Value.slice (some ⟨r20, 0, none⟩) c c]) ++ List.replicate k (Value.slice none 0 0))[done.length]? = some (.slice (some ⟨r20, 0, none⟩) c c) := by rw [← hHl]; simp [List.getElem?_append]
    obtain ⟨OUT, hOUT⟩ : ∃ OUT : Nat × Obj, OUT = (r11, .cells ((H ++ [Value.slice (some ⟨r20, 0, none⟩) c c]) ++ List.replicate k (Value.slice none 0 0)).toArray 44 (0, 0)) := ⟨_, rfl⟩
    refine tr_own ((r20, .cells (zcs (List.replicate c z0)).toArray 35 (0, 0)) :: OUT :: (A ++ Bl)) (by rw [hOUT, ← hset, hH, ← made_z]; rfl) ?_
    have hgO : ∀ x : Nat × Obj, ∀ l : Own, ownAt (x :: OUT :: l) 1 = some (r11, .cells ((H ++ [Value.slice (some ⟨r20, 0, none⟩) c c]) ++ List.replicate k (Value.slice none 0 0)).toArray 44 (0, 0)) := fun x l => by rw [hOUT]; rfl
    refine tr_rseq ?_
    refine sq_q (qt_move rfl) rfl ?_
    refine sq_q (qt_move rfl) rfl ?_
    refine sq_q (qt_index (i := done.length) rfl rfl hlt) rfl ?_
    refine sq_q (qt_load (v := .slice (some ⟨r20, 0, none⟩) c c) rfl (fun w t => t.o1 1 (hgO _ _) hget)) rfl ?_
    refine sq_q (qt_len rfl) rfl ?_
    refine sq_q (qt_move rfl) rfl ?_
    refine sq_end ?_
    refine tr_block ?_
    refine tr_loop (fun l : List (Int × Nat) => l.length ≤ c ∧ l.map (·.1) = (List.range l.length).map (g done.length)) (fun l => [(1, .int .i64 (c : Int)), (2, .func (.func f) pre.toArray cap.toArray), (7, .slice (some ⟨r11, 0, none⟩) r r), (8, .int .i64 (done.length : Int)), (13, .int .i64 (r : Int)), (14, .int .i64 (done.length : Int)), (26, .int .i64 (c : Int)), (27, .int .i64 (l.length : Int))])
      (fun l => (r20, .cells (zcs (l.map lz ++ List.replicate (c - l.length) z0)).toArray 35 (0, 0)) :: OUT :: (A ++ Bl ++ l.map lobj)) (fun l w => True) (fun l => c - l.length) [] ⟨Nat.zero_le _, rfl⟩ ⟨rfl, rfl, rfl, rfl, rfl, rfl, rfl, rfl, trivial⟩ (by simp) (fun _ h => trivial) ?_
    rintro l ⟨hl, hlz⟩
    refine tr_rseq ?_
    refine sq_q (qt_bin rfl rfl bin_lss) rfl ?_
    refine sq_end ?_
    refine tr_seq ?_
    refine tr_if rfl (fun hc => ?_) (fun hc => ?_)
    ·
      have hlt2 : l.length < c := by have := of_decide_eq_true hc; omega
      obtain ⟨v, hv⟩ : ∃ v, v = g done.length l.length := ⟨_, rfl⟩
      refine tr_skip ?_
      repeat with_reducible first | refine tr_skip ?_ | refine tr_exit ?_ | refine tr_then ?_ | refine tr_inX ?_ | refine tr_thenX ?_ | refine tr_inN ?_ | refine tr_inR ?_ | refine tr_thenR ?_
      refine tr_seq ?_
      refine tr_block ?_
      refine tr_rseq ?_
      refine sq_q (qt_move rfl) rfl ?_
      refine sq_q (qt_assign rfl) rfl ?_
      refine sq_end ?_
      refine tr_sb [10] ?_
      refine sb_q 0 rfl (by kernel_rfl) (qt_move rfl) rfl ?_
      refine sb_q 1 rfl (by kernel_rfl) (qt_move rfl) rfl ?_
      refine sb_q 2 rfl (by kernel_rfl) (qt_index (i := done.length) rfl rfl hlt) rfl ?_
      refine sb_q 3 rfl (by kernel_rfl) (qt_load (v := .slice (some ⟨r20, 0, none⟩) c c) rfl (fun w t => t.o1 1 (hgO _ _) hget)) rfl ?_
      refine sb_q 4 rfl (by kernel_rfl) (qt_move rfl) rfl ?_
      refine sb_q 5 rfl (by kernel_rfl) (qt_move rfl) rfl ?_
      refine sb_q 6 rfl (by kernel_rfl) (qt_move rfl) rfl ?_
      refine sb_q 7 rfl (by kernel_rfl) (qt_move rfl) rfl ?_
      refine sb_one 8 (by kernel_rfl) ?_
      refine so2_callK (fun k : Nat => (lz (v, k)).v) (fun k => [lobj (v, k)]) (fun _ => True) (fun _ _ => True) rfl rfl rfl rfl (fun w t => by rw [hv]; exact hf _ _ w _ hlt hlt2 t.arg) fun x _ => ?_
      refine sb_q 9 rfl (by kernel_rfl) (qt_index (i := l.length) rfl rfl hlt2) rfl ?_
      refine sb_one 10 (by kernel_rfl) ?_
      refine so2_store 1 rfl rfl rfl rfl rfl rfl (show 0 + l.length * 2 + 2 ≤ (zcs (l.map lz ++ List.replicate (c - l.length) z0)).length by rw [zcs_length]; simp; omega) rfl rfl ?_
      refine sb_end (by kernel_rfl) ?_
      repeat with_reducible first | refine tr_skip ?_ | refine tr_exit ?_ | refine tr_then ?_ | refine tr_inX ?_ | refine tr_thenX ?_ | refine tr_inN ?_ | refine tr_inR ?_ | refine tr_thenR ?_
      refine tr_region ?_
      refine sq_q (qt_bin rfl rfl (bin_addI (by omega) (by omega))) rfl ?_
      refine sq_q (qt_move rfl) rfl ?_
      refine sq_nil ?_
      repeat with_reducible first | refine tr_skip ?_ | refine tr_exit ?_ | refine tr_then ?_ | refine tr_inX ?_ | refine tr_thenX ?_ | refine tr_inN ?_ | refine tr_inR ?_ | refine tr_thenR ?_
      obtain ⟨k2, hk2⟩ : ∃ k2, c - l.length = k2 + 1 := ⟨c - l.length - 1, by omega⟩
      obtain ⟨e, he⟩ : ∃ e : Int × Nat, e = (v, x) := ⟨_, rfl⟩
      refine tr_perm ((r20, .cells (zcs ((l ++ [e]).map lz ++ List.replicate (c - (l ++ [e]).length) z0)).toArray 35 (0, 0)) :: OUT :: (A ++ Bl ++ (l ++ [e]).map lobj)) ?_ ?_
      · have e1 := zcs_set (l := l.map lz ++ List.replicate (c - l.length) z0) (j := l.length) (lz e) (by simp; omega)
        have e2 := next_set (l.map lz) k2 z0 (lz e)
        rw [List.length_map] at e2
        rw [hk2, e2] at e1
        have e3 : (l ++ [e]).map lz ++ List.replicate (c - (l ++ [e]).length) z0 = (l.map lz ++ [lz e]) ++ List.replicate k2 z0 := by
          rw [List.map_append, List.map_singleton, List.length_append, List.length_singleton, show c - (l.length + 1) = k2 by omega]
        rw [e3, ← e1, ← hk2, List.map_append, List.map_singleton, ← List.append_assoc, he]
        exact (List.perm_append_singleton (lobj (v, x)) ((r20, Obj.cells (wr (zcs (l.map lz ++ List.replicate (c - l.length) z0)) (0 + l.length * 2) (lz (v, x)).v.cells.toList).toArray 35 (0, 0)) :: OUT :: (A ++ Bl ++ l.map lobj))).symm
      refine tr_round (l ++ [e]) ⟨by simp; omega, ?_⟩ (by simp; omega) ⟨rfl, rfl, rfl, rfl, rfl, rfl, rfl, by simp; rfl, trivial⟩ rfl (fun _ _ => trivial)
      rw [List.map_append, hlz, List.length_append, List.length_singleton, List.range_succ, List.map_append, he, hv]
      rfl
    ·
      have hlc2 : l.length = c := by have := of_decide_eq_false hc; omega
      refine tr_exit ?_
      repeat with_reducible first | refine tr_skip ?_ | refine tr_exit ?_ | refine tr_then ?_ | refine tr_inX ?_ | refine tr_thenX ?_ | refine tr_inN ?_ | refine tr_inR ?_ | refine tr_thenR ?_
      refine tr_region ?_
      refine sq_q (qt_bin rfl rfl (bin_addI (by omega) (by omega))) rfl ?_
      refine sq_q (qt_move rfl) rfl ?_
      refine sq_nil ?_
      repeat with_reducible first | refine tr_skip ?_ | refine tr_exit ?_ | refine tr_then ?_ | refine tr_inX ?_ | refine tr_thenX ?_ | refine tr_inN ?_ | refine tr_inR ?_ | refine tr_thenR ?_
      obtain ⟨q, hq⟩ : ∃ q : Lw, q = (r20, l) := ⟨_, rfl⟩
      have e0 : (r20, Obj.cells (zcs (l.map lz ++ List.replicate (c - l.length) z0)).toArray 35 (0, 0)) = mrow (wz q) := by rw [hlc2, Nat.sub_self, List.replicate_zero, List.append_nil, hq]; rfl
      have e1 : mhdr (wz q) = .slice (some ⟨r20, 0, none⟩) c c := by rw [hq]; simp [wz, mhdr, hlc2]
      have e2 : OUT = mout r11 ((done ++ [q]).map wz) k := by rw [hOUT, hH, List.map_append, List.map_singleton]; unfold mout; rw [List.map_append, List.map_singleton, e1]
      refine tr_perm (mout r11 ((done ++ [q]).map wz) k :: (((done ++ [q]).map wz).map mrow ++ ((done ++ [q]).flatMap (·.2)).map lobj)) ?_ ?_
      · rw [e0, e2, List.map_append (l₁ := done), List.map_append, List.map_singleton, List.map_singleton, ← hA, List.flatMap_append, List.map_append, ← hBl, show ([q].flatMap (·.2)).map lobj = l.map lobj by rw [hq]; simp]
        refine (List.Perm.swap _ _ _).trans (List.Perm.cons _ ?_)
        rw [List.append_assoc, List.append_assoc]
        exact List.perm_middle.symm
      refine tr_round (done ++ [q]) ⟨by simp; omega, fun a u hu => ?_⟩ (by simp; omega) ⟨rfl, rfl, rfl, rfl, by rw [List.length_append]; rfl, trivial⟩ (by rw [List.length_append, List.length_singleton, show r - (done.length + 1) = k by omega]) (fun _ _ => trivial)
      rw [List.getElem?_append] at hu
      split at hu
      · exact hd a u hu
      · rw [List.getElem?_singleton] at hu
        split at hu
        · injection hu with hu
          rw [← hu, hq, show a = done.length by omega]
          show l.map (·.1) = _
          rw [hlz, hlc2]
        · simp at hu
  ·
    have hlr : done.length = r := by have := of_decide_eq_false hc; omega
    refine tr_exit ?_
    repeat with_reducible first | refine tr_skip ?_ | refine tr_exit ?_ | refine tr_then ?_ | refine tr_inX ?_ | refine tr_thenX ?_ | refine tr_inN ?_ | refine tr_inR ?_ | refine tr_thenR ?_
    refine tr_rseq ?_
    refine sq_q (qt_move rfl) rfl ?_
    refine sq_q (qt_assign rfl) rfl ?_
    refine sq_end ?_
    refine tr_ret ?_
    repeat with_reducible first | refine tr_skip ?_ | refine tr_exit ?_ | refine tr_then ?_ | refine tr_inX ?_ | refine tr_thenX ?_ | refine tr_inN ?_ | refine tr_inR ?_ | refine tr_thenR ?_
    refine tr_own (lown r11 done) (by rw [hlr, Nat.sub_self]; rfl) ?_
    exact tr_doneD (r11, done) (lown r11 done) (List.Sublist.refl _) (fun a w s t => results_1 rfl (resv_tmp s rfl)) (fun w hf hk => ⟨hf, ⟨hlr, hd⟩, hk⟩)
theorem transposeL_ret (m : Mt) (B r c : Nat) (w0 : World) (S : Nat → Prop) (hm : m.ok B w0) (hB : B ≤ 35184372088832) (hs : shp m.zs = some (r, c)) :
    Ret Try.prog 44 [m.v] w0 S (fun x : Nat × List Lw => .tuple #[.slice (some ⟨x.1, 0, none⟩) c c, .bool true]) (fun x w' => Fresh w0.heap.size (lown x.1 x.2) w' ∧ LG (tr (ent m.zs)) c r x.2 ∧ Kp w0 S (lown x.1 x.2) (fun _ => True) w') := by
  obtain ⟨g1, g2, g3, g4, g5, g6⟩ := mt_shp hs
  refine ret_of Try.func44 rfl Try.ntmps44 rfl ?_
  refine tr_rseq ?_
  refine sq_box rfl rfl fun r1 => ?_
  refine sq_q (qt_assign rfl) rfl ?_
  refine sq_q (qt_assign rfl) rfl ?_
  refine sq_end ?_
  refine tr_rseq ?_
  refine sq_q (qt_load rfl (fun w t => t.atO 0 rfl rfl)) rfl ?_
  refine sq_call (val := fun _ : Unit => shpV (some (r, c))) (F := fun _ _ => True) rfl rfl rfl (fun w t => by rw [← hs]; exact shape_ret m B w _ (t.mt hm) (by omega) (fun q hq => by have := g6 q hq; omega)) fun _ => ?_
  refine sq_q (qt_move rfl) rfl ?_
  refine sq_q (qt_extract rfl rfl) rfl ?_
  refine sq_q (qt_extract rfl rfl) rfl ?_
  refine sq_q (qt_extract rfl rfl) rfl ?_
  refine sq_q (qt_assign rfl) rfl ?_
  refine sq_q (qt_assign rfl) rfl ?_
  refine sq_q (qt_assign rfl) rfl ?_
  refine sq_end ?_
  refine tr_seq ?_
  skip
  ·
    refine tr_rseq ?_
    refine sq_q (qt_move rfl) rfl ?_
    refine sq_q (qt_not rfl) rfl ?_
    refine sq_end ?_
    refine tr_ifF rfl ?_
    refine tr_skip ?_
    repeat with_reducible first | refine tr_skip ?_ | refine tr_exit ?_ | refine tr_then ?_ | refine tr_inX ?_ | refine tr_thenX ?_ | refine tr_inN ?_ | refine tr_inR ?_ | refine tr_thenR ?_
    refine tr_rseq ?_
    refine sq_q (qt_move rfl) rfl ?_
    refine sq_q (qt_move rfl) rfl ?_
    refine sq_q (qt_makeFunc rfl) rfl ?_
    refine sq_callK (fun x : Nat × List Lw => .slice (some ⟨x.1, 0, none⟩) c c) (fun x => lown x.1 x.2) (fun x => LG (tr (ent m.zs)) c r x.2) (fun _ _ => True) rfl rfl rfl (fun w t => ?_) fun x hx => ?_
    · exact buildL_ret c r (tr (ent m.zs)) 89 [] [.pointer (some ⟨r1, 0, none⟩)] w _ (by omega) (by omega) (fun i j w' S' hi hj hbel => transpose1K_ret m B r1 i j w' S' ((t.mt hm).below hbel) hB ((t.atO 0 rfl rfl).below hbel) (by omega) (by rw [g6 _ (List.getElem_mem _)]; exact hi))
    refine sq_q (qt_assign rfl) rfl ?_
    refine sq_q (qt_assign rfl) rfl ?_
    refine sq_end ?_
    refine tr_ret ?_
    repeat with_reducible first | refine tr_skip ?_ | refine tr_exit ?_ | refine tr_then ?_ | refine tr_inX ?_ | refine tr_thenX ?_ | refine tr_inN ?_ | refine tr_inR ?_ | refine tr_thenR ?_
    exact tr_doneD x (lown x.1 x.2) (List.sublist_append_left _ _) (fun a w s t => results_2 rfl (resv_tmp s rfl) (resv_tmp s rfl)) (fun w hf hk => ⟨hf, hx, hk.mono fun _ _ => trivial⟩)
end Go.Qk
end
section
set_option linter.unusedVariables false
namespace Go.Qk
open Go Go.Proofs Go.RowKit
def zng : Zd := ⟨true, [], (none, 0)⟩
/-- what is not yet reached still holds what it held -/
def Ti (EF : Nat → Nat → Int × Nat) (R C i j : Nat) (ws : List Wr) : Prop := ws.length = R ∧ ∀ a q, ws[a]? = some q → q.2.length = C ∧ ∀ b z, q.2[b]? = some z → (i < a ∨ (a = i ∧ j ≤ b)) → z = lz (EF a b)
/-- every entry's limbs stand in a block that is owned -/
def Tb (EF : Nat → Nat → Int × Nat) (R C : Nat) (lb : List (Nat × List Nat)) : Prop := ∀ a b, a < R → b < C → ∃ (p : Nat) (cur : List Nat), lb[p]? = some ((EF a b).2, cur) ∧ cur.length = (limbsOf (EF a b).1.natAbs).length
section
variable {EF : Nat → Nat → Int × Nat} {R C i j : Nat} {ws : List Wr} {lb : List (Nat × List Nat)}
theorem Ti.get (h : Ti EF R C i j ws) {a : Nat} (ha : a < R) : ∃ q, ws[a]? = some q ∧ q.2.length = C := by
  have hl : a < ws.length := by rw [h.1]; exact ha
  exact ⟨ws[a], List.getElem?_eq_getElem hl, (h.2 a _ (List.getElem?_eq_getElem hl)).1⟩
theorem Ti.row (h : Ti EF R C i j ws) (hj : j = C) : Ti EF R C (i + 1) 0 ws := by
  refine ⟨h.1, fun a q hq => ⟨(h.2 a q hq).1, fun b z hz hab => (h.2 a q hq).2 b z hz (.inl (by omega))⟩⟩
theorem Ti.next (h : Ti EF R C i j ws) {q : Wr} (hq : ws[i]? = some q) : Ti EF R C i (j + 1) (ws.set i (q.1, q.2.set j zng)) := by
  refine ⟨by rw [List.length_set]; exact h.1, fun a p hp => ?_⟩
  rw [List.getElem?_set] at hp
  split at hp
  · rename_i ha
    subst ha
    split at hp
    · injection hp with hp
      subst hp
      refine ⟨by rw [List.length_set]; exact (h.2 i q hq).1, fun b z hz hab => ?_⟩
      have hne : j ≠ b := by omega
      rw [List.getElem?_set_ne hne] at hz
      exact (h.2 i q hq).2 b z hz (by omega)
    · simp at hp
  · exact ⟨(h.2 a p hp).1, fun b z hz hab => (h.2 a p hp).2 b z hz (by omega)⟩
theorem Tb.set (h : Tb EF R C lb) {p k : Nat} {cur cur' : List Nat} (hp : lb[p]? = some (k, cur)) (hl : cur'.length = cur.length) : Tb EF R C (lb.set p (k, cur')) := by
  intro a b ha hb
  obtain ⟨p', c', h1, h2⟩ := h a b ha hb
  have hlt : p < lb.length := (List.getElem?_eq_some_iff.1 hp).1
  by_cases e : p = p'
  · subst e
    rw [hp] at h1
    injection h1 with h1
    injection h1 with h3 h4
    refine ⟨p, cur', ?_, by rw [hl, h4]; exact h2⟩
    rw [List.getElem?_set_self hlt, h3]
  · exact ⟨p', c', by rw [List.getElem?_set_ne e]; exact h1, h2⟩
variable {g : Mf} {qs : List Lw}
theorem LG.inv0 (h : LG g R C qs) (hEF : EF = fun a b => ((qs[a]?.getD (0, [])).2)[b]?.getD (0, 0)) : Ti EF R C 0 0 (qs.map wz) := by
  refine ⟨by rw [List.length_map]; exact h.1, fun a q hq => ?_⟩
  rw [List.getElem?_map] at hq
  cases hqa : qs[a]? with
  | none => rw [hqa] at hq; simp at hq
  | some p =>
    rw [hqa] at hq
    injection hq with hq
    subst hq
    refine ⟨by show (p.2.map lz).length = _; rw [List.length_map]; exact h.len hqa, fun b z hz _ => ?_⟩
    have hz : (p.2.map lz)[b]? = some z := hz
    rw [List.getElem?_map] at hz
    cases hb : p.2[b]? with
    | none => rw [hb] at hz; simp at hz
    | some e =>
      rw [hb] at hz
      injection hz with hz
      rw [← hz, hEF]
      simp [hqa, hb]
theorem LG.lim0 (h : LG g R C qs) (hEF : EF = fun a b => ((qs[a]?.getD (0, [])).2)[b]?.getD (0, 0)) : Tb EF R C ((qs.flatMap (·.2)).map lpr) := by
  intro a b ha hb
  have hl : a < qs.length := by rw [h.1]; exact ha
  have hqa : qs[a]? = some qs[a] := List.getElem?_eq_getElem hl
  have hlb : b < qs[a].2.length := by rw [h.len hqa]; exact hb
  have he : EF a b = qs[a].2[b] := by rw [hEF]; simp [hqa, List.getElem?_eq_getElem hlb]
  have hm : qs[a].2[b] ∈ qs.flatMap (·.2) := List.mem_flatMap.2 ⟨qs[a], List.getElem_mem hl, List.getElem_mem hlb⟩
  obtain ⟨p, hp⟩ := List.getElem?_of_mem hm
  refine ⟨p, limbsOf (EF a b).1.natAbs, ?_, rfl⟩
  rw [List.getElem?_map, hp, he]
  rfl
theorem LG.val (h : LG g R C qs) (hEF : EF = fun a b => ((qs[a]?.getD (0, [])).2)[b]?.getD (0, 0)) {a b : Nat} (ha : a < R) (hb : b < C) : (EF a b).1 = g a b := by
  have hl : a < qs.length := by rw [h.1]; exact ha
  have hqa : qs[a]? = some qs[a] := List.getElem?_eq_getElem hl
  have hlb : b < qs[a].2.length := by rw [h.len hqa]; exact hb
  have he : EF a b = qs[a].2[b] := by rw [hEF]; simp [hqa, List.getElem?_eq_getElem hlb]
  have h2 := congrArg (fun l => l[b]?) (h.2 a _ hqa)
  simp [List.getElem?_eq_getElem hlb, hb] at h2
  rw [he, h2]
end
theorem builtNeg : Try.prog.built 35 [(0, .bool true)] = some #[.bool true, .slice none 0 0] := by kernel_rfl
theorem bin_neqF {P : Program} {t : TypeId} (ht : P.underlying t = some .bool) {a : Bool} : Bin P .neq t (.bool a) (.bool a) (.bool false) := by
  have h := bin_neqB (P := P) ht a a
  simpa using h
end Go.Qk
end
section
set_option linter.unusedVariables false
namespace Go.Qk
open Go Go.Proofs Go.RowKit
set_option maxRecDepth 100000
set_option maxHeartbeats 4000000
theorem matrixTransposes_ret (m : Mt) (gx : Gd) (w0 : World) (S : Nat → Prop) (hm : m.ok RB w0) (hlen : m.rs.length ≤ RB) (hrow : ∀ r ∈ m.rs, r.l.length ≤ RB) (hx : gx.ok w0) :
    Ret Try.prog 11 [m.v, gx.v] w0 S (fun _ : Unit => .bool true) (fun _ _ => True) := by
  obtain ⟨r, hrr⟩ : ∃ r, r = 1 + gx.r % 8 := ⟨_, rfl⟩
  obtain ⟨c, hcc⟩ : ∃ c, c = 1 + gx.c % 8 := ⟨_, rfl⟩
  have hr1' : 1 ≤ r ∧ r ≤ 8 := by have := Nat.mod_lt gx.r (show 0 < 8 by omega); omega
  have hc1' : 1 ≤ c ∧ c ≤ 8 := by have := Nat.mod_lt gx.c (show 0 < 8 by omega); omega
  have hgz : gx.zs 8 = grid (gx.e 8) r c := by rw [hrr, hcc]; rfl
  have hsh : shp (gx.zs 8) = some (r, c) := by rw [hgz]; exact shp_grid _ (by omega) (by omega) (by omega) (by omega)
  refine ret_of Try.func11 rfl Try.ntmps11 rfl ?_
  refine tr_rseq ?_
  refine sq_box rfl rfl fun r3 => ?_
  refine sq_q (qt_assign rfl) rfl ?_
  refine sq_end ?_
  refine tr_seq ?_
  refine tr_rseq ?_
  refine sq_q (qt_move rfl) rfl ?_
  refine sq_call (fun b : Bool => .bool b) (fun b _ => b = false → smallM m) rfl rfl rfl (fun w t => large_ret m w _ (t.mt hm) hlen hrow) fun b => ?_
  refine sq_end ?_
  refine tr_have (fun w t => t.r.2) fun hb => ?_
  refine tr_if rfl (fun hc => ?_) (fun hc => ?_)
  ·
    clear hb
    refine tr_rseq ?_
    refine sq_call (val := fun _ : Unit => .bool true) (F := fun _ _ => True) rfl rfl rfl (fun w t => awake_ret w _) fun _ => ?_
    refine sq_q (qt_assign rfl) rfl ?_
    refine sq_end ?_
    refine tr_ret ?_
    repeat with_reducible first | refine tr_skip ?_ | refine tr_exit ?_ | refine tr_then ?_ | refine tr_inX ?_ | refine tr_thenX ?_ | refine tr_inN ?_ | refine tr_inR ?_ | refine tr_thenR ?_
    exact tr_done () (fun a w s t => results_1 rfl (resv_tmp s rfl)) (fun _ _ _ _ => trivial)
  ·
    have hs := hb hc
    have hl1 := hs.1
    have hr1 := fun r hr => (hs.2 r hr).1
    obtain ⟨k, hk⟩ : ∃ k, k = trO m.zs := ⟨_, rfl⟩
    obtain ⟨kl, kq⟩ := trO_lens m.zs (n := 35184372088832) (by omega)
    rw [← hk] at kl kq
    refine tr_skip ?_
    repeat with_reducible first | refine tr_skip ?_ | refine tr_exit ?_ | refine tr_then ?_ | refine tr_inX ?_ | refine tr_thenX ?_ | refine tr_inN ?_ | refine tr_inR ?_ | refine tr_thenR ?_
    refine tr_rseq ?_
    refine sq_q (qt_move rfl) rfl ?_
    refine sq_call (optV k) (optF 600 k) rfl rfl rfl (fun w t => by rw [hk]; exact transpose_ret m 600 w _ (hs.ok (t.mt hm)) (by omega) (by omega) (fun r hr => by have := hr1 r hr; omega)) fun m5 => ?_
    refine sq_q (qt_move rfl) rfl ?_
    refine sq_q (qt_extract rfl rfl) rfl ?_
    refine sq_q (qt_extract rfl rfl) rfl ?_
    refine sq_q (qt_assign rfl) rfl ?_
    refine sq_q (qt_assign rfl) rfl ?_
    refine sq_end ?_
    refine tr_rseq ?_
    refine sq_q (qt_move rfl) rfl ?_
    refine sq_call (optV k) (optF 600 k) rfl rfl rfl (fun w t => by rw [hk]; exact rtranspose_ret m 600 w _ (hs.ok (t.mt hm)) (by omega) (by omega) (fun r hr => by have := hr1 r hr; omega)) fun m7 => ?_
    refine sq_q (qt_move rfl) rfl ?_
    refine sq_q (qt_extract rfl rfl) rfl ?_
    refine sq_q (qt_extract rfl rfl) rfl ?_
    refine sq_q (qt_assign rfl) rfl ?_
    refine sq_q (qt_assign rfl) rfl ?_
    refine sq_end ?_
    refine tr_seq ?_
    skip
    ·
      refine tr_rseq ?_
      refine sq_q (qt_move rfl) rfl ?_
      refine sq_q (qt_move rfl) rfl ?_
      refine sq_q (qt_binB (r := .bool false) rfl rfl (bin_neqF boolT)) rfl ?_
      refine sq_q (qt_move rfl) rfl ?_
      refine sq_gT rfl rfl ?_
      refine sq_q (qt_move rfl) rfl ?_
      refine sq_gT rfl rfl ?_
      refine sq_q (qt_move rfl) rfl ?_
      refine sq_gT rfl rfl ?_
      refine sq_call (val := fun _ : Unit => .bool true) (F := fun _ _ => True) rfl rfl rfl (fun w t => same_opt t.r.1.2 t.r.2 (by omega) (by omega) kl kq) fun _ => ?_
      refine sq_gT rfl rfl ?_
      refine sq_q (qt_not rfl) rfl ?_
      refine sq_q (qt_pick rfl rfl) rfl ?_
      refine sq_end ?_
      refine tr_weak (fun _ => True) (fun _ _ => trivial) ?_
      refine tr_ifF rfl ?_
      refine tr_skip ?_
      repeat with_reducible first | refine tr_skip ?_ | refine tr_exit ?_ | refine tr_then ?_ | refine tr_inX ?_ | refine tr_thenX ?_ | refine tr_inN ?_ | refine tr_inR ?_ | refine tr_thenR ?_
      refine tr_rseq ?_
      refine sq_q (qt_load_agg (vs := [.int .u8 (gx.r : Int), .int .u8 (gx.c : Int), .slice gx.p.1 gx.l.length gx.p.2]) rfl rfl (fun w t j v hv => by rw [Nat.zero_add]; exact t.atO 0 rfl hv)) rfl ?_
      refine sq_call Mt.v (fun m w => m.ok 2 w ∧ m.zs = gx.zs 8 ∧ m.can) rfl rfl rfl (fun w t => gmatrix_ret gx 8 w _ (t.gd hx) (by omega) (by omega)) fun m9 => ?_
      refine sq_q (qt_assign rfl) rfl ?_
      refine sq_end ?_
      refine tr_have (fun w t => t.r.2.2.1) fun hz9 => ?_
      refine tr_r (fun w => optF 2 (some (gx.zs 8)) m9 w) (fun w h => h.2) ?_
      obtain ⟨l9, q9⟩ := mt_lens (hz9.trans hgz)
      refine tr_have (p := ∀ a b, a < r → b < c → (limbsOf (ent m9.zs a b).natAbs).length ≤ 2) (fun w t a b ha hb => by
        have ha' : a < m9.rs.length := by omega
        have hb' : b < m9.rs[a].l.length := by rw [q9 _ (List.getElem_mem ha')]; exact hb
        rw [mt_ent ha' hb']
        exact nl_zd ((t.r.1.2.2 _ (List.getElem_mem ha')).2.2 _ (List.getElem_mem hb'))) fun hn9 => ?_
      obtain ⟨g, hg⟩ : ∃ g, g = tr (ent m9.zs) := ⟨_, rfl⟩
      refine tr_rseq ?_
      refine sq_q (qt_move rfl) rfl ?_
      refine sq_callK (fun x : Nat × List Lw => .tuple #[.slice (some ⟨x.1, 0, none⟩) c c, .bool true]) (fun x => lown x.1 x.2) (fun x => LG g c r x.2) (fun _ _ => True) rfl rfl rfl (fun w t => by rw [hg]; exact transposeL_ret m9 2 r c w _ t.r.1 (by omega) (by rw [hz9]; exact hsh)) fun x hxL => ?_
      refine sq_q (qt_move rfl) rfl ?_
      refine sq_q (qt_extract rfl rfl) rfl ?_
      refine sq_q (qt_extract rfl rfl) rfl ?_
      refine sq_q (qt_assign rfl) rfl ?_
      refine sq_q (qt_assign rfl) rfl ?_
      refine sq_end ?_
      obtain ⟨o, qs⟩ := x
      replace hxL : LG g c r qs := hxL
      refine tr_r (fun w => optF 2 (some (gx.zs 8)) m9 w) (fun w h => h.1) ?_
      refine tr_seq ?_
      skip
      ·
        refine tr_rseq ?_
        refine sq_q (qt_move rfl) rfl ?_
        refine sq_q (qt_not rfl) rfl ?_
        refine sq_end ?_
        obtain ⟨EF, hEF⟩ : ∃ EF : Nat → Nat → Int × Nat, EF = fun a b => ((qs[a]?.getD (0, [])).2)[b]?.getD (0, 0) := ⟨_, rfl⟩
        have hI0 := LG.inv0 hxL hEF
        have hB0 := LG.lim0 hxL hEF
        have hV0 := fun (a b : Nat) (ha : a < c) (hb : b < r) => LG.val hxL hEF ha hb
        refine tr_perm ((r3, .cells gx.v.cells 31 (0, 0)) :: (mown o (qs.map wz) ++ ((qs.flatMap (·.2)).map lpr).map lbo)) (by rw [List.map_map]; exact List.perm_append_singleton _ _) ?_
        obtain ⟨ws0, hws0⟩ : ∃ ws0, ws0 = qs.map wz := ⟨_, rfl⟩
        obtain ⟨lb0, hlb0⟩ : ∃ lb0, lb0 = (qs.flatMap (·.2)).map lpr := ⟨_, rfl⟩
        rw [← hws0] at hI0
        rw [← hlb0] at hB0
        rw [← hws0, ← hlb0]
        obtain ⟨gv, hgv⟩ : ∃ gv : Nat × Obj, gv = (r3, .cells gx.v.cells 31 (0, 0)) := ⟨_, rfl⟩
        have hg0 : ∀ l : Own, ownAt (gv :: l) 0 = some (r3, .cells gx.v.cells 31 (0, 0)) := fun l => by rw [hgv]; rfl
        rw [← hgv]
        refine tr_ifF rfl ?_
        refine tr_skip ?_
        repeat with_reducible first | refine tr_skip ?_ | refine tr_exit ?_ | refine tr_then ?_ | refine tr_inX ?_ | refine tr_thenX ?_ | refine tr_inN ?_ | refine tr_inR ?_ | refine tr_thenR ?_
        refine tr_seq ?_
        refine tr_rseq ?_
        refine sq_q (qt_move rfl) rfl ?_
        refine sq_q (qt_len rfl) rfl ?_
        refine sq_q (qt_move rfl) rfl ?_
        refine sq_end ?_
        refine tr_block ?_
        refine tr_loop3 (fun (i : Nat) (ws : List Wr) (lb : List (Nat × List Nat)) => i ≤ c ∧ Ti EF c r i 0 ws ∧ Tb EF c r lb) (fun i ws lb => [(3, .pointer (some ⟨r3, 0, none⟩)), (9, m9.v), (10, .slice (some ⟨o, 0, none⟩) c c), (47, .int .i64 (c : Int)), (48, .int .i64 (i : Int))]) (fun i ws lb => gv :: (mown o ws ++ lb.map lbo)) (fun _ _ _ w => optF 2 (some (gx.zs 8)) m9 w) (fun i _ _ => c - i) 0 ws0 lb0 ⟨Nat.zero_le _, hI0, hB0⟩ ⟨rfl, rfl, rfl, rfl, rfl, trivial⟩ rfl (fun _ h => h) ?_
        clear hI0 hB0 hws0 hlb0 ws0 lb0
        rintro i ws lb ⟨hi, hT, hTb⟩
        refine tr_rseq ?_
        refine sq_q (qt_bin rfl rfl bin_lss) rfl ?_
        refine sq_end ?_
        refine tr_seq ?_
        refine tr_if rfl (fun hc => ?_) (fun hc => ?_)
        ·
          have hlt : i < c := by have := of_decide_eq_true hc; omega
          obtain ⟨q, hq, hql⟩ := hT.get hlt
          refine tr_skip ?_
          repeat with_reducible first | refine tr_skip ?_ | refine tr_exit ?_ | refine tr_then ?_ | refine tr_inX ?_ | refine tr_thenX ?_ | refine tr_inN ?_ | refine tr_inR ?_ | refine tr_thenR ?_
          refine tr_seq ?_
          refine tr_block ?_
          refine tr_rseq ?_
          refine sq_q (qt_move rfl) rfl ?_
          refine sq_q (qt_assign rfl) rfl ?_
          refine sq_end ?_
          refine tr_rseq ?_
          refine sq_q (qt_move rfl) rfl ?_
          refine sq_q (qt_move rfl) rfl ?_
          refine sq_q (qt_index (i := i) rfl rfl hlt) rfl ?_
          refine sq_q (qt_load (v := .slice (some ⟨q.1, 0, none⟩) q.2.length q.2.length) rfl (fun w t => t.o1 1 rfl (mout_get hq))) rfl ?_
          refine sq_q (qt_len rfl) rfl ?_
          refine sq_q (qt_move rfl) rfl ?_
          refine sq_end ?_
          refine tr_block ?_
          refine tr_loop3 (fun (j : Nat) (ws : List Wr) (lb : List (Nat × List Nat)) => j ≤ r ∧ Ti EF c r i j ws ∧ Tb EF c r lb) (fun j ws lb => [(3, .pointer (some ⟨r3, 0, none⟩)), (9, m9.v), (10, .slice (some ⟨o, 0, none⟩) c c), (12, .int .i64 (i : Int)), (47, .int .i64 (c : Int)), (48, .int .i64 (i : Int)), (55, .int .i64 (r : Int)), (56, .int .i64 (j : Int))]) (fun j ws lb => gv :: (mown o ws ++ lb.map lbo)) (fun _ _ _ w => optF 2 (some (gx.zs 8)) m9 w) (fun j _ _ => r - j) 0 ws lb ⟨Nat.zero_le _, hT, hTb⟩ ⟨rfl, rfl, rfl, rfl, rfl, rfl, by rw [← hql]; rfl, rfl, trivial⟩ rfl (fun _ h => h) ?_
          clear hT hTb hq hql q ws lb
          rintro j ws lb ⟨hj, hT, hTb⟩
          refine tr_rseq ?_
          refine sq_q (qt_bin rfl rfl bin_lss) rfl ?_
          refine sq_end ?_
          refine tr_seq ?_
          refine tr_if rfl (fun hc => ?_) (fun hc => ?_)
          ·
            have hltj : j < r := by have := of_decide_eq_true hc; omega
            obtain ⟨q, hq, hql⟩ := hT.get hlt
            obtain ⟨z, hz⟩ : ∃ z, q.2[j]? = some z := ⟨_, List.getElem?_eq_getElem (show j < q.2.length by omega)⟩
            obtain ⟨e, he⟩ : ∃ e, e = EF i j := ⟨_, rfl⟩
            have hze : z = lz e := by rw [he]; exact (hT.2 i q hq).2 j z hz (.inr ⟨rfl, Nat.le_refl _⟩)
            obtain ⟨n, hn⟩ : ∃ n, n = (limbsOf e.1.natAbs).length := ⟨_, rfl⟩
            have hn2 : n ≤ 2 := by rw [hn, he, hV0 i j hlt hltj, hg]; exact hn9 j i hltj hlt
            have hzv : slv z.xs z.p = .slice (sgP e.1.natAbs (some ⟨e.2, 0, none⟩)).1 n (sgP e.1.natAbs (some ⟨e.2, 0, none⟩)).2 := by rw [hze, hn]; rfl
            have hrowA : ∀ l : List (Nat × List Nat), ownAt (gv :: (mown o ws ++ l.map lbo)) (i + 2) = some (mrow q) := fun l => ownAt_l (a := mown o ws) (i := i + 1) _ (mown_at hq)
            refine tr_skip ?_
            repeat with_reducible first | refine tr_skip ?_ | refine tr_exit ?_ | refine tr_then ?_ | refine tr_inX ?_ | refine tr_thenX ?_ | refine tr_inN ?_ | refine tr_inR ?_ | refine tr_thenR ?_
            refine tr_seq ?_
            refine tr_block ?_
            refine tr_rseq ?_
            refine sq_q (qt_move rfl) rfl ?_
            refine sq_q (qt_assign rfl) rfl ?_
            refine sq_end ?_
            refine tr_seq ?_
            refine tr_rseq ?_
            refine sq_q (qt_move rfl) rfl ?_
            refine sq_q (qt_move rfl) rfl ?_
            refine sq_q (qt_index (i := i) rfl rfl hlt) rfl ?_
            refine sq_q (qt_load (v := .slice (some ⟨q.1, 0, none⟩) q.2.length q.2.length) rfl (fun w t => t.o1 1 rfl (mout_get hq))) rfl ?_
            refine sq_q (qt_move rfl) rfl ?_
            refine sq_q (qt_index (i := j) rfl rfl (by omega)) rfl ?_
            refine sq_q (qt_fieldAddr rfl) rfl ?_
            refine sq_q (qt_load (v := .slice (sgP e.1.natAbs (some ⟨e.2, 0, none⟩)).1 n (sgP e.1.natAbs (some ⟨e.2, 0, none⟩)).2) rfl (fun w t => by rw [← hzv]; exact t.mz1 (i + 2) (hrowA _) hz)) rfl ?_
            refine sq_q (qt_len rfl) rfl ?_
            refine sq_q (qt_move rfl) rfl ?_
            refine sq_end ?_
            refine tr_block ?_
            refine tr_loop2 (fun (k : Nat) (lb : List (Nat × List Nat)) => k ≤ n ∧ Tb EF c r lb) (fun k lb => [(3, .pointer (some ⟨r3, 0, none⟩)), (9, m9.v), (10, .slice (some ⟨o, 0, none⟩) c c), (12, .int .i64 (i : Int)), (13, .int .i64 (j : Int)), (47, .int .i64 (c : Int)), (48, .int .i64 (i : Int)), (55, .int .i64 (r : Int)), (56, .int .i64 (j : Int)), (67, .int .i64 (n : Int)), (68, .int .i64 (k : Int))]) (fun k lb => gv :: (mown o ws ++ lb.map lbo)) (fun _ _ w => optF 2 (some (gx.zs 8)) m9 w) (fun k _ => n - k) 0 lb ⟨Nat.zero_le _, hTb⟩ ⟨rfl, rfl, rfl, rfl, rfl, rfl, rfl, rfl, rfl, rfl, rfl, trivial⟩ rfl (fun _ h => h) ?_
            clear hTb lb
            rintro k lb ⟨hk2, hTb⟩
            refine tr_rseq ?_
            refine sq_q (qt_bin rfl rfl bin_lss) rfl ?_
            refine sq_end ?_
            refine tr_seq ?_
            refine tr_if rfl (fun hc => ?_) (fun hc => ?_)
            ·
              have hltk : k < n := by have := of_decide_eq_true hc; omega
              obtain ⟨p, cur, hp, hcl⟩ := hTb i j hlt hltj
              rw [← he] at hp hcl
              have hv0 : e.1.natAbs ≠ 0 := fun h0 => by rw [hn, h0, limbsOf_zero] at hltk; exact absurd hltk (Nat.not_lt_zero _)
              have hzv2 : slv z.xs z.p = .slice (some ⟨e.2, 0, none⟩) n n := by rw [hzv]; unfold sgP; rw [if_neg hv0, hn]
              have hlimA : ownAt (gv :: (mown o ws ++ lb.map lbo)) ((mown o ws).length + p + 1) = some (lbo (e.2, cur)) := by
                show ownAt (mown o ws ++ lb.map lbo) ((mown o ws).length + p) = _
                rw [ownAt_r]
                exact ownAt_map lbo lb p (e.2, cur) hp
              refine tr_skip ?_
              repeat with_reducible first | refine tr_skip ?_ | refine tr_exit ?_ | refine tr_then ?_ | refine tr_inX ?_ | refine tr_thenX ?_ | refine tr_inN ?_ | refine tr_inR ?_ | refine tr_thenR ?_
              refine tr_seq ?_
              refine tr_block ?_
              refine tr_rseq ?_
              refine sq_q (qt_move rfl) rfl ?_
              refine sq_q (qt_assign rfl) rfl ?_
              refine sq_end ?_
              refine tr_region ?_
              refine sq_q (qt_move rfl) rfl ?_
              refine sq_q (qt_move rfl) rfl ?_
              refine sq_q (qt_index (i := i) rfl rfl hlt) rfl ?_
              refine sq_q (qt_load (v := .slice (some ⟨q.1, 0, none⟩) q.2.length q.2.length) rfl (fun w t => t.o1 1 rfl (mout_get hq))) rfl ?_
              refine sq_q (qt_move rfl) rfl ?_
              refine sq_q (qt_index (i := j) rfl rfl (by omega)) rfl ?_
              refine sq_q (qt_fieldAddr rfl) rfl ?_
              refine sq_q (qt_load (v := .slice (some ⟨e.2, 0, none⟩) n n) rfl (fun w t => by rw [← hzv2]; exact t.mz1 (i + 2) (hrowA _) hz)) rfl ?_
              refine sq_q (qt_move rfl) rfl ?_
              refine sq_q (qt_index (i := k) rfl rfl hltk) rfl ?_
              refine sq_store ((mown o ws).length + p + 1) rfl rfl hlimA rfl (show 0 + k * 1 + 1 ≤ (u32s cur).length by simp [u32s]; omega) rfl rfl ?_
              refine sq_nil ?_
              repeat with_reducible first | refine tr_skip ?_ | refine tr_exit ?_ | refine tr_then ?_ | refine tr_inX ?_ | refine tr_thenX ?_ | refine tr_inN ?_ | refine tr_inR ?_ | refine tr_thenR ?_
              refine tr_region ?_
              refine sq_q (qt_bin rfl rfl (bin_addI (by omega) (by omega))) rfl ?_
              refine sq_q (qt_move rfl) rfl ?_
              refine sq_nil ?_
              repeat with_reducible first | refine tr_skip ?_ | refine tr_exit ?_ | refine tr_then ?_ | refine tr_inX ?_ | refine tr_thenX ?_ | refine tr_inN ?_ | refine tr_inR ?_ | refine tr_thenR ?_
              refine tr_own (gv :: (mown o ws ++ (lb.set p (e.2, cur.set k 99)).map lbo)) (by
                show gv :: ownSet (mown o ws ++ lb.map lbo) ((mown o ws).length + p) _ = _
                rw [ownSet_r, ownSet_map lbo lb p (e.2, cur) (e.2, cur.set k 99) _ hp ?_]
                rw [Nat.zero_add, Nat.mul_one]
                unfold lbo
                dsimp only
                rw [← u32s_set]
                rfl) ?_
              exact tr_round2 (k + 1) (lb.set p (e.2, cur.set k 99)) ⟨by omega, hTb.set hp (by simp)⟩ (by omega) ⟨rfl, rfl, rfl, rfl, rfl, rfl, rfl, rfl, rfl, rfl, rfl, trivial⟩ rfl (fun _ h => h)
            ·
              have hkn : k = n := by have := of_decide_eq_false hc; omega
              refine tr_exit ?_
              repeat with_reducible first | refine tr_skip ?_ | refine tr_exit ?_ | refine tr_then ?_ | refine tr_inX ?_ | refine tr_thenX ?_ | refine tr_inN ?_ | refine tr_inR ?_ | refine tr_thenR ?_
              refine tr_region ?_
              refine sq_q (qt_move rfl) rfl ?_
              refine sq_q (qt_move rfl) rfl ?_
              refine sq_q (qt_index (i := i) rfl rfl hlt) rfl ?_
              refine sq_q (qt_load (v := .slice (some ⟨q.1, 0, none⟩) q.2.length q.2.length) rfl (fun w t => t.o1 1 rfl (mout_get hq))) rfl ?_
              refine sq_q (qt_move rfl) rfl ?_
              refine sq_q (qt_build rfl builtNeg) rfl ?_
              refine sq_q (qt_index (i := j) rfl rfl (by omega)) rfl ?_
              refine sq_store (i + 2) rfl rfl (hrowA _) rfl (show 0 + j * 2 + 2 ≤ (zcs q.2).length by rw [zcs_length]; omega) rfl rfl ?_
              refine sq_nil ?_
              repeat with_reducible first | refine tr_skip ?_ | refine tr_exit ?_ | refine tr_then ?_ | refine tr_inX ?_ | refine tr_thenX ?_ | refine tr_inN ?_ | refine tr_inR ?_ | refine tr_thenR ?_
              refine tr_region ?_
              refine sq_q (qt_bin rfl rfl (bin_addI (by omega) (by omega))) rfl ?_
              refine sq_q (qt_move rfl) rfl ?_
              refine sq_nil ?_
              repeat with_reducible first | refine tr_skip ?_ | refine tr_exit ?_ | refine tr_then ?_ | refine tr_inX ?_ | refine tr_thenX ?_ | refine tr_inN ?_ | refine tr_inR ?_ | refine tr_thenR ?_
              refine tr_own (gv :: (mown o (ws.set i (q.1, q.2.set j zng)) ++ lb.map lbo)) (by
                show gv :: ownSet (mown o ws ++ lb.map lbo) (i + 1) _ = _
                rw [ownSet_l _ (mown_at hq)]
                congr 2
                exact mown_wr zng hq (show j < q.2.length by omega)) ?_
              exact tr_round3 (j + 1) (ws.set i (q.1, q.2.set j zng)) lb ⟨by omega, hT.next hq, hTb⟩ (by omega) ⟨rfl, rfl, rfl, rfl, rfl, rfl, rfl, rfl, trivial⟩ rfl (fun _ h => h)
          ·
            have hjr : j = r := by have := of_decide_eq_false hc; omega
            refine tr_exit ?_
            repeat with_reducible first | refine tr_skip ?_ | refine tr_exit ?_ | refine tr_then ?_ | refine tr_inX ?_ | refine tr_thenX ?_ | refine tr_inN ?_ | refine tr_inR ?_ | refine tr_thenR ?_
            refine tr_region ?_
            refine sq_q (qt_bin rfl rfl (bin_addI (by omega) (by omega))) rfl ?_
            refine sq_q (qt_move rfl) rfl ?_
            refine sq_nil ?_
            repeat with_reducible first | refine tr_skip ?_ | refine tr_exit ?_ | refine tr_then ?_ | refine tr_inX ?_ | refine tr_thenX ?_ | refine tr_inN ?_ | refine tr_inR ?_ | refine tr_thenR ?_
            exact tr_round3 (i + 1) ws lb ⟨by omega, hT.row hjr, hTb⟩ (by omega) ⟨rfl, rfl, rfl, rfl, rfl, trivial⟩ rfl (fun _ h => h)
        ·
          skip
          refine tr_exit ?_
          repeat with_reducible first | refine tr_skip ?_ | refine tr_exit ?_ | refine tr_then ?_ | refine tr_inX ?_ | refine tr_thenX ?_ | refine tr_inN ?_ | refine tr_inR ?_ | refine tr_thenR ?_
          skip
          ·
            refine tr_rseq ?_
            refine sq_q (qt_move rfl) rfl ?_
            refine sq_q (qt_load_agg (vs := [.int .u8 (gx.r : Int), .int .u8 (gx.c : Int), .slice gx.p.1 gx.l.length gx.p.2]) rfl rfl (fun w t j v hv => by rw [Nat.zero_add]; exact t.atO 0 (hg0 _) hv)) rfl ?_
            refine sq_call Mt.v (fun m w => m.ok 2 w ∧ m.zs = gx.zs 8 ∧ m.can) rfl rfl rfl (fun w t => gmatrix_ret gx 8 w _ (t.gd hx) (by omega) (by omega)) fun m93 => ?_
            refine sq_call (val := fun _ : Unit => .bool true) (F := fun _ _ => True) rfl rfl rfl (fun w t => same_opt t.r.1 (show optF 2 (some (gx.zs 8)) m93 w from t.r.2) (by omega) (by omega) (by rw [Option.getD_some, hgz]; exact (grid_lens _ _ _ (by omega) (by omega)).1) (by rw [Option.getD_some, hgz]; exact (grid_lens _ _ _ (by omega) (by omega)).2)) fun _ => ?_
            refine sq_q (qt_move rfl) rfl ?_
            refine sq_gT rfl rfl ?_
            refine sq_call (val := fun _ : Unit => .bool true) (F := fun _ _ => True) rfl rfl rfl (fun w t => awake_ret w _) fun _ => ?_
            refine sq_q (qt_pick rfl rfl) rfl ?_
            refine sq_q (qt_assign rfl) rfl ?_
            refine sq_end ?_
            refine tr_ret ?_
            repeat with_reducible first | refine tr_skip ?_ | refine tr_exit ?_ | refine tr_then ?_ | refine tr_inX ?_ | refine tr_thenX ?_ | refine tr_inN ?_ | refine tr_inR ?_ | refine tr_thenR ?_
            exact tr_done () (fun a w s t => results_1 rfl (resv_tmp s rfl)) (fun _ _ _ _ => trivial)
end Go.Qk
end
