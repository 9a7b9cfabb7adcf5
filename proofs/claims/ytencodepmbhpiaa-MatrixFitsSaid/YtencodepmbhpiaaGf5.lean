/- Lemmas and contracts of functions that the law reaches. -/
import Derived.Test.YtencodepmbhpiaaGf4
set_option linter.unusedVariables false
set_option linter.unusedSimpArgs false
section
set_option linter.unusedVariables false
namespace Go.Qk
open Go Go.Proofs Go.RowKit
set_option maxRecDepth 100000
set_option maxHeartbeats 4000000
theorem inverse_ret (m : Mt) (B : Nat) (w0 : World) (S : Nat → Prop) (hm : m.ok B w0) (hB : B ≤ 8388607) (hB1 : 1 ≤ B) (hlen : m.rs.length ≤ 35184372088832) (hrow : ∀ r ∈ m.rs, r.l.length ≤ 35184372088832) :
    Ret Try.prog 40 [m.v] w0 S (optV (invO m.zs)) (optF 549755813889 (invO m.zs)) := by
  obtain ⟨N, hN⟩ : ∃ N : Nat, N = ((shp m.zs).getD (0, 0)).1 := ⟨_, rfl⟩
  obtain ⟨sq, hsq⟩ : ∃ sq, sq = sqb (shp m.zs) := ⟨_, rfl⟩
  refine ret_of Try.func40 rfl Try.ntmps40 rfl ?_
  refine tr_rseq ?_
  refine sq_q (qt_assign rfl) rfl ?_
  refine sq_q (qt_assign rfl) rfl ?_
  refine sq_end ?_
  refine tr_rseq ?_
  refine sq_q (qt_move rfl) rfl ?_
  refine sq_call (val := fun _ : Unit => .tuple #[.int .i64 (N : Int), .bool sq]) (F := fun _ _ => True) rfl rfl rfl (fun w t => by rw [hN, hsq]; exact square_ret m B w _ (t.mt hm) hlen hrow) fun _ => ?_
  refine sq_q (qt_move rfl) rfl ?_
  refine sq_q (qt_extract rfl rfl) rfl ?_
  refine sq_q (qt_extract rfl rfl) rfl ?_
  refine sq_q (qt_assign rfl) rfl ?_
  refine sq_q (qt_assign rfl) rfl ?_
  refine sq_end ?_
  refine tr_seq ?_
  refine tr_rseq ?_
  refine sq_q (qt_move rfl) rfl ?_
  refine sq_q (qt_not rfl) rfl ?_
  refine sq_end ?_
  refine tr_if rfl (fun hc => ?_) (fun hc => ?_)
  ·
    have hs : sqb (shp m.zs) = false := by rw [← hsq]; simpa using hc
    have e : invO m.zs = none := by unfold invO; rw [if_neg (by rw [hs]; decide)]
    rw [e]
    refine tr_rseq ?_
    refine sq_q (qt_assign rfl) rfl ?_
    refine sq_q (qt_assign rfl) rfl ?_
    refine sq_end ?_
    refine tr_ret ?_
    repeat with_reducible first | refine tr_skip ?_ | refine tr_exit ?_ | refine tr_then ?_ | refine tr_inX ?_ | refine tr_thenX ?_ | refine tr_inN ?_ | refine tr_inR ?_ | refine tr_thenR ?_
    exact tr_done ⟨[], (none, 0)⟩ (fun a w s t => results_2 rfl (resv_tmp s rfl) (resv_tmp s rfl)) (fun w _ _ _ => optF_none _ _)
  ·
    have hs : sqb (shp m.zs) = true := by rw [← hsq]; simpa using hc
    obtain ⟨h1, h2, h3⟩ := sqr_rows hs
    have hNm : m.rs.length = N := by
      cases hq : shp m.zs with
      | none => rw [hq] at hs; simp [sqb] at hs
      | some rc =>
        have := (shp_inv (r := rc.1) (c := rc.2) hq).1
        rw [m.zs_len] at this
        rw [hN, hq, this]
        rfl
    obtain ⟨D, hD⟩ : ∃ D, D = bdet m.rs.length (ent m.zs) := ⟨_, rfl⟩
    obtain ⟨g2, hg2⟩ := adjO_rows hs
    rw [m.zs_len, hNm] at hg2
    have hO : invO m.zs = if D = 1 ∨ D = -1 then some (grid (invE m.zs D) N N) else none := by unfold invO; rw [if_pos hs, m.zs_len, ← hD, hNm]
    refine tr_skip ?_
    repeat with_reducible first | refine tr_skip ?_ | refine tr_exit ?_ | refine tr_then ?_ | refine tr_inX ?_ | refine tr_thenX ?_ | refine tr_inN ?_ | refine tr_inR ?_ | refine tr_thenR ?_
    refine tr_rseq ?_
    refine sq_q (qt_move rfl) rfl ?_
    refine sq_call (iv D) (fun p w => Lz D.natAbs p w ∧ nl D.natAbs ≤ 549755813887) rfl rfl rfl (fun w t => by rw [hD]; exact determinant_ret m B m.rs.length w _ (t.mt hm) hB hB1 rfl h1 h2 h3) fun x19 => ?_
    refine sq_call (val := fun _ : Unit => int64V D) (F := fun _ _ => True) rfl rfl rfl (fun w t => int64_iv D x19 w _ t.r.2.1 (by have := t.r.2.2; omega)) fun _ => ?_
    obtain ⟨dv, hdv⟩ : ∃ dv : Int, dv = if In64 D then D else 0 := ⟨_, rfl⟩
    obtain ⟨okb, hokb⟩ : ∃ okb : Bool, okb = decide (In64 D) := ⟨_, rfl⟩
    have e64 : int64V D = .tuple #[.int .i64 dv, .bool okb] := by rw [hdv, hokb]; rfl
    rw [e64]
    refine sq_q (qt_move rfl) rfl ?_
    refine sq_q (qt_extract rfl rfl) rfl ?_
    refine sq_q (qt_extract rfl rfl) rfl ?_
    refine sq_alloc rfl fun r6 => ?_
    refine sq_store 0 rfl rfl rfl rfl (by first | (simp [u32s, Value.cells]; done) | (simp [u32s, Value.cells]; omega) | exact Nat.le_refl 2) rfl rfl ?_
    refine sq_q (qt_assign rfl) rfl ?_
    refine sq_end ?_
    refine tr_seq ?_
    have hcase : okb = false ∨ (okb = true ∧ dv = 1) ∨ (okb = true ∧ dv = -1) ∨ (okb = true ∧ dv ≠ 1 ∧ dv ≠ -1) := by
      cases okb
      · exact .inl rfl
      · by_cases h1 : dv = 1
        · exact .inr (.inl ⟨rfl, h1⟩)
        · by_cases h2 : dv = -1
          · exact .inr (.inr (.inl ⟨rfl, h2⟩))
          · exact .inr (.inr (.inr ⟨rfl, h1, h2⟩))
    have hin : okb = true → In64 D ∧ dv = D := fun h => by
      rw [h] at hokb
      have h1 : In64 D := by simpa using hokb.symm
      exact ⟨h1, by rw [hdv, if_pos h1]⟩
    rcases hcase with h0 | ⟨h0, h1v⟩ | ⟨h0, h1v⟩ | ⟨h0, h1v, h2v⟩
    ·
      subst h0
      have hO2 : invO m.zs = none := by
        rw [hO, if_neg]
        have hn : ¬ In64 D := by simpa using hokb.symm
        rintro (h | h) <;> exact hn (by unfold In64; omega)
      rw [hO2]
      refine tr_rseq ?_
      refine sq_q (qt_move rfl) rfl ?_
      refine sq_q (qt_not rfl) rfl ?_
      refine sq_q (qt_move rfl) rfl ?_
      refine sq_gF rfl rfl rfl rfl ?_
      refine sq_gF rfl rfl rfl rfl ?_
      refine sq_gF rfl rfl rfl rfl ?_
      refine sq_gU rfl rfl rfl ?_
      refine sq_gU rfl rfl rfl ?_
      refine sq_gF rfl rfl rfl rfl ?_
      refine sq_q (qt_pick rfl rfl) rfl ?_
      refine sq_end ?_
      refine tr_ifT rfl ?_
      refine tr_rseq ?_
      refine sq_q (qt_assign rfl) rfl ?_
      refine sq_q (qt_assign rfl) rfl ?_
      refine sq_end ?_
      refine tr_ret ?_
      repeat with_reducible first | refine tr_skip ?_ | refine tr_exit ?_ | refine tr_then ?_ | refine tr_inX ?_ | refine tr_thenX ?_ | refine tr_inN ?_ | refine tr_inR ?_ | refine tr_thenR ?_
      exact tr_done ⟨[], (none, 0)⟩ (fun a w s t => results_2 rfl (resv_tmp s rfl) (resv_tmp s rfl)) (fun w _ _ _ => optF_none _ _)
    ·
      have hDv : D = 1 := by rw [← (hin h0).2]; exact h1v
      have hDin : In64 D := (hin h0).1
      have hO2 : invO m.zs = some (grid (invE m.zs D) N N) := by rw [hO, if_pos (.inl hDv)]
      rw [hO2]
      have hdvD : dv = D := (hin h0).2
      clear hin hdv hokb hO e64
      subst h0
      refine tr_rseq ?_
      refine sq_q (qt_move rfl) rfl ?_
      refine sq_q (qt_not rfl) rfl ?_
      refine sq_q (qt_move rfl) rfl ?_
      refine sq_gT rfl rfl ?_
      refine sq_q (qt_load rfl (fun w t => t.atO 0 rfl rfl)) rfl ?_
      refine sq_gT rfl rfl ?_
      refine sq_q (qt_bin rfl rfl (bF bin_neq (by omega))) rfl ?_
      refine sq_gT rfl rfl ?_
      refine sq_q (qt_move rfl) rfl ?_
      refine sq_gF rfl rfl rfl rfl ?_
      refine sq_gF rfl rfl rfl rfl ?_
      refine sq_gT rfl rfl ?_
      refine sq_q (qt_pick rfl rfl) rfl ?_
      refine sq_q (qt_pick rfl rfl) rfl ?_
      refine sq_end ?_
      refine tr_ifF rfl ?_
      refine tr_skip ?_
      repeat with_reducible first | refine tr_skip ?_ | refine tr_exit ?_ | refine tr_then ?_ | refine tr_inX ?_ | refine tr_thenX ?_ | refine tr_inN ?_ | refine tr_inR ?_ | refine tr_thenR ?_
      refine tr_rseq ?_
      refine sq_q (qt_move rfl) rfl ?_
      subst hdvD
      refine sq_call (optV (adjO m.zs)) (optF 549755813887 (adjO m.zs)) rfl rfl rfl (fun w t => adjugate_ret m B w _ (t.mt hm) hB hB1 hlen hrow) fun m2 => ?_
      refine sq_have (fun w t => t.r.2.2.1) fun hz2 => ?_
      rw [hg2] at hz2
      obtain ⟨hl2, hr2⟩ := grid_rows hz2
      refine sq_q (qt_move rfl) rfl ?_
      refine sq_q (qt_extract rfl rfl) rfl ?_
      refine sq_q (qt_extract rfl rfl) rfl ?_
      refine sq_alloc rfl fun r8 => ?_
      refine sq_store 0 rfl rfl rfl rfl (Nat.le_refl 1) rfl rfl ?_
      refine sq_q (qt_assign rfl) rfl ?_
      refine sq_end ?_
      refine tr_rseq ?_
      refine sq_q (qt_move rfl) rfl ?_
      refine sq_q (qt_move rfl) rfl ?_
      refine sq_q (qt_makeFunc rfl) rfl ?_
      refine sq_call Mt.v (fun m' w => m'.ok 549755813889 w ∧ m'.zs = grid (invE m.zs dv) N N ∧ m'.can) rfl rfl rfl (fun w t => ?_) fun m' => ?_
      · refine build_ret N N 549755813889 (invE m.zs dv) 86 [] [.pointer (some ⟨r8, 0, none⟩), .pointer (some ⟨r6, 0, none⟩)] w _ (by omega) (by omega) (fun i j w' S' hi hj hbel => ?_)
        have e : invE m.zs dv i j = ent m2.zs i j * dv := by unfold invE; rw [hg2, hz2]
        rw [e]
        exact inv1_ret m2 549755813887 r8 r6 i j dv w' S' (t.r.2.1.below hbel) (by omega) ((t.atO 0 rfl rfl).below hbel) ((t.atO 1 rfl rfl).below hbel) hDin (by omega) (by rw [hr2 _ (List.getElem_mem _)]; exact hj)
      refine sq_q (qt_assign rfl) rfl ?_
      refine sq_q (qt_assign rfl) rfl ?_
      refine sq_end ?_
      refine tr_ret ?_
      repeat with_reducible first | refine tr_skip ?_ | refine tr_exit ?_ | refine tr_then ?_ | refine tr_inX ?_ | refine tr_thenX ?_ | refine tr_inN ?_ | refine tr_inR ?_ | refine tr_thenR ?_
      exact tr_done m' (fun a w s t => results_2 rfl (resv_tmp s rfl) (resv_tmp s rfl)) (fun w h _ _ => h.2)
    ·
      have hDv : D = -1 := by rw [← (hin h0).2]; exact h1v
      have hDin : In64 D := (hin h0).1
      have hO2 : invO m.zs = some (grid (invE m.zs D) N N) := by rw [hO, if_pos (.inr hDv)]
      rw [hO2]
      have hdvD : dv = D := (hin h0).2
      clear hin hdv hokb hO e64
      subst h0
      refine tr_rseq ?_
      refine sq_q (qt_move rfl) rfl ?_
      refine sq_q (qt_not rfl) rfl ?_
      refine sq_q (qt_move rfl) rfl ?_
      refine sq_gT rfl rfl ?_
      refine sq_q (qt_load rfl (fun w t => t.atO 0 rfl rfl)) rfl ?_
      refine sq_gT rfl rfl ?_
      refine sq_q (qt_bin rfl rfl (bT bin_neq (by omega))) rfl ?_
      refine sq_gT rfl rfl ?_
      refine sq_q (qt_move rfl) rfl ?_
      refine sq_gT rfl rfl ?_
      refine sq_q (qt_load rfl (fun w t => t.atO 0 rfl rfl)) rfl ?_
      refine sq_gT rfl rfl ?_
      refine sq_q (qt_bin rfl rfl (bF bin_neq (by omega))) rfl ?_
      refine sq_gT rfl rfl ?_
      refine sq_q (qt_pick rfl rfl) rfl ?_
      refine sq_q (qt_pick rfl rfl) rfl ?_
      refine sq_end ?_
      refine tr_ifF rfl ?_
      refine tr_skip ?_
      repeat with_reducible first | refine tr_skip ?_ | refine tr_exit ?_ | refine tr_then ?_ | refine tr_inX ?_ | refine tr_thenX ?_ | refine tr_inN ?_ | refine tr_inR ?_ | refine tr_thenR ?_
      refine tr_rseq ?_
      refine sq_q (qt_move rfl) rfl ?_
      subst hdvD
      refine sq_call (optV (adjO m.zs)) (optF 549755813887 (adjO m.zs)) rfl rfl rfl (fun w t => adjugate_ret m B w _ (t.mt hm) hB hB1 hlen hrow) fun m2 => ?_
      refine sq_have (fun w t => t.r.2.2.1) fun hz2 => ?_
      rw [hg2] at hz2
      obtain ⟨hl2, hr2⟩ := grid_rows hz2
      refine sq_q (qt_move rfl) rfl ?_
      refine sq_q (qt_extract rfl rfl) rfl ?_
      refine sq_q (qt_extract rfl rfl) rfl ?_
      refine sq_alloc rfl fun r8 => ?_
      refine sq_store 0 rfl rfl rfl rfl (Nat.le_refl 1) rfl rfl ?_
      refine sq_q (qt_assign rfl) rfl ?_
      refine sq_end ?_
      refine tr_rseq ?_
      refine sq_q (qt_move rfl) rfl ?_
      refine sq_q (qt_move rfl) rfl ?_
      refine sq_q (qt_makeFunc rfl) rfl ?_
      refine sq_call Mt.v (fun m' w => m'.ok 549755813889 w ∧ m'.zs = grid (invE m.zs dv) N N ∧ m'.can) rfl rfl rfl (fun w t => ?_) fun m' => ?_
      · refine build_ret N N 549755813889 (invE m.zs dv) 86 [] [.pointer (some ⟨r8, 0, none⟩), .pointer (some ⟨r6, 0, none⟩)] w _ (by omega) (by omega) (fun i j w' S' hi hj hbel => ?_)
        have e : invE m.zs dv i j = ent m2.zs i j * dv := by unfold invE; rw [hg2, hz2]
        rw [e]
        exact inv1_ret m2 549755813887 r8 r6 i j dv w' S' (t.r.2.1.below hbel) (by omega) ((t.atO 0 rfl rfl).below hbel) ((t.atO 1 rfl rfl).below hbel) hDin (by omega) (by rw [hr2 _ (List.getElem_mem _)]; exact hj)
      refine sq_q (qt_assign rfl) rfl ?_
      refine sq_q (qt_assign rfl) rfl ?_
      refine sq_end ?_
      refine tr_ret ?_
      repeat with_reducible first | refine tr_skip ?_ | refine tr_exit ?_ | refine tr_then ?_ | refine tr_inX ?_ | refine tr_thenX ?_ | refine tr_inN ?_ | refine tr_inR ?_ | refine tr_thenR ?_
      exact tr_done m' (fun a w s t => results_2 rfl (resv_tmp s rfl) (resv_tmp s rfl)) (fun w h _ _ => h.2)
    ·
      have hO2 : invO m.zs = none := by
        rw [hO, if_neg]
        rw [← (hin h0).2]
        rintro (h | h)
        · exact h1v h
        · exact h2v h
      rw [hO2]
      clear hin hdv hokb hO e64
      subst h0
      refine tr_rseq ?_
      refine sq_q (qt_move rfl) rfl ?_
      refine sq_q (qt_not rfl) rfl ?_
      refine sq_q (qt_move rfl) rfl ?_
      refine sq_gT rfl rfl ?_
      refine sq_q (qt_load rfl (fun w t => t.atO 0 rfl rfl)) rfl ?_
      refine sq_gT rfl rfl ?_
      refine sq_q (qt_bin rfl rfl (bT bin_neq (by omega))) rfl ?_
      refine sq_gT rfl rfl ?_
      refine sq_q (qt_move rfl) rfl ?_
      refine sq_gT rfl rfl ?_
      refine sq_q (qt_load rfl (fun w t => t.atO 0 rfl rfl)) rfl ?_
      refine sq_gT rfl rfl ?_
      refine sq_q (qt_bin rfl rfl (bT bin_neq (by omega))) rfl ?_
      refine sq_gT rfl rfl ?_
      refine sq_q (qt_pick rfl rfl) rfl ?_
      refine sq_q (qt_pick rfl rfl) rfl ?_
      refine sq_end ?_
      refine tr_ifT rfl ?_
      refine tr_rseq ?_
      refine sq_q (qt_assign rfl) rfl ?_
      refine sq_q (qt_assign rfl) rfl ?_
      refine sq_end ?_
      refine tr_ret ?_
      repeat with_reducible first | refine tr_skip ?_ | refine tr_exit ?_ | refine tr_then ?_ | refine tr_inX ?_ | refine tr_thenX ?_ | refine tr_inN ?_ | refine tr_inR ?_ | refine tr_thenR ?_
      exact tr_done ⟨[], (none, 0)⟩ (fun a w s t => results_2 rfl (resv_tmp s rfl) (resv_tmp s rfl)) (fun w _ _ _ => optF_none _ _)
end Go.Qk
end
section
set_option linter.unusedVariables false
namespace Go.Qk
open Go Go.Proofs Go.RowKit
section
variable {P : Program} {ops : Array Oper} {Q : Exit → Act → World → Prop} {n : Nat} {w0 : World} {X : List Nat} {S : Nat → Prop} {own : Own} {R : World → Prop}
variable {late : Nat → Bool} {i : Nat} {os : List Oper} {Γ : Ctx} {K : Ctx → Prop}
theorem hok_lkC {a : Act} {w : World} {o : Oper} (hok : ∀ t ∈ o.looksAt ops, ∀ e, lookC Γ t = some e → e.ok (a.tmps.getD t undef) w) : ∀ t, Operand.tmp t ∈ o.op.operands → ∀ v, lkC Γ t = some v → a.tmps.getD t undef = v := fun t ht u hu => by
  unfold lkC at hu
  split at hu
  · rename_i u' he
    injection hu with hu
    subst hu
    exact hok t (mem_looksAt ht) _ he
  · simp at hu
theorem hok_lk2 {a : Act} {w : World} {o : Oper} {t t' : Nat} {v v' : Value} (hok : ∀ t ∈ o.looksAt ops, ∀ e, lookC Γ t = some e → e.ok (a.tmps.getD t undef) w) (h1 : a.tmps.getD t undef = v) (h2 : a.tmps.getD t' undef = v') : ∀ s, Operand.tmp s ∈ o.op.operands → ∀ u, lk2 Γ t v t' v' s = some u → a.tmps.getD s undef = u := fun s hs u hu => by
  unfold lk2 at hu
  cases hb : Nat.beq t s with
  | true =>
    rw [hb] at hu
    have := Nat.eq_of_beq_eq_true hb
    subst this
    simp at hu
    rw [← hu]; exact h1
  | false =>
    rw [hb] at hu
    simp only [cond_false] at hu
    cases hb' : Nat.beq t' s with
    | true =>
      rw [hb'] at hu
      have := Nat.eq_of_beq_eq_true hb'
      subst this
      simp at hu
      rw [← hu]; exact h2
    | false =>
      rw [hb'] at hu
      simp only [cond_false] at hu
      exact hok_lkC hok s hs u hu
theorem run_lit {t e : TypeId} {agg : Bool} {sz by_ : Nat} {z : Value} [hs : SlT P t e] [hT : TyI P e agg sz by_ z] {lk : Nat → Option Value} {ρ : Operand → Value} (hρ : Agr lk ρ) {len : Nat} {xs : List (Nat × Operand)} {vs : List (Nat × Value)} {cells : List Value} {ty : TypeId} {d : Option Tmp} {pos : String} {af : Array Edge} {g : Option (Nat × Bool)} {w : World} (hx : evp lk xs = some vs)
    (hlen : Nat.ble (len * sz) 1000 = true) (hpos : Nat.blt 0 (len * sz) = true) (hf : Instr.fill (fun i => some (i * sz, sz)) ((Array.range (len * sz)).map (z.cells[· % z.cells.size]!)) vs = some cells.toArray) :
    (execOp ρ ⟨d, .buildSlice t len xs.toArray, ty, pos, af, g⟩).run P w = .ok (.value (.slice (some ⟨w.heap.size, 0, none⟩) len len)) (w.alloc (.cells cells.toArray e (0, 0))) := by
  have h1 : ¬ (len * sz > 2 ^ 24) := by have : len * sz ≤ 1000 := by simpa using hlen
                                        omega
  have h2 : ¬ (len * sz = 0) := by have : 0 < len * sz := by simpa using hpos
                                   omega
  have e0 : (List.map (fun (x : Nat × Operand) => match x with | (i, x) => (i, ρ x)) xs) = vs := by rw [← evp_map hρ hx]
  simp only [execOp, List.map_toArray, e0, Instr.buildSlice, Sem.run_bind, run_underlying hs.u, Result.andThen_ok, hT.sizeOf w, if_neg h1, if_neg h2, Sem.run_pure, hT.zero w, hf]
  simp [newRow]
theorem dx_lit {t e : TypeId} {agg : Bool} {sz by_ : Nat} {z : Value} [hs : SlT P t e] [hT : TyI P e agg sz by_ z] {len : Nat} {xs : List (Nat × Operand)} {vs : List (Nat × Value)} {cells : List Value} {ty : TypeId} {d : Nat} {pos : String} {af : Array Edge} (hl : late i = false) (hx : evp (lkC Γ) xs = some vs)
    (hlen : Nat.ble (len * sz) 1000 = true) (hpos : Nat.blt 0 (len * sz) = true) (hf : Instr.fill (fun i => some (i * sz, sz)) ((Array.range (len * sz)).map (z.cells[· % z.cells.size]!)) vs = some cells.toArray)
    (h : Dx P ops Q n (SS w0 X S own R) Bl late (i + 1) os ((d, .pr (ResF w0 S own (fun r : Nat => .slice (some ⟨r, 0, none⟩) len len) (fun r w => w.heap[r]? = some (.cells cells.toArray e (0, 0))))) :: Γ) K) :
    Dx P ops Q n (SS w0 X S own R) Bl late i (⟨some d, .buildSlice t len xs.toArray, ty, pos, af, none⟩ :: os) Γ K := by
  refine ⟨.pr (ResF w0 S own (fun r : Nat => .slice (some ⟨r, 0, none⟩) len len) (fun r w => w.heap[r]? = some (.cells cells.toArray e (0, 0)))), .inl ⟨hl, fun _ _ _ hb ⟨x, e, hk⟩ => ⟨x, e, hk.below hb⟩, fun a w hsz hd hJ hok => ?_⟩, h⟩
  rw [if_pos (wanted_none rfl)]
  have e1 := exec_fix (lk := lkC Γ) (a := a) (o := ⟨some d, .buildSlice t len xs.toArray, ty, pos, af, none⟩) rfl (hok_lkC hok)
  unfold Oper.wp
  rw [e1, run_lit (fix_agr _ _) hx hlen hpos hf]
  have hb : Below w.heap.size w (w.alloc (.cells cells.toArray e (0, 0))) := (Below.refl _ _).alloc (Nat.le_refl _) _
  refine ⟨_, rfl, hb, hJ.grow hb, w.heap.size, rfl, fun w'' h1 h2 => ?_⟩
  show w''.heap[w.heap.size]? = _
  rw [h2 w.heap.size (.inl hJ.size) (by simp) (fun p hp e => by have := (hJ.lt p hp).1; omega)]
  exact heap_alloc_new w _
/-- a literal of two earlier results -/
theorem dx_lit2 {β γ : Type} {val₁ : β → Value} {G₁ : β → World → Prop} {val₂ : γ → Value} {G₂ : γ → World → Prop} (q q' : Nat) {t e : TypeId} {agg : Bool} {sz by_ : Nat} {z : Value} [hs : SlT P t e] [hT : TyI P e agg sz by_ z] {len : Nat} {xs : List (Nat × Operand)} {vs : β → γ → List (Nat × Value)} (cells : β → γ → List Value) {ty : TypeId} {d : Nat} {pos : String} {af : Array Edge} (hl : late i = false)
    (hΓ : lookC Γ q = some (.pr (ResF w0 S own val₁ G₁))) (hΓ' : lookC Γ q' = some (.pr (ResF w0 S own val₂ G₂))) (hmem : Operand.tmp q ∈ xs.map (·.2)) (hmem' : Operand.tmp q' ∈ xs.map (·.2))
    (hx : ∀ y z, evp (lk2 Γ q (val₁ y) q' (val₂ z)) xs = some (vs y z))
    (hlen : Nat.ble (len * sz) 1000 = true) (hpos : Nat.blt 0 (len * sz) = true) (hf : ∀ y u, Instr.fill (fun i => some (i * sz, sz)) ((Array.range (len * sz)).map (z.cells[· % z.cells.size]!)) (vs y u) = some (cells y u).toArray)
    (h : Dx P ops Q n (SS w0 X S own R) Bl late (i + 1) os ((d, .pr (ResF w0 S own (fun r : Nat × β × γ => .slice (some ⟨r.1, 0, none⟩) len len) (fun r w => w.heap[r.1]? = some (.cells (cells r.2.1 r.2.2).toArray e (0, 0)) ∧ G₁ r.2.1 w ∧ G₂ r.2.2 w))) :: Γ) K) :
    Dx P ops Q n (SS w0 X S own R) Bl late i (⟨some d, .buildSlice t len xs.toArray, ty, pos, af, none⟩ :: os) Γ K := by
  refine ⟨.pr (ResF w0 S own (fun r : Nat × β × γ => .slice (some ⟨r.1, 0, none⟩) len len) (fun r w => w.heap[r.1]? = some (.cells (cells r.2.1 r.2.2).toArray e (0, 0)) ∧ G₁ r.2.1 w ∧ G₂ r.2.2 w)), .inl ⟨hl, fun _ _ _ hb ⟨x, e, hk⟩ => ⟨x, e, hk.below hb⟩, fun a w hsz hd hJ hok => ?_⟩, h⟩
  rw [if_pos (wanted_none rfl)]
  have hop : ∀ s, Operand.tmp s ∈ xs.map (·.2) → Operand.tmp s ∈ (Op.buildSlice t len xs.toArray).operands := by
    intro s hs
    simp only [Op.operands]
    simpa using hs
  obtain ⟨y, hy, hk⟩ := hok q (mem_looksAt (hop q hmem)) _ hΓ
  obtain ⟨u, hu, hk'⟩ := hok q' (mem_looksAt (hop q' hmem')) _ hΓ'
  have e1 := exec_fix (lk := lk2 Γ q (val₁ y) q' (val₂ u)) (a := a) (o := ⟨some d, .buildSlice t len xs.toArray, ty, pos, af, none⟩) rfl (hok_lk2 hok hy hu)
  unfold Oper.wp
  rw [e1, run_lit (fix_agr _ _) (hx y u) hlen hpos (hf y u)]
  have hb : Below w.heap.size w (w.alloc (.cells (cells y u).toArray e (0, 0))) := (Below.refl _ _).alloc (Nat.le_refl _) _
  refine ⟨_, rfl, hb, hJ.grow hb, (w.heap.size, y, u), rfl, fun w'' h1 h2 => ⟨?_, (hk.below hb) w'' h1 h2, (hk'.below hb) w'' h1 h2⟩⟩
  show w''.heap[w.heap.size]? = _
  rw [h2 w.heap.size (.inl hJ.size) (by simp) (fun p hp e => by have := (hJ.lt p hp).1; omega)]
  exact heap_alloc_new w _
/-- a call that takes an earlier result and whose answer is known -/
theorem dx_callv1 {β : Type} {val₁ : β → Value} {G₁ : β → World → Prop} (t : Nat) {c : Operand} {f : FuncId} {pre cap : List Value} {xs : List Operand} {vs : β → List Value} {ats : Array TypeId} {ty : TypeId} {d : Nat} {pos : String} {af : Array Edge} {v : Value} {F : Unit → World → Prop} (hl : late i = false) [hB : FnB P f]
    (hΓ : lookC Γ t = some (.pr (ResF w0 S own val₁ G₁))) (hmem : Operand.tmp t ∈ xs) (hc' : ∀ y, fnv (lk1 Γ t (val₁ y)) c f pre cap) (hxs : ∀ y, evs (lk1 Γ t (val₁ y)) xs = some (vs y))
    (hcall : ∀ y w, SS w0 X S own (fun w => R w ∧ G₁ y w) w → Ret P f (pre ++ vs y ++ cap) w (Nn w0 S own w) (fun _ : Unit => v) F)
    (h : Dx P ops Q n (SS w0 X S own R) Bl late (i + 1) os ((d, .val v) :: Γ) K) :
    Dx P ops Q n (SS w0 X S own R) Bl late i (⟨some d, .call { callee := .value c, args := xs.toArray, argTypes := ats }, ty, pos, af, none⟩ :: os) Γ K := by
  refine ⟨.val v, .inl ⟨hl, fun _ _ _ _ h => h, fun a w hs hd hJ hok => ?_⟩, h⟩
  rw [if_pos (wanted_none rfl)]
  have hop : Operand.tmp t ∈ (Op.call { callee := .value c, args := xs.toArray, argTypes := ats }).operands := by
    simp only [Op.operands, Call.operands]
    exact Array.mem_append.2 (.inr (by simpa using hmem))
  obtain ⟨y, hy, hk⟩ := hok t (mem_looksAt hop) _ hΓ
  have e := exec_fix (lk := lk1 Γ t (val₁ y)) (a := a) (o := ⟨some d, .call { callee := .value c, args := xs.toArray, argTypes := ats }, ty, pos, af, none⟩) rfl fun s hs u hu => by
    unfold lk1 at hu
    cases hb : Nat.beq t s with
    | true =>
      rw [hb] at hu
      have := Nat.eq_of_beq_eq_true hb
      subst this
      simp at hu
      rw [← hu]; exact hy
    | false =>
      rw [hb] at hu
      simp only [cond_false] at hu
      exact hok_lkC hok s hs u hu
  unfold Oper.wp
  rw [e, run_call (fix_agr _ _) (hc' y) (hxs y), Oper.upon_enter]
  refine (hcall y w (hk.add hJ)).mono ?_
  rintro e w' ⟨x, rfl, hb, hf⟩
  exact ⟨v, rfl, hb, hJ.grow hb, rfl⟩
end
theorem bin_eqlBr {P : Program} {t : TypeId} (ht : P.underlying t = some .bool) (a : Bool) : Bin P .eql t (.bool a) (.bool a) (.bool true) := by
  have h := bin_eqlB ht a a
  rwa [beq_self_eq_true] at h
theorem lens_of {m : Mt} {L : List (List Int)} (h : m.zs = L) (k : Nat) (h1 : L.length ≤ k) (h2 : ∀ q ∈ L, q.length ≤ k) : m.rs.length ≤ k ∧ ∀ r ∈ m.rs, r.l.length ≤ k := by
  refine ⟨by rw [← m.zs_len, h]; exact h1, fun r hr => ?_⟩
  rw [← Rw.zs_len]
  exact h2 _ (by rw [← h]; exact List.mem_map.2 ⟨r, hr, rfl⟩)
/-- a literal of two rows of two -/
theorem of2_ret (r8 r9 r10 : Nat) (a b c d : Int) (w : World) (S : Nat → Prop) (h8 : w.heap[r8]? = some (.cells (i64s [a, b]).toArray 2 (0, 0))) (h9 : w.heap[r9]? = some (.cells (i64s [c, d]).toArray 2 (0, 0)))
    (h10 : w.heap[r10]? = some (.cells ([Value.slice (some ⟨r8, 0, none⟩) 2 2, Value.slice (some ⟨r9, 0, none⟩) 2 2] : List Value).toArray 71 (0, 0))) (ha : In64 a) (hb : In64 b) (hc : In64 c) (hd : In64 d) :
    Ret Try.prog 38 [.slice (some ⟨r10, 0, none⟩) 2 2] w S Mt.v (optF 2 (some [[a, b], [c, d]])) := by
  have h := of_ret ⟨[⟨[a, b], (some ⟨r8, 0, none⟩, 2)⟩, ⟨[c, d], (some ⟨r9, 0, none⟩, 2)⟩], (some ⟨r10, 0, none⟩, 2)⟩ w S ⟨Rd.own h10, Nat.le_refl _, ?_⟩ (by simp) (by simp)
  · have e : keepO (Xm.zs ⟨[⟨[a, b], (some ⟨r8, 0, none⟩, 2)⟩, ⟨[c, d], (some ⟨r9, 0, none⟩, 2)⟩], (some ⟨r10, 0, none⟩, 2)⟩) = some [[a, b], [c, d]] := by
      simp [keepO, Xm.zs, shp]
    rw [e] at h
    exact h
  · intro r hr
    simp only [List.mem_cons, List.not_mem_nil, or_false] at hr
    rcases hr with rfl | rfl
    · exact ⟨Rd.own h8, Nat.le_refl _, by simp; exact ⟨ha, hb⟩⟩
    · exact ⟨Rd.own h9, Nat.le_refl _, by simp; exact ⟨hc, hd⟩⟩
end Go.Qk
end
section
set_option linter.unusedVariables false
namespace Go.Qk
open Go Go.Proofs Go.RowKit
set_option maxRecDepth 100000
set_option maxHeartbeats 4000000
theorem awake_ret (w0 : World) (S : Nat → Prop) :
    Ret Try.prog 23 [] w0 S (fun _ : Unit => .bool true) (fun _ _ => True) := by
  have hd : detO [[2, 1], [1, 2]] = some 3 := by decide
  have hi1 : invO [[2, 1], [1, 1]] = some [[1, -1], [-1, 2]] := by decide
  have hi2 : invO [[2, 1], [1, 2]] = none := by decide
  have i2 : In64 2 := by decide
  have i1 : In64 1 := by decide
  have im : In64 (-1) := by decide
  refine ret_of Try.func23 rfl Try.ntmps23 rfl ?_
  refine tr_rseq ?_
  refine sq_q (qt_assign rfl) rfl ?_
  refine sq_end ?_
  refine tr_rseq ?_
  refine sq_lit (vs := [(0, .int .i64 2), (1, .int .i64 1)]) (cells := i64s [2, 1]) rfl rfl rfl (by simp [Instr.fill, i64s, Value.cells, show Array.range 2 = #[0, 1] from by decide]) rfl fun r8 => ?_
  refine sq_lit (vs := [(0, .int .i64 1), (1, .int .i64 2)]) (cells := i64s [1, 2]) rfl rfl rfl (by simp [Instr.fill, i64s, Value.cells, show Array.range 2 = #[0, 1] from by decide]) rfl fun r9 => ?_
  refine sq_lit (vs := [(0, .slice (some ⟨r8, 0, none⟩) 2 2), (1, .slice (some ⟨r9, 0, none⟩) 2 2)]) (cells := [Value.slice (some ⟨r8, 0, none⟩) 2 2, Value.slice (some ⟨r9, 0, none⟩) 2 2]) rfl rfl rfl (by simp [Instr.fill, Value.cells, show Array.range 2 = #[0, 1] from by decide]) rfl fun r10 => ?_
  refine sq_call Mt.v (optF 2 (some [[2, 1], [1, 2]])) rfl rfl rfl (fun w t => of2_ret r8 r9 r10 2 1 1 2 w _ (t.has _ (ownAt_mem (i := 2) rfl)) (t.has _ (ownAt_mem (i := 1) rfl)) (t.has _ (ownAt_mem (i := 0) rfl)) i2 i1 i1 i2) fun m1 => ?_
  refine sq_have (fun w t => t.r.2.2.1) fun (hz1 : m1.zs = [[2, 1], [1, 2]]) => ?_
  obtain ⟨hl1, hr1⟩ := lens_of hz1 16 (by decide) (by decide)
  refine sq_q (qt_assign rfl) rfl ?_
  refine sq_end ?_
  refine tr_drop [] (List.nil_sublist _) ?_
  refine tr_rseq ?_
  refine sq_q (qt_move rfl) rfl ?_
  refine sq_call (optZV (some 3)) (optZF (some 3)) rfl rfl rfl (fun w t => by have h := fun S' => det_ret m1 2 w S' t.r.2.1 (by omega) (by omega) (by omega) (fun r hr => by have := hr1 r hr; omega); rw [hz1, hd] at h; exact h _) fun x14 => ?_
  refine sq_q (qt_move rfl) rfl ?_
  refine sq_q (qt_extract rfl rfl) rfl ?_
  refine sq_q (qt_extract rfl rfl) rfl ?_
  refine sq_alloc rfl fun r2 => ?_
  refine sq_store 0 rfl rfl rfl rfl (Nat.le_refl 2) rfl rfl ?_
  refine sq_q (qt_assign rfl) rfl ?_
  refine sq_end ?_
  refine tr_rseq ?_
  refine sq_lit (vs := [(0, .int .i64 2), (1, .int .i64 1)]) (cells := i64s [2, 1]) rfl rfl rfl (by simp [Instr.fill, i64s, Value.cells, show Array.range 2 = #[0, 1] from by decide]) rfl fun r18 => ?_
  refine sq_lit (vs := [(0, .int .i64 1), (1, .int .i64 1)]) (cells := i64s [1, 1]) rfl rfl rfl (by simp [Instr.fill, i64s, Value.cells, show Array.range 2 = #[0, 1] from by decide]) rfl fun r19 => ?_
  refine sq_lit (vs := [(0, .slice (some ⟨r18, 0, none⟩) 2 2), (1, .slice (some ⟨r19, 0, none⟩) 2 2)]) (cells := [Value.slice (some ⟨r18, 0, none⟩) 2 2, Value.slice (some ⟨r19, 0, none⟩) 2 2]) rfl rfl rfl (by simp [Instr.fill, Value.cells, show Array.range 2 = #[0, 1] from by decide]) rfl fun r20 => ?_
  refine sq_call Mt.v (optF 2 (some [[2, 1], [1, 1]])) rfl rfl rfl (fun w t => of2_ret r18 r19 r20 2 1 1 1 w _ (t.has _ (ownAt_mem (i := 2) rfl)) (t.has _ (ownAt_mem (i := 1) rfl)) (t.has _ (ownAt_mem (i := 0) rfl)) i2 i1 i1 i1) fun m2 => ?_
  refine sq_have (fun w t => t.r.2.2.1) fun (hz2 : m2.zs = [[2, 1], [1, 1]]) => ?_
  obtain ⟨hl2, hr2⟩ := lens_of hz2 16 (by decide) (by decide)
  refine sq_call (optV (some [[1, -1], [-1, 2]])) (optF 549755813889 (some [[1, -1], [-1, 2]])) rfl rfl rfl (fun w t => by have h := fun S' => inverse_ret m2 2 w S' t.r.2.1 (by omega) (by omega) (by omega) (fun r hr => by have := hr2 r hr; omega); rw [hz2, hi1] at h; exact h _) fun m3 => ?_
  refine sq_have (fun w t => t.r.2.2.1) fun (hz3 : m3.zs = [[1, -1], [-1, 2]]) => ?_
  obtain ⟨hl3, hr3⟩ := lens_of hz3 16 (by decide) (by decide)
  refine sq_q (qt_move rfl) rfl ?_
  refine sq_q (qt_extract rfl rfl) rfl ?_
  refine sq_q (qt_extract rfl rfl) rfl ?_
  refine sq_q (qt_assign rfl) rfl ?_
  refine sq_q (qt_assign rfl) rfl ?_
  refine sq_end ?_
  refine tr_rseq ?_
  refine sq_q (qt_move rfl) rfl ?_
  refine sq_call (optV none) (optF 549755813889 none) rfl rfl rfl (fun w t => by have h := fun S' => inverse_ret m1 2 w S' t.r.1.1.1.2.1 (by omega) (by omega) (by omega) (fun r hr => by have := hr1 r hr; omega); rw [hz1, hi2] at h; exact h _) fun m4 => ?_
  refine sq_q (qt_move rfl) rfl ?_
  refine sq_q (qt_extract rfl rfl) rfl ?_
  refine sq_q (qt_extract rfl rfl) rfl ?_
  refine sq_q (qt_assign rfl) rfl ?_
  refine sq_q (qt_assign rfl) rfl ?_
  refine sq_end ?_
  refine tr_rdraw0 [0, 1, 2, 3, 4, 5, 7] (by kernel_rfl) ?_
  refine dx_q rfl (qt_move rfl) rfl ?_
  refine dx_q rfl (qt_move rfl) rfl ?_
  refine dx_gT rfl rfl rfl ?_
  refine dx_q rfl (qt_move rfl) rfl ?_
  refine dx_q rfl (qt_pick rfl rfl) rfl ?_
  refine dx_q rfl (qt_move rfl) rfl ?_
  refine dx_gT rfl rfl rfl ?_
  refine dx_q rfl (qt_move rfl) rfl ?_
  refine dx_gT rfl rfl rfl ?_
  refine dx_q rfl (qt_not rfl) rfl ?_
  refine dx_q rfl (qt_pick rfl rfl) rfl ?_
  refine dx_q rfl (qt_move rfl) rfl ?_
  refine dx_gT rfl rfl rfl ?_
  refine dx_q rfl (qt_load2 rfl (fun w t => t.atO 3 rfl rfl) (fun w t => t.atO 3 rfl rfl)) rfl ?_
  refine dx_gT rfl rfl rfl ?_
  refine dx_call (iv 3) (Lz (3 : Int).natAbs) rfl rfl rfl (fun w t => rsmall_ret 3 w _ (by omega) (by omega)) ?_
  refine dx_gT rfl rfl rfl ?_
  refine dx_callv1 40 (v := .bool true) (F := fun _ _ => True) rfl rfl (by simp) (fun _ => rfl) (fun _ => rfl) (fun y w t => by have h := fun S' => rsame_ret 3 3 x14 y w S' t.r.1.1.1.1.2.1 t.r.2 (Nat.le_trans (nl_64 (a := 3) (by decide)) (by decide)) (Nat.le_trans (nl_64 (a := 3) (by decide)) (by decide)); exact h _) ?_
  refine dx_q rfl (qt_pick rfl rfl) rfl ?_
  refine dx_q rfl (qt_move rfl) rfl ?_
  refine dx_gT rfl rfl rfl ?_
  refine dx_q rfl (qt_move rfl) rfl ?_
  refine dx_gT rfl rfl rfl ?_
  refine dx_lit (vs := [(0, .int .i64 1), (1, .int .i64 (-1))]) (cells := i64s [1, -1]) rfl rfl rfl rfl (by simp [Instr.fill, i64s, Value.cells, show Array.range 2 = #[0, 1] from by decide]) ?_
  refine dx_gT rfl rfl rfl ?_
  refine dx_lit (vs := [(0, .int .i64 (-1)), (1, .int .i64 2)]) (cells := i64s [-1, 2]) rfl rfl rfl rfl (by simp [Instr.fill, i64s, Value.cells, show Array.range 2 = #[0, 1] from by decide]) ?_
  refine dx_gT rfl rfl rfl ?_
  refine dx_lit2 45 46 (vs := fun (r r' : Nat) => [(0, .slice (some ⟨r, 0, none⟩) 2 2), (1, .slice (some ⟨r', 0, none⟩) 2 2)]) (fun (r r' : Nat) => [Value.slice (some ⟨r, 0, none⟩) 2 2, Value.slice (some ⟨r', 0, none⟩) 2 2]) rfl rfl rfl (by simp) (by simp) (fun _ _ => rfl) rfl rfl (fun _ _ => by simp [Instr.fill, Value.cells, show Array.range 2 = #[0, 1] from by decide]) ?_
  refine dx_gT rfl rfl rfl ?_
  refine dx_call1 47 Mt.v (optF 2 (some [[1, -1], [-1, 2]])) rfl rfl (by simp) rfl (fun _ => rfl) (fun _ => rfl) (fun y w t => of2_ret y.2.1 y.2.2 y.1 1 (-1) (-1) 2 w _ t.r.2.2.1 t.r.2.2.2 t.r.2.1 i1 im im i2) ?_
  refine dx_gT rfl rfl rfl ?_
  refine dx_callv1 48 (v := .bool true) (F := fun _ _ => True) rfl rfl (by simp) (fun _ => rfl) (fun _ => rfl) (fun y w t => by
    obtain ⟨hl5, hr5⟩ := lens_of t.r.2.2.1 16 (by decide) (by decide)
    have h := fun S' => same_ret m3 y 549755813889 w S' t.r.1.1.2.1 (t.r.2.1.mono (by omega)) t.r.1.1.2.2.2 t.r.2.2.2 (by omega) (by omega) (by omega) (fun q hq => by have := hr3 q hq; omega) (fun q hq => by have := hr5 q hq; omega)
    rw [decide_eq_true (show m3.zs = y.zs by rw [hz3, t.r.2.2.1]; rfl)] at h
    exact h _) ?_
  refine dx_q rfl (qt_pick rfl rfl) rfl ?_
  refine dx_q rfl (qt_assign rfl) rfl ?_
  refine dx_nil ?_
  repeat (first | refine es_val rfl ?_ rfl | refine es_res rfl (fun x => ?_) rfl | refine es_skip rfl ?_)
  refine es_nil rfl ?_
  refine tx_endk ?_
  refine tr_ret ?_
  repeat with_reducible first | refine tr_skip ?_ | refine tr_exit ?_ | refine tr_then ?_ | refine tr_inX ?_ | refine tr_thenX ?_ | refine tr_inN ?_ | refine tr_inR ?_ | refine tr_thenR ?_
  exact tr_done () (fun a w s t => results_1 rfl (resv_tmp s rfl)) (fun _ _ _ _ => trivial)
end Go.Qk
end
section
set_option linter.unusedVariables false
namespace Go.Qk
open Go Go.Proofs Go.RowKit Go.ChangeShapes Go.WideShapes Go.Deep
instance : Inhabited Zd := ⟨z0⟩
instance : Inhabited Rw := ⟨⟨[], (none, 0)⟩⟩
theorem rd_of {a : Addr} {l : List Value} {w : World} (h : ∀ i v, l[i]? = some v → w.cell? (a.add i) = some v) : Rd (some a) l w := by
  intro i v hv
  have hl : 0 < l.length := by have := (List.getElem?_eq_some_iff.1 hv).1; omega
  have h0 := h 0 l[0] (List.getElem?_eq_getElem hl)
  rw [show a.add 0 = a by simp [Addr.add]] at h0
  have h1 := World.cell?_spot h0
  have h2 := h i v hv
  obtain ⟨r, o, s⟩ := a
  simp only at h1
  subst h1
  rw [add_mk] at h2
  exact ⟨r, o, rfl, h2⟩
theorem map_get {α : Type} {n : Nat} {f : Nat → α} {i : Nat} {v : α} (h : ((List.range n).map f)[i]? = some v) : i < n ∧ v = f i := by
  rw [List.getElem?_map] at h
  cases hi : (List.range n)[i]? with
  | none => rw [hi] at h; simp at h
  | some k =>
    rw [hi] at h
    simp at h
    obtain ⟨h1, h2⟩ := List.getElem?_eq_some_iff.1 hi
    simp at h1 h2
    subst h2
    exact ⟨h1, h.symm⟩
section
variable {H : Type} {enc : TypeId × Value → H} {P : Program} {w : World} {fuel : Nat} {x : DataW H × List MemPlace} {cs : List Value}
theorem weights_all {e : TypeId} : ∀ {l : List (DataW H)} {d : DataW H}, d ∈ l → ∀ n ∈ d.weights P e, n ∈ DataW.weightsAll P e l
  | d' :: l, d, hd, n, hn => by
    rw [DataW.weightsAll, List.mem_append]
    rcases List.mem_cons.1 hd with rfl | h
    · exact .inl hn
    · exact .inr (weights_all h n hn)
theorem weights_slice {t e : TypeId} (ht : P.underlying t = some (.slice e)) {l s : List (DataW H)} (hw : ∀ n ∈ (DataW.slice l s).weights P t, n ≤ reachBytes) : (l.length + s.length) * P.bytesOf e ≤ reachBytes ∧ ∀ d ∈ l, ∀ n ∈ d.weights P e, n ≤ reachBytes := by
  simp only [DataW.weights, ht, List.mem_cons, List.mem_append] at hw
  exact ⟨hw _ (.inl rfl), fun d hd n hn => hw n (.inr (.inl (weights_all hd n hn)))⟩
/-- a row of one-cell integers -/
theorem open_row1 {t e : TypeId} {k : IntKind} (ht : P.underlying t = some (.slice e)) (he : P.underlying e = some (.int k)) (hc : P.cellsOf e = 1) (h : DataW.trod enc P w 0 (fun _ => true) true fuel t cs = some x) (hw : ∀ n ∈ x.1.weights P t, n ≤ reachBytes) :
    ∃ (zs : List Int) (p : Sv), cs = [.slice p.1 zs.length p.2] ∧ Rd p.1 (zs.map fun z => .int k z) w ∧ zs.length ≤ p.2 ∧ (∀ z ∈ zs, (Lit.int k z).wf = true) ∧ zs.length * P.bytesOf e ≤ reachBytes := by
  rcases open_slice1 ht hc h with ⟨rfl, rfl⟩ | ⟨a, len, cap, m, n, V, D, Pl, rfl, hb, hl, hm, hmm, rfl, hx⟩
  · exact ⟨[], (none, 0), rfl, Rd.nil _ _, Nat.le_refl _, by simp, by simp⟩
  · simp only [if_true] at hmm
    subst hmm
    obtain ⟨Z, hZ⟩ := choose_lt (α := Int) (p := fun i z => V i = .int k z ∧ (Lit.int k z).wf = true) (fun i hi => by
      obtain ⟨z, h1, h2, h3⟩ := DataW.trod_int he (hx i hi).2
      exact ⟨z, by simpa using h1, h3⟩)
    have h2 := (weights_slice ht hw).1
    refine ⟨(List.range len).map Z, (some a, m), by simp, rd_of fun i v hv => ?_, by simpa using hl, fun z hz => ?_, ?_⟩
    · rw [List.map_map] at hv
      obtain ⟨h3, rfl⟩ := map_get hv
      rw [(hx i (by omega)).1, (hZ i (by omega)).1]
      rfl
    · obtain ⟨i, hi, rfl⟩ := List.mem_map.1 hz
      exact (hZ i (by have := List.mem_range.1 hi; omega)).2
    · simp only [List.length_map, List.length_range] at h2 ⊢
      exact Nat.le_trans (Nat.mul_le_mul_right _ (by omega)) h2
end
theorem wf_u32 {z : Int} (h : (Lit.int .u32 z).wf = true) : 0 ≤ z ∧ z < 4294967296 := by
  have h1 : IntKind.u32.min = 0 := rfl
  have h2 : IntKind.u32.max = 4294967295 := rfl
  simp [Lit.wf, h1, h2] at h
  omega
def RB : Nat := 35184372087808
section
variable {H : Type} {enc : TypeId × Value → H} {w : World} {fuel : Nat} {x : DataW H × List MemPlace} {cs : List Value}
theorem bytes_u32 : Try.prog.bytesOf 57 = 4 := by kernel_rfl
theorem bytes_zint : Try.prog.bytesOf 35 = 32 := by kernel_rfl
theorem bytes_zrow : Try.prog.bytesOf 44 = 24 := by kernel_rfl
theorem cells_u32 : Try.prog.cellsOf 57 = 1 := by kernel_rfl
theorem cells_bool : Try.prog.cellsOf 4 = 1 := by kernel_rfl
theorem cells_zint : Try.prog.cellsOf 35 = 2 := by kernel_rfl
theorem cells_mag : Try.prog.cellsOf 33 = 1 := by kernel_rfl
theorem cells_zrow : Try.prog.cellsOf 44 = 1 := by kernel_rfl
theorem und_zint : ∃ f0 f1 : Field, Try.prog.underlying 35 = some (.struct #[f0, f1]) ∧ f0.offset = 0 ∧ f1.offset = 1 ∧ f0.type = 4 ∧ f1.type = 33 := ⟨_, _, Try.underlying35, rfl, rfl, rfl, rfl⟩
/-- limbs -/
theorem open_mag (h : DataW.trod enc Try.prog w 0 (fun _ => true) true fuel 33 cs = some x) (hw : ∀ n ∈ x.1.weights Try.prog 33, n ≤ reachBytes) : ∃ (xs : List Nat) (p : Sv), cs = [slv xs p] ∧ Lm xs p w ∧ lim xs ∧ xs.length ≤ RB := by
  obtain ⟨zs, p, rfl, h1, h2, h3, h4⟩ := open_row1 Try.underlying33 Try.underlying57 cells_u32 h hw
  have e : u32s (zs.map Int.toNat) = zs.map fun z => .int .u32 z := by
    unfold u32s
    rw [List.map_map]
    refine List.map_congr_left fun z hz => ?_
    have := wf_u32 (h3 z hz)
    simp only [Function.comp]
    rw [Int.toNat_of_nonneg this.1]
  refine ⟨zs.map Int.toNat, p, by simp [slv], ⟨by rw [e]; exact h1, by simpa using h2⟩, fun a ha => ?_, ?_⟩
  · obtain ⟨z, hz, rfl⟩ := List.mem_map.1 ha
    have := wf_u32 (h3 z hz)
    omega
  · rw [bytes_u32] at h4
    unfold reachBytes at h4
    unfold RB
    simp only [List.length_map]
    omega
/-- a row of integers -/
theorem open_zrow (h : DataW.trod enc Try.prog w 0 (fun _ => true) true fuel 44 cs = some x) (hw : ∀ n ∈ x.1.weights Try.prog 44, n ≤ reachBytes) : ∃ r : Rw, cs = [r.v] ∧ r.ok RB w ∧ r.l.length ≤ RB := by
  obtain ⟨f0, f1, hu, o0, o1, t0, t1⟩ := und_zint
  rcases open_slice_pairs Try.underlying44 hu cells_zint o0 o1 (by rw [t0]; exact cells_bool) (by rw [t1]; exact cells_mag) h with ⟨rfl, rfl⟩ | ⟨a, len, cap, m, n, V0, V1, D0, D1, P0, P1, rfl, hb, hl, hm, hmm, rfl, hx⟩
  · exact ⟨⟨[], (none, 0)⟩, rfl, ⟨Rd.nil _ _, Nat.le_refl _, by simp⟩, by simp [RB]⟩
  · simp only [if_true] at hmm
    subst hmm
    obtain ⟨hw1, hw2⟩ := weights_slice Try.underlying44 hw
    obtain ⟨Z, hZ⟩ := choose_lt (n := len) (α := Zd) (p := fun i z => V0 i = .bool z.n ∧ V1 i = slv z.xs z.p ∧ z.ok RB w) (fun i hi => by
      obtain ⟨_, _, h0, h1⟩ := hx i (by omega)
      rw [t0] at h0
      rw [t1] at h1
      obtain ⟨b, e0, _⟩ := DataW.trod_bool Try.underlying4 h0
      obtain ⟨xs, p, e1, e2, e3, e4⟩ := open_mag h1 (fun k hk => hw2 (.agg [D0 i, D1 i]) (List.mem_map.2 ⟨i, List.mem_range.2 hi, rfl⟩) k (by
        simp only [DataW.weights, hu]
        simp only [List.map_cons, List.map_nil, DataW.weightsEach, t1, List.mem_append]
        exact .inr (.inl hk)))
      exact ⟨⟨b, xs, p⟩, by simpa using e0, by simpa using e1, e2, e3, e4⟩)
    refine ⟨⟨(List.range len).map Z, (some a, m)⟩, by simp [Rw.v], ⟨rd_of fun j v hv => ?_, by simpa using hl, fun z hz => ?_⟩, ?_⟩
    · have hj : j < ((List.range len).map Z).length * 2 := by
        rw [← zcs_length]
        exact (List.getElem?_eq_some_iff.1 hv).1
      simp only [List.length_map, List.length_range] at hj
      obtain ⟨i, hi⟩ : ∃ i, i = j / 2 := ⟨_, rfl⟩
      have hil : i < ((List.range len).map Z).length := by simp; omega
      have hil' : i < len := by simpa using hil
      rcases Nat.mod_two_eq_zero_or_one j with h2 | h2
      · have e : j = i * 2 := by omega
        rw [e, zcs_get0 hil] at hv
        have hv := Option.some.inj hv
        rw [e, ← hv, (hx i (by omega)).1, (hZ i hil').1]
        simp
      · have e : j = i * 2 + 1 := by omega
        rw [e, zcs_get1 hil] at hv
        have hv := Option.some.inj hv
        rw [e, ← hv, (hx i (by omega)).2.1, (hZ i hil').2.1]
        simp
    · obtain ⟨i, hi, rfl⟩ := List.mem_map.1 hz
      exact (hZ i (by simpa using hi)).2.2
    · simp only [List.length_map, List.length_range, bytes_zint] at hw1 ⊢
      unfold reachBytes at hw1
      unfold RB
      omega
/-- a matrix -/
theorem open_mt (h : DataW.trod enc Try.prog w 0 (fun _ => true) true fuel 23 cs = some x) (hw : ∀ n ∈ x.1.weights Try.prog 23, n ≤ reachBytes) : ∃ m : Mt, cs = [m.v] ∧ m.ok RB w ∧ m.rs.length ≤ RB ∧ ∀ r ∈ m.rs, r.l.length ≤ RB := by
  rcases open_slice1 Try.underlying23 cells_zrow h with ⟨rfl, rfl⟩ | ⟨a, len, cap, m, n, V, D, Pl, rfl, hb, hl, hm, hmm, rfl, hx⟩
  · exact ⟨⟨[], (none, 0)⟩, rfl, ⟨Rd.nil _ _, Nat.le_refl _, by simp⟩, by simp [RB], by simp⟩
  · simp only [if_true] at hmm
    subst hmm
    obtain ⟨hw1, hw2⟩ := weights_slice Try.underlying23 hw
    obtain ⟨Z, hZ⟩ := choose_lt (n := len) (α := Rw) (p := fun i r => V i = r.v ∧ r.ok RB w ∧ r.l.length ≤ RB) (fun i hi => by
      obtain ⟨r, h1, h2, h3⟩ := open_zrow (hx i (by omega)).2 (hw2 (D i) (List.mem_map.2 ⟨i, List.mem_range.2 hi, rfl⟩))
      exact ⟨r, by simpa using h1, h2, h3⟩)
    refine ⟨⟨(List.range len).map Z, (some a, m)⟩, by simp [Mt.v], ⟨rd_of fun i v hv => ?_, by simpa using hl, fun r hr => ?_⟩, ?_, fun r hr => ?_⟩
    · rw [List.map_map] at hv
      obtain ⟨h3, rfl⟩ := map_get hv
      rw [(hx i (by omega)).1, (hZ i h3).1]
      rfl
    · obtain ⟨i, hi, rfl⟩ := List.mem_map.1 hr
      exact (hZ i (by simpa using hi)).2.1
    · simp only [List.length_map, List.length_range, bytes_zrow] at hw1 ⊢
      unfold reachBytes at hw1
      unfold RB
      omega
    · obtain ⟨i, hi, rfl⟩ := List.mem_map.1 hr
      exact (hZ i (by simpa using hi)).2.2
end
end Go.Qk
end
section
set_option linter.unusedVariables false
namespace Go.Qk
open Go Go.Proofs Go.RowKit
/-- the counts up to row i are at most n -/
def upto (m : Mt) (n i : Nat) : Prop := m.rs.length ≤ n ∧ ∀ k (h : k < m.rs.length), k < i → m.rs[k].l.length ≤ n ∧ ∀ z ∈ m.rs[k].l, z.xs.length ≤ n
theorem upto.mono {m : Mt} {n n' i : Nat} (h : upto m n i) (hn : n ≤ n') : upto m n' i := ⟨by have := h.1; omega, fun k hk hi => ⟨by have := (h.2 k hk hi).1; omega, fun z hz => by have := (h.2 k hk hi).2 z hz; omega⟩⟩
theorem upto.next {m : Mt} {n i : Nat} (h : upto m n i) (hi : i < m.rs.length) (h1 : m.rs[i].l.length ≤ n) (h2 : ∀ b (h : b < m.rs[i].l.length), m.rs[i].l[b].xs.length ≤ n) : upto m n (i + 1) := by
  refine ⟨h.1, fun k hk hki => ?_⟩
  by_cases e : k = i
  · subst e
    exact ⟨h1, fun z hz => by obtain ⟨b, hb, rfl⟩ := List.getElem_of_mem hz; exact h2 b hb⟩
  · exact h.2 k hk (by omega)
def smallM (m : Mt) : Prop := m.rs.length ≤ 600 ∧ ∀ r ∈ m.rs, r.l.length ≤ 600 ∧ ∀ z ∈ r.l, z.xs.length ≤ 600
theorem upto.small {m : Mt} {n : Nat} (h : upto m n m.rs.length) (hn : n ≤ 600) : smallM m := by
  refine ⟨by have := h.1; omega, fun r hr => ?_⟩
  obtain ⟨k, hk, rfl⟩ := List.getElem_of_mem hr
  exact ⟨by have := (h.2 k hk hk).1; omega, fun z hz => by have := (h.2 k hk hk).2 z hz; omega⟩
theorem smallM.ok {m : Mt} (h : smallM m) {B : Nat} {w : World} (hm : m.ok B w) : m.ok 600 w := ⟨hm.1, hm.2.1, fun r hr => ⟨(hm.2.2 r hr).1, (hm.2.2 r hr).2.1, fun z hz => ⟨((hm.2.2 r hr).2.2 z hz).1, ((hm.2.2 r hr).2.2 z hz).2.1, (h.2 r hr).2 z hz⟩⟩⟩
end Go.Qk
end
section
set_option linter.unusedVariables false
namespace Go.Qk
open Go Go.Proofs Go.RowKit
set_option maxRecDepth 100000
set_option maxHeartbeats 4000000
theorem large_ret (m : Mt) (w0 : World) (S : Nat → Prop) (hm : m.ok RB w0) (hlen : m.rs.length ≤ RB) (hrow : ∀ r ∈ m.rs, r.l.length ≤ RB) :
    Ret Try.prog 24 [m.v] w0 S (fun b : Bool => .bool b) (fun b _ => b = false → smallM m) := by
  have hRB : RB = 35184372087808 := rfl
  refine ret_of Try.func24 rfl Try.ntmps24 rfl ?_
  refine tr_rseq ?_
  refine sq_q (qt_assign rfl) rfl ?_
  refine sq_end ?_
  refine tr_rseq ?_
  refine sq_q (qt_move rfl) rfl ?_
  refine sq_q (qt_len rfl) rfl ?_
  refine sq_q (qt_assign rfl) rfl ?_
  refine sq_end ?_
  refine tr_seq ?_
  refine tr_rseq ?_
  refine sq_q (qt_assign rfl) rfl ?_
  refine sq_end ?_
  refine tr_block ?_
  refine tr_loop2 (fun (i n : Nat) => i ≤ m.rs.length ∧ n ≤ 1000 + RB ∧ (n < 1000 → upto m n i)) (fun i n => [(0, m.v), (3, .int .i64 (n : Int)), (4, .int .i64 (i : Int))]) (fun _ _ => []) (fun _ _ _ => True) (fun i _ => m.rs.length - i) 0 m.rs.length ⟨Nat.zero_le _, by omega, fun _ => ⟨Nat.le_refl _, fun k _ h => by omega⟩⟩ ⟨rfl, rfl, rfl, trivial⟩ rfl (fun _ _ => trivial) ?_
  rintro i n ⟨hi, hn, hu⟩
  refine tr_seq ?_
  have hcs : (i < m.rs.length ∧ n < 1000) ∨ (i < m.rs.length ∧ ¬ n < 1000) ∨ ¬ i < m.rs.length := by omega
  rcases hcs with ⟨h1, h2⟩ | ⟨h1, h2⟩ | h1
  ·
    obtain ⟨ro, oo, evm, hat⟩ := hm.at_ (show 0 < m.rs.length by omega)
    have hrl := hrow _ (List.getElem_mem h1)
    refine tr_sub [(0, .slice (some ⟨ro, oo, none⟩) m.rs.length m.p.2), (3, .int .i64 (n : Int)), (4, .int .i64 (i : Int))] ⟨congrArg some evm, rfl, rfl, trivial⟩ ?_
    have hu := hu h2
    refine tr_rseq ?_
    refine sq_q (qt_move rfl) rfl ?_
    refine sq_q (qt_move rfl) rfl ?_
    refine sq_q (qt_len rfl) rfl ?_
    refine sq_q (qt_bin rfl rfl (bT bin_lss (by omega))) rfl ?_
    refine sq_q (qt_move rfl) rfl ?_
    refine sq_gT rfl rfl ?_
    refine sq_q (qt_move rfl) rfl ?_
    refine sq_gT rfl rfl ?_
    refine sq_q (qt_bin rfl rfl (bT bin_lss (by omega))) rfl ?_
    refine sq_q (qt_pick rfl rfl) rfl ?_
    refine sq_end ?_
    refine tr_ifT rfl ?_
    refine tr_skip ?_
    repeat with_reducible first | refine tr_skip ?_ | refine tr_exit ?_ | refine tr_then ?_ | refine tr_inX ?_ | refine tr_thenX ?_ | refine tr_inN ?_ | refine tr_inR ?_ | refine tr_thenR ?_
    refine tr_seq ?_
    refine tr_block ?_
    refine tr_rseq ?_
    refine sq_q (qt_move rfl) rfl ?_
    refine sq_q (qt_move rfl) rfl ?_
    refine sq_q (qt_move rfl) rfl ?_
    refine sq_q (qt_index (i := i) rfl rfl h1) rfl ?_
    refine sq_q (qt_load rfl (fun w t => t.a1 (hat i h1))) rfl ?_
    refine sq_q (qt_len rfl) rfl ?_
    refine sq_q (qt_bin rfl rfl (bin_addI (by omega) (by omega))) rfl ?_
    refine sq_q (qt_assign rfl) rfl ?_
    refine sq_end ?_
    refine tr_rseq ?_
    refine sq_q (qt_assign rfl) rfl ?_
    refine sq_end ?_
    refine tr_block ?_
    refine tr_loop2 (fun (j n' : Nat) => j ≤ m.rs[i].l.length ∧ n' ≤ 1000 + RB ∧ (n' < 1000 → upto m n' i ∧ m.rs[i].l.length ≤ n' ∧ ∀ b (h : b < m.rs[i].l.length), b < j → m.rs[i].l[b].xs.length ≤ n')) (fun j n' => [(0, .slice (some ⟨ro, oo, none⟩) m.rs.length m.p.2), (3, .int .i64 (n' : Int)), (4, .int .i64 (i : Int)), (5, .int .i64 (j : Int))]) (fun _ _ => []) (fun _ _ _ => True) (fun j _ => m.rs[i].l.length - j) 0 (n + m.rs[i].l.length) ⟨Nat.zero_le _, by omega, fun _ => ⟨hu.mono (by omega), by omega, fun b _ h => by omega⟩⟩ ⟨rfl, rfl, rfl, rfl, trivial⟩ rfl (fun _ _ => trivial) ?_
    rintro j n' ⟨hj, hn', hu'⟩
    refine tr_seq ?_
    have hcs : (j < m.rs[i].l.length ∧ n' < 1000) ∨ (j < m.rs[i].l.length ∧ ¬ n' < 1000) ∨ ¬ j < m.rs[i].l.length := by omega
    rcases hcs with ⟨g1, g2⟩ | ⟨g1, g2⟩ | g1
    ·
      obtain ⟨rr, orr, evr, hatr⟩ := (hm.2.2 _ (List.getElem_mem h1)).at_ (show 0 < m.rs[i].l.length by omega)
      have hr := hat i h1
      rw [evr] at hr
      have hz1 := (hatr j g1).2
      have hzl := ((hm.2.2 _ (List.getElem_mem h1)).2.2 _ (List.getElem_mem g1)).2.2
      have hu' := hu' g2
      refine tr_rseq ?_
      refine sq_q (qt_move rfl) rfl ?_
      refine sq_q (qt_move rfl) rfl ?_
      refine sq_q (qt_move rfl) rfl ?_
      refine sq_q (qt_index (i := i) rfl rfl h1) rfl ?_
      refine sq_q (qt_load rfl (fun w t => t.a1 (hat i h1))) rfl ?_
      refine sq_q (qt_len rfl) rfl ?_
      refine sq_q (qt_bin rfl rfl (bT bin_lss (by omega))) rfl ?_
      refine sq_q (qt_move rfl) rfl ?_
      refine sq_gT rfl rfl ?_
      refine sq_q (qt_move rfl) rfl ?_
      refine sq_gT rfl rfl ?_
      refine sq_q (qt_bin rfl rfl (bT bin_lss (by omega))) rfl ?_
      refine sq_q (qt_pick rfl rfl) rfl ?_
      refine sq_end ?_
      refine tr_ifT rfl ?_
      refine tr_skip ?_
      repeat with_reducible first | refine tr_skip ?_ | refine tr_exit ?_ | refine tr_then ?_ | refine tr_inX ?_ | refine tr_thenX ?_ | refine tr_inN ?_ | refine tr_inR ?_ | refine tr_thenR ?_
      refine tr_seq ?_
      refine tr_block ?_
      refine tr_region ?_
      refine sq_q (qt_move rfl) rfl ?_
      refine sq_q (qt_move rfl) rfl ?_
      refine sq_q (qt_move rfl) rfl ?_
      refine sq_q (qt_index (i := i) rfl rfl h1) rfl ?_
      refine sq_q (qt_load rfl (fun w t => t.a1 hr)) rfl ?_
      refine sq_q (qt_move rfl) rfl ?_
      refine sq_q (qt_index (i := j) rfl rfl g1) rfl ?_
      refine sq_q (qt_fieldAddr rfl) rfl ?_
      refine sq_q (qt_load rfl (fun w t => t.atA hz1)) rfl ?_
      refine sq_q (qt_len rfl) rfl ?_
      refine sq_q (qt_bin rfl rfl (bin_addI (by omega) (by omega))) rfl ?_
      refine sq_q (qt_assign rfl) rfl ?_
      refine sq_nil ?_
      repeat with_reducible first | refine tr_skip ?_ | refine tr_exit ?_ | refine tr_then ?_ | refine tr_inX ?_ | refine tr_thenX ?_ | refine tr_inN ?_ | refine tr_inR ?_ | refine tr_thenR ?_
      refine tr_region ?_
      refine sq_q (qt_move rfl) rfl ?_
      refine sq_q (qt_bin rfl rfl (bin_addI (by omega) (by omega))) rfl ?_
      refine sq_q (qt_assign rfl) rfl ?_
      refine sq_nil ?_
      repeat with_reducible first | refine tr_skip ?_ | refine tr_exit ?_ | refine tr_then ?_ | refine tr_inX ?_ | refine tr_thenX ?_ | refine tr_inN ?_ | refine tr_inR ?_ | refine tr_thenR ?_
      refine tr_round2 (j + 1) (n' + m.rs[i].l[j].xs.length) ⟨by omega, by omega, fun h => ⟨hu'.1.mono (by omega), by omega, fun b hb hbj => ?_⟩⟩ (by omega) ⟨rfl, rfl, rfl, rfl, trivial⟩ rfl (fun _ h => h)
      by_cases e : b = j
      · subst e; omega
      · have := hu'.2.2 b hb (by omega); omega
    ·
      refine tr_rseq ?_
      refine sq_q (qt_move rfl) rfl ?_
      refine sq_q (qt_move rfl) rfl ?_
      refine sq_q (qt_move rfl) rfl ?_
      refine sq_q (qt_index (i := i) rfl rfl h1) rfl ?_
      refine sq_q (qt_load rfl (fun w t => t.a1 (hat i h1))) rfl ?_
      refine sq_q (qt_len rfl) rfl ?_
      refine sq_q (qt_bin rfl rfl (bT bin_lss (by omega))) rfl ?_
      refine sq_q (qt_move rfl) rfl ?_
      refine sq_gT rfl rfl ?_
      refine sq_q (qt_move rfl) rfl ?_
      refine sq_gT rfl rfl ?_
      refine sq_q (qt_bin rfl rfl (bF bin_lss (by omega))) rfl ?_
      refine sq_q (qt_pick rfl rfl) rfl ?_
      refine sq_end ?_
      refine tr_ifF rfl ?_
      refine tr_exit ?_
      repeat with_reducible first | refine tr_skip ?_ | refine tr_exit ?_ | refine tr_then ?_ | refine tr_inX ?_ | refine tr_thenX ?_ | refine tr_inN ?_ | refine tr_inR ?_ | refine tr_thenR ?_
      refine tr_region ?_
      refine sq_q (qt_move rfl) rfl ?_
      refine sq_q (qt_bin rfl rfl (bin_addI (by omega) (by omega))) rfl ?_
      refine sq_q (qt_assign rfl) rfl ?_
      refine sq_nil ?_
      repeat with_reducible first | refine tr_skip ?_ | refine tr_exit ?_ | refine tr_then ?_ | refine tr_inX ?_ | refine tr_thenX ?_ | refine tr_inN ?_ | refine tr_inR ?_ | refine tr_thenR ?_
      exact tr_round2 (i + 1) n' ⟨by omega, by omega, fun h => absurd h g2⟩ (by omega) ⟨congrArg some evm.symm, rfl, rfl, trivial⟩ rfl (fun _ h => h)
    ·
      refine tr_rseq ?_
      refine sq_q (qt_move rfl) rfl ?_
      refine sq_q (qt_move rfl) rfl ?_
      refine sq_q (qt_move rfl) rfl ?_
      refine sq_q (qt_index (i := i) rfl rfl h1) rfl ?_
      refine sq_q (qt_load rfl (fun w t => t.a1 (hat i h1))) rfl ?_
      refine sq_q (qt_len rfl) rfl ?_
      refine sq_q (qt_bin rfl rfl (bF bin_lss (by omega))) rfl ?_
      refine sq_q (qt_move rfl) rfl ?_
      refine sq_gF rfl rfl rfl rfl ?_
      refine sq_gF rfl rfl rfl rfl ?_
      refine sq_q (qt_pick rfl rfl) rfl ?_
      refine sq_end ?_
      refine tr_ifF rfl ?_
      refine tr_exit ?_
      repeat with_reducible first | refine tr_skip ?_ | refine tr_exit ?_ | refine tr_then ?_ | refine tr_inX ?_ | refine tr_thenX ?_ | refine tr_inN ?_ | refine tr_inR ?_ | refine tr_thenR ?_
      refine tr_region ?_
      refine sq_q (qt_move rfl) rfl ?_
      refine sq_q (qt_bin rfl rfl (bin_addI (by omega) (by omega))) rfl ?_
      refine sq_q (qt_assign rfl) rfl ?_
      refine sq_nil ?_
      repeat with_reducible first | refine tr_skip ?_ | refine tr_exit ?_ | refine tr_then ?_ | refine tr_inX ?_ | refine tr_thenX ?_ | refine tr_inN ?_ | refine tr_inR ?_ | refine tr_thenR ?_
      exact tr_round2 (i + 1) n' ⟨by omega, by omega, fun h => (hu' h).1.next h1 (hu' h).2.1 fun b hb => (hu' h).2.2 b hb (by omega)⟩ (by omega) ⟨congrArg some evm.symm, rfl, rfl, trivial⟩ rfl (fun _ h => h)
  ·
    refine tr_rseq ?_
    refine sq_q (qt_move rfl) rfl ?_
    refine sq_q (qt_move rfl) rfl ?_
    refine sq_q (qt_len rfl) rfl ?_
    refine sq_q (qt_bin rfl rfl (bT bin_lss (by omega))) rfl ?_
    refine sq_q (qt_move rfl) rfl ?_
    refine sq_gT rfl rfl ?_
    refine sq_q (qt_move rfl) rfl ?_
    refine sq_gT rfl rfl ?_
    refine sq_q (qt_bin rfl rfl (bF bin_lss (by omega))) rfl ?_
    refine sq_q (qt_pick rfl rfl) rfl ?_
    refine sq_end ?_
    refine tr_ifF rfl ?_
    refine tr_exit ?_
    repeat with_reducible first | refine tr_skip ?_ | refine tr_exit ?_ | refine tr_then ?_ | refine tr_inX ?_ | refine tr_thenX ?_ | refine tr_inN ?_ | refine tr_inR ?_ | refine tr_thenR ?_
    refine tr_rseq ?_
    refine sq_q (qt_move rfl) rfl ?_
    refine sq_q (qt_bin rfl rfl bin_gtr) rfl ?_
    refine sq_q (qt_assign rfl) rfl ?_
    refine sq_end ?_
    refine tr_ret ?_
    repeat with_reducible first | refine tr_skip ?_ | refine tr_exit ?_ | refine tr_then ?_ | refine tr_inX ?_ | refine tr_thenX ?_ | refine tr_inN ?_ | refine tr_inR ?_ | refine tr_thenR ?_
    exact tr_done _ (fun a w s t => results_1 rfl (resv_tmp s rfl)) (fun w _ _ _ h => absurd (of_decide_eq_false h) (by omega))
  ·
    refine tr_rseq ?_
    refine sq_q (qt_move rfl) rfl ?_
    refine sq_q (qt_move rfl) rfl ?_
    refine sq_q (qt_len rfl) rfl ?_
    refine sq_q (qt_bin rfl rfl (bF bin_lss (by omega))) rfl ?_
    refine sq_q (qt_move rfl) rfl ?_
    refine sq_gF rfl rfl rfl rfl ?_
    refine sq_gF rfl rfl rfl rfl ?_
    refine sq_q (qt_pick rfl rfl) rfl ?_
    refine sq_end ?_
    refine tr_ifF rfl ?_
    refine tr_exit ?_
    repeat with_reducible first | refine tr_skip ?_ | refine tr_exit ?_ | refine tr_then ?_ | refine tr_inX ?_ | refine tr_thenX ?_ | refine tr_inN ?_ | refine tr_inR ?_ | refine tr_thenR ?_
    refine tr_rseq ?_
    refine sq_q (qt_move rfl) rfl ?_
    refine sq_q (qt_bin rfl rfl bin_gtr) rfl ?_
    refine sq_q (qt_assign rfl) rfl ?_
    refine sq_end ?_
    refine tr_ret ?_
    repeat with_reducible first | refine tr_skip ?_ | refine tr_exit ?_ | refine tr_then ?_ | refine tr_inX ?_ | refine tr_thenX ?_ | refine tr_inN ?_ | refine tr_inR ?_ | refine tr_thenR ?_
    exact tr_done _ (fun a w s t => results_1 rfl (resv_tmp s rfl)) (fun w _ _ _ h => by have := of_decide_eq_false h; have he : i = m.rs.length := (by omega); exact upto.small (by rw [← he]; exact hu (by omega)) (n := n) (by omega))
end Go.Qk
end
section
set_option linter.unusedVariables false
namespace Go.Qk
open Go Go.Proofs Go.RowKit
set_option maxRecDepth 100000
set_option maxHeartbeats 4000000
theorem rshape_ret (m : Mt) (B : Nat) (w0 : World) (S : Nat → Prop) (hm : m.ok B w0) (hlen : m.rs.length ≤ 35184372088832) (hrow : ∀ r ∈ m.rs, r.l.length ≤ 35184372088832) :
    Ret Try.prog 43 [m.v] w0 S (fun _ : Unit => shpV (shp m.zs)) (fun _ _ => True) := by
  have hzl := m.zs_len
  refine ret_of Try.func43 rfl Try.ntmps43 rfl ?_
  refine tr_rseq ?_
  refine sq_q (qt_assign rfl) rfl ?_
  refine sq_q (qt_assign rfl) rfl ?_
  refine sq_q (qt_assign rfl) rfl ?_
  refine sq_end ?_
  refine tr_seq ?_
  have hcs : m.rs.length < 1 ∨ (1 ≤ m.rs.length ∧ 16 < m.rs.length) ∨ (0 < m.rs.length ∧ m.rs.length ≤ 16) := by omega
  rcases hcs with h1 | ⟨h1, h2⟩ | ⟨hp0, h2⟩
  ·
    rw [shp_none_len (L := m.zs) (by omega)]
    refine tr_rseq ?_
    refine sq_q (qt_move rfl) rfl ?_
    refine sq_q (qt_len rfl) rfl ?_
    refine sq_q (qt_bin rfl rfl (bT bin_lss (by omega))) rfl ?_
    refine sq_q (qt_move rfl) rfl ?_
    refine sq_gF rfl rfl rfl rfl ?_
    refine sq_gF rfl rfl rfl rfl ?_
    refine sq_gF rfl rfl rfl rfl ?_
    refine sq_q (qt_pick rfl rfl) rfl ?_
    refine sq_end ?_
    refine tr_ifT rfl ?_
    refine tr_rseq ?_
    refine sq_q (qt_assign rfl) rfl ?_
    refine sq_q (qt_assign rfl) rfl ?_
    refine sq_q (qt_assign rfl) rfl ?_
    refine sq_end ?_
    refine tr_ret ?_
    repeat with_reducible first | refine tr_skip ?_ | refine tr_exit ?_ | refine tr_then ?_ | refine tr_inX ?_ | refine tr_thenX ?_ | refine tr_inN ?_ | refine tr_inR ?_ | refine tr_thenR ?_
    exact tr_done () (fun a w s t => results_3 rfl (resv_tmp s rfl) (resv_tmp s rfl) (resv_tmp s rfl)) (fun w _ _ _ => trivial)
  ·
    rw [shp_none_len (L := m.zs) (by omega)]
    refine tr_rseq ?_
    refine sq_q (qt_move rfl) rfl ?_
    refine sq_q (qt_len rfl) rfl ?_
    refine sq_q (qt_bin rfl rfl (bF bin_lss (by omega))) rfl ?_
    refine sq_q (qt_move rfl) rfl ?_
    refine sq_gT rfl rfl ?_
    refine sq_q (qt_move rfl) rfl ?_
    refine sq_gT rfl rfl ?_
    refine sq_q (qt_len rfl) rfl ?_
    refine sq_gT rfl rfl ?_
    refine sq_q (qt_bin rfl rfl (bT bin_gtr (by omega))) rfl ?_
    refine sq_q (qt_pick rfl rfl) rfl ?_
    refine sq_end ?_
    refine tr_ifT rfl ?_
    refine tr_rseq ?_
    refine sq_q (qt_assign rfl) rfl ?_
    refine sq_q (qt_assign rfl) rfl ?_
    refine sq_q (qt_assign rfl) rfl ?_
    refine sq_end ?_
    refine tr_ret ?_
    repeat with_reducible first | refine tr_skip ?_ | refine tr_exit ?_ | refine tr_then ?_ | refine tr_inX ?_ | refine tr_thenX ?_ | refine tr_inN ?_ | refine tr_inR ?_ | refine tr_thenR ?_
    exact tr_done () (fun a w s t => results_3 rfl (resv_tmp s rfl) (resv_tmp s rfl) (resv_tmp s rfl)) (fun w _ _ _ => trivial)
  ·
    obtain ⟨ro, oo, evm, hat⟩ := hm.at_ hp0
    rw [evm]
    have hno : ∀ k (hk : k < m.rs.length), (m.rs[k].l.length < 1 ∨ 16 < m.rs[k].l.length ∨ m.rs[k].l.length ≠ m.rs[0].l.length) → shp m.zs = none := fun k hk h => shp_none_row (k := k) (by omega) (by omega) (by rw [m.zs_at hk, m.zs_at hp0, Rw.zs_len, Rw.zs_len]; exact h)
    refine tr_rseq ?_
    refine sq_q (qt_move rfl) rfl ?_
    refine sq_q (qt_len rfl) rfl ?_
    refine sq_q (qt_bin rfl rfl (bF bin_lss (by omega))) rfl ?_
    refine sq_q (qt_move rfl) rfl ?_
    refine sq_gT rfl rfl ?_
    refine sq_q (qt_move rfl) rfl ?_
    refine sq_gT rfl rfl ?_
    refine sq_q (qt_len rfl) rfl ?_
    refine sq_gT rfl rfl ?_
    refine sq_q (qt_bin rfl rfl (bF bin_gtr (by omega))) rfl ?_
    refine sq_q (qt_pick rfl rfl) rfl ?_
    refine sq_end ?_
    refine tr_ifF rfl ?_
    refine tr_skip ?_
    repeat with_reducible first | refine tr_skip ?_ | refine tr_exit ?_ | refine tr_then ?_ | refine tr_inX ?_ | refine tr_thenX ?_ | refine tr_inN ?_ | refine tr_inR ?_ | refine tr_thenR ?_
    refine tr_seq ?_
    refine tr_rseq ?_
    refine sq_q (qt_move rfl) rfl ?_
    refine sq_q (qt_len rfl) rfl ?_
    refine sq_q (qt_move rfl) rfl ?_
    refine sq_end ?_
    refine tr_block ?_
    refine tr_loop (fun k : Nat => k ≤ m.rs.length ∧ ∀ a (h : a < m.rs.length), a < k → 1 ≤ m.rs[a].l.length ∧ m.rs[a].l.length ≤ 16 ∧ m.rs[a].l.length = m.rs[0].l.length) (fun k => [(0, .slice (some ⟨ro, oo, none⟩) m.rs.length m.p.2), (15, .slice (some ⟨ro, oo, none⟩) m.rs.length m.p.2), (16, .int .i64 (m.rs.length : Int)), (17, .int .i64 (k : Int))]) (fun _ => []) (fun _ _ => True) (fun k => m.rs.length - k) 0 ⟨Nat.zero_le _, fun a _ h => by omega⟩ ⟨rfl, rfl, rfl, rfl, trivial⟩ rfl (fun _ _ => trivial) ?_
    rintro k ⟨hk, hall⟩
    refine tr_rseq ?_
    refine sq_q (qt_bin rfl rfl bin_lss) rfl ?_
    refine sq_end ?_
    refine tr_seq ?_
    refine tr_if rfl (fun hc => ?_) (fun hc => ?_)
    ·
      have hlt : k < m.rs.length := by have := of_decide_eq_true hc; omega
      have hrk := hrow _ (List.getElem_mem hlt)
      have hr0 := hrow _ (List.getElem_mem hp0)
      refine tr_skip ?_
      repeat with_reducible first | refine tr_skip ?_ | refine tr_exit ?_ | refine tr_then ?_ | refine tr_inX ?_ | refine tr_thenX ?_ | refine tr_inN ?_ | refine tr_inR ?_ | refine tr_thenR ?_
      refine tr_seq ?_
      refine tr_block ?_
      refine tr_rseq ?_
      refine sq_q (qt_index (i := k) rfl rfl hlt) rfl ?_
      refine sq_q (qt_load rfl (fun w t => t.a1 (hat k hlt))) rfl ?_
      refine sq_q (qt_assign rfl) rfl ?_
      refine sq_end ?_
      have hcs : m.rs[k].l.length < 1 ∨ (1 ≤ m.rs[k].l.length ∧ 16 < m.rs[k].l.length) ∨ (1 ≤ m.rs[k].l.length ∧ m.rs[k].l.length ≤ 16 ∧ m.rs[k].l.length ≠ m.rs[0].l.length) ∨ (1 ≤ m.rs[k].l.length ∧ m.rs[k].l.length ≤ 16 ∧ m.rs[k].l.length = m.rs[0].l.length) := by omega
      rcases hcs with g1 | ⟨g1, g2⟩ | ⟨g1, g2, g3⟩ | ⟨g1, g2, g3⟩
      ·
        rw [hno k hlt (.inl g1)]
        refine tr_rseq ?_
        refine sq_q (qt_move rfl) rfl ?_
        refine sq_q (qt_len rfl) rfl ?_
        refine sq_q (qt_bin rfl rfl (bT bin_lss (by omega))) rfl ?_
        refine sq_q (qt_move rfl) rfl ?_
        refine sq_gF rfl rfl rfl rfl ?_
        refine sq_gF rfl rfl rfl rfl ?_
        refine sq_gF rfl rfl rfl rfl ?_
        refine sq_q (qt_pick rfl rfl) rfl ?_
        refine sq_q (qt_move rfl) rfl ?_
        refine sq_gF rfl rfl rfl rfl ?_
        refine sq_gF rfl rfl rfl rfl ?_
        refine sq_gF rfl rfl rfl rfl ?_
        refine sq_gF rfl rfl rfl rfl ?_
        refine sq_gF rfl rfl rfl rfl ?_
        refine sq_gF rfl rfl rfl rfl ?_
        refine sq_gF rfl rfl rfl rfl ?_
        refine sq_q (qt_pick rfl rfl) rfl ?_
        refine sq_end ?_
        refine tr_ifT rfl ?_
        refine tr_rseq ?_
        refine sq_q (qt_assign rfl) rfl ?_
        refine sq_q (qt_assign rfl) rfl ?_
        refine sq_q (qt_assign rfl) rfl ?_
        refine sq_end ?_
        refine tr_ret ?_
        repeat with_reducible first | refine tr_skip ?_ | refine tr_exit ?_ | refine tr_then ?_ | refine tr_inX ?_ | refine tr_thenX ?_ | refine tr_inN ?_ | refine tr_inR ?_ | refine tr_thenR ?_
        exact tr_done () (fun a w s t => results_3 rfl (resv_tmp s rfl) (resv_tmp s rfl) (resv_tmp s rfl)) (fun w _ _ _ => trivial)
      ·
        rw [hno k hlt (.inr (.inl g2))]
        refine tr_rseq ?_
        refine sq_q (qt_move rfl) rfl ?_
        refine sq_q (qt_len rfl) rfl ?_
        refine sq_q (qt_bin rfl rfl (bF bin_lss (by omega))) rfl ?_
        refine sq_q (qt_move rfl) rfl ?_
        refine sq_gT rfl rfl ?_
        refine sq_q (qt_move rfl) rfl ?_
        refine sq_gT rfl rfl ?_
        refine sq_q (qt_len rfl) rfl ?_
        refine sq_gT rfl rfl ?_
        refine sq_q (qt_bin rfl rfl (bT bin_gtr (by omega))) rfl ?_
        refine sq_q (qt_pick rfl rfl) rfl ?_
        refine sq_q (qt_move rfl) rfl ?_
        refine sq_gF rfl rfl rfl rfl ?_
        refine sq_gF rfl rfl rfl rfl ?_
        refine sq_gF rfl rfl rfl rfl ?_
        refine sq_gF rfl rfl rfl rfl ?_
        refine sq_gF rfl rfl rfl rfl ?_
        refine sq_gF rfl rfl rfl rfl ?_
        refine sq_gF rfl rfl rfl rfl ?_
        refine sq_q (qt_pick rfl rfl) rfl ?_
        refine sq_end ?_
        refine tr_ifT rfl ?_
        refine tr_rseq ?_
        refine sq_q (qt_assign rfl) rfl ?_
        refine sq_q (qt_assign rfl) rfl ?_
        refine sq_q (qt_assign rfl) rfl ?_
        refine sq_end ?_
        refine tr_ret ?_
        repeat with_reducible first | refine tr_skip ?_ | refine tr_exit ?_ | refine tr_then ?_ | refine tr_inX ?_ | refine tr_thenX ?_ | refine tr_inN ?_ | refine tr_inR ?_ | refine tr_thenR ?_
        exact tr_done () (fun a w s t => results_3 rfl (resv_tmp s rfl) (resv_tmp s rfl) (resv_tmp s rfl)) (fun w _ _ _ => trivial)
      ·
        rw [hno k hlt (.inr (.inr g3))]
        refine tr_rseq ?_
        refine sq_q (qt_move rfl) rfl ?_
        refine sq_q (qt_len rfl) rfl ?_
        refine sq_q (qt_bin rfl rfl (bF bin_lss (by omega))) rfl ?_
        refine sq_q (qt_move rfl) rfl ?_
        refine sq_gT rfl rfl ?_
        refine sq_q (qt_move rfl) rfl ?_
        refine sq_gT rfl rfl ?_
        refine sq_q (qt_len rfl) rfl ?_
        refine sq_gT rfl rfl ?_
        refine sq_q (qt_bin rfl rfl (bF bin_gtr (by omega))) rfl ?_
        refine sq_q (qt_pick rfl rfl) rfl ?_
        refine sq_q (qt_move rfl) rfl ?_
        refine sq_gT rfl rfl ?_
        refine sq_q (qt_move rfl) rfl ?_
        refine sq_gT rfl rfl ?_
        refine sq_q (qt_len rfl) rfl ?_
        refine sq_gT rfl rfl ?_
        refine sq_q (qt_move rfl) rfl ?_
        refine sq_gT rfl rfl ?_
        refine sq_q (qt_index (i := 0) rfl rfl hp0) rfl ?_
        refine sq_gT rfl rfl ?_
        refine sq_q (qt_load rfl (fun w t => t.a1 (hat 0 hp0))) rfl ?_
        refine sq_gT rfl rfl ?_
        refine sq_q (qt_len rfl) rfl ?_
        refine sq_gT rfl rfl ?_
        refine sq_q (qt_bin rfl rfl (bT bin_neq (by omega))) rfl ?_
        refine sq_q (qt_pick rfl rfl) rfl ?_
        refine sq_end ?_
        refine tr_ifT rfl ?_
        refine tr_rseq ?_
        refine sq_q (qt_assign rfl) rfl ?_
        refine sq_q (qt_assign rfl) rfl ?_
        refine sq_q (qt_assign rfl) rfl ?_
        refine sq_end ?_
        refine tr_ret ?_
        repeat with_reducible first | refine tr_skip ?_ | refine tr_exit ?_ | refine tr_then ?_ | refine tr_inX ?_ | refine tr_thenX ?_ | refine tr_inN ?_ | refine tr_inR ?_ | refine tr_thenR ?_
        exact tr_done () (fun a w s t => results_3 rfl (resv_tmp s rfl) (resv_tmp s rfl) (resv_tmp s rfl)) (fun w _ _ _ => trivial)
      ·
        refine tr_rseq ?_
        refine sq_q (qt_move rfl) rfl ?_
        refine sq_q (qt_len rfl) rfl ?_
        refine sq_q (qt_bin rfl rfl (bF bin_lss (by omega))) rfl ?_
        refine sq_q (qt_move rfl) rfl ?_
        refine sq_gT rfl rfl ?_
        refine sq_q (qt_move rfl) rfl ?_
        refine sq_gT rfl rfl ?_
        refine sq_q (qt_len rfl) rfl ?_
        refine sq_gT rfl rfl ?_
        refine sq_q (qt_bin rfl rfl (bF bin_gtr (by omega))) rfl ?_
        refine sq_q (qt_pick rfl rfl) rfl ?_
        refine sq_q (qt_move rfl) rfl ?_
        refine sq_gT rfl rfl ?_
        refine sq_q (qt_move rfl) rfl ?_
        refine sq_gT rfl rfl ?_
        refine sq_q (qt_len rfl) rfl ?_
        refine sq_gT rfl rfl ?_
        refine sq_q (qt_move rfl) rfl ?_
        refine sq_gT rfl rfl ?_
        refine sq_q (qt_index (i := 0) rfl rfl hp0) rfl ?_
        refine sq_gT rfl rfl ?_
        refine sq_q (qt_load rfl (fun w t => t.a1 (hat 0 hp0))) rfl ?_
        refine sq_gT rfl rfl ?_
        refine sq_q (qt_len rfl) rfl ?_
        refine sq_gT rfl rfl ?_
        refine sq_q (qt_bin rfl rfl (bF bin_neq (by omega))) rfl ?_
        refine sq_q (qt_pick rfl rfl) rfl ?_
        refine sq_end ?_
        refine tr_ifF rfl ?_
        refine tr_skip ?_
        repeat with_reducible first | refine tr_skip ?_ | refine tr_exit ?_ | refine tr_then ?_ | refine tr_inX ?_ | refine tr_thenX ?_ | refine tr_inN ?_ | refine tr_inR ?_ | refine tr_thenR ?_
        refine tr_region ?_
        refine sq_q (qt_bin rfl rfl (bin_addI (by omega) (by omega))) rfl ?_
        refine sq_q (qt_move rfl) rfl ?_
        refine sq_nil ?_
        repeat with_reducible first | refine tr_skip ?_ | refine tr_exit ?_ | refine tr_then ?_ | refine tr_inX ?_ | refine tr_thenX ?_ | refine tr_inN ?_ | refine tr_inR ?_ | refine tr_thenR ?_
        refine tr_round (k + 1) ⟨by omega, fun a ha hak => ?_⟩ (by omega) ⟨rfl, rfl, rfl, rfl, trivial⟩ rfl (fun _ h => h)
        by_cases e : a = k
        · subst e; exact ⟨g1, g2, g3⟩
        · exact hall a ha (by omega)
    ·
      have hke : k = m.rs.length := by have := of_decide_eq_false hc; omega
      have hs := shp_some (L := m.zs) (by omega) (by omega) (by rw [m.zs_at hp0, Rw.zs_len]; exact (hall 0 hp0 (by omega)).1) (by rw [m.zs_at hp0, Rw.zs_len]; exact (hall 0 hp0 (by omega)).2.1) (fun i hi => by rw [m.zs_at (by omega), m.zs_at hp0, Rw.zs_len, Rw.zs_len]; exact (hall i (by omega) (by omega)).2.2)
      have hs2 : shp m.zs = some (m.rs.length, m.rs[0].l.length) := by rw [hs, m.zs_at hp0, Rw.zs_len, hzl]
      rw [hs2]
      refine tr_exit ?_
      repeat with_reducible first | refine tr_skip ?_ | refine tr_exit ?_ | refine tr_then ?_ | refine tr_inX ?_ | refine tr_thenX ?_ | refine tr_inN ?_ | refine tr_inR ?_ | refine tr_thenR ?_
      refine tr_rdraw0 [0, 2, 3, 4, 6, 14, 15, 16, 17, 18, 37] (by kernel_rfl) ?_
      refine dx_q rfl (qt_move rfl) rfl ?_
      refine dx_q rfl (qt_len rfl) rfl ?_
      refine dx_q rfl (qt_move rfl) rfl ?_
      refine dx_q rfl (qt_index (i := 0) rfl rfl hp0) rfl ?_
      refine dx_q rfl (qt_load rfl (fun w t => t.a1 (hat 0 hp0))) rfl ?_
      refine dx_q rfl (qt_len rfl) rfl ?_
      refine dx_q rfl (qt_assign rfl) rfl ?_
      refine dx_q rfl (qt_assign rfl) rfl ?_
      refine dx_q rfl (qt_assign rfl) rfl ?_
      refine dx_nil ?_
      repeat (first | refine es_val rfl ?_ rfl | refine es_res rfl (fun x => ?_) rfl | refine es_skip rfl ?_)
      refine es_nil rfl ?_
      refine tx_endk ?_
      refine tr_ret ?_
      repeat with_reducible first | refine tr_skip ?_ | refine tr_exit ?_ | refine tr_then ?_ | refine tr_inX ?_ | refine tr_thenX ?_ | refine tr_inN ?_ | refine tr_inR ?_ | refine tr_thenR ?_
      exact tr_done () (fun a w s t => results_3 rfl (resv_tmp s rfl) (resv_tmp s rfl) (resv_tmp s rfl)) (fun w _ _ _ => trivial)
end Go.Qk
end
section
set_option linter.unusedVariables false
namespace Go.Qk
open Go Go.Proofs Go.RowKit
theorem own1c {r : Nat} {a b : List Value} {e : TypeId} {tl : Own} (h : a = b) : ((r, Obj.cells a.toArray e (0, 0)) :: tl) = (r, Obj.cells b.toArray e (0, 0)) :: tl := by rw [h]
end Go.Qk
end
section
set_option linter.unusedVariables false
namespace Go.Qk
open Go Go.Proofs Go.RowKit
set_option maxRecDepth 100000
set_option maxHeartbeats 4000000
theorem rlow_ret (xs : List Nat) (A : Option Addr) (c : Nat) (w : World) (S : Nat → Prop) (hx : Rd A (u32s xs) w) (lx : lim xs) (hb : xs.length ≤ 35184372088832) :
    Ret Try.prog 120 [.slice A xs.length c] w S (fun _ : Unit => .int .u64 ((val (xs.take 2) : Nat) : Int)) (fun _ _ => True) := by
  refine ret_of Try.func120 rfl Try.ntmps120 rfl ?_
  refine tr_rseq ?_
  refine sq_q (qt_assign rfl) rfl ?_
  refine sq_end ?_
  refine tr_rseq ?_
  refine sq_q (qt_assign rfl) rfl ?_
  refine sq_end ?_
  refine tr_seq ?_
  refine tr_rseq ?_
  refine sq_q (qt_assign rfl) rfl ?_
  refine sq_end ?_
  refine tr_block ?_
  refine tr_loop (fun (k : Nat) => k ≤ xs.length ∧ k ≤ 2) (fun k => [(0, .slice A xs.length c), (3, .int .u64 ((val (xs.take k) : Nat) : Int)), (4, .int .i64 (k : Int))]) (fun _ => []) (fun _ _ => True) (fun k => xs.length - k) 0 ⟨Nat.zero_le _, by omega⟩ ⟨rfl, rfl, rfl, trivial⟩ rfl (fun _ _ => trivial) ?_
  rintro k ⟨hk, hk2⟩
  refine tr_seq ?_
  have hcs : (k < xs.length ∧ k < 2) ∨ (k < xs.length ∧ ¬ k < 2) ∨ ¬ k < xs.length := by omega
  rcases hcs with ⟨h1, h2⟩ | ⟨h1, h2⟩ | h1
  ·
    have gx := lx _ (List.getElem_mem h1)
    obtain ⟨ra, oa, rfl, hat⟩ := hx.at_ (u32s_get h1)
    have hvl := val_lt (lim_take lx k)
    rw [show (xs.take k).length = k by simp; omega] at hvl
    have hk3 : k = 0 ∨ k = 1 := by omega
    have hpow : (4294967296 : Nat) ^ k = 2 ^ (32 * k) := by rw [Nat.pow_mul]
    have hs1 : xs[k] * 2 ^ (32 * k) < 18446744073709551616 := by rcases hk3 with h | h <;> simp only [h] at gx ⊢ <;> omega
    have hs2 : val (xs.take k) < 18446744073709551616 := by rw [hpow] at hvl; rcases hk3 with h | h <;> rw [h] at hvl ⊢ <;> omega
    have hcast : ((xs[k] : Nat) : Int) * 2 ^ (32 * k) = ((xs[k] * 2 ^ (32 * k) : Nat) : Int) := by simp
    refine tr_rseq ?_
    refine sq_q (qt_move rfl) rfl ?_
    refine sq_q (qt_move rfl) rfl ?_
    refine sq_q (qt_len rfl) rfl ?_
    refine sq_q (qt_bin rfl rfl (bT bin_lss (by omega))) rfl ?_
    refine sq_q (qt_move rfl) rfl ?_
    refine sq_gT rfl rfl ?_
    refine sq_q (qt_move rfl) rfl ?_
    refine sq_gT rfl rfl ?_
    refine sq_q (qt_bin rfl rfl (bT bin_lss (by omega))) rfl ?_
    refine sq_q (qt_pick rfl rfl) rfl ?_
    refine sq_end ?_
    refine tr_ifT rfl ?_
    refine tr_skip ?_
    repeat with_reducible first | refine tr_skip ?_ | refine tr_exit ?_ | refine tr_then ?_ | refine tr_inX ?_ | refine tr_thenX ?_ | refine tr_inN ?_ | refine tr_inR ?_ | refine tr_thenR ?_
    refine tr_seq ?_
    refine tr_block ?_
    refine tr_region ?_
    refine sq_q (qt_move rfl) rfl ?_
    refine sq_q (qt_move rfl) rfl ?_
    refine sq_q (qt_move rfl) rfl ?_
    refine sq_q (qt_index (i := k) rfl rfl h1) rfl ?_
    refine sq_q (qt_load rfl (fun w t => t.a1 hat)) rfl ?_
    refine sq_q (qt_to64 rfl (by omega) (by omega)) rfl ?_
    refine sq_q (qt_move rfl) rfl ?_
    refine sq_q (qt_bin rfl rfl (bin_mulI (by omega) (by omega))) rfl ?_
    refine sq_q (qt_bin rfl rfl (bin_shlU (32 * k) (by omega) (by omega) (by rw [hcast]; omega) (by rw [hcast]; omega))) rfl ?_
    rw [hcast]
    refine sq_q (qt_bin rfl rfl (bin_orN64 hs2 hs1)) rfl ?_
    refine sq_q (qt_assign rfl) rfl ?_
    refine sq_nil ?_
    repeat with_reducible first | refine tr_skip ?_ | refine tr_exit ?_ | refine tr_then ?_ | refine tr_inX ?_ | refine tr_thenX ?_ | refine tr_inN ?_ | refine tr_inR ?_ | refine tr_thenR ?_
    refine tr_region ?_
    refine sq_q (qt_move rfl) rfl ?_
    refine sq_q (qt_bin rfl rfl (bin_addI (by omega) (by omega))) rfl ?_
    refine sq_q (qt_assign rfl) rfl ?_
    refine sq_nil ?_
    repeat with_reducible first | refine tr_skip ?_ | refine tr_exit ?_ | refine tr_then ?_ | refine tr_inX ?_ | refine tr_thenX ?_ | refine tr_inN ?_ | refine tr_inR ?_ | refine tr_thenR ?_
    refine tr_round (k + 1) ⟨by omega, by omega⟩ (by omega) ⟨rfl, congrArg (fun z => some (Value.int .u64 z)) ?_, rfl, trivial⟩ rfl (fun _ h => h)
    rw [or_add (by rw [← hpow]; exact hvl), val_take_succ h1, hpow]
  ·
    refine tr_rseq ?_
    refine sq_q (qt_move rfl) rfl ?_
    refine sq_q (qt_move rfl) rfl ?_
    refine sq_q (qt_len rfl) rfl ?_
    refine sq_q (qt_bin rfl rfl (bT bin_lss (by omega))) rfl ?_
    refine sq_q (qt_move rfl) rfl ?_
    refine sq_gT rfl rfl ?_
    refine sq_q (qt_move rfl) rfl ?_
    refine sq_gT rfl rfl ?_
    refine sq_q (qt_bin rfl rfl (bF bin_lss (by omega))) rfl ?_
    refine sq_q (qt_pick rfl rfl) rfl ?_
    refine sq_end ?_
    refine tr_ifF rfl ?_
    refine tr_exit ?_
    repeat with_reducible first | refine tr_skip ?_ | refine tr_exit ?_ | refine tr_then ?_ | refine tr_inX ?_ | refine tr_thenX ?_ | refine tr_inN ?_ | refine tr_inR ?_ | refine tr_thenR ?_
    refine tr_rseq ?_
    refine sq_q (qt_move rfl) rfl ?_
    refine sq_q (qt_assign rfl) rfl ?_
    refine sq_end ?_
    refine tr_ret ?_
    repeat with_reducible first | refine tr_skip ?_ | refine tr_exit ?_ | refine tr_then ?_ | refine tr_inX ?_ | refine tr_thenX ?_ | refine tr_inN ?_ | refine tr_inR ?_ | refine tr_thenR ?_
    have e : k = 2 := by omega
    subst e
    exact tr_done () (fun a w s t => results_1 rfl (resv_tmp s rfl)) (fun _ _ _ _ => trivial)
  ·
    refine tr_rseq ?_
    refine sq_q (qt_move rfl) rfl ?_
    refine sq_q (qt_move rfl) rfl ?_
    refine sq_q (qt_len rfl) rfl ?_
    refine sq_q (qt_bin rfl rfl (bF bin_lss (by omega))) rfl ?_
    refine sq_q (qt_move rfl) rfl ?_
    refine sq_gF rfl rfl rfl rfl ?_
    refine sq_gF rfl rfl rfl rfl ?_
    refine sq_q (qt_pick rfl rfl) rfl ?_
    refine sq_end ?_
    refine tr_ifF rfl ?_
    refine tr_exit ?_
    repeat with_reducible first | refine tr_skip ?_ | refine tr_exit ?_ | refine tr_then ?_ | refine tr_inX ?_ | refine tr_thenX ?_ | refine tr_inN ?_ | refine tr_inR ?_ | refine tr_thenR ?_
    refine tr_rseq ?_
    refine sq_q (qt_move rfl) rfl ?_
    refine sq_q (qt_assign rfl) rfl ?_
    refine sq_end ?_
    refine tr_ret ?_
    repeat with_reducible first | refine tr_skip ?_ | refine tr_exit ?_ | refine tr_then ?_ | refine tr_inX ?_ | refine tr_thenX ?_ | refine tr_inN ?_ | refine tr_inR ?_ | refine tr_thenR ?_
    have e : xs.take k = xs.take 2 := by rw [List.take_of_length_le (by omega), List.take_of_length_le (by omega)]
    rw [e]
    exact tr_done () (fun a w s t => results_1 rfl (resv_tmp s rfl)) (fun _ _ _ _ => trivial)
end Go.Qk
end
section
set_option linter.unusedVariables false
namespace Go.Qk
open Go Go.Proofs Go.RowKit
section
variable {P : Program} {n : Nat} {w0 : World} {X : List Nat} {S : Nat → Prop} {E : Env} {own : Own} {R : World → Prop} {Q : Exit → Act → World → Prop} {ops : Array Oper}
end
theorem made_i64 (c : Nat) : madeCells (Value.int .i64 0).cells (c * 1) = (i64s (List.replicate c 0)).toArray := by
  apply Array.ext
  · simp [madeCells, i64s]
  · intro i h1 h2
    simp [madeCells, i64s, Value.cells, Nat.mod_one]
theorem i64s_set (l : List Int) (k : Nat) (v : Int) : (i64s l).set k (.int .i64 v) = i64s (l.set k v) := by simp [i64s, List.map_set]
end Go.Qk
end
section
set_option linter.unusedVariables false
namespace Go.Qk
open Go Go.Proofs Go.RowKit
theorem mt_ent {m : Mt} {i j : Nat} (hi : i < m.rs.length) (hj : j < m.rs[i].l.length) : ent m.zs i j = m.rs[i].l[j].z := by
  rw [ent_at (by rw [m.zs_len]; exact hi) (by rw [m.zs_at hi, Rw.zs_len]; exact hj)]
  simp [m.zs_at hi, Rw.zs]
theorem mt_shp {m : Mt} {r c : Nat} (h : shp m.zs = some (r, c)) : m.rs.length = r ∧ 1 ≤ r ∧ r ≤ 16 ∧ 1 ≤ c ∧ c ≤ 16 ∧ ∀ q ∈ m.rs, q.l.length = c := by
  obtain ⟨h1, h2, h3, h4, h5, h6⟩ := shp_inv h
  rw [m.zs_len] at h1
  exact ⟨h1, h2, h3, h4, h5, fun q hq => by have := h6 q.zs (List.mem_map.2 ⟨q, hq, rfl⟩); rwa [Rw.zs_len] at this⟩
end Go.Qk
end
section
set_option linter.unusedVariables false
namespace Go.Qk
open Go Go.Proofs Go.RowKit
theorem bits_of {o : Option (List (List Int))} {m : Mt} {n B : Nat} {w : World} (h : optF B o m w) (h1 : (o.getD []).length ≤ n) (h2 : ∀ q ∈ o.getD [], q.length ≤ n) : m.rs.length ≤ n ∧ ∀ r ∈ m.rs, r.l.length ≤ n := lens_of h.2.1 n h1 h2
/-- two answers of one thing are the same -/
theorem same_opt {o : Option (List (List Int))} {m m' : Mt} {B B' : Nat} {w : World} {S : Nat → Prop} (h : optF B o m w) (h' : optF B' o m' w) (hB : B ≤ 35184372088832) (hB' : B' ≤ 35184372088832) (h1 : (o.getD []).length ≤ 35184372088832) (h2 : ∀ q ∈ o.getD [], q.length ≤ 35184372088832) :
    Ret Try.prog 22 [m.v, m'.v] w S (fun _ : Unit => .bool true) (fun _ _ => True) := by
  obtain ⟨a1, a2⟩ := bits_of h h1 h2
  obtain ⟨b1, b2⟩ := bits_of h' h1 h2
  have hh := same_ret m m' (max B B') w S (h.1.mono (Nat.le_max_left _ _)) (h'.1.mono (Nat.le_max_right _ _)) h.2.2 h'.2.2 (Nat.max_le.2 ⟨hB, hB'⟩) a1 b1 a2 b2
  rw [decide_eq_true (show m.zs = m'.zs by rw [h.2.1, h'.2.1])] at hh
  exact hh
theorem grid_lens (f : Nat → Nat → Int) (r c : Nat) {n : Nat} (hr : r ≤ n) (hc : c ≤ n) : ((some (grid f r c)).getD []).length ≤ n ∧ ∀ q ∈ (some (grid f r c)).getD [], q.length ≤ n := by
  refine ⟨by simpa [grid] using hr, fun q hq => ?_⟩
  simp only [Option.getD_some, grid, List.mem_map] at hq
  obtain ⟨i, _, rfl⟩ := hq
  simpa using hc
theorem none_lens {n : Nat} : ((none : Option (List (List Int))).getD []).length ≤ n ∧ ∀ q ∈ (none : Option (List (List Int))).getD [], q.length ≤ n := ⟨by simp, fun q hq => by simp at hq⟩
end Go.Qk
end
section
set_option linter.unusedVariables false
set_option linter.unusedSimpArgs false
namespace Go.Qk
abbrev Mf := Nat → Nat → Int
section
variable {n : Nat} {F : Mf → Int}
end
end Go.Qk
end
section
set_option linter.unusedVariables false
namespace Go.Qk
open Go Go.Proofs Go.RowKit
theorem Xm.zs_len (m : Xm) : m.zs.length = m.rs.length := by simp [Xm.zs]
def tiP (o : Option (Nat × Nat)) (L : List (List Int)) : Option (List (List Int)) := match o with
  | some rc => if (grid (ent L) rc.1 rc.2).all (fun q => q.all fun z => decide (In64 z)) = true then some (grid (ent L) rc.1 rc.2) else none
  | none => none
def tiO (L : List (List Int)) : Option (List (List Int)) := tiP (shp L) L
def xmV (o : Option (List (List Int))) (m : Xm) : Value := .tuple #[m.v, .bool o.isSome]
def xmF (o : Option (List (List Int))) (m : Xm) (w : World) : Prop := m.ok w ∧ m.zs = o.getD []
theorem xmF_none (w : World) : xmF none ⟨[], (none, 0)⟩ w := ⟨⟨Rd.nil _ _, Nat.le_refl _, by simp⟩, rfl⟩
theorem grid_all {f : Nat → Nat → Int} {r c : Nat} : (grid f r c).all (fun q => q.all fun z => decide (In64 z)) = true ↔ ∀ i, i < r → ∀ j, j < c → In64 (f i j) := by
  simp [grid]
theorem tiP_some {L : List (List Int)} {r c : Nat} (h : ∀ i, i < r → ∀ j, j < c → In64 (ent L i j)) : tiP (some (r, c)) L = some (grid (ent L) r c) := if_pos (grid_all.2 h)
theorem tiP_none {L : List (List Int)} {r c i j : Nat} (hi : i < r) (hj : j < c) (h : ¬ In64 (ent L i j)) : tiP (some (r, c)) L = none := if_neg fun hh => h (grid_all.1 hh i hi j hj)
theorem int64_zd {z : Zd} {B : Nat} {w : World} {S : Nat → Prop} (h : z.ok B w) (hB : B ≤ 35184372088832) : Ret Try.prog 85 [z.v] w S (fun _ : Unit => int64V z.z) (fun _ _ => True) :=
  int64_ret z.n z.xs z.p w S h.1 h.2.1 (by have := h.2.2; omega)
end Go.Qk
end
section
set_option linter.unusedVariables false
namespace Go.Qk
open Go Go.Proofs Go.RowKit
set_option maxRecDepth 100000
set_option maxHeartbeats 4000000
theorem toints_ret (m : Mt) (B : Nat) (w0 : World) (S : Nat → Prop) (hm : m.ok B w0) (hB : B ≤ 35184372088832) (hl : m.rs.length ≤ 35184372088832) (hr : ∀ r ∈ m.rs, r.l.length ≤ 35184372088832) :
    Ret Try.prog 54 [m.v] w0 S (xmV (tiO m.zs)) (xmF (tiO m.zs)) := by
  obtain ⟨o, ho⟩ : ∃ o, o = shp m.zs := ⟨_, rfl⟩
  have hO : tiO m.zs = tiP o m.zs := by rw [ho]; rfl
  rw [hO]
  clear hO
  refine ret_of Try.func54 rfl Try.ntmps54 rfl ?_
  refine tr_rseq ?_
  refine sq_q (qt_assign rfl) rfl ?_
  refine sq_q (qt_assign rfl) rfl ?_
  refine sq_end ?_
  refine tr_rseq ?_
  refine sq_q (qt_move rfl) rfl ?_
  refine sq_call (val := fun _ : Unit => shpV o) (F := fun _ _ => True) rfl rfl rfl (fun w t => by rw [ho]; exact shape_ret m B w _ (t.mt hm) hl hr) fun _ => ?_
  refine sq_q (qt_move rfl) rfl ?_
  refine sq_q (qt_extract rfl rfl) rfl ?_
  refine sq_q (qt_extract rfl rfl) rfl ?_
  refine sq_q (qt_extract rfl rfl) rfl ?_
  refine sq_q (qt_assign rfl) rfl ?_
  refine sq_q (qt_assign rfl) rfl ?_
  refine sq_q (qt_assign rfl) rfl ?_
  refine sq_end ?_
  refine tr_seq ?_
  rcases (show o = none ∨ ∃ r c, o = some (r, c) by cases o with | none => exact .inl rfl | some x => exact .inr ⟨x.1, x.2, rfl⟩) with h1 | ⟨r, c, h1⟩
  ·
    subst h1
    rw [show tiP none m.zs = none from rfl]
    refine tr_rseq ?_
    refine sq_q (qt_move rfl) rfl ?_
    refine sq_q (qt_not rfl) rfl ?_
    refine sq_end ?_
    refine tr_ifT rfl ?_
    refine tr_rseq ?_
    refine sq_q (qt_assign rfl) rfl ?_
    refine sq_q (qt_assign rfl) rfl ?_
    refine sq_end ?_
    refine tr_ret ?_
    repeat with_reducible first | refine tr_skip ?_ | refine tr_exit ?_ | refine tr_then ?_ | refine tr_inX ?_ | refine tr_thenX ?_ | refine tr_inN ?_ | refine tr_inR ?_ | refine tr_thenR ?_
    exact tr_done ⟨[], (none, 0)⟩ (fun a w s t => results_2 rfl (resv_tmp s rfl) (resv_tmp s rfl)) (fun w _ _ _ => xmF_none _)
  ·
    subst h1
    obtain ⟨g1, g2, g3, g4, g5, g6⟩ := mt_shp ho.symm
    obtain ⟨ro, oo, evm, hat⟩ := hm.at_ (show 0 < m.rs.length by omega)
    refine tr_rseq ?_
    refine sq_q (qt_move rfl) rfl ?_
    refine sq_q (qt_not rfl) rfl ?_
    refine sq_end ?_
    refine tr_ifF rfl ?_
    refine tr_skip ?_
    repeat with_reducible first | refine tr_skip ?_ | refine tr_exit ?_ | refine tr_then ?_ | refine tr_inX ?_ | refine tr_thenX ?_ | refine tr_inN ?_ | refine tr_inR ?_ | refine tr_thenR ?_
    refine tr_rseq ?_
    refine sq_q (qt_move rfl) rfl ?_
    refine sq_make (c := r) rfl rfl (by omega) (by omega) rfl fun r21 => ?_
    refine sq_q (qt_assign rfl) rfl ?_
    refine sq_end ?_
    refine tr_seq ?_
    refine tr_rseq ?_
    refine sq_q (qt_move rfl) rfl ?_
    refine sq_q (qt_len rfl) rfl ?_
    refine sq_q (qt_move rfl) rfl ?_
    refine sq_end ?_
    refine tr_block ?_
    refine tr_loop (fun done : List Xr => done.length ≤ r ∧ (done.map Xr.l = (List.range done.length).map fun i => (List.range c).map fun j => ent m.zs i j) ∧ ∀ i, i < done.length → ∀ j, j < c → In64 (ent m.zs i j))
      (fun done => [(0, .slice (some ⟨ro, oo, none⟩) m.rs.length m.p.2), (5, .int .i64 (c : Int)), (7, .slice (some ⟨r21, 0, none⟩) r r), (23, .int .i64 (r : Int)), (24, .int .i64 (done.length : Int))])
      (fun done => [(r21, .cells (done.map Xr.v ++ List.replicate (r - done.length) (Value.slice none 0 0)).toArray 71 (0, 0))])
      (fun done w => ∀ q ∈ done, q.ok w) (fun done => r - done.length) [] ⟨Nat.zero_le _, rfl, fun i h => absurd h (Nat.not_lt_zero _)⟩ ⟨congrArg some evm, rfl, rfl, rfl, rfl, trivial⟩ (by rw [made_s]; simp) (fun _ _ => by simp) ?_
    rintro done ⟨hle, hzd, hfit⟩
    refine tr_rseq ?_
    refine sq_q (qt_bin rfl rfl bin_lss) rfl ?_
    refine sq_end ?_
    refine tr_seq ?_
    refine tr_if rfl (fun hc => ?_) (fun hc => ?_)
    ·
      have hlt : done.length < r := by have := of_decide_eq_true hc; omega
      have hmi : done.length < m.rs.length := by omega
      have hcl := g6 _ (List.getElem_mem hmi)
      obtain ⟨rr, orr, evr, hatr⟩ := (hm.2.2 _ (List.getElem_mem hmi)).at_ (show 0 < m.rs[done.length].l.length by omega)
      have hrw := hat done.length hmi
      rw [evr] at hrw
      refine tr_skip ?_
      repeat with_reducible first | refine tr_skip ?_ | refine tr_exit ?_ | refine tr_then ?_ | refine tr_inX ?_ | refine tr_thenX ?_ | refine tr_inN ?_ | refine tr_inR ?_ | refine tr_thenR ?_
      refine tr_seq ?_
      refine tr_block ?_
      refine tr_rseq ?_
      refine sq_q (qt_move rfl) rfl ?_
      refine sq_q (qt_assign rfl) rfl ?_
      refine sq_end ?_
      refine tr_rseq ?_
      refine sq_q (qt_move rfl) rfl ?_
      refine sq_q (qt_move rfl) rfl ?_
      refine sq_q (qt_move rfl) rfl ?_
      refine sq_make (c := c) rfl rfl (by omega) (by omega) rfl fun r30 => ?_
      refine sq_q (qt_index (i := done.length) rfl rfl hlt) rfl ?_
      refine sq_store 1 rfl rfl rfl rfl (by simp [Value.cells]; omega) rfl rfl ?_
      refine sq_end ?_
      obtain ⟨kk, hkk⟩ : ∃ kk, r - done.length = kk + 1 := ⟨r - done.length - 1, by omega⟩
      have hkk' : r - (done.length + 1) = kk := by omega
      have hset : wr (done.map Xr.v ++ List.replicate (kk + 1) (Value.slice none 0 0)) (0 + done.length * 1) [Value.slice (some ⟨r30, 0, none⟩) c c] = (done.map Xr.v ++ [Value.slice (some ⟨r30, 0, none⟩) c c]) ++ List.replicate kk (Value.slice none 0 0) := by
        have := next_set (done.map Xr.v) kk (Value.slice none 0 0) (.slice (some ⟨r30, 0, none⟩) c c)
        rw [List.length_map] at this
        rw [← this, Nat.zero_add, Nat.mul_one]
        rfl
      have hget : ((done.map Xr.v ++ [Value.slice (some ⟨r30, 0, none⟩) c c]) ++ List.replicate kk (Value.slice none 0 0))[done.length]? = some (.slice (some ⟨r30, 0, none⟩) c c) := by simp [List.getElem?_append]
      refine tr_own [(r30, .cells (i64s (List.replicate c 0)).toArray 2 (0, 0)), (r21, .cells ((done.map Xr.v ++ [Value.slice (some ⟨r30, 0, none⟩) c c]) ++ List.replicate kk (Value.slice none 0 0)).toArray 71 (0, 0))] (by rw [← hset, ← hkk, ← made_i64]; rfl) ?_
      refine tr_rseq ?_
      refine sq_q (qt_move rfl) rfl ?_
      refine sq_q (qt_move rfl) rfl ?_
      refine sq_q (qt_index (i := done.length) rfl rfl hlt) rfl ?_
      refine sq_q (qt_load rfl (fun w t => t.o1 1 rfl hget)) rfl ?_
      refine sq_q (qt_len rfl) rfl ?_
      refine sq_q (qt_move rfl) rfl ?_
      refine sq_end ?_
      refine tr_block ?_
      refine tr_loop (fun vs : List Int => vs.length ≤ c ∧ (vs = (List.range vs.length).map fun j => ent m.zs done.length j) ∧ ∀ j, j < vs.length → In64 (ent m.zs done.length j))
        (fun vs => [(0, .slice (some ⟨ro, oo, none⟩) m.rs.length m.p.2), (5, .int .i64 (c : Int)), (7, .slice (some ⟨r21, 0, none⟩) r r), (8, .int .i64 (done.length : Int)), (23, .int .i64 (r : Int)), (24, .int .i64 (done.length : Int)), (36, .int .i64 (c : Int)), (37, .int .i64 (vs.length : Int))])
        (fun vs => [(r30, .cells (i64s (vs ++ List.replicate (c - vs.length) 0)).toArray 2 (0, 0)), (r21, .cells ((done.map Xr.v ++ [Value.slice (some ⟨r30, 0, none⟩) c c]) ++ List.replicate kk (Value.slice none 0 0)).toArray 71 (0, 0))])
        (fun vs w => ∀ q ∈ done, q.ok w) (fun vs => c - vs.length) [] ⟨Nat.zero_le _, rfl, fun j h => absurd h (Nat.not_lt_zero _)⟩ ⟨rfl, rfl, rfl, rfl, rfl, rfl, rfl, rfl, trivial⟩ rfl (fun _ h => h) ?_
      rintro vs ⟨hvl, hvs, hvf⟩
      refine tr_rseq ?_
      refine sq_q (qt_bin rfl rfl bin_lss) rfl ?_
      refine sq_end ?_
      refine tr_seq ?_
      refine tr_if rfl (fun hc => ?_) (fun hc => ?_)
      ·
        have hlt2 : vs.length < c := by have := of_decide_eq_true hc; omega
        have hjl : vs.length < m.rs[done.length].l.length := by omega
        obtain ⟨hz0, hz1⟩ := hatr _ hjl
        have hzok := (hm.2.2 _ (List.getElem_mem hmi)).2.2 _ (List.getElem_mem hjl)
        have hze := mt_ent hmi hjl
        obtain ⟨z, hzz⟩ : ∃ z, z = m.rs[done.length].l[vs.length] := ⟨_, rfl⟩
        rw [← hzz] at hz0 hz1 hzok hze
        refine tr_skip ?_
        repeat with_reducible first | refine tr_skip ?_ | refine tr_exit ?_ | refine tr_then ?_ | refine tr_inX ?_ | refine tr_thenX ?_ | refine tr_inN ?_ | refine tr_inR ?_ | refine tr_thenR ?_
        refine tr_seq ?_
        refine tr_block ?_
        refine tr_rseq ?_
        refine sq_q (qt_move rfl) rfl ?_
        refine sq_q (qt_assign rfl) rfl ?_
        refine sq_end ?_
        rcases Decidable.em (In64 z.z) with hin | hin
        ·
          refine tr_rseq ?_
          refine sq_q (qt_move rfl) rfl ?_
          refine sq_q (qt_move rfl) rfl ?_
          refine sq_q (qt_index (i := done.length) rfl rfl hmi) rfl ?_
          refine sq_q (qt_load rfl (fun w t => t.a1 hrw)) rfl ?_
          refine sq_q (qt_move rfl) rfl ?_
          refine sq_q (qt_index (i := vs.length) rfl rfl hjl) rfl ?_
          refine sq_q (qt_load2 rfl (fun w t => t.atA hz0) (fun w t => t.atA hz1)) rfl ?_
          refine sq_call (val := fun _ : Unit => .tuple #[.int .i64 z.z, .bool true]) (F := fun _ _ => True) rfl rfl rfl (fun w t => by have h := fun S' => int64_zd (S := S') (t.zd hzok) hB; unfold int64V at h; rw [if_pos hin, decide_eq_true hin] at h; exact h _) fun _ => ?_
          refine sq_q (qt_move rfl) rfl ?_
          refine sq_q (qt_extract rfl rfl) rfl ?_
          refine sq_q (qt_extract rfl rfl) rfl ?_
          refine sq_q (qt_assign rfl) rfl ?_
          refine sq_q (qt_assign rfl) rfl ?_
          refine sq_end ?_
          refine tr_seq ?_
          refine tr_rseq ?_
          refine sq_q (qt_move rfl) rfl ?_
          refine sq_q (qt_not rfl) rfl ?_
          refine sq_end ?_
          refine tr_ifF rfl ?_
          refine tr_skip ?_
          repeat with_reducible first | refine tr_skip ?_ | refine tr_exit ?_ | refine tr_then ?_ | refine tr_inX ?_ | refine tr_thenX ?_ | refine tr_inN ?_ | refine tr_inR ?_ | refine tr_thenR ?_
          refine tr_region ?_
          refine sq_q (qt_move rfl) rfl ?_
          refine sq_q (qt_move rfl) rfl ?_
          refine sq_q (qt_index (i := done.length) rfl rfl hlt) rfl ?_
          refine sq_q (qt_load rfl (fun w t => t.o1 1 rfl hget)) rfl ?_
          refine sq_q (qt_move rfl) rfl ?_
          refine sq_q (qt_move rfl) rfl ?_
          refine sq_q (qt_index (i := vs.length) rfl rfl hlt2) rfl ?_
          refine sq_store 0 rfl rfl rfl rfl (show 0 + vs.length * 1 + 1 ≤ (i64s (vs ++ List.replicate (c - vs.length) 0)).length by simp [i64s]; omega) rfl rfl ?_
          refine sq_nil ?_
          repeat with_reducible first | refine tr_skip ?_ | refine tr_exit ?_ | refine tr_then ?_ | refine tr_inX ?_ | refine tr_thenX ?_ | refine tr_inN ?_ | refine tr_inR ?_ | refine tr_thenR ?_
          refine tr_region ?_
          refine sq_q (qt_bin rfl rfl (bin_addI (by omega) (by omega))) rfl ?_
          refine sq_q (qt_move rfl) rfl ?_
          refine sq_nil ?_
          repeat with_reducible first | refine tr_skip ?_ | refine tr_exit ?_ | refine tr_then ?_ | refine tr_inX ?_ | refine tr_thenX ?_ | refine tr_inN ?_ | refine tr_inR ?_ | refine tr_thenR ?_
          refine tr_own [(r30, .cells (i64s ((vs ++ [z.z]) ++ List.replicate (c - (vs.length + 1)) 0)).toArray 2 (0, 0)), (r21, .cells ((done.map Xr.v ++ [Value.slice (some ⟨r30, 0, none⟩) c c]) ++ List.replicate kk (Value.slice none 0 0)).toArray 71 (0, 0))] ?_ ?_
          · refine own1c ?_
            have e : c - vs.length = (c - (vs.length + 1)) + 1 := by omega
            have := next_set vs (c - (vs.length + 1)) 0 z.z
            rw [← e] at this
            rw [← this, ← i64s_set, Nat.zero_add, Nat.mul_one]
            rfl
          refine tr_round (vs ++ [z.z]) ⟨by simp; omega, ?_, fun j hj => ?_⟩ (by simp; omega) ⟨rfl, rfl, rfl, rfl, rfl, rfl, rfl, by rw [List.length_append]; rfl, trivial⟩ (by rw [List.length_append, List.length_singleton]) (fun _ h => h.1)
          · rw [List.length_append, List.length_singleton, List.range_succ, List.map_append, ← hvs, ← hze]
            rfl
          · rw [List.length_append, List.length_singleton] at hj
            by_cases h : j = vs.length
            · rw [h, hze]; exact hin
            · exact hvf j (by omega)
        ·
          refine tr_rseq ?_
          refine sq_q (qt_move rfl) rfl ?_
          refine sq_q (qt_move rfl) rfl ?_
          refine sq_q (qt_index (i := done.length) rfl rfl hmi) rfl ?_
          refine sq_q (qt_load rfl (fun w t => t.a1 hrw)) rfl ?_
          refine sq_q (qt_move rfl) rfl ?_
          refine sq_q (qt_index (i := vs.length) rfl rfl hjl) rfl ?_
          refine sq_q (qt_load2 rfl (fun w t => t.atA hz0) (fun w t => t.atA hz1)) rfl ?_
          refine sq_call (val := fun _ : Unit => .tuple #[.int .i64 0, .bool false]) (F := fun _ _ => True) rfl rfl rfl (fun w t => by have h := fun S' => int64_zd (S := S') (t.zd hzok) hB; unfold int64V at h; rw [if_neg hin, decide_eq_false hin] at h; exact h _) fun _ => ?_
          refine sq_q (qt_move rfl) rfl ?_
          refine sq_q (qt_extract rfl rfl) rfl ?_
          refine sq_q (qt_extract rfl rfl) rfl ?_
          refine sq_q (qt_assign rfl) rfl ?_
          refine sq_q (qt_assign rfl) rfl ?_
          refine sq_end ?_
          refine tr_seq ?_
          refine tr_rseq ?_
          refine sq_q (qt_move rfl) rfl ?_
          refine sq_q (qt_not rfl) rfl ?_
          refine sq_end ?_
          refine tr_ifT rfl ?_
          refine tr_rseq ?_
          refine sq_q (qt_assign rfl) rfl ?_
          refine sq_q (qt_assign rfl) rfl ?_
          refine sq_end ?_
          refine tr_ret ?_
          repeat with_reducible first | refine tr_skip ?_ | refine tr_exit ?_ | refine tr_then ?_ | refine tr_inX ?_ | refine tr_thenX ?_ | refine tr_inN ?_ | refine tr_inR ?_ | refine tr_thenR ?_
          rw [tiP_none hlt hlt2 (by rw [hze]; exact hin)]
          exact tr_done ⟨[], (none, 0)⟩ (fun a w s t => results_2 rfl (resv_tmp s rfl) (resv_tmp s rfl)) (fun w _ _ _ => xmF_none _)
      ·
        have hve : vs.length = c := by have := of_decide_eq_false hc; omega
        refine tr_exit ?_
        repeat with_reducible first | refine tr_skip ?_ | refine tr_exit ?_ | refine tr_then ?_ | refine tr_inX ?_ | refine tr_thenX ?_ | refine tr_inN ?_ | refine tr_inR ?_ | refine tr_thenR ?_
        refine tr_region ?_
        refine sq_q (qt_bin rfl rfl (bin_addI (by omega) (by omega))) rfl ?_
        refine sq_q (qt_move rfl) rfl ?_
        refine sq_nil ?_
        repeat with_reducible first | refine tr_skip ?_ | refine tr_exit ?_ | refine tr_then ?_ | refine tr_inX ?_ | refine tr_thenX ?_ | refine tr_inN ?_ | refine tr_inR ?_ | refine tr_thenR ?_
        refine tr_retire ?_
        refine tr_round (done ++ [⟨vs, (some ⟨r30, 0, none⟩, c)⟩]) ⟨by simp; omega, ?_, fun i hi j hj => ?_⟩ (by simp; omega) ⟨rfl, rfl, rfl, rfl, by simp; rfl, trivial⟩ ?_ ?_
        · rw [List.length_append, List.length_singleton, List.range_succ, List.map_append, List.map_append, hzd, List.map_singleton, List.map_singleton]
          congr 2
          rw [← hve]
          exact hvs
        · rw [List.length_append, List.length_singleton] at hi
          by_cases h : i = done.length
          · rw [h]; exact hvf j (by omega)
          · exact hfit i (by omega) j hj
        · rw [List.length_append, List.length_singleton, hkk', List.map_append]
          simp only [List.map_cons, List.map_nil, Xr.v, hve]
        · rintro w ⟨h2, h3⟩ q hq
          rcases List.mem_append.1 hq with h | h
          · exact h2 q h
          · rw [List.mem_singleton.1 h]
            rw [hve, Nat.sub_self, List.replicate_zero, List.append_nil] at h3
            refine ⟨Rd.own h3, Nat.le_of_eq hve, fun a ha => ?_⟩
            have ha : a ∈ vs := ha
            rw [hvs] at ha
            obtain ⟨j, hj, rfl⟩ := List.mem_map.1 ha
            exact hvf j (List.mem_range.1 hj)
    ·
      have hlr : done.length = r := by have := of_decide_eq_false hc; omega
      have hall : tiP (some (r, c)) m.zs = some (grid (ent m.zs) r c) := tiP_some fun i hi j hj => hfit i (by omega) j hj
      rw [hall]
      refine tr_exit ?_
      repeat with_reducible first | refine tr_skip ?_ | refine tr_exit ?_ | refine tr_then ?_ | refine tr_inX ?_ | refine tr_thenX ?_ | refine tr_inN ?_ | refine tr_inR ?_ | refine tr_thenR ?_
      refine tr_rseq ?_
      refine sq_q (qt_move rfl) rfl ?_
      refine sq_q (qt_assign rfl) rfl ?_
      refine sq_q (qt_assign rfl) rfl ?_
      refine sq_end ?_
      refine tr_ret ?_
      repeat with_reducible first | refine tr_skip ?_ | refine tr_exit ?_ | refine tr_then ?_ | refine tr_inX ?_ | refine tr_thenX ?_ | refine tr_inN ?_ | refine tr_inR ?_ | refine tr_thenR ?_
      refine tr_done ⟨done, (some ⟨r21, 0, none⟩, r)⟩ (fun a w s t => results_2 rfl (resv_tmp s ?_) (resv_tmp s rfl)) (fun w h ho _ => ⟨⟨?_, Nat.le_of_eq hlr, h⟩, ?_⟩)
      · show some (Value.slice (some ⟨r21, 0, none⟩) r r) = some (Xm.v ⟨done, (some ⟨r21, 0, none⟩, r)⟩)
        unfold Xm.v
        rw [hlr]
      · have := Rd.own (ho _ (ownAt_mem (i := 0) rfl))
        rwa [hlr, Nat.sub_self, List.replicate_zero, List.append_nil] at this
      · show done.map Xr.l = _
        rw [hzd, hlr]
        rfl
end Go.Qk
end
section
set_option linter.unusedVariables false
namespace Go.Qk
open Go Go.Proofs Go.RowKit
set_option maxRecDepth 100000
set_option maxHeartbeats 4000000
theorem rint64_ret (n : Bool) (xs : List Nat) (p : Sv) (w : World) (S : Nat → Prop) (hx : Lm xs p w) (lx : lim xs) (hb : xs.length ≤ 35184372088832) :
    Ret Try.prog 97 [ig n xs p] w S (fun _ : Unit => int64V (sgn n (val xs))) (fun _ _ => True) := by
  have hxn := nl_val lx
  have hz := sgn_natAbs n (val xs)
  obtain ⟨L, hL⟩ : ∃ L, L = limbsOf (val xs) := ⟨_, rfl⟩
  have hLl : lim L := by rw [hL]; exact lim_limbsOf _
  have hLv : val L = val xs := by rw [hL, val_limbsOf]
  have hLn : L.length = nl (val xs) := by rw [hL]; rfl
  refine ret_of Try.func97 rfl Try.ntmps97 rfl ?_
  refine tr_rseq ?_
  refine sq_box rfl rfl fun r1 => ?_
  refine sq_q (qt_assign rfl) rfl ?_
  refine sq_q (qt_assign rfl) rfl ?_
  refine sq_end ?_
  refine tr_rseq ?_
  refine sq_q (qt_fieldAddr rfl) rfl ?_
  refine sq_q (qt_load rfl (fun w t => t.atO 0 rfl rfl)) rfl ?_
  refine sq_call (slv L) (Lm L) rfl rfl rfl (fun w t => by rw [hL]; exact rtrim_ret xs p.1 p.2 w _ (t.lm hx).1 lx hx.2 hb) fun q => ?_
  refine sq_q (qt_assign rfl) rfl ?_
  refine sq_end ?_
  refine tr_rseq ?_
  refine sq_q (qt_move rfl) rfl ?_
  refine sq_call (val := fun _ : Unit => .int .u64 ((val (L.take 2) : Nat) : Int)) (F := fun _ _ => True) rfl rfl rfl (fun w t => rlow_ret L q.1 q.2 w _ t.r.2.1 hLl (by omega)) fun _ => ?_
  refine sq_q (qt_assign rfl) rfl ?_
  refine sq_end ?_
  refine tr_seq ?_
  refine tr_block ?_
  refine tr_rseq ?_
  refine sq_q (qt_move rfl) rfl ?_
  refine sq_q (qt_len rfl) rfl ?_
  refine sq_q (qt_bin rfl rfl bin_gtr) rfl ?_
  refine sq_q (qt_assign rfl) rfl ?_
  refine sq_end ?_
  refine tr_if rfl (fun hc => ?_) (fun hc => ?_)
  ·
    have hbig : ¬ In64 (sgn n (val xs)) := by
      intro h
      unfold In64 at h
      have h1 : nl (val xs) ≤ 2 := nl_le (by omega)
      have := of_decide_eq_true hc
      omega
    refine tr_rseq ?_
    refine sq_q (qt_assign rfl) rfl ?_
    refine sq_q (qt_assign rfl) rfl ?_
    refine sq_end ?_
    refine tr_ret ?_
    repeat with_reducible first | refine tr_skip ?_ | refine tr_exit ?_ | refine tr_then ?_ | refine tr_inX ?_ | refine tr_thenX ?_ | refine tr_inN ?_ | refine tr_inR ?_ | refine tr_thenR ?_
    exact tr_done () (fun a w s t => results_2 rfl (resv_tmp s (by rw [if_neg hbig]; rfl)) (resv_tmp s (by rw [decide_eq_false hbig]; rfl))) (fun _ _ _ _ => trivial)
  ·
    have hl2 : L.length ≤ 2 := by have := of_decide_eq_false hc; omega
    have hvm : val (L.take 2) = val xs := by rw [List.take_of_length_le hl2, hLv]
    rw [hvm]
    have hm64 : val xs < 18446744073709551616 := by
      have h := lt_pow_nl (val xs)
      have h2 : 4294967296 ^ nl (val xs) ≤ 4294967296 ^ 2 := Nat.pow_le_pow_right (by decide) (by omega)
      omega
    have hcs : n = false ∨ (n = true ∧ val xs ≤ 9223372036854775808) ∨ (n = true ∧ 9223372036854775808 < val xs) := by cases n <;> simp <;> omega
    rcases hcs with rfl | ⟨rfl, hle⟩ | ⟨rfl, hle⟩
    ·
      refine tr_rseq ?_
      refine sq_q (qt_fieldAddr rfl) rfl ?_
      refine sq_q (qt_load rfl (fun w t => t.atO 0 rfl rfl)) rfl ?_
      refine sq_q (qt_move rfl) rfl ?_
      refine sq_gF rfl rfl rfl rfl ?_
      refine sq_gF rfl rfl rfl rfl ?_
      refine sq_q (qt_pick rfl rfl) rfl ?_
      refine sq_q (qt_assign rfl) rfl ?_
      refine sq_end ?_
      refine tr_ifF rfl ?_
      skip
      ·
        refine tr_rseq ?_
        refine sq_q (qt_fieldAddr rfl) rfl ?_
        refine sq_q (qt_load rfl (fun w t => t.atO 0 rfl rfl)) rfl ?_
        refine sq_q (qt_not rfl) rfl ?_
        refine sq_q (qt_move rfl) rfl ?_
        first | (refine sq_gF rfl rfl rfl rfl ?_; done) | (refine sq_gF rfl rfl rfl rfl ?_) | (refine sq_gT rfl rfl ?_; refine sq_q (qt_move rfl) rfl ?_)
        first | (refine sq_gF rfl rfl rfl rfl ?_; done) | (refine sq_gF rfl rfl rfl rfl ?_) | (refine sq_gT rfl rfl ?_; refine sq_q (qt_bin rfl rfl bin_lss) rfl ?_)
        refine sq_q (qt_pick rfl rfl) rfl ?_
        refine sq_q (qt_assign rfl) rfl ?_
        refine sq_end ?_
        refine tr_if rfl (fun hc => ?_) (fun hc => ?_)
        ·
          have hle : val xs ≤ 9223372036854775807 := by have h := of_decide_eq_true hc; omega
          have h64 : In64 (sgn false (val xs)) := by rw [sgn_false]; unfold In64; omega
          refine tr_rseq ?_
          refine sq_q (qt_move rfl) rfl ?_
          refine sq_q (qt_toI rfl (by omega) (by omega)) rfl ?_
          refine sq_q (qt_assign rfl) rfl ?_
          refine sq_q (qt_assign rfl) rfl ?_
          refine sq_end ?_
          refine tr_ret ?_
          repeat with_reducible first | refine tr_skip ?_ | refine tr_exit ?_ | refine tr_then ?_ | refine tr_inX ?_ | refine tr_thenX ?_ | refine tr_inN ?_ | refine tr_inR ?_ | refine tr_thenR ?_
          exact tr_done () (fun a w s t => results_2 rfl (resv_tmp s (by rw [if_pos h64]; rfl)) (resv_tmp s (by rw [decide_eq_true h64]; rfl))) (fun _ _ _ _ => trivial)
        ·
          have hgt : 9223372036854775807 < val xs := by have h := of_decide_eq_false hc; omega
          have h64 : ¬ In64 (sgn false (val xs)) := by rw [sgn_false]; unfold In64; omega
          refine tr_skip ?_
          repeat with_reducible first | refine tr_skip ?_ | refine tr_exit ?_ | refine tr_then ?_ | refine tr_inX ?_ | refine tr_thenX ?_ | refine tr_inN ?_ | refine tr_inR ?_ | refine tr_thenR ?_
          refine tr_rseq ?_
          refine sq_q (qt_assign rfl) rfl ?_
          refine sq_q (qt_assign rfl) rfl ?_
          refine sq_end ?_
          refine tr_ret ?_
          repeat with_reducible first | refine tr_skip ?_ | refine tr_exit ?_ | refine tr_then ?_ | refine tr_inX ?_ | refine tr_thenX ?_ | refine tr_inN ?_ | refine tr_inR ?_ | refine tr_thenR ?_
          exact tr_done () (fun a w s t => results_2 rfl (resv_tmp s (by rw [if_neg h64]; rfl)) (resv_tmp s (by rw [decide_eq_false h64]; rfl))) (fun _ _ _ _ => trivial)
    ·
      have h64 : In64 (sgn true (val xs)) := by rw [sgn_true]; unfold In64; omega
      refine tr_rseq ?_
      refine sq_q (qt_fieldAddr rfl) rfl ?_
      refine sq_q (qt_load rfl (fun w t => t.atO 0 rfl rfl)) rfl ?_
      refine sq_q (qt_move rfl) rfl ?_
      refine sq_gT rfl rfl ?_
      refine sq_q (qt_move rfl) rfl ?_
      refine sq_gT rfl rfl ?_
      refine sq_q (qt_bin rfl rfl (bT bin_leq (by omega))) rfl ?_
      refine sq_q (qt_pick rfl rfl) rfl ?_
      refine sq_q (qt_assign rfl) rfl ?_
      refine sq_end ?_
      refine tr_ifT rfl ?_
      refine tr_rseq ?_
      refine sq_q (qt_move rfl) rfl ?_
      refine sq_q (qt_negU rfl) rfl ?_
      refine sq_sub [(1, .pointer (some ⟨r1, 0, none⟩)), (23, .int .u64 ((18446744073709551616 - (val xs : Int)) % 18446744073709551616))] ?_ ?_
      · exact ⟨rfl, congrArg (fun z => some (Value.int .u64 z)) (by omega), trivial⟩
      refine sq_q (qt_toIw rfl) rfl ?_
      refine sq_q (qt_assign rfl) rfl ?_
      refine sq_q (qt_assign rfl) rfl ?_
      refine sq_end ?_
      refine tr_ret ?_
      repeat with_reducible first | refine tr_skip ?_ | refine tr_exit ?_ | refine tr_then ?_ | refine tr_inX ?_ | refine tr_thenX ?_ | refine tr_inN ?_ | refine tr_inR ?_ | refine tr_thenR ?_
      refine tr_done () (fun a w s t => results_2 rfl (resv_tmp s ?_) (resv_tmp s (by rw [decide_eq_true h64]; rfl))) (fun _ _ _ _ => trivial)
      rw [if_pos h64]
      refine congrArg (fun z => some (Value.int .i64 z)) ?_
      rw [sgn_true]
      omega
    ·
      have h64 : ¬ In64 (sgn true (val xs)) := by rw [sgn_true]; unfold In64; omega
      refine tr_rseq ?_
      refine sq_q (qt_fieldAddr rfl) rfl ?_
      refine sq_q (qt_load rfl (fun w t => t.atO 0 rfl rfl)) rfl ?_
      refine sq_q (qt_move rfl) rfl ?_
      refine sq_gT rfl rfl ?_
      refine sq_q (qt_move rfl) rfl ?_
      refine sq_gT rfl rfl ?_
      refine sq_q (qt_bin rfl rfl (bF bin_leq (by omega))) rfl ?_
      refine sq_q (qt_pick rfl rfl) rfl ?_
      refine sq_q (qt_assign rfl) rfl ?_
      refine sq_end ?_
      refine tr_ifF rfl ?_
      skip
      ·
        refine tr_rseq ?_
        refine sq_q (qt_fieldAddr rfl) rfl ?_
        refine sq_q (qt_load rfl (fun w t => t.atO 0 rfl rfl)) rfl ?_
        refine sq_q (qt_not rfl) rfl ?_
        refine sq_q (qt_move rfl) rfl ?_
        first | (refine sq_gF rfl rfl rfl rfl ?_; done) | (refine sq_gF rfl rfl rfl rfl ?_) | (refine sq_gT rfl rfl ?_; refine sq_q (qt_move rfl) rfl ?_)
        first | (refine sq_gF rfl rfl rfl rfl ?_; done) | (refine sq_gF rfl rfl rfl rfl ?_) | (refine sq_gT rfl rfl ?_; refine sq_q (qt_bin rfl rfl bin_lss) rfl ?_)
        refine sq_q (qt_pick rfl rfl) rfl ?_
        refine sq_q (qt_assign rfl) rfl ?_
        refine sq_end ?_
        refine tr_if rfl (fun hc => ?_) (fun hc => ?_)
        ·
          have hle : val xs ≤ 9223372036854775807 := by revert hc; simp
          refine tr_rseq ?_
          refine sq_q (qt_move rfl) rfl ?_
          refine sq_q (qt_toI rfl (by omega) (by omega)) rfl ?_
          refine sq_q (qt_assign rfl) rfl ?_
          refine sq_q (qt_assign rfl) rfl ?_
          refine sq_end ?_
          refine tr_ret ?_
          repeat with_reducible first | refine tr_skip ?_ | refine tr_exit ?_ | refine tr_then ?_ | refine tr_inX ?_ | refine tr_thenX ?_ | refine tr_inN ?_ | refine tr_inR ?_ | refine tr_thenR ?_
          exact absurd hc (by simp)
        ·
          refine tr_skip ?_
          repeat with_reducible first | refine tr_skip ?_ | refine tr_exit ?_ | refine tr_then ?_ | refine tr_inX ?_ | refine tr_thenX ?_ | refine tr_inN ?_ | refine tr_inR ?_ | refine tr_thenR ?_
          refine tr_rseq ?_
          refine sq_q (qt_assign rfl) rfl ?_
          refine sq_q (qt_assign rfl) rfl ?_
          refine sq_end ?_
          refine tr_ret ?_
          repeat with_reducible first | refine tr_skip ?_ | refine tr_exit ?_ | refine tr_then ?_ | refine tr_inX ?_ | refine tr_thenX ?_ | refine tr_inN ?_ | refine tr_inR ?_ | refine tr_thenR ?_
          exact tr_done () (fun a w s t => results_2 rfl (resv_tmp s (by rw [if_neg h64]; rfl)) (resv_tmp s (by rw [decide_eq_false h64]; rfl))) (fun _ _ _ _ => trivial)
end Go.Qk
end
section
set_option linter.unusedVariables false
namespace Go.Qk
open Go Go.Proofs Go.RowKit
theorem rint64_zd {z : Zd} {B : Nat} {w : World} {S : Nat → Prop} (h : z.ok B w) (hB : B ≤ 35184372088832) : Ret Try.prog 97 [z.v] w S (fun _ : Unit => int64V z.z) (fun _ _ => True) :=
  rint64_ret z.n z.xs z.p w S h.1 h.2.1 (by have := h.2.2; omega)
theorem tiO_lens (L : List (List Int)) {n : Nat} (hn : 16 ≤ n) : ((tiO L).getD []).length ≤ n ∧ ∀ q ∈ (tiO L).getD [], q.length ≤ n := by
  unfold tiO tiP
  split
  · rename_i rc h1
    obtain ⟨r, c⟩ := rc
    obtain ⟨g1, g2, g3, g4, g5, g6⟩ := shp_inv h1
    split
    · exact grid_lens _ _ _ (by dsimp only; omega) (by dsimp only; omega)
    · exact none_lens
  · exact none_lens
theorem xmF_lens {o : Option (List (List Int))} {m : Xm} {w : World} {n : Nat} (h : xmF o m w) (h1 : (o.getD []).length ≤ n) (h2 : ∀ q ∈ o.getD [], q.length ≤ n) : m.rs.length = (o.getD []).length ∧ m.rs.length ≤ n ∧ ∀ r ∈ m.rs, r.l.length ≤ n := by
  have e : m.rs.length = (o.getD []).length := by rw [← m.zs_len, h.2]
  exact ⟨e, by omega, fun r hr => h2 _ (by rw [← h.2]; exact List.mem_map.2 ⟨r, hr, rfl⟩)⟩
end Go.Qk
end
section
set_option linter.unusedVariables false
namespace Go.Qk
open Go Go.Proofs Go.RowKit
set_option maxRecDepth 100000
set_option maxHeartbeats 4000000
theorem rtoints_ret (m : Mt) (B : Nat) (w0 : World) (S : Nat → Prop) (hm : m.ok B w0) (hB : B ≤ 35184372088832) (hl : m.rs.length ≤ 35184372088832) (hr : ∀ r ∈ m.rs, r.l.length ≤ 35184372088832) :
    Ret Try.prog 55 [m.v] w0 S (xmV (tiO m.zs)) (xmF (tiO m.zs)) := by
  obtain ⟨o, ho⟩ : ∃ o, o = shp m.zs := ⟨_, rfl⟩
  have hO : tiO m.zs = tiP o m.zs := by rw [ho]; rfl
  rw [hO]
  clear hO
  refine ret_of Try.func55 rfl Try.ntmps55 rfl ?_
  refine tr_rseq ?_
  refine sq_q (qt_assign rfl) rfl ?_
  refine sq_q (qt_assign rfl) rfl ?_
  refine sq_end ?_
  refine tr_rseq ?_
  refine sq_q (qt_move rfl) rfl ?_
  refine sq_call (val := fun _ : Unit => shpV o) (F := fun _ _ => True) rfl rfl rfl (fun w t => by rw [ho]; exact rshape_ret m B w _ (t.mt hm) hl hr) fun _ => ?_
  refine sq_q (qt_move rfl) rfl ?_
  refine sq_q (qt_extract rfl rfl) rfl ?_
  refine sq_q (qt_extract rfl rfl) rfl ?_
  refine sq_q (qt_extract rfl rfl) rfl ?_
  refine sq_q (qt_assign rfl) rfl ?_
  refine sq_q (qt_assign rfl) rfl ?_
  refine sq_q (qt_assign rfl) rfl ?_
  refine sq_end ?_
  refine tr_seq ?_
  rcases (show o = none ∨ ∃ r c, o = some (r, c) by cases o with | none => exact .inl rfl | some x => exact .inr ⟨x.1, x.2, rfl⟩) with h1 | ⟨r, c, h1⟩
  ·
    subst h1
    rw [show tiP none m.zs = none from rfl]
    refine tr_rseq ?_
    refine sq_q (qt_move rfl) rfl ?_
    refine sq_q (qt_not rfl) rfl ?_
    refine sq_end ?_
    refine tr_ifT rfl ?_
    refine tr_rseq ?_
    refine sq_q (qt_assign rfl) rfl ?_
    refine sq_q (qt_assign rfl) rfl ?_
    refine sq_end ?_
    refine tr_ret ?_
    repeat with_reducible first | refine tr_skip ?_ | refine tr_exit ?_ | refine tr_then ?_ | refine tr_inX ?_ | refine tr_thenX ?_ | refine tr_inN ?_ | refine tr_inR ?_ | refine tr_thenR ?_
    exact tr_done ⟨[], (none, 0)⟩ (fun a w s t => results_2 rfl (resv_tmp s rfl) (resv_tmp s rfl)) (fun w _ _ _ => xmF_none _)
  ·
    subst h1
    obtain ⟨g1, g2, g3, g4, g5, g6⟩ := mt_shp ho.symm
    obtain ⟨ro, oo, evm, hat⟩ := hm.at_ (show 0 < m.rs.length by omega)
    refine tr_rseq ?_
    refine sq_q (qt_move rfl) rfl ?_
    refine sq_q (qt_not rfl) rfl ?_
    refine sq_end ?_
    refine tr_ifF rfl ?_
    refine tr_skip ?_
    repeat with_reducible first | refine tr_skip ?_ | refine tr_exit ?_ | refine tr_then ?_ | refine tr_inX ?_ | refine tr_thenX ?_ | refine tr_inN ?_ | refine tr_inR ?_ | refine tr_thenR ?_
    refine tr_rseq ?_
    refine sq_q (qt_move rfl) rfl ?_
    refine sq_make (c := r) rfl rfl (by omega) (by omega) rfl fun r21 => ?_
    refine sq_q (qt_assign rfl) rfl ?_
    refine sq_end ?_
    refine tr_seq ?_
    refine tr_rseq ?_
    refine sq_q (qt_move rfl) rfl ?_
    refine sq_q (qt_len rfl) rfl ?_
    refine sq_q (qt_move rfl) rfl ?_
    refine sq_end ?_
    refine tr_block ?_
    refine tr_loop (fun done : List Xr => done.length ≤ r ∧ (done.map Xr.l = (List.range done.length).map fun i => (List.range c).map fun j => ent m.zs i j) ∧ ∀ i, i < done.length → ∀ j, j < c → In64 (ent m.zs i j))
      (fun done => [(0, .slice (some ⟨ro, oo, none⟩) m.rs.length m.p.2), (5, .int .i64 (c : Int)), (7, .slice (some ⟨r21, 0, none⟩) r r), (23, .int .i64 (r : Int)), (24, .int .i64 (done.length : Int))])
      (fun done => [(r21, .cells (done.map Xr.v ++ List.replicate (r - done.length) (Value.slice none 0 0)).toArray 71 (0, 0))])
      (fun done w => ∀ q ∈ done, q.ok w) (fun done => r - done.length) [] ⟨Nat.zero_le _, rfl, fun i h => absurd h (Nat.not_lt_zero _)⟩ ⟨congrArg some evm, rfl, rfl, rfl, rfl, trivial⟩ (by rw [made_s]; simp) (fun _ _ => by simp) ?_
    rintro done ⟨hle, hzd, hfit⟩
    refine tr_rseq ?_
    refine sq_q (qt_bin rfl rfl bin_lss) rfl ?_
    refine sq_end ?_
    refine tr_seq ?_
    refine tr_if rfl (fun hc => ?_) (fun hc => ?_)
    ·
      have hlt : done.length < r := by have := of_decide_eq_true hc; omega
      have hmi : done.length < m.rs.length := by omega
      have hcl := g6 _ (List.getElem_mem hmi)
      obtain ⟨rr, orr, evr, hatr⟩ := (hm.2.2 _ (List.getElem_mem hmi)).at_ (show 0 < m.rs[done.length].l.length by omega)
      have hrw := hat done.length hmi
      rw [evr] at hrw
      refine tr_skip ?_
      repeat with_reducible first | refine tr_skip ?_ | refine tr_exit ?_ | refine tr_then ?_ | refine tr_inX ?_ | refine tr_thenX ?_ | refine tr_inN ?_ | refine tr_inR ?_ | refine tr_thenR ?_
      refine tr_seq ?_
      refine tr_block ?_
      refine tr_rseq ?_
      refine sq_q (qt_move rfl) rfl ?_
      refine sq_q (qt_assign rfl) rfl ?_
      refine sq_end ?_
      refine tr_rseq ?_
      refine sq_q (qt_move rfl) rfl ?_
      refine sq_q (qt_move rfl) rfl ?_
      refine sq_q (qt_move rfl) rfl ?_
      refine sq_make (c := c) rfl rfl (by omega) (by omega) rfl fun r30 => ?_
      refine sq_q (qt_index (i := done.length) rfl rfl hlt) rfl ?_
      refine sq_store 1 rfl rfl rfl rfl (by simp [Value.cells]; omega) rfl rfl ?_
      refine sq_end ?_
      obtain ⟨kk, hkk⟩ : ∃ kk, r - done.length = kk + 1 := ⟨r - done.length - 1, by omega⟩
      have hkk' : r - (done.length + 1) = kk := by omega
      have hset : wr (done.map Xr.v ++ List.replicate (kk + 1) (Value.slice none 0 0)) (0 + done.length * 1) [Value.slice (some ⟨r30, 0, none⟩) c c] = (done.map Xr.v ++ [Value.slice (some ⟨r30, 0, none⟩) c c]) ++ List.replicate kk (Value.slice none 0 0) := by
        have := next_set (done.map Xr.v) kk (Value.slice none 0 0) (.slice (some ⟨r30, 0, none⟩) c c)
        rw [List.length_map] at this
        rw [← this, Nat.zero_add, Nat.mul_one]
        rfl
      have hget : ((done.map Xr.v ++ [Value.slice (some ⟨r30, 0, none⟩) c c]) ++ List.replicate kk (Value.slice none 0 0))[done.length]? = some (.slice (some ⟨r30, 0, none⟩) c c) := by simp [List.getElem?_append]
      refine tr_own [(r30, .cells (i64s (List.replicate c 0)).toArray 2 (0, 0)), (r21, .cells ((done.map Xr.v ++ [Value.slice (some ⟨r30, 0, none⟩) c c]) ++ List.replicate kk (Value.slice none 0 0)).toArray 71 (0, 0))] (by rw [← hset, ← hkk, ← made_i64]; rfl) ?_
      refine tr_rseq ?_
      refine sq_q (qt_move rfl) rfl ?_
      refine sq_q (qt_move rfl) rfl ?_
      refine sq_q (qt_index (i := done.length) rfl rfl hlt) rfl ?_
      refine sq_q (qt_load rfl (fun w t => t.o1 1 rfl hget)) rfl ?_
      refine sq_q (qt_len rfl) rfl ?_
      refine sq_q (qt_move rfl) rfl ?_
      refine sq_end ?_
      refine tr_block ?_
      refine tr_loop (fun vs : List Int => vs.length ≤ c ∧ (vs = (List.range vs.length).map fun j => ent m.zs done.length j) ∧ ∀ j, j < vs.length → In64 (ent m.zs done.length j))
        (fun vs => [(0, .slice (some ⟨ro, oo, none⟩) m.rs.length m.p.2), (5, .int .i64 (c : Int)), (7, .slice (some ⟨r21, 0, none⟩) r r), (8, .int .i64 (done.length : Int)), (23, .int .i64 (r : Int)), (24, .int .i64 (done.length : Int)), (36, .int .i64 (c : Int)), (37, .int .i64 (vs.length : Int))])
        (fun vs => [(r30, .cells (i64s (vs ++ List.replicate (c - vs.length) 0)).toArray 2 (0, 0)), (r21, .cells ((done.map Xr.v ++ [Value.slice (some ⟨r30, 0, none⟩) c c]) ++ List.replicate kk (Value.slice none 0 0)).toArray 71 (0, 0))])
        (fun vs w => ∀ q ∈ done, q.ok w) (fun vs => c - vs.length) [] ⟨Nat.zero_le _, rfl, fun j h => absurd h (Nat.not_lt_zero _)⟩ ⟨rfl, rfl, rfl, rfl, rfl, rfl, rfl, rfl, trivial⟩ rfl (fun _ h => h) ?_
      rintro vs ⟨hvl, hvs, hvf⟩
      refine tr_rseq ?_
      refine sq_q (qt_bin rfl rfl bin_lss) rfl ?_
      refine sq_end ?_
      refine tr_seq ?_
      refine tr_if rfl (fun hc => ?_) (fun hc => ?_)
      ·
        have hlt2 : vs.length < c := by have := of_decide_eq_true hc; omega
        have hjl : vs.length < m.rs[done.length].l.length := by omega
        obtain ⟨hz0, hz1⟩ := hatr _ hjl
        have hzok := (hm.2.2 _ (List.getElem_mem hmi)).2.2 _ (List.getElem_mem hjl)
        have hze := mt_ent hmi hjl
        obtain ⟨z, hzz⟩ : ∃ z, z = m.rs[done.length].l[vs.length] := ⟨_, rfl⟩
        rw [← hzz] at hz0 hz1 hzok hze
        refine tr_skip ?_
        repeat with_reducible first | refine tr_skip ?_ | refine tr_exit ?_ | refine tr_then ?_ | refine tr_inX ?_ | refine tr_thenX ?_ | refine tr_inN ?_ | refine tr_inR ?_ | refine tr_thenR ?_
        refine tr_seq ?_
        refine tr_block ?_
        refine tr_rseq ?_
        refine sq_q (qt_move rfl) rfl ?_
        refine sq_q (qt_assign rfl) rfl ?_
        refine sq_end ?_
        rcases Decidable.em (In64 z.z) with hin | hin
        ·
          refine tr_rseq ?_
          refine sq_q (qt_move rfl) rfl ?_
          refine sq_q (qt_move rfl) rfl ?_
          refine sq_q (qt_index (i := done.length) rfl rfl hmi) rfl ?_
          refine sq_q (qt_load rfl (fun w t => t.a1 hrw)) rfl ?_
          refine sq_q (qt_move rfl) rfl ?_
          refine sq_q (qt_index (i := vs.length) rfl rfl hjl) rfl ?_
          refine sq_q (qt_load2 rfl (fun w t => t.atA hz0) (fun w t => t.atA hz1)) rfl ?_
          refine sq_call (val := fun _ : Unit => .tuple #[.int .i64 z.z, .bool true]) (F := fun _ _ => True) rfl rfl rfl (fun w t => by have h := fun S' => rint64_zd (S := S') (t.zd hzok) hB; unfold int64V at h; rw [if_pos hin, decide_eq_true hin] at h; exact h _) fun _ => ?_
          refine sq_q (qt_move rfl) rfl ?_
          refine sq_q (qt_extract rfl rfl) rfl ?_
          refine sq_q (qt_extract rfl rfl) rfl ?_
          refine sq_q (qt_assign rfl) rfl ?_
          refine sq_q (qt_assign rfl) rfl ?_
          refine sq_end ?_
          refine tr_seq ?_
          refine tr_rseq ?_
          refine sq_q (qt_move rfl) rfl ?_
          refine sq_q (qt_not rfl) rfl ?_
          refine sq_end ?_
          refine tr_ifF rfl ?_
          refine tr_skip ?_
          repeat with_reducible first | refine tr_skip ?_ | refine tr_exit ?_ | refine tr_then ?_ | refine tr_inX ?_ | refine tr_thenX ?_ | refine tr_inN ?_ | refine tr_inR ?_ | refine tr_thenR ?_
          refine tr_region ?_
          refine sq_q (qt_move rfl) rfl ?_
          refine sq_q (qt_move rfl) rfl ?_
          refine sq_q (qt_index (i := done.length) rfl rfl hlt) rfl ?_
          refine sq_q (qt_load rfl (fun w t => t.o1 1 rfl hget)) rfl ?_
          refine sq_q (qt_move rfl) rfl ?_
          refine sq_q (qt_move rfl) rfl ?_
          refine sq_q (qt_index (i := vs.length) rfl rfl hlt2) rfl ?_
          refine sq_store 0 rfl rfl rfl rfl (show 0 + vs.length * 1 + 1 ≤ (i64s (vs ++ List.replicate (c - vs.length) 0)).length by simp [i64s]; omega) rfl rfl ?_
          refine sq_nil ?_
          repeat with_reducible first | refine tr_skip ?_ | refine tr_exit ?_ | refine tr_then ?_ | refine tr_inX ?_ | refine tr_thenX ?_ | refine tr_inN ?_ | refine tr_inR ?_ | refine tr_thenR ?_
          refine tr_region ?_
          refine sq_q (qt_bin rfl rfl (bin_addI (by omega) (by omega))) rfl ?_
          refine sq_q (qt_move rfl) rfl ?_
          refine sq_nil ?_
          repeat with_reducible first | refine tr_skip ?_ | refine tr_exit ?_ | refine tr_then ?_ | refine tr_inX ?_ | refine tr_thenX ?_ | refine tr_inN ?_ | refine tr_inR ?_ | refine tr_thenR ?_
          refine tr_own [(r30, .cells (i64s ((vs ++ [z.z]) ++ List.replicate (c - (vs.length + 1)) 0)).toArray 2 (0, 0)), (r21, .cells ((done.map Xr.v ++ [Value.slice (some ⟨r30, 0, none⟩) c c]) ++ List.replicate kk (Value.slice none 0 0)).toArray 71 (0, 0))] ?_ ?_
          · refine own1c ?_
            have e : c - vs.length = (c - (vs.length + 1)) + 1 := by omega
            have := next_set vs (c - (vs.length + 1)) 0 z.z
            rw [← e] at this
            rw [← this, ← i64s_set, Nat.zero_add, Nat.mul_one]
            rfl
          refine tr_round (vs ++ [z.z]) ⟨by simp; omega, ?_, fun j hj => ?_⟩ (by simp; omega) ⟨rfl, rfl, rfl, rfl, rfl, rfl, rfl, by rw [List.length_append]; rfl, trivial⟩ (by rw [List.length_append, List.length_singleton]) (fun _ h => h.1)
          · rw [List.length_append, List.length_singleton, List.range_succ, List.map_append, ← hvs, ← hze]
            rfl
          · rw [List.length_append, List.length_singleton] at hj
            by_cases h : j = vs.length
            · rw [h, hze]; exact hin
            · exact hvf j (by omega)
        ·
          refine tr_rseq ?_
          refine sq_q (qt_move rfl) rfl ?_
          refine sq_q (qt_move rfl) rfl ?_
          refine sq_q (qt_index (i := done.length) rfl rfl hmi) rfl ?_
          refine sq_q (qt_load rfl (fun w t => t.a1 hrw)) rfl ?_
          refine sq_q (qt_move rfl) rfl ?_
          refine sq_q (qt_index (i := vs.length) rfl rfl hjl) rfl ?_
          refine sq_q (qt_load2 rfl (fun w t => t.atA hz0) (fun w t => t.atA hz1)) rfl ?_
          refine sq_call (val := fun _ : Unit => .tuple #[.int .i64 0, .bool false]) (F := fun _ _ => True) rfl rfl rfl (fun w t => by have h := fun S' => rint64_zd (S := S') (t.zd hzok) hB; unfold int64V at h; rw [if_neg hin, decide_eq_false hin] at h; exact h _) fun _ => ?_
          refine sq_q (qt_move rfl) rfl ?_
          refine sq_q (qt_extract rfl rfl) rfl ?_
          refine sq_q (qt_extract rfl rfl) rfl ?_
          refine sq_q (qt_assign rfl) rfl ?_
          refine sq_q (qt_assign rfl) rfl ?_
          refine sq_end ?_
          refine tr_seq ?_
          refine tr_rseq ?_
          refine sq_q (qt_move rfl) rfl ?_
          refine sq_q (qt_not rfl) rfl ?_
          refine sq_end ?_
          refine tr_ifT rfl ?_
          refine tr_rseq ?_
          refine sq_q (qt_assign rfl) rfl ?_
          refine sq_q (qt_assign rfl) rfl ?_
          refine sq_end ?_
          refine tr_ret ?_
          repeat with_reducible first | refine tr_skip ?_ | refine tr_exit ?_ | refine tr_then ?_ | refine tr_inX ?_ | refine tr_thenX ?_ | refine tr_inN ?_ | refine tr_inR ?_ | refine tr_thenR ?_
          rw [tiP_none hlt hlt2 (by rw [hze]; exact hin)]
          exact tr_done ⟨[], (none, 0)⟩ (fun a w s t => results_2 rfl (resv_tmp s rfl) (resv_tmp s rfl)) (fun w _ _ _ => xmF_none _)
      ·
        have hve : vs.length = c := by have := of_decide_eq_false hc; omega
        refine tr_exit ?_
        repeat with_reducible first | refine tr_skip ?_ | refine tr_exit ?_ | refine tr_then ?_ | refine tr_inX ?_ | refine tr_thenX ?_ | refine tr_inN ?_ | refine tr_inR ?_ | refine tr_thenR ?_
        refine tr_region ?_
        refine sq_q (qt_bin rfl rfl (bin_addI (by omega) (by omega))) rfl ?_
        refine sq_q (qt_move rfl) rfl ?_
        refine sq_nil ?_
        repeat with_reducible first | refine tr_skip ?_ | refine tr_exit ?_ | refine tr_then ?_ | refine tr_inX ?_ | refine tr_thenX ?_ | refine tr_inN ?_ | refine tr_inR ?_ | refine tr_thenR ?_
        refine tr_retire ?_
        refine tr_round (done ++ [⟨vs, (some ⟨r30, 0, none⟩, c)⟩]) ⟨by simp; omega, ?_, fun i hi j hj => ?_⟩ (by simp; omega) ⟨rfl, rfl, rfl, rfl, by simp; rfl, trivial⟩ ?_ ?_
        · rw [List.length_append, List.length_singleton, List.range_succ, List.map_append, List.map_append, hzd, List.map_singleton, List.map_singleton]
          congr 2
          rw [← hve]
          exact hvs
        · rw [List.length_append, List.length_singleton] at hi
          by_cases h : i = done.length
          · rw [h]; exact hvf j (by omega)
          · exact hfit i (by omega) j hj
        · rw [List.length_append, List.length_singleton, hkk', List.map_append]
          simp only [List.map_cons, List.map_nil, Xr.v, hve]
        · rintro w ⟨h2, h3⟩ q hq
          rcases List.mem_append.1 hq with h | h
          · exact h2 q h
          · rw [List.mem_singleton.1 h]
            rw [hve, Nat.sub_self, List.replicate_zero, List.append_nil] at h3
            refine ⟨Rd.own h3, Nat.le_of_eq hve, fun a ha => ?_⟩
            have ha : a ∈ vs := ha
            rw [hvs] at ha
            obtain ⟨j, hj, rfl⟩ := List.mem_map.1 ha
            exact hvf j (List.mem_range.1 hj)
    ·
      have hlr : done.length = r := by have := of_decide_eq_false hc; omega
      have hall : tiP (some (r, c)) m.zs = some (grid (ent m.zs) r c) := tiP_some fun i hi j hj => hfit i (by omega) j hj
      rw [hall]
      refine tr_exit ?_
      repeat with_reducible first | refine tr_skip ?_ | refine tr_exit ?_ | refine tr_then ?_ | refine tr_inX ?_ | refine tr_thenX ?_ | refine tr_inN ?_ | refine tr_inR ?_ | refine tr_thenR ?_
      refine tr_rseq ?_
      refine sq_q (qt_move rfl) rfl ?_
      refine sq_q (qt_assign rfl) rfl ?_
      refine sq_q (qt_assign rfl) rfl ?_
      refine sq_end ?_
      refine tr_ret ?_
      repeat with_reducible first | refine tr_skip ?_ | refine tr_exit ?_ | refine tr_then ?_ | refine tr_inX ?_ | refine tr_thenX ?_ | refine tr_inN ?_ | refine tr_inR ?_ | refine tr_thenR ?_
      refine tr_done ⟨done, (some ⟨r21, 0, none⟩, r)⟩ (fun a w s t => results_2 rfl (resv_tmp s ?_) (resv_tmp s rfl)) (fun w h ho _ => ⟨⟨?_, Nat.le_of_eq hlr, h⟩, ?_⟩)
      · show some (Value.slice (some ⟨r21, 0, none⟩) r r) = some (Xm.v ⟨done, (some ⟨r21, 0, none⟩, r)⟩)
        unfold Xm.v
        rw [hlr]
      · have := Rd.own (ho _ (ownAt_mem (i := 0) rfl))
        rwa [hlr, Nat.sub_self, List.replicate_zero, List.append_nil] at this
      · show done.map Xr.l = _
        rw [hzd, hlr]
        rfl
theorem matrixFits_ret (m : Mt) (w0 : World) (S : Nat → Prop) (hm : m.ok RB w0) (hlen : m.rs.length ≤ RB) (hrow : ∀ r ∈ m.rs, r.l.length ≤ RB) :
    Ret Try.prog 15 [m.v] w0 S (fun _ : Unit => .bool true) (fun _ _ => True) := by
  refine ret_of Try.func15 rfl Try.ntmps15 rfl ?_
  refine tr_rseq ?_
  refine sq_q (qt_assign rfl) rfl ?_
  refine sq_end ?_
  refine tr_seq ?_
  refine tr_rseq ?_
  refine sq_q (qt_move rfl) rfl ?_
  refine sq_call (fun b : Bool => .bool b) (fun b _ => b = false → smallM m) rfl rfl rfl (fun w t => large_ret m w _ (t.mt hm) hlen hrow) fun b => ?_
  refine sq_end ?_
  refine tr_have (fun w t => t.r.2) fun hb => ?_
  refine tr_if rfl (fun hc => ?_) (fun hc => ?_)
  ·
    clear hb
    refine tr_rseq ?_
    refine sq_call (val := fun _ : Unit => .bool true) (F := fun _ _ => True) rfl rfl rfl (fun w t => awake_ret w _) fun _ => ?_
    refine sq_q (qt_assign rfl) rfl ?_
    refine sq_end ?_
    refine tr_ret ?_
    repeat with_reducible first | refine tr_skip ?_ | refine tr_exit ?_ | refine tr_then ?_ | refine tr_inX ?_ | refine tr_thenX ?_ | refine tr_inN ?_ | refine tr_inR ?_ | refine tr_thenR ?_
    exact tr_done () (fun a w s t => results_1 rfl (resv_tmp s rfl)) (fun _ _ _ _ => trivial)
  ·
    have hs := hb hc
    have hl1 := hs.1
    have hr1 := fun r hr => (hs.2 r hr).1
    obtain ⟨k, hk⟩ : ∃ k, k = tiO m.zs := ⟨_, rfl⟩
    obtain ⟨ol, oq⟩ := tiO_lens m.zs (n := 35184372088832) (by omega)
    rw [← hk] at ol oq
    obtain ⟨e, he⟩ : ∃ e, e = keepO (k.getD []) := ⟨_, rfl⟩
    have hel : (e.getD []).length ≤ 35184372088832 ∧ ∀ q ∈ e.getD [], q.length ≤ 35184372088832 := by
      rw [he]
      unfold keepO
      split
      · exact ⟨ol, oq⟩
      · exact none_lens
    obtain ⟨ul, uq⟩ := hel
    refine tr_skip ?_
    repeat with_reducible first | refine tr_skip ?_ | refine tr_exit ?_ | refine tr_then ?_ | refine tr_inX ?_ | refine tr_thenX ?_ | refine tr_inN ?_ | refine tr_inR ?_ | refine tr_thenR ?_
    refine tr_rseq ?_
    refine sq_q (qt_move rfl) rfl ?_
    refine sq_call (xmV k) (xmF k) rfl rfl rfl (fun w t => by rw [hk]; exact toints_ret m 600 w _ (hs.ok (t.mt hm)) (by omega) (by omega) (fun r hr => by have := hr1 r hr; omega)) fun x3 => ?_
    refine sq_q (qt_move rfl) rfl ?_
    refine sq_q (qt_extract rfl rfl) rfl ?_
    refine sq_q (qt_extract rfl rfl) rfl ?_
    refine sq_q (qt_assign rfl) rfl ?_
    refine sq_q (qt_assign rfl) rfl ?_
    refine sq_end ?_
    refine tr_rseq ?_
    refine sq_q (qt_move rfl) rfl ?_
    refine sq_call (xmV k) (xmF k) rfl rfl rfl (fun w t => by rw [hk]; exact rtoints_ret m 600 w _ (hs.ok (t.mt hm)) (by omega) (by omega) (fun r hr => by have := hr1 r hr; omega)) fun x5 => ?_
    refine sq_q (qt_move rfl) rfl ?_
    refine sq_q (qt_extract rfl rfl) rfl ?_
    refine sq_q (qt_extract rfl rfl) rfl ?_
    refine sq_q (qt_assign rfl) rfl ?_
    refine sq_q (qt_assign rfl) rfl ?_
    refine sq_end ?_
    clear hb
    ·
      refine tr_have (p := x3.rs.length = (k.getD []).length ∧ x5.rs.length = (k.getD []).length) (fun w t => ⟨(xmF_lens t.r.1.2 ol oq).1, (xmF_lens t.r.2 ol oq).1⟩) fun ⟨hl3, hl5⟩ => ?_
      refine tr_rseq ?_
      refine sq_q (qt_move rfl) rfl ?_
      refine sq_q (qt_move rfl) rfl ?_
      refine sq_q (qt_binB (r := .bool true) rfl rfl (bin_eqlBr boolT _)) rfl ?_
      refine sq_q (qt_move rfl) rfl ?_
      refine sq_gT rfl rfl ?_
      refine sq_q (qt_move rfl) rfl ?_
      refine sq_gT rfl rfl ?_
      refine sq_call Mt.v (optF 2 e) rfl rfl rfl (fun w t => by
        obtain ⟨_, a1, a2⟩ := xmF_lens t.r.1.2 ol oq
        have h := fun S' => of_ret x3 w S' t.r.1.2.1 a1 a2
        rw [t.r.1.2.2, ← he] at h
        exact h _) fun m25 => ?_
      refine sq_gT rfl rfl ?_
      refine sq_q (qt_move rfl) rfl ?_
      refine sq_gT rfl rfl ?_
      refine sq_call Mt.v (optF 2 e) rfl rfl rfl (fun w t => by
        obtain ⟨_, a1, a2⟩ := xmF_lens t.r.1.2 ol oq
        have h := fun S' => of_ret x5 w S' t.r.1.2.1 a1 a2
        rw [t.r.1.2.2, ← he] at h
        exact h _) fun m27 => ?_
      refine sq_gT rfl rfl ?_
      refine sq_call (val := fun _ : Unit => .bool true) (F := fun _ _ => True) rfl rfl rfl (fun w t => same_opt t.r.1.2 t.r.2 (by omega) (by omega) ul uq) fun _ => ?_
      refine sq_q (qt_pick rfl rfl) rfl ?_
      refine sq_q (qt_move rfl) rfl ?_
      refine sq_gT rfl rfl ?_
      refine sq_q (qt_move rfl) rfl ?_
      refine sq_gT rfl rfl ?_
      refine sq_q (qt_len rfl) rfl ?_
      refine sq_gT rfl rfl ?_
      refine sq_q (qt_move rfl) rfl ?_
      refine sq_gT rfl rfl ?_
      refine sq_q (qt_len rfl) rfl ?_
      refine sq_gT rfl rfl ?_
      refine sq_q (qt_bin rfl rfl (bT bin_eql (by omega))) rfl ?_
      refine sq_q (qt_pick rfl rfl) rfl ?_
      refine sq_q (qt_move rfl) rfl ?_
      refine sq_gT rfl rfl ?_
      refine sq_call (val := fun _ : Unit => .bool true) (F := fun _ _ => True) rfl rfl rfl (fun w t => awake_ret w _) fun _ => ?_
      refine sq_q (qt_pick rfl rfl) rfl ?_
      refine sq_q (qt_assign rfl) rfl ?_
      refine sq_end ?_
      refine tr_ret ?_
      repeat with_reducible first | refine tr_skip ?_ | refine tr_exit ?_ | refine tr_then ?_ | refine tr_inX ?_ | refine tr_thenX ?_ | refine tr_inN ?_ | refine tr_inR ?_ | refine tr_thenR ?_
      exact tr_done () (fun a w s t => results_1 rfl (resv_tmp s rfl)) (fun _ _ _ _ => trivial)
end Go.Qk
end
