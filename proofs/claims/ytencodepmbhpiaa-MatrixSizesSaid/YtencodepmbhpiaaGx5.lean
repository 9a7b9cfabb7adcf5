/- Lemmas and contracts of functions that the law reaches. -/
import Derived.Test.YtencodepmbhpiaaGx4
set_option linter.unusedVariables false
set_option linter.unusedSimpArgs false
section
set_option linter.unusedVariables false
namespace Go.Qk
open Go Go.Proofs Go.RowKit
set_option maxRecDepth 100000
set_option maxHeartbeats 4000000
theorem inverse_ret (m : Mt) (B : Nat) (w0 : World) (S : Nat → Prop) (hm : m.ok B w0) (hB : B ≤ 8388607) (hB1 : 1 ≤ B) (hlen : m.rs.length ≤ 35184372088832) (hrow : ∀ r ∈ m.rs, r.l.length ≤ 35184372088832) :
    Ret Try.prog 40 [m.v] w0 S (optV (invO m.zs)) (optF 549755813889 (invO m.zs)) := by
  obtain ⟨N, hN⟩ : ∃ N : Nat, N = ((shp m.zs).getD (0, 0)).1 := ⟨_, rfl⟩
  obtain ⟨sq, hsq⟩ : ∃ sq, sq = sqb (shp m.zs) := ⟨_, rfl⟩
  refine ret_of Try.func40 rfl Try.ntmps40 rfl ?_
  refine tr_rseq ?_
  refine sq_q (qt_assign rfl) rfl ?_
  refine sq_q (qt_assign rfl) rfl ?_
  refine sq_end ?_
  refine tr_rseq ?_
  refine sq_q (qt_move rfl) rfl ?_
  refine sq_call (val := fun _ : Unit => .tuple #[.int .i64 (N : Int), .bool sq]) (F := fun _ _ => True) rfl rfl rfl (fun w t => by rw [hN, hsq]; exact square_ret m B w _ (t.mt hm) hlen hrow) fun _ => ?_
  refine sq_q (qt_move rfl) rfl ?_
  refine sq_q (qt_extract rfl rfl) rfl ?_
  refine sq_q (qt_extract rfl rfl) rfl ?_
  refine sq_q (qt_assign rfl) rfl ?_
  refine sq_q (qt_assign rfl) rfl ?_
  refine sq_end ?_
  refine tr_seq ?_
  refine tr_rseq ?_
  refine sq_q (qt_move rfl) rfl ?_
  refine sq_q (qt_not rfl) rfl ?_
  refine sq_end ?_
  refine tr_if rfl (fun hc => ?_) (fun hc => ?_)
  ·
    have hs : sqb (shp m.zs) = false := by rw [← hsq]; simpa using hc
    have e : invO m.zs = none := by unfold invO; rw [if_neg (by rw [hs]; decide)]
    rw [e]
    refine tr_rseq ?_
    refine sq_q (qt_assign rfl) rfl ?_
    refine sq_q (qt_assign rfl) rfl ?_
    refine sq_end ?_
    refine tr_ret ?_
    repeat with_reducible first | refine tr_skip ?_ | refine tr_exit ?_ | refine tr_then ?_ | refine tr_inX ?_ | refine tr_thenX ?_ | refine tr_inN ?_ | refine tr_inR ?_ | refine tr_thenR ?_
    exact tr_done ⟨[], (none, 0)⟩ (fun a w s t => results_2 rfl (resv_tmp s rfl) (resv_tmp s rfl)) (fun w _ _ _ => optF_none _ _)
  ·
    have hs : sqb (shp m.zs) = true := by rw [← hsq]; simpa using hc
    obtain ⟨h1, h2, h3⟩ := sqr_rows hs
    have hNm : m.rs.length = N := by
      cases hq : shp m.zs with
      | none => rw [hq] at hs; simp [sqb] at hs
      | some rc =>
        have := (shp_inv (r := rc.1) (c := rc.2) hq).1
        rw [m.zs_len] at this
        rw [hN, hq, this]
        rfl
    obtain ⟨D, hD⟩ : ∃ D, D = bdet m.rs.length (ent m.zs) := ⟨_, rfl⟩
    obtain ⟨g2, hg2⟩ := adjO_rows hs
    rw [m.zs_len, hNm] at hg2
    have hO : invO m.zs = if D = 1 ∨ D = -1 then some (grid (invE m.zs D) N N) else none := by unfold invO; rw [if_pos hs, m.zs_len, ← hD, hNm]
    refine tr_skip ?_
    repeat with_reducible first | refine tr_skip ?_ | refine tr_exit ?_ | refine tr_then ?_ | refine tr_inX ?_ | refine tr_thenX ?_ | refine tr_inN ?_ | refine tr_inR ?_ | refine tr_thenR ?_
    refine tr_rseq ?_
    refine sq_q (qt_move rfl) rfl ?_
    refine sq_call (iv D) (fun p w => Lz D.natAbs p w ∧ nl D.natAbs ≤ 549755813887) rfl rfl rfl (fun w t => by rw [hD]; exact determinant_ret m B m.rs.length w _ (t.mt hm) hB hB1 rfl h1 h2 h3) fun x19 => ?_
    refine sq_call (val := fun _ : Unit => int64V D) (F := fun _ _ => True) rfl rfl rfl (fun w t => int64_iv D x19 w _ t.r.2.1 (by have := t.r.2.2; omega)) fun _ => ?_
    obtain ⟨dv, hdv⟩ : ∃ dv : Int, dv = if In64 D then D else 0 := ⟨_, rfl⟩
    obtain ⟨okb, hokb⟩ : ∃ okb : Bool, okb = decide (In64 D) := ⟨_, rfl⟩
    have e64 : int64V D = .tuple #[.int .i64 dv, .bool okb] := by rw [hdv, hokb]; rfl
    rw [e64]
    refine sq_q (qt_move rfl) rfl ?_
    refine sq_q (qt_extract rfl rfl) rfl ?_
    refine sq_q (qt_extract rfl rfl) rfl ?_
    refine sq_alloc rfl fun r6 => ?_
    refine sq_store 0 rfl rfl rfl rfl (by first | (simp [u32s, Value.cells]; done) | (simp [u32s, Value.cells]; omega) | exact Nat.le_refl 2) rfl rfl ?_
    refine sq_q (qt_assign rfl) rfl ?_
    refine sq_end ?_
    refine tr_seq ?_
    have hcase : okb = false ∨ (okb = true ∧ dv = 1) ∨ (okb = true ∧ dv = -1) ∨ (okb = true ∧ dv ≠ 1 ∧ dv ≠ -1) := by
      cases okb
      · exact .inl rfl
      · by_cases h1 : dv = 1
        · exact .inr (.inl ⟨rfl, h1⟩)
        · by_cases h2 : dv = -1
          · exact .inr (.inr (.inl ⟨rfl, h2⟩))
          · exact .inr (.inr (.inr ⟨rfl, h1, h2⟩))
    have hin : okb = true → In64 D ∧ dv = D := fun h => by
      rw [h] at hokb
      have h1 : In64 D := by simpa using hokb.symm
      exact ⟨h1, by rw [hdv, if_pos h1]⟩
    rcases hcase with h0 | ⟨h0, h1v⟩ | ⟨h0, h1v⟩ | ⟨h0, h1v, h2v⟩
    ·
      subst h0
      have hO2 : invO m.zs = none := by
        rw [hO, if_neg]
        have hn : ¬ In64 D := by simpa using hokb.symm
        rintro (h | h) <;> exact hn (by unfold In64; omega)
      rw [hO2]
      refine tr_rseq ?_
      refine sq_q (qt_move rfl) rfl ?_
      refine sq_q (qt_not rfl) rfl ?_
      refine sq_q (qt_move rfl) rfl ?_
      refine sq_gF rfl rfl rfl rfl ?_
      refine sq_gF rfl rfl rfl rfl ?_
      refine sq_gF rfl rfl rfl rfl ?_
      refine sq_gU rfl rfl rfl ?_
      refine sq_gU rfl rfl rfl ?_
      refine sq_gF rfl rfl rfl rfl ?_
      refine sq_q (qt_pick rfl rfl) rfl ?_
      refine sq_end ?_
      refine tr_ifT rfl ?_
      refine tr_rseq ?_
      refine sq_q (qt_assign rfl) rfl ?_
      refine sq_q (qt_assign rfl) rfl ?_
      refine sq_end ?_
      refine tr_ret ?_
      repeat with_reducible first | refine tr_skip ?_ | refine tr_exit ?_ | refine tr_then ?_ | refine tr_inX ?_ | refine tr_thenX ?_ | refine tr_inN ?_ | refine tr_inR ?_ | refine tr_thenR ?_
      exact tr_done ⟨[], (none, 0)⟩ (fun a w s t => results_2 rfl (resv_tmp s rfl) (resv_tmp s rfl)) (fun w _ _ _ => optF_none _ _)
    ·
      have hDv : D = 1 := by rw [← (hin h0).2]; exact h1v
      have hDin : In64 D := (hin h0).1
      have hO2 : invO m.zs = some (grid (invE m.zs D) N N) := by rw [hO, if_pos (.inl hDv)]
      rw [hO2]
      have hdvD : dv = D := (hin h0).2
      clear hin hdv hokb hO e64
      subst h0
      refine tr_rseq ?_
      refine sq_q (qt_move rfl) rfl ?_
      refine sq_q (qt_not rfl) rfl ?_
      refine sq_q (qt_move rfl) rfl ?_
      refine sq_gT rfl rfl ?_
      refine sq_q (qt_load rfl (fun w t => t.atO 0 rfl rfl)) rfl ?_
      refine sq_gT rfl rfl ?_
      refine sq_q (qt_bin rfl rfl (bF bin_neq (by omega))) rfl ?_
      refine sq_gT rfl rfl ?_
      refine sq_q (qt_move rfl) rfl ?_
      refine sq_gF rfl rfl rfl rfl ?_
      refine sq_gF rfl rfl rfl rfl ?_
      refine sq_gT rfl rfl ?_
      refine sq_q (qt_pick rfl rfl) rfl ?_
      refine sq_q (qt_pick rfl rfl) rfl ?_
      refine sq_end ?_
      refine tr_ifF rfl ?_
      refine tr_skip ?_
      repeat with_reducible first | refine tr_skip ?_ | refine tr_exit ?_ | refine tr_then ?_ | refine tr_inX ?_ | refine tr_thenX ?_ | refine tr_inN ?_ | refine tr_inR ?_ | refine tr_thenR ?_
      refine tr_rseq ?_
      refine sq_q (qt_move rfl) rfl ?_
      subst hdvD
      refine sq_call (optV (adjO m.zs)) (optF 549755813887 (adjO m.zs)) rfl rfl rfl (fun w t => adjugate_ret m B w _ (t.mt hm) hB hB1 hlen hrow) fun m2 => ?_
      refine sq_have (fun w t => t.r.2.2.1) fun hz2 => ?_
      rw [hg2] at hz2
      obtain ⟨hl2, hr2⟩ := grid_rows hz2
      refine sq_q (qt_move rfl) rfl ?_
      refine sq_q (qt_extract rfl rfl) rfl ?_
      refine sq_q (qt_extract rfl rfl) rfl ?_
      refine sq_alloc rfl fun r8 => ?_
      refine sq_store 0 rfl rfl rfl rfl (Nat.le_refl 1) rfl rfl ?_
      refine sq_q (qt_assign rfl) rfl ?_
      refine sq_end ?_
      refine tr_rseq ?_
      refine sq_q (qt_move rfl) rfl ?_
      refine sq_q (qt_move rfl) rfl ?_
      refine sq_q (qt_makeFunc rfl) rfl ?_
      refine sq_call Mt.v (fun m' w => m'.ok 549755813889 w ∧ m'.zs = grid (invE m.zs dv) N N ∧ m'.can) rfl rfl rfl (fun w t => ?_) fun m' => ?_
      · refine build_ret N N 549755813889 (invE m.zs dv) 86 [] [.pointer (some ⟨r8, 0, none⟩), .pointer (some ⟨r6, 0, none⟩)] w _ (by omega) (by omega) (fun i j w' S' hi hj hbel => ?_)
        have e : invE m.zs dv i j = ent m2.zs i j * dv := by unfold invE; rw [hg2, hz2]
        rw [e]
        exact inv1_ret m2 549755813887 r8 r6 i j dv w' S' (t.r.2.1.below hbel) (by omega) ((t.atO 0 rfl rfl).below hbel) ((t.atO 1 rfl rfl).below hbel) hDin (by omega) (by rw [hr2 _ (List.getElem_mem _)]; exact hj)
      refine sq_q (qt_assign rfl) rfl ?_
      refine sq_q (qt_assign rfl) rfl ?_
      refine sq_end ?_
      refine tr_ret ?_
      repeat with_reducible first | refine tr_skip ?_ | refine tr_exit ?_ | refine tr_then ?_ | refine tr_inX ?_ | refine tr_thenX ?_ | refine tr_inN ?_ | refine tr_inR ?_ | refine tr_thenR ?_
      exact tr_done m' (fun a w s t => results_2 rfl (resv_tmp s rfl) (resv_tmp s rfl)) (fun w h _ _ => h.2)
    ·
      have hDv : D = -1 := by rw [← (hin h0).2]; exact h1v
      have hDin : In64 D := (hin h0).1
      have hO2 : invO m.zs = some (grid (invE m.zs D) N N) := by rw [hO, if_pos (.inr hDv)]
      rw [hO2]
      have hdvD : dv = D := (hin h0).2
      clear hin hdv hokb hO e64
      subst h0
      refine tr_rseq ?_
      refine sq_q (qt_move rfl) rfl ?_
      refine sq_q (qt_not rfl) rfl ?_
      refine sq_q (qt_move rfl) rfl ?_
      refine sq_gT rfl rfl ?_
      refine sq_q (qt_load rfl (fun w t => t.atO 0 rfl rfl)) rfl ?_
      refine sq_gT rfl rfl ?_
      refine sq_q (qt_bin rfl rfl (bT bin_neq (by omega))) rfl ?_
      refine sq_gT rfl rfl ?_
      refine sq_q (qt_move rfl) rfl ?_
      refine sq_gT rfl rfl ?_
      refine sq_q (qt_load rfl (fun w t => t.atO 0 rfl rfl)) rfl ?_
      refine sq_gT rfl rfl ?_
      refine sq_q (qt_bin rfl rfl (bF bin_neq (by omega))) rfl ?_
      refine sq_gT rfl rfl ?_
      refine sq_q (qt_pick rfl rfl) rfl ?_
      refine sq_q (qt_pick rfl rfl) rfl ?_
      refine sq_end ?_
      refine tr_ifF rfl ?_
      refine tr_skip ?_
      repeat with_reducible first | refine tr_skip ?_ | refine tr_exit ?_ | refine tr_then ?_ | refine tr_inX ?_ | refine tr_thenX ?_ | refine tr_inN ?_ | refine tr_inR ?_ | refine tr_thenR ?_
      refine tr_rseq ?_
      refine sq_q (qt_move rfl) rfl ?_
      subst hdvD
      refine sq_call (optV (adjO m.zs)) (optF 549755813887 (adjO m.zs)) rfl rfl rfl (fun w t => adjugate_ret m B w _ (t.mt hm) hB hB1 hlen hrow) fun m2 => ?_
      refine sq_have (fun w t => t.r.2.2.1) fun hz2 => ?_
      rw [hg2] at hz2
      obtain ⟨hl2, hr2⟩ := grid_rows hz2
      refine sq_q (qt_move rfl) rfl ?_
      refine sq_q (qt_extract rfl rfl) rfl ?_
      refine sq_q (qt_extract rfl rfl) rfl ?_
      refine sq_alloc rfl fun r8 => ?_
      refine sq_store 0 rfl rfl rfl rfl (Nat.le_refl 1) rfl rfl ?_
      refine sq_q (qt_assign rfl) rfl ?_
      refine sq_end ?_
      refine tr_rseq ?_
      refine sq_q (qt_move rfl) rfl ?_
      refine sq_q (qt_move rfl) rfl ?_
      refine sq_q (qt_makeFunc rfl) rfl ?_
      refine sq_call Mt.v (fun m' w => m'.ok 549755813889 w ∧ m'.zs = grid (invE m.zs dv) N N ∧ m'.can) rfl rfl rfl (fun w t => ?_) fun m' => ?_
      · refine build_ret N N 549755813889 (invE m.zs dv) 86 [] [.pointer (some ⟨r8, 0, none⟩), .pointer (some ⟨r6, 0, none⟩)] w _ (by omega) (by omega) (fun i j w' S' hi hj hbel => ?_)
        have e : invE m.zs dv i j = ent m2.zs i j * dv := by unfold invE; rw [hg2, hz2]
        rw [e]
        exact inv1_ret m2 549755813887 r8 r6 i j dv w' S' (t.r.2.1.below hbel) (by omega) ((t.atO 0 rfl rfl).below hbel) ((t.atO 1 rfl rfl).below hbel) hDin (by omega) (by rw [hr2 _ (List.getElem_mem _)]; exact hj)
      refine sq_q (qt_assign rfl) rfl ?_
      refine sq_q (qt_assign rfl) rfl ?_
      refine sq_end ?_
      refine tr_ret ?_
      repeat with_reducible first | refine tr_skip ?_ | refine tr_exit ?_ | refine tr_then ?_ | refine tr_inX ?_ | refine tr_thenX ?_ | refine tr_inN ?_ | refine tr_inR ?_ | refine tr_thenR ?_
      exact tr_done m' (fun a w s t => results_2 rfl (resv_tmp s rfl) (resv_tmp s rfl)) (fun w h _ _ => h.2)
    ·
      have hO2 : invO m.zs = none := by
        rw [hO, if_neg]
        rw [← (hin h0).2]
        rintro (h | h)
        · exact h1v h
        · exact h2v h
      rw [hO2]
      clear hin hdv hokb hO e64
      subst h0
      refine tr_rseq ?_
      refine sq_q (qt_move rfl) rfl ?_
      refine sq_q (qt_not rfl) rfl ?_
      refine sq_q (qt_move rfl) rfl ?_
      refine sq_gT rfl rfl ?_
      refine sq_q (qt_load rfl (fun w t => t.atO 0 rfl rfl)) rfl ?_
      refine sq_gT rfl rfl ?_
      refine sq_q (qt_bin rfl rfl (bT bin_neq (by omega))) rfl ?_
      refine sq_gT rfl rfl ?_
      refine sq_q (qt_move rfl) rfl ?_
      refine sq_gT rfl rfl ?_
      refine sq_q (qt_load rfl (fun w t => t.atO 0 rfl rfl)) rfl ?_
      refine sq_gT rfl rfl ?_
      refine sq_q (qt_bin rfl rfl (bT bin_neq (by omega))) rfl ?_
      refine sq_gT rfl rfl ?_
      refine sq_q (qt_pick rfl rfl) rfl ?_
      refine sq_q (qt_pick rfl rfl) rfl ?_
      refine sq_end ?_
      refine tr_ifT rfl ?_
      refine tr_rseq ?_
      refine sq_q (qt_assign rfl) rfl ?_
      refine sq_q (qt_assign rfl) rfl ?_
      refine sq_end ?_
      refine tr_ret ?_
      repeat with_reducible first | refine tr_skip ?_ | refine tr_exit ?_ | refine tr_then ?_ | refine tr_inX ?_ | refine tr_thenX ?_ | refine tr_inN ?_ | refine tr_inR ?_ | refine tr_thenR ?_
      exact tr_done ⟨[], (none, 0)⟩ (fun a w s t => results_2 rfl (resv_tmp s rfl) (resv_tmp s rfl)) (fun w _ _ _ => optF_none _ _)
end Go.Qk
end
section
set_option linter.unusedVariables false
namespace Go.Qk
open Go Go.Proofs Go.RowKit
section
variable {P : Program} {ops : Array Oper} {Q : Exit → Act → World → Prop} {n : Nat} {w0 : World} {X : List Nat} {S : Nat → Prop} {own : Own} {R : World → Prop}
variable {late : Nat → Bool} {i : Nat} {os : List Oper} {Γ : Ctx} {K : Ctx → Prop}
theorem hok_lkC {a : Act} {w : World} {o : Oper} (hok : ∀ t ∈ o.looksAt ops, ∀ e, lookC Γ t = some e → e.ok (a.tmps.getD t undef) w) : ∀ t, Operand.tmp t ∈ o.op.operands → ∀ v, lkC Γ t = some v → a.tmps.getD t undef = v := fun t ht u hu => by
  unfold lkC at hu
  split at hu
  · rename_i u' he
    injection hu with hu
    subst hu
    exact hok t (mem_looksAt ht) _ he
  · simp at hu
theorem hok_lk2 {a : Act} {w : World} {o : Oper} {t t' : Nat} {v v' : Value} (hok : ∀ t ∈ o.looksAt ops, ∀ e, lookC Γ t = some e → e.ok (a.tmps.getD t undef) w) (h1 : a.tmps.getD t undef = v) (h2 : a.tmps.getD t' undef = v') : ∀ s, Operand.tmp s ∈ o.op.operands → ∀ u, lk2 Γ t v t' v' s = some u → a.tmps.getD s undef = u := fun s hs u hu => by
  unfold lk2 at hu
  cases hb : Nat.beq t s with
  | true =>
    rw [hb] at hu
    have := Nat.eq_of_beq_eq_true hb
    subst this
    simp at hu
    rw [← hu]; exact h1
  | false =>
    rw [hb] at hu
    simp only [cond_false] at hu
    cases hb' : Nat.beq t' s with
    | true =>
      rw [hb'] at hu
      have := Nat.eq_of_beq_eq_true hb'
      subst this
      simp at hu
      rw [← hu]; exact h2
    | false =>
      rw [hb'] at hu
      simp only [cond_false] at hu
      exact hok_lkC hok s hs u hu
theorem run_lit {t e : TypeId} {agg : Bool} {sz by_ : Nat} {z : Value} [hs : SlT P t e] [hT : TyI P e agg sz by_ z] {lk : Nat → Option Value} {ρ : Operand → Value} (hρ : Agr lk ρ) {len : Nat} {xs : List (Nat × Operand)} {vs : List (Nat × Value)} {cells : List Value} {ty : TypeId} {d : Option Tmp} {pos : String} {af : Array Edge} {g : Option (Nat × Bool)} {w : World} (hx : evp lk xs = some vs)
    (hlen : Nat.ble (len * sz) 1000 = true) (hpos : Nat.blt 0 (len * sz) = true) (hf : Instr.fill (fun i => some (i * sz, sz)) ((Array.range (len * sz)).map (z.cells[· % z.cells.size]!)) vs = some cells.toArray) :
    (execOp ρ ⟨d, .buildSlice t len xs.toArray, ty, pos, af, g⟩).run P w = .ok (.value (.slice (some ⟨w.heap.size, 0, none⟩) len len)) (w.alloc (.cells cells.toArray e (0, 0))) := by
  have h1 : ¬ (len * sz > 2 ^ 24) := by have : len * sz ≤ 1000 := by simpa using hlen
                                        omega
  have h2 : ¬ (len * sz = 0) := by have : 0 < len * sz := by simpa using hpos
                                   omega
  have e0 : (List.map (fun (x : Nat × Operand) => match x with | (i, x) => (i, ρ x)) xs) = vs := by rw [← evp_map hρ hx]
  simp only [execOp, List.map_toArray, e0, Instr.buildSlice, Sem.run_bind, run_underlying hs.u, Result.andThen_ok, hT.sizeOf w, if_neg h1, if_neg h2, Sem.run_pure, hT.zero w, hf]
  simp [newRow]
theorem dx_lit {t e : TypeId} {agg : Bool} {sz by_ : Nat} {z : Value} [hs : SlT P t e] [hT : TyI P e agg sz by_ z] {len : Nat} {xs : List (Nat × Operand)} {vs : List (Nat × Value)} {cells : List Value} {ty : TypeId} {d : Nat} {pos : String} {af : Array Edge} (hl : late i = false) (hx : evp (lkC Γ) xs = some vs)
    (hlen : Nat.ble (len * sz) 1000 = true) (hpos : Nat.blt 0 (len * sz) = true) (hf : Instr.fill (fun i => some (i * sz, sz)) ((Array.range (len * sz)).map (z.cells[· % z.cells.size]!)) vs = some cells.toArray)
    (h : Dx P ops Q n (SS w0 X S own R) Bl late (i + 1) os ((d, .pr (ResF w0 S own (fun r : Nat => .slice (some ⟨r, 0, none⟩) len len) (fun r w => w.heap[r]? = some (.cells cells.toArray e (0, 0))))) :: Γ) K) :
    Dx P ops Q n (SS w0 X S own R) Bl late i (⟨some d, .buildSlice t len xs.toArray, ty, pos, af, none⟩ :: os) Γ K := by
  refine ⟨.pr (ResF w0 S own (fun r : Nat => .slice (some ⟨r, 0, none⟩) len len) (fun r w => w.heap[r]? = some (.cells cells.toArray e (0, 0)))), .inl ⟨hl, fun _ _ _ hb ⟨x, e, hk⟩ => ⟨x, e, hk.below hb⟩, fun a w hsz hd hJ hok => ?_⟩, h⟩
  rw [if_pos (wanted_none rfl)]
  have e1 := exec_fix (lk := lkC Γ) (a := a) (o := ⟨some d, .buildSlice t len xs.toArray, ty, pos, af, none⟩) rfl (hok_lkC hok)
  unfold Oper.wp
  rw [e1, run_lit (fix_agr _ _) hx hlen hpos hf]
  have hb : Below w.heap.size w (w.alloc (.cells cells.toArray e (0, 0))) := (Below.refl _ _).alloc (Nat.le_refl _) _
  refine ⟨_, rfl, hb, hJ.grow hb, w.heap.size, rfl, fun w'' h1 h2 => ?_⟩
  show w''.heap[w.heap.size]? = _
  rw [h2 w.heap.size (.inl hJ.size) (by simp) (fun p hp e => by have := (hJ.lt p hp).1; omega)]
  exact heap_alloc_new w _
/-- a literal of two earlier results -/
theorem dx_lit2 {β γ : Type} {val₁ : β → Value} {G₁ : β → World → Prop} {val₂ : γ → Value} {G₂ : γ → World → Prop} (q q' : Nat) {t e : TypeId} {agg : Bool} {sz by_ : Nat} {z : Value} [hs : SlT P t e] [hT : TyI P e agg sz by_ z] {len : Nat} {xs : List (Nat × Operand)} {vs : β → γ → List (Nat × Value)} (cells : β → γ → List Value) {ty : TypeId} {d : Nat} {pos : String} {af : Array Edge} (hl : late i = false)
    (hΓ : lookC Γ q = some (.pr (ResF w0 S own val₁ G₁))) (hΓ' : lookC Γ q' = some (.pr (ResF w0 S own val₂ G₂))) (hmem : Operand.tmp q ∈ xs.map (·.2)) (hmem' : Operand.tmp q' ∈ xs.map (·.2))
    (hx : ∀ y z, evp (lk2 Γ q (val₁ y) q' (val₂ z)) xs = some (vs y z))
    (hlen : Nat.ble (len * sz) 1000 = true) (hpos : Nat.blt 0 (len * sz) = true) (hf : ∀ y u, Instr.fill (fun i => some (i * sz, sz)) ((Array.range (len * sz)).map (z.cells[· % z.cells.size]!)) (vs y u) = some (cells y u).toArray)
    (h : Dx P ops Q n (SS w0 X S own R) Bl late (i + 1) os ((d, .pr (ResF w0 S own (fun r : Nat × β × γ => .slice (some ⟨r.1, 0, none⟩) len len) (fun r w => w.heap[r.1]? = some (.cells (cells r.2.1 r.2.2).toArray e (0, 0)) ∧ G₁ r.2.1 w ∧ G₂ r.2.2 w))) :: Γ) K) :
    Dx P ops Q n (SS w0 X S own R) Bl late i (⟨some d, .buildSlice t len xs.toArray, ty, pos, af, none⟩ :: os) Γ K := by
  refine ⟨.pr (ResF w0 S own (fun r : Nat × β × γ => .slice (some ⟨r.1, 0, none⟩) len len) (fun r w => w.heap[r.1]? = some (.cells (cells r.2.1 r.2.2).toArray e (0, 0)) ∧ G₁ r.2.1 w ∧ G₂ r.2.2 w)), .inl ⟨hl, fun _ _ _ hb ⟨x, e, hk⟩ => ⟨x, e, hk.below hb⟩, fun a w hsz hd hJ hok => ?_⟩, h⟩
  rw [if_pos (wanted_none rfl)]
  have hop : ∀ s, Operand.tmp s ∈ xs.map (·.2) → Operand.tmp s ∈ (Op.buildSlice t len xs.toArray).operands := by
    intro s hs
    simp only [Op.operands]
    simpa using hs
  obtain ⟨y, hy, hk⟩ := hok q (mem_looksAt (hop q hmem)) _ hΓ
  obtain ⟨u, hu, hk'⟩ := hok q' (mem_looksAt (hop q' hmem')) _ hΓ'
  have e1 := exec_fix (lk := lk2 Γ q (val₁ y) q' (val₂ u)) (a := a) (o := ⟨some d, .buildSlice t len xs.toArray, ty, pos, af, none⟩) rfl (hok_lk2 hok hy hu)
  unfold Oper.wp
  rw [e1, run_lit (fix_agr _ _) (hx y u) hlen hpos (hf y u)]
  have hb : Below w.heap.size w (w.alloc (.cells (cells y u).toArray e (0, 0))) := (Below.refl _ _).alloc (Nat.le_refl _) _
  refine ⟨_, rfl, hb, hJ.grow hb, (w.heap.size, y, u), rfl, fun w'' h1 h2 => ⟨?_, (hk.below hb) w'' h1 h2, (hk'.below hb) w'' h1 h2⟩⟩
  show w''.heap[w.heap.size]? = _
  rw [h2 w.heap.size (.inl hJ.size) (by simp) (fun p hp e => by have := (hJ.lt p hp).1; omega)]
  exact heap_alloc_new w _
/-- a call that takes an earlier result and whose answer is known -/
theorem dx_callv1 {β : Type} {val₁ : β → Value} {G₁ : β → World → Prop} (t : Nat) {c : Operand} {f : FuncId} {pre cap : List Value} {xs : List Operand} {vs : β → List Value} {ats : Array TypeId} {ty : TypeId} {d : Nat} {pos : String} {af : Array Edge} {v : Value} {F : Unit → World → Prop} (hl : late i = false) [hB : FnB P f]
    (hΓ : lookC Γ t = some (.pr (ResF w0 S own val₁ G₁))) (hmem : Operand.tmp t ∈ xs) (hc' : ∀ y, fnv (lk1 Γ t (val₁ y)) c f pre cap) (hxs : ∀ y, evs (lk1 Γ t (val₁ y)) xs = some (vs y))
    (hcall : ∀ y w, SS w0 X S own (fun w => R w ∧ G₁ y w) w → Ret P f (pre ++ vs y ++ cap) w (Nn w0 S own w) (fun _ : Unit => v) F)
    (h : Dx P ops Q n (SS w0 X S own R) Bl late (i + 1) os ((d, .val v) :: Γ) K) :
    Dx P ops Q n (SS w0 X S own R) Bl late i (⟨some d, .call { callee := .value c, args := xs.toArray, argTypes := ats }, ty, pos, af, none⟩ :: os) Γ K := by
  refine ⟨.val v, .inl ⟨hl, fun _ _ _ _ h => h, fun a w hs hd hJ hok => ?_⟩, h⟩
  rw [if_pos (wanted_none rfl)]
  have hop : Operand.tmp t ∈ (Op.call { callee := .value c, args := xs.toArray, argTypes := ats }).operands := by
    simp only [Op.operands, Call.operands]
    exact Array.mem_append.2 (.inr (by simpa using hmem))
  obtain ⟨y, hy, hk⟩ := hok t (mem_looksAt hop) _ hΓ
  have e := exec_fix (lk := lk1 Γ t (val₁ y)) (a := a) (o := ⟨some d, .call { callee := .value c, args := xs.toArray, argTypes := ats }, ty, pos, af, none⟩) rfl fun s hs u hu => by
    unfold lk1 at hu
    cases hb : Nat.beq t s with
    | true =>
      rw [hb] at hu
      have := Nat.eq_of_beq_eq_true hb
      subst this
      simp at hu
      rw [← hu]; exact hy
    | false =>
      rw [hb] at hu
      simp only [cond_false] at hu
      exact hok_lkC hok s hs u hu
  unfold Oper.wp
  rw [e, run_call (fix_agr _ _) (hc' y) (hxs y), Oper.upon_enter]
  refine (hcall y w (hk.add hJ)).mono ?_
  rintro e w' ⟨x, rfl, hb, hf⟩
  exact ⟨v, rfl, hb, hJ.grow hb, rfl⟩
end
theorem bin_eqlBr {P : Program} {t : TypeId} (ht : P.underlying t = some .bool) (a : Bool) : Bin P .eql t (.bool a) (.bool a) (.bool true) := by
  have h := bin_eqlB ht a a
  rwa [beq_self_eq_true] at h
theorem lens_of {m : Mt} {L : List (List Int)} (h : m.zs = L) (k : Nat) (h1 : L.length ≤ k) (h2 : ∀ q ∈ L, q.length ≤ k) : m.rs.length ≤ k ∧ ∀ r ∈ m.rs, r.l.length ≤ k := by
  refine ⟨by rw [← m.zs_len, h]; exact h1, fun r hr => ?_⟩
  rw [← Rw.zs_len]
  exact h2 _ (by rw [← h]; exact List.mem_map.2 ⟨r, hr, rfl⟩)
/-- a literal of two rows of two -/
theorem of2_ret (r8 r9 r10 : Nat) (a b c d : Int) (w : World) (S : Nat → Prop) (h8 : w.heap[r8]? = some (.cells (i64s [a, b]).toArray 2 (0, 0))) (h9 : w.heap[r9]? = some (.cells (i64s [c, d]).toArray 2 (0, 0)))
    (h10 : w.heap[r10]? = some (.cells ([Value.slice (some ⟨r8, 0, none⟩) 2 2, Value.slice (some ⟨r9, 0, none⟩) 2 2] : List Value).toArray 71 (0, 0))) (ha : In64 a) (hb : In64 b) (hc : In64 c) (hd : In64 d) :
    Ret Try.prog 38 [.slice (some ⟨r10, 0, none⟩) 2 2] w S Mt.v (optF 2 (some [[a, b], [c, d]])) := by
  have h := of_ret ⟨[⟨[a, b], (some ⟨r8, 0, none⟩, 2)⟩, ⟨[c, d], (some ⟨r9, 0, none⟩, 2)⟩], (some ⟨r10, 0, none⟩, 2)⟩ w S ⟨Rd.own h10, Nat.le_refl _, ?_⟩ (by simp) (by simp)
  · have e : keepO (Xm.zs ⟨[⟨[a, b], (some ⟨r8, 0, none⟩, 2)⟩, ⟨[c, d], (some ⟨r9, 0, none⟩, 2)⟩], (some ⟨r10, 0, none⟩, 2)⟩) = some [[a, b], [c, d]] := by
      simp [keepO, Xm.zs, shp]
    rw [e] at h
    exact h
  · intro r hr
    simp only [List.mem_cons, List.not_mem_nil, or_false] at hr
    rcases hr with rfl | rfl
    · exact ⟨Rd.own h8, Nat.le_refl _, by simp; exact ⟨ha, hb⟩⟩
    · exact ⟨Rd.own h9, Nat.le_refl _, by simp; exact ⟨hc, hd⟩⟩
end Go.Qk
end
section
set_option linter.unusedVariables false
namespace Go.Qk
open Go Go.Proofs Go.RowKit
set_option maxRecDepth 100000
set_option maxHeartbeats 4000000
theorem awake_ret (w0 : World) (S : Nat → Prop) :
    Ret Try.prog 23 [] w0 S (fun _ : Unit => .bool true) (fun _ _ => True) := by
  have hd : detO [[2, 1], [1, 2]] = some 3 := by decide
  have hi1 : invO [[2, 1], [1, 1]] = some [[1, -1], [-1, 2]] := by decide
  have hi2 : invO [[2, 1], [1, 2]] = none := by decide
  have i2 : In64 2 := by decide
  have i1 : In64 1 := by decide
  have im : In64 (-1) := by decide
  refine ret_of Try.func23 rfl Try.ntmps23 rfl ?_
  refine tr_rseq ?_
  refine sq_q (qt_assign rfl) rfl ?_
  refine sq_end ?_
  refine tr_rseq ?_
  refine sq_lit (vs := [(0, .int .i64 2), (1, .int .i64 1)]) (cells := i64s [2, 1]) rfl rfl rfl (by simp [Instr.fill, i64s, Value.cells, show Array.range 2 = #[0, 1] from by decide]) rfl fun r8 => ?_
  refine sq_lit (vs := [(0, .int .i64 1), (1, .int .i64 2)]) (cells := i64s [1, 2]) rfl rfl rfl (by simp [Instr.fill, i64s, Value.cells, show Array.range 2 = #[0, 1] from by decide]) rfl fun r9 => ?_
  refine sq_lit (vs := [(0, .slice (some ⟨r8, 0, none⟩) 2 2), (1, .slice (some ⟨r9, 0, none⟩) 2 2)]) (cells := [Value.slice (some ⟨r8, 0, none⟩) 2 2, Value.slice (some ⟨r9, 0, none⟩) 2 2]) rfl rfl rfl (by simp [Instr.fill, Value.cells, show Array.range 2 = #[0, 1] from by decide]) rfl fun r10 => ?_
  refine sq_call Mt.v (optF 2 (some [[2, 1], [1, 2]])) rfl rfl rfl (fun w t => of2_ret r8 r9 r10 2 1 1 2 w _ (t.has _ (ownAt_mem (i := 2) rfl)) (t.has _ (ownAt_mem (i := 1) rfl)) (t.has _ (ownAt_mem (i := 0) rfl)) i2 i1 i1 i2) fun m1 => ?_
  refine sq_have (fun w t => t.r.2.2.1) fun (hz1 : m1.zs = [[2, 1], [1, 2]]) => ?_
  obtain ⟨hl1, hr1⟩ := lens_of hz1 16 (by decide) (by decide)
  refine sq_q (qt_assign rfl) rfl ?_
  refine sq_end ?_
  refine tr_drop [] (List.nil_sublist _) ?_
  refine tr_rseq ?_
  refine sq_q (qt_move rfl) rfl ?_
  refine sq_call (optZV (some 3)) (optZF (some 3)) rfl rfl rfl (fun w t => by have h := fun S' => det_ret m1 2 w S' t.r.2.1 (by omega) (by omega) (by omega) (fun r hr => by have := hr1 r hr; omega); rw [hz1, hd] at h; exact h _) fun x14 => ?_
  refine sq_q (qt_move rfl) rfl ?_
  refine sq_q (qt_extract rfl rfl) rfl ?_
  refine sq_q (qt_extract rfl rfl) rfl ?_
  refine sq_alloc rfl fun r2 => ?_
  refine sq_store 0 rfl rfl rfl rfl (Nat.le_refl 2) rfl rfl ?_
  refine sq_q (qt_assign rfl) rfl ?_
  refine sq_end ?_
  refine tr_rseq ?_
  refine sq_lit (vs := [(0, .int .i64 2), (1, .int .i64 1)]) (cells := i64s [2, 1]) rfl rfl rfl (by simp [Instr.fill, i64s, Value.cells, show Array.range 2 = #[0, 1] from by decide]) rfl fun r18 => ?_
  refine sq_lit (vs := [(0, .int .i64 1), (1, .int .i64 1)]) (cells := i64s [1, 1]) rfl rfl rfl (by simp [Instr.fill, i64s, Value.cells, show Array.range 2 = #[0, 1] from by decide]) rfl fun r19 => ?_
  refine sq_lit (vs := [(0, .slice (some ⟨r18, 0, none⟩) 2 2), (1, .slice (some ⟨r19, 0, none⟩) 2 2)]) (cells := [Value.slice (some ⟨r18, 0, none⟩) 2 2, Value.slice (some ⟨r19, 0, none⟩) 2 2]) rfl rfl rfl (by simp [Instr.fill, Value.cells, show Array.range 2 = #[0, 1] from by decide]) rfl fun r20 => ?_
  refine sq_call Mt.v (optF 2 (some [[2, 1], [1, 1]])) rfl rfl rfl (fun w t => of2_ret r18 r19 r20 2 1 1 1 w _ (t.has _ (ownAt_mem (i := 2) rfl)) (t.has _ (ownAt_mem (i := 1) rfl)) (t.has _ (ownAt_mem (i := 0) rfl)) i2 i1 i1 i1) fun m2 => ?_
  refine sq_have (fun w t => t.r.2.2.1) fun (hz2 : m2.zs = [[2, 1], [1, 1]]) => ?_
  obtain ⟨hl2, hr2⟩ := lens_of hz2 16 (by decide) (by decide)
  refine sq_call (optV (some [[1, -1], [-1, 2]])) (optF 549755813889 (some [[1, -1], [-1, 2]])) rfl rfl rfl (fun w t => by have h := fun S' => inverse_ret m2 2 w S' t.r.2.1 (by omega) (by omega) (by omega) (fun r hr => by have := hr2 r hr; omega); rw [hz2, hi1] at h; exact h _) fun m3 => ?_
  refine sq_have (fun w t => t.r.2.2.1) fun (hz3 : m3.zs = [[1, -1], [-1, 2]]) => ?_
  obtain ⟨hl3, hr3⟩ := lens_of hz3 16 (by decide) (by decide)
  refine sq_q (qt_move rfl) rfl ?_
  refine sq_q (qt_extract rfl rfl) rfl ?_
  refine sq_q (qt_extract rfl rfl) rfl ?_
  refine sq_q (qt_assign rfl) rfl ?_
  refine sq_q (qt_assign rfl) rfl ?_
  refine sq_end ?_
  refine tr_rseq ?_
  refine sq_q (qt_move rfl) rfl ?_
  refine sq_call (optV none) (optF 549755813889 none) rfl rfl rfl (fun w t => by have h := fun S' => inverse_ret m1 2 w S' t.r.1.1.1.2.1 (by omega) (by omega) (by omega) (fun r hr => by have := hr1 r hr; omega); rw [hz1, hi2] at h; exact h _) fun m4 => ?_
  refine sq_q (qt_move rfl) rfl ?_
  refine sq_q (qt_extract rfl rfl) rfl ?_
  refine sq_q (qt_extract rfl rfl) rfl ?_
  refine sq_q (qt_assign rfl) rfl ?_
  refine sq_q (qt_assign rfl) rfl ?_
  refine sq_end ?_
  refine tr_rdraw0 [0, 1, 2, 3, 4, 5, 7] (by kernel_rfl) ?_
  refine dx_q rfl (qt_move rfl) rfl ?_
  refine dx_q rfl (qt_move rfl) rfl ?_
  refine dx_gT rfl rfl rfl ?_
  refine dx_q rfl (qt_move rfl) rfl ?_
  refine dx_q rfl (qt_pick rfl rfl) rfl ?_
  refine dx_q rfl (qt_move rfl) rfl ?_
  refine dx_gT rfl rfl rfl ?_
  refine dx_q rfl (qt_move rfl) rfl ?_
  refine dx_gT rfl rfl rfl ?_
  refine dx_q rfl (qt_not rfl) rfl ?_
  refine dx_q rfl (qt_pick rfl rfl) rfl ?_
  refine dx_q rfl (qt_move rfl) rfl ?_
  refine dx_gT rfl rfl rfl ?_
  refine dx_q rfl (qt_load2 rfl (fun w t => t.atO 3 rfl rfl) (fun w t => t.atO 3 rfl rfl)) rfl ?_
  refine dx_gT rfl rfl rfl ?_
  refine dx_call (iv 3) (Lz (3 : Int).natAbs) rfl rfl rfl (fun w t => rsmall_ret 3 w _ (by omega) (by omega)) ?_
  refine dx_gT rfl rfl rfl ?_
  refine dx_callv1 40 (v := .bool true) (F := fun _ _ => True) rfl rfl (by simp) (fun _ => rfl) (fun _ => rfl) (fun y w t => by have h := fun S' => rsame_ret 3 3 x14 y w S' t.r.1.1.1.1.2.1 t.r.2 (Nat.le_trans (nl_64 (a := 3) (by decide)) (by decide)) (Nat.le_trans (nl_64 (a := 3) (by decide)) (by decide)); exact h _) ?_
  refine dx_q rfl (qt_pick rfl rfl) rfl ?_
  refine dx_q rfl (qt_move rfl) rfl ?_
  refine dx_gT rfl rfl rfl ?_
  refine dx_q rfl (qt_move rfl) rfl ?_
  refine dx_gT rfl rfl rfl ?_
  refine dx_lit (vs := [(0, .int .i64 1), (1, .int .i64 (-1))]) (cells := i64s [1, -1]) rfl rfl rfl rfl (by simp [Instr.fill, i64s, Value.cells, show Array.range 2 = #[0, 1] from by decide]) ?_
  refine dx_gT rfl rfl rfl ?_
  refine dx_lit (vs := [(0, .int .i64 (-1)), (1, .int .i64 2)]) (cells := i64s [-1, 2]) rfl rfl rfl rfl (by simp [Instr.fill, i64s, Value.cells, show Array.range 2 = #[0, 1] from by decide]) ?_
  refine dx_gT rfl rfl rfl ?_
  refine dx_lit2 45 46 (vs := fun (r r' : Nat) => [(0, .slice (some ⟨r, 0, none⟩) 2 2), (1, .slice (some ⟨r', 0, none⟩) 2 2)]) (fun (r r' : Nat) => [Value.slice (some ⟨r, 0, none⟩) 2 2, Value.slice (some ⟨r', 0, none⟩) 2 2]) rfl rfl rfl (by simp) (by simp) (fun _ _ => rfl) rfl rfl (fun _ _ => by simp [Instr.fill, Value.cells, show Array.range 2 = #[0, 1] from by decide]) ?_
  refine dx_gT rfl rfl rfl ?_
  refine dx_call1 47 Mt.v (optF 2 (some [[1, -1], [-1, 2]])) rfl rfl (by simp) rfl (fun _ => rfl) (fun _ => rfl) (fun y w t => of2_ret y.2.1 y.2.2 y.1 1 (-1) (-1) 2 w _ t.r.2.2.1 t.r.2.2.2 t.r.2.1 i1 im im i2) ?_
  refine dx_gT rfl rfl rfl ?_
  refine dx_callv1 48 (v := .bool true) (F := fun _ _ => True) rfl rfl (by simp) (fun _ => rfl) (fun _ => rfl) (fun y w t => by
    obtain ⟨hl5, hr5⟩ := lens_of t.r.2.2.1 16 (by decide) (by decide)
    have h := fun S' => same_ret m3 y 549755813889 w S' t.r.1.1.2.1 (t.r.2.1.mono (by omega)) t.r.1.1.2.2.2 t.r.2.2.2 (by omega) (by omega) (by omega) (fun q hq => by have := hr3 q hq; omega) (fun q hq => by have := hr5 q hq; omega)
    rw [decide_eq_true (show m3.zs = y.zs by rw [hz3, t.r.2.2.1]; rfl)] at h
    exact h _) ?_
  refine dx_q rfl (qt_pick rfl rfl) rfl ?_
  refine dx_q rfl (qt_assign rfl) rfl ?_
  refine dx_nil ?_
  repeat (first | refine es_val rfl ?_ rfl | refine es_res rfl (fun x => ?_) rfl | refine es_skip rfl ?_)
  refine es_nil rfl ?_
  refine tx_endk ?_
  refine tr_ret ?_
  repeat with_reducible first | refine tr_skip ?_ | refine tr_exit ?_ | refine tr_then ?_ | refine tr_inX ?_ | refine tr_thenX ?_ | refine tr_inN ?_ | refine tr_inR ?_ | refine tr_thenR ?_
  exact tr_done () (fun a w s t => results_1 rfl (resv_tmp s rfl)) (fun _ _ _ _ => trivial)
end Go.Qk
end
section
set_option linter.unusedVariables false
namespace Go.Qk
open Go Go.Proofs Go.RowKit Go.ChangeShapes Go.WideShapes Go.Deep
section
variable {H : Type} {enc : TypeId × Value → H} {P : Program} {w : World} {fuel : Nat} {x : DataW H × List MemPlace} {cs : List Value}
end
theorem wf_u8 {z : Int} (h : (Lit.int .u8 z).wf = true) : 0 ≤ z ∧ z < 256 := by
  have h1 : IntKind.u8.min = 0 := rfl
  have h2 : IntKind.u8.max = 255 := rfl
  simp [Lit.wf, h1, h2] at h
  omega
section
variable {H : Type} {enc : TypeId × Value → H} {w : World} {fuel : Nat} {x : DataW H × List MemPlace} {cs : List Value}
end
end Go.Qk
end
section
set_option linter.unusedVariables false
namespace Go.Qk
open Go Go.Proofs Go.RowKit
set_option maxRecDepth 100000
set_option maxHeartbeats 4000000
theorem rshape_ret (m : Mt) (B : Nat) (w0 : World) (S : Nat → Prop) (hm : m.ok B w0) (hlen : m.rs.length ≤ 35184372088832) (hrow : ∀ r ∈ m.rs, r.l.length ≤ 35184372088832) :
    Ret Try.prog 43 [m.v] w0 S (fun _ : Unit => shpV (shp m.zs)) (fun _ _ => True) := by
  have hzl := m.zs_len
  refine ret_of Try.func43 rfl Try.ntmps43 rfl ?_
  refine tr_rseq ?_
  refine sq_q (qt_assign rfl) rfl ?_
  refine sq_q (qt_assign rfl) rfl ?_
  refine sq_q (qt_assign rfl) rfl ?_
  refine sq_end ?_
  refine tr_seq ?_
  have hcs : m.rs.length < 1 ∨ (1 ≤ m.rs.length ∧ 16 < m.rs.length) ∨ (0 < m.rs.length ∧ m.rs.length ≤ 16) := by omega
  rcases hcs with h1 | ⟨h1, h2⟩ | ⟨hp0, h2⟩
  ·
    rw [shp_none_len (L := m.zs) (by omega)]
    refine tr_rseq ?_
    refine sq_q (qt_move rfl) rfl ?_
    refine sq_q (qt_len rfl) rfl ?_
    refine sq_q (qt_bin rfl rfl (bT bin_lss (by omega))) rfl ?_
    refine sq_q (qt_move rfl) rfl ?_
    refine sq_gF rfl rfl rfl rfl ?_
    refine sq_gF rfl rfl rfl rfl ?_
    refine sq_gF rfl rfl rfl rfl ?_
    refine sq_q (qt_pick rfl rfl) rfl ?_
    refine sq_end ?_
    refine tr_ifT rfl ?_
    refine tr_rseq ?_
    refine sq_q (qt_assign rfl) rfl ?_
    refine sq_q (qt_assign rfl) rfl ?_
    refine sq_q (qt_assign rfl) rfl ?_
    refine sq_end ?_
    refine tr_ret ?_
    repeat with_reducible first | refine tr_skip ?_ | refine tr_exit ?_ | refine tr_then ?_ | refine tr_inX ?_ | refine tr_thenX ?_ | refine tr_inN ?_ | refine tr_inR ?_ | refine tr_thenR ?_
    exact tr_done () (fun a w s t => results_3 rfl (resv_tmp s rfl) (resv_tmp s rfl) (resv_tmp s rfl)) (fun w _ _ _ => trivial)
  ·
    rw [shp_none_len (L := m.zs) (by omega)]
    refine tr_rseq ?_
    refine sq_q (qt_move rfl) rfl ?_
    refine sq_q (qt_len rfl) rfl ?_
    refine sq_q (qt_bin rfl rfl (bF bin_lss (by omega))) rfl ?_
    refine sq_q (qt_move rfl) rfl ?_
    refine sq_gT rfl rfl ?_
    refine sq_q (qt_move rfl) rfl ?_
    refine sq_gT rfl rfl ?_
    refine sq_q (qt_len rfl) rfl ?_
    refine sq_gT rfl rfl ?_
    refine sq_q (qt_bin rfl rfl (bT bin_gtr (by omega))) rfl ?_
    refine sq_q (qt_pick rfl rfl) rfl ?_
    refine sq_end ?_
    refine tr_ifT rfl ?_
    refine tr_rseq ?_
    refine sq_q (qt_assign rfl) rfl ?_
    refine sq_q (qt_assign rfl) rfl ?_
    refine sq_q (qt_assign rfl) rfl ?_
    refine sq_end ?_
    refine tr_ret ?_
    repeat with_reducible first | refine tr_skip ?_ | refine tr_exit ?_ | refine tr_then ?_ | refine tr_inX ?_ | refine tr_thenX ?_ | refine tr_inN ?_ | refine tr_inR ?_ | refine tr_thenR ?_
    exact tr_done () (fun a w s t => results_3 rfl (resv_tmp s rfl) (resv_tmp s rfl) (resv_tmp s rfl)) (fun w _ _ _ => trivial)
  ·
    obtain ⟨ro, oo, evm, hat⟩ := hm.at_ hp0
    rw [evm]
    have hno : ∀ k (hk : k < m.rs.length), (m.rs[k].l.length < 1 ∨ 16 < m.rs[k].l.length ∨ m.rs[k].l.length ≠ m.rs[0].l.length) → shp m.zs = none := fun k hk h => shp_none_row (k := k) (by omega) (by omega) (by rw [m.zs_at hk, m.zs_at hp0, Rw.zs_len, Rw.zs_len]; exact h)
    refine tr_rseq ?_
    refine sq_q (qt_move rfl) rfl ?_
    refine sq_q (qt_len rfl) rfl ?_
    refine sq_q (qt_bin rfl rfl (bF bin_lss (by omega))) rfl ?_
    refine sq_q (qt_move rfl) rfl ?_
    refine sq_gT rfl rfl ?_
    refine sq_q (qt_move rfl) rfl ?_
    refine sq_gT rfl rfl ?_
    refine sq_q (qt_len rfl) rfl ?_
    refine sq_gT rfl rfl ?_
    refine sq_q (qt_bin rfl rfl (bF bin_gtr (by omega))) rfl ?_
    refine sq_q (qt_pick rfl rfl) rfl ?_
    refine sq_end ?_
    refine tr_ifF rfl ?_
    refine tr_skip ?_
    repeat with_reducible first | refine tr_skip ?_ | refine tr_exit ?_ | refine tr_then ?_ | refine tr_inX ?_ | refine tr_thenX ?_ | refine tr_inN ?_ | refine tr_inR ?_ | refine tr_thenR ?_
    refine tr_seq ?_
    refine tr_rseq ?_
    refine sq_q (qt_move rfl) rfl ?_
    refine sq_q (qt_len rfl) rfl ?_
    refine sq_q (qt_move rfl) rfl ?_
    refine sq_end ?_
    refine tr_block ?_
    refine tr_loop (fun k : Nat => k ≤ m.rs.length ∧ ∀ a (h : a < m.rs.length), a < k → 1 ≤ m.rs[a].l.length ∧ m.rs[a].l.length ≤ 16 ∧ m.rs[a].l.length = m.rs[0].l.length) (fun k => [(0, .slice (some ⟨ro, oo, none⟩) m.rs.length m.p.2), (15, .slice (some ⟨ro, oo, none⟩) m.rs.length m.p.2), (16, .int .i64 (m.rs.length : Int)), (17, .int .i64 (k : Int))]) (fun _ => []) (fun _ _ => True) (fun k => m.rs.length - k) 0 ⟨Nat.zero_le _, fun a _ h => by omega⟩ ⟨rfl, rfl, rfl, rfl, trivial⟩ rfl (fun _ _ => trivial) ?_
    rintro k ⟨hk, hall⟩
    refine tr_rseq ?_
    refine sq_q (qt_bin rfl rfl bin_lss) rfl ?_
    refine sq_end ?_
    refine tr_seq ?_
    refine tr_if rfl (fun hc => ?_) (fun hc => ?_)
    ·
      have hlt : k < m.rs.length := by have := of_decide_eq_true hc; omega
      have hrk := hrow _ (List.getElem_mem hlt)
      have hr0 := hrow _ (List.getElem_mem hp0)
      refine tr_skip ?_
      repeat with_reducible first | refine tr_skip ?_ | refine tr_exit ?_ | refine tr_then ?_ | refine tr_inX ?_ | refine tr_thenX ?_ | refine tr_inN ?_ | refine tr_inR ?_ | refine tr_thenR ?_
      refine tr_seq ?_
      refine tr_block ?_
      refine tr_rseq ?_
      refine sq_q (qt_index (i := k) rfl rfl hlt) rfl ?_
      refine sq_q (qt_load rfl (fun w t => t.a1 (hat k hlt))) rfl ?_
      refine sq_q (qt_assign rfl) rfl ?_
      refine sq_end ?_
      have hcs : m.rs[k].l.length < 1 ∨ (1 ≤ m.rs[k].l.length ∧ 16 < m.rs[k].l.length) ∨ (1 ≤ m.rs[k].l.length ∧ m.rs[k].l.length ≤ 16 ∧ m.rs[k].l.length ≠ m.rs[0].l.length) ∨ (1 ≤ m.rs[k].l.length ∧ m.rs[k].l.length ≤ 16 ∧ m.rs[k].l.length = m.rs[0].l.length) := by omega
      rcases hcs with g1 | ⟨g1, g2⟩ | ⟨g1, g2, g3⟩ | ⟨g1, g2, g3⟩
      ·
        rw [hno k hlt (.inl g1)]
        refine tr_rseq ?_
        refine sq_q (qt_move rfl) rfl ?_
        refine sq_q (qt_len rfl) rfl ?_
        refine sq_q (qt_bin rfl rfl (bT bin_lss (by omega))) rfl ?_
        refine sq_q (qt_move rfl) rfl ?_
        refine sq_gF rfl rfl rfl rfl ?_
        refine sq_gF rfl rfl rfl rfl ?_
        refine sq_gF rfl rfl rfl rfl ?_
        refine sq_q (qt_pick rfl rfl) rfl ?_
        refine sq_q (qt_move rfl) rfl ?_
        refine sq_gF rfl rfl rfl rfl ?_
        refine sq_gF rfl rfl rfl rfl ?_
        refine sq_gF rfl rfl rfl rfl ?_
        refine sq_gF rfl rfl rfl rfl ?_
        refine sq_gF rfl rfl rfl rfl ?_
        refine sq_gF rfl rfl rfl rfl ?_
        refine sq_gF rfl rfl rfl rfl ?_
        refine sq_q (qt_pick rfl rfl) rfl ?_
        refine sq_end ?_
        refine tr_ifT rfl ?_
        refine tr_rseq ?_
        refine sq_q (qt_assign rfl) rfl ?_
        refine sq_q (qt_assign rfl) rfl ?_
        refine sq_q (qt_assign rfl) rfl ?_
        refine sq_end ?_
        refine tr_ret ?_
        repeat with_reducible first | refine tr_skip ?_ | refine tr_exit ?_ | refine tr_then ?_ | refine tr_inX ?_ | refine tr_thenX ?_ | refine tr_inN ?_ | refine tr_inR ?_ | refine tr_thenR ?_
        exact tr_done () (fun a w s t => results_3 rfl (resv_tmp s rfl) (resv_tmp s rfl) (resv_tmp s rfl)) (fun w _ _ _ => trivial)
      ·
        rw [hno k hlt (.inr (.inl g2))]
        refine tr_rseq ?_
        refine sq_q (qt_move rfl) rfl ?_
        refine sq_q (qt_len rfl) rfl ?_
        refine sq_q (qt_bin rfl rfl (bF bin_lss (by omega))) rfl ?_
        refine sq_q (qt_move rfl) rfl ?_
        refine sq_gT rfl rfl ?_
        refine sq_q (qt_move rfl) rfl ?_
        refine sq_gT rfl rfl ?_
        refine sq_q (qt_len rfl) rfl ?_
        refine sq_gT rfl rfl ?_
        refine sq_q (qt_bin rfl rfl (bT bin_gtr (by omega))) rfl ?_
        refine sq_q (qt_pick rfl rfl) rfl ?_
        refine sq_q (qt_move rfl) rfl ?_
        refine sq_gF rfl rfl rfl rfl ?_
        refine sq_gF rfl rfl rfl rfl ?_
        refine sq_gF rfl rfl rfl rfl ?_
        refine sq_gF rfl rfl rfl rfl ?_
        refine sq_gF rfl rfl rfl rfl ?_
        refine sq_gF rfl rfl rfl rfl ?_
        refine sq_gF rfl rfl rfl rfl ?_
        refine sq_q (qt_pick rfl rfl) rfl ?_
        refine sq_end ?_
        refine tr_ifT rfl ?_
        refine tr_rseq ?_
        refine sq_q (qt_assign rfl) rfl ?_
        refine sq_q (qt_assign rfl) rfl ?_
        refine sq_q (qt_assign rfl) rfl ?_
        refine sq_end ?_
        refine tr_ret ?_
        repeat with_reducible first | refine tr_skip ?_ | refine tr_exit ?_ | refine tr_then ?_ | refine tr_inX ?_ | refine tr_thenX ?_ | refine tr_inN ?_ | refine tr_inR ?_ | refine tr_thenR ?_
        exact tr_done () (fun a w s t => results_3 rfl (resv_tmp s rfl) (resv_tmp s rfl) (resv_tmp s rfl)) (fun w _ _ _ => trivial)
      ·
        rw [hno k hlt (.inr (.inr g3))]
        refine tr_rseq ?_
        refine sq_q (qt_move rfl) rfl ?_
        refine sq_q (qt_len rfl) rfl ?_
        refine sq_q (qt_bin rfl rfl (bF bin_lss (by omega))) rfl ?_
        refine sq_q (qt_move rfl) rfl ?_
        refine sq_gT rfl rfl ?_
        refine sq_q (qt_move rfl) rfl ?_
        refine sq_gT rfl rfl ?_
        refine sq_q (qt_len rfl) rfl ?_
        refine sq_gT rfl rfl ?_
        refine sq_q (qt_bin rfl rfl (bF bin_gtr (by omega))) rfl ?_
        refine sq_q (qt_pick rfl rfl) rfl ?_
        refine sq_q (qt_move rfl) rfl ?_
        refine sq_gT rfl rfl ?_
        refine sq_q (qt_move rfl) rfl ?_
        refine sq_gT rfl rfl ?_
        refine sq_q (qt_len rfl) rfl ?_
        refine sq_gT rfl rfl ?_
        refine sq_q (qt_move rfl) rfl ?_
        refine sq_gT rfl rfl ?_
        refine sq_q (qt_index (i := 0) rfl rfl hp0) rfl ?_
        refine sq_gT rfl rfl ?_
        refine sq_q (qt_load rfl (fun w t => t.a1 (hat 0 hp0))) rfl ?_
        refine sq_gT rfl rfl ?_
        refine sq_q (qt_len rfl) rfl ?_
        refine sq_gT rfl rfl ?_
        refine sq_q (qt_bin rfl rfl (bT bin_neq (by omega))) rfl ?_
        refine sq_q (qt_pick rfl rfl) rfl ?_
        refine sq_end ?_
        refine tr_ifT rfl ?_
        refine tr_rseq ?_
        refine sq_q (qt_assign rfl) rfl ?_
        refine sq_q (qt_assign rfl) rfl ?_
        refine sq_q (qt_assign rfl) rfl ?_
        refine sq_end ?_
        refine tr_ret ?_
        repeat with_reducible first | refine tr_skip ?_ | refine tr_exit ?_ | refine tr_then ?_ | refine tr_inX ?_ | refine tr_thenX ?_ | refine tr_inN ?_ | refine tr_inR ?_ | refine tr_thenR ?_
        exact tr_done () (fun a w s t => results_3 rfl (resv_tmp s rfl) (resv_tmp s rfl) (resv_tmp s rfl)) (fun w _ _ _ => trivial)
      ·
        refine tr_rseq ?_
        refine sq_q (qt_move rfl) rfl ?_
        refine sq_q (qt_len rfl) rfl ?_
        refine sq_q (qt_bin rfl rfl (bF bin_lss (by omega))) rfl ?_
        refine sq_q (qt_move rfl) rfl ?_
        refine sq_gT rfl rfl ?_
        refine sq_q (qt_move rfl) rfl ?_
        refine sq_gT rfl rfl ?_
        refine sq_q (qt_len rfl) rfl ?_
        refine sq_gT rfl rfl ?_
        refine sq_q (qt_bin rfl rfl (bF bin_gtr (by omega))) rfl ?_
        refine sq_q (qt_pick rfl rfl) rfl ?_
        refine sq_q (qt_move rfl) rfl ?_
        refine sq_gT rfl rfl ?_
        refine sq_q (qt_move rfl) rfl ?_
        refine sq_gT rfl rfl ?_
        refine sq_q (qt_len rfl) rfl ?_
        refine sq_gT rfl rfl ?_
        refine sq_q (qt_move rfl) rfl ?_
        refine sq_gT rfl rfl ?_
        refine sq_q (qt_index (i := 0) rfl rfl hp0) rfl ?_
        refine sq_gT rfl rfl ?_
        refine sq_q (qt_load rfl (fun w t => t.a1 (hat 0 hp0))) rfl ?_
        refine sq_gT rfl rfl ?_
        refine sq_q (qt_len rfl) rfl ?_
        refine sq_gT rfl rfl ?_
        refine sq_q (qt_bin rfl rfl (bF bin_neq (by omega))) rfl ?_
        refine sq_q (qt_pick rfl rfl) rfl ?_
        refine sq_end ?_
        refine tr_ifF rfl ?_
        refine tr_skip ?_
        repeat with_reducible first | refine tr_skip ?_ | refine tr_exit ?_ | refine tr_then ?_ | refine tr_inX ?_ | refine tr_thenX ?_ | refine tr_inN ?_ | refine tr_inR ?_ | refine tr_thenR ?_
        refine tr_region ?_
        refine sq_q (qt_bin rfl rfl (bin_addI (by omega) (by omega))) rfl ?_
        refine sq_q (qt_move rfl) rfl ?_
        refine sq_nil ?_
        repeat with_reducible first | refine tr_skip ?_ | refine tr_exit ?_ | refine tr_then ?_ | refine tr_inX ?_ | refine tr_thenX ?_ | refine tr_inN ?_ | refine tr_inR ?_ | refine tr_thenR ?_
        refine tr_round (k + 1) ⟨by omega, fun a ha hak => ?_⟩ (by omega) ⟨rfl, rfl, rfl, rfl, trivial⟩ rfl (fun _ h => h)
        by_cases e : a = k
        · subst e; exact ⟨g1, g2, g3⟩
        · exact hall a ha (by omega)
    ·
      have hke : k = m.rs.length := by have := of_decide_eq_false hc; omega
      have hs := shp_some (L := m.zs) (by omega) (by omega) (by rw [m.zs_at hp0, Rw.zs_len]; exact (hall 0 hp0 (by omega)).1) (by rw [m.zs_at hp0, Rw.zs_len]; exact (hall 0 hp0 (by omega)).2.1) (fun i hi => by rw [m.zs_at (by omega), m.zs_at hp0, Rw.zs_len, Rw.zs_len]; exact (hall i (by omega) (by omega)).2.2)
      have hs2 : shp m.zs = some (m.rs.length, m.rs[0].l.length) := by rw [hs, m.zs_at hp0, Rw.zs_len, hzl]
      rw [hs2]
      refine tr_exit ?_
      repeat with_reducible first | refine tr_skip ?_ | refine tr_exit ?_ | refine tr_then ?_ | refine tr_inX ?_ | refine tr_thenX ?_ | refine tr_inN ?_ | refine tr_inR ?_ | refine tr_thenR ?_
      refine tr_rdraw0 [0, 2, 3, 4, 6, 14, 15, 16, 17, 18, 37] (by kernel_rfl) ?_
      refine dx_q rfl (qt_move rfl) rfl ?_
      refine dx_q rfl (qt_len rfl) rfl ?_
      refine dx_q rfl (qt_move rfl) rfl ?_
      refine dx_q rfl (qt_index (i := 0) rfl rfl hp0) rfl ?_
      refine dx_q rfl (qt_load rfl (fun w t => t.a1 (hat 0 hp0))) rfl ?_
      refine dx_q rfl (qt_len rfl) rfl ?_
      refine dx_q rfl (qt_assign rfl) rfl ?_
      refine dx_q rfl (qt_assign rfl) rfl ?_
      refine dx_q rfl (qt_assign rfl) rfl ?_
      refine dx_nil ?_
      repeat (first | refine es_val rfl ?_ rfl | refine es_res rfl (fun x => ?_) rfl | refine es_skip rfl ?_)
      refine es_nil rfl ?_
      refine tx_endk ?_
      refine tr_ret ?_
      repeat with_reducible first | refine tr_skip ?_ | refine tr_exit ?_ | refine tr_then ?_ | refine tr_inX ?_ | refine tr_thenX ?_ | refine tr_inN ?_ | refine tr_inR ?_ | refine tr_thenR ?_
      exact tr_done () (fun a w s t => results_3 rfl (resv_tmp s rfl) (resv_tmp s rfl) (resv_tmp s rfl)) (fun w _ _ _ => trivial)
end Go.Qk
end
section
set_option linter.unusedVariables false
namespace Go.Qk
open Go Go.Proofs Go.RowKit
theorem own1c {r : Nat} {a b : List Value} {e : TypeId} {tl : Own} (h : a = b) : ((r, Obj.cells a.toArray e (0, 0)) :: tl) = (r, Obj.cells b.toArray e (0, 0)) :: tl := by rw [h]
end Go.Qk
end
section
set_option linter.unusedVariables false
namespace Go.Qk
open Go Go.Proofs Go.RowKit
section
variable {P : Program} {n : Nat} {w0 : World} {X : List Nat} {S : Nat → Prop} {E : Env} {own : Own} {R : World → Prop} {Q : Exit → Act → World → Prop} {ops : Array Oper}
end
theorem made_i64 (c : Nat) : madeCells (Value.int .i64 0).cells (c * 1) = (i64s (List.replicate c 0)).toArray := by
  apply Array.ext
  · simp [madeCells, i64s]
  · intro i h1 h2
    simp [madeCells, i64s, Value.cells, Nat.mod_one]
theorem i64s_set (l : List Int) (k : Nat) (v : Int) : (i64s l).set k (.int .i64 v) = i64s (l.set k v) := by simp [i64s, List.map_set]
end Go.Qk
end
section
set_option linter.unusedVariables false
namespace Go.Qk
open Go Go.Proofs Go.RowKit
theorem mt_ent {m : Mt} {i j : Nat} (hi : i < m.rs.length) (hj : j < m.rs[i].l.length) : ent m.zs i j = m.rs[i].l[j].z := by
  rw [ent_at (by rw [m.zs_len]; exact hi) (by rw [m.zs_at hi, Rw.zs_len]; exact hj)]
  simp [m.zs_at hi, Rw.zs]
theorem mt_shp {m : Mt} {r c : Nat} (h : shp m.zs = some (r, c)) : m.rs.length = r ∧ 1 ≤ r ∧ r ≤ 16 ∧ 1 ≤ c ∧ c ≤ 16 ∧ ∀ q ∈ m.rs, q.l.length = c := by
  obtain ⟨h1, h2, h3, h4, h5, h6⟩ := shp_inv h
  rw [m.zs_len] at h1
  exact ⟨h1, h2, h3, h4, h5, fun q hq => by have := h6 q.zs (List.mem_map.2 ⟨q, hq, rfl⟩); rwa [Rw.zs_len] at this⟩
end Go.Qk
end
section
set_option linter.unusedVariables false
namespace Go.Qk
open Go Go.Proofs Go.RowKit
def eqO (L L' : List (List Int)) : Bool := decide ((shp L).isSome = true ∧ L = L')
theorem eqO_none {L L' : List (List Int)} (h : shp L = none) : eqO L L' = false := by unfold eqO; rw [h]; simp
theorem eqO_shp {L L' : List (List Int)} (h : shp L ≠ shp L') : eqO L L' = false := by
  unfold eqO
  exact decide_eq_false fun h' => h (by rw [h'.2])
theorem eqO_ent {L L' : List (List Int)} {a b : Nat} (h : ent L a b ≠ ent L' a b) : eqO L L' = false := by
  unfold eqO
  exact decide_eq_false fun h' => h (by rw [h'.2])
theorem eqO_grid {L L' : List (List Int)} {r c : Nat} (h : shp L = some (r, c)) (h' : shp L' = some (r, c)) (he : ∀ a b, a < r → b < c → ent L a b = ent L' a b) : eqO L L' = true := by
  obtain ⟨h1, _, _, _, _, h6⟩ := shp_inv h
  obtain ⟨h1', _, _, _, _, h6'⟩ := shp_inv h'
  unfold eqO
  refine decide_eq_true ⟨by rw [h]; rfl, ?_⟩
  rw [← grid_ent h1 h6, ← grid_ent h1' h6']
  unfold grid
  exact List.map_congr_left fun a ha => List.map_congr_left fun b hb => he a b (List.mem_range.1 ha) (List.mem_range.1 hb)
theorem cmpZ_ne {a b : Int} : cmpZ a b ≠ 0 ↔ a ≠ b := by
  unfold cmpZ
  split
  · exact ⟨fun _ h => by omega, fun _ => by decide⟩
  · split
    · exact ⟨fun h => absurd rfl h, fun h => absurd (by assumption) h⟩
    · exact ⟨fun _ => by assumption, fun _ => by decide⟩
section
variable {z z' : Zd} {B B' : Nat} {w : World} {S : Nat → Prop}
theorem cmp_zd (h : z.ok B w) (h' : z'.ok B' w) (hB : B ≤ 35184372088832) (hB' : B' ≤ 35184372088832) : Ret Try.prog 105 [z.v, z'.v] w S (fun _ : Unit => .int .i64 (cmpZ z.z z'.z)) (fun _ _ => True) :=
  cmp_ret z.n z'.n z.xs z'.xs z.p z'.p w S h.1 h.2.1 h'.1 h'.2.1 (by have := h.2.2; omega) (by have := h'.2.2; omega)
end
end Go.Qk
end
section
set_option linter.unusedVariables false
set_option linter.unusedSimpArgs false
namespace Go.Qk
abbrev Mf := Nat → Nat → Int
def tr (g : Mf) : Mf := fun a b => g b a
section
variable {n : Nat} {F : Mf → Int}
end
end Go.Qk
end
section
set_option linter.unusedVariables false
namespace Go.Qk
open Go Go.Proofs Go.RowKit
def trP (o : Option (Nat × Nat)) (L : List (List Int)) : Option (List (List Int)) := match o with
  | some rc => some (grid (tr (ent L)) rc.2 rc.1)
  | none => none
def trO (L : List (List Int)) : Option (List (List Int)) := trP (shp L) L
theorem Mt.ok.at_eq {B : Nat} {m : Mt} {w : World} {r o : Nat} (h : m.ok B w) (e : m.v = .slice (some ⟨r, o, none⟩) m.rs.length m.p.2) {i : Nat} (hi : i < m.rs.length) : At r (o + i) (m.rs[i]).v w := by
  obtain ⟨r', o', e', h'⟩ := h.at_ (by omega)
  rw [e] at e'
  simp only [Value.slice.injEq, Option.some.injEq, Addr.mk.injEq, and_true] at e'
  obtain ⟨rfl, rfl⟩ := e'
  exact h' i hi
end Go.Qk
end
section
set_option linter.unusedVariables false
namespace Go.Qk
open Go Go.Proofs Go.RowKit
set_option maxRecDepth 100000
set_option maxHeartbeats 4000000
theorem transpose1_ret (m : Mt) (B b2 i j : Nat) (w : World) (S : Nat → Prop) (hm : m.ok B w) (hB : B ≤ 35184372088832) (h2 : At b2 0 m.v w) (hj : j < m.rs.length) (hi : i < m.rs[j].l.length) :
    Ret Try.prog 89 [.int .i64 (i : Int), .int .i64 (j : Int), .pointer (some ⟨b2, 0, none⟩)] w S (iv (tr (ent m.zs) i j)) (fun p w => Lz (tr (ent m.zs) i j).natAbs p w ∧ nl (tr (ent m.zs) i j).natAbs ≤ B) := by
  obtain ⟨ro, oo, evm, hat⟩ := hm.at_ (show 0 < m.rs.length by omega)
  obtain ⟨rr, orr, evr, hatr⟩ := (hm.2.2 _ (List.getElem_mem hj)).at_ (show 0 < m.rs[j].l.length by omega)
  rw [evm] at h2
  have hr := hat j hj
  rw [evr] at hr
  obtain ⟨hz0, hz1⟩ := hatr i hi
  have hzok := (hm.2.2 _ (List.getElem_mem hj)).2.2 _ (List.getElem_mem hi)
  rw [show tr (ent m.zs) i j = m.rs[j].l[i].z from mt_ent hj hi]
  have hbd := nl_zd hzok
  refine ret_of Try.func89 rfl Try.ntmps89 rfl ?_
  refine tr_rseq ?_
  refine sq_alloc rfl fun r5 => ?_
  refine sq_end ?_
  refine tr_rseq ?_
  refine sq_q (qt_load rfl (fun w t => t.atA h2)) rfl ?_
  refine sq_q (qt_move rfl) rfl ?_
  refine sq_q (qt_index (i := j) rfl rfl hj) rfl ?_
  refine sq_q (qt_load rfl (fun w t => t.a1 hr)) rfl ?_
  refine sq_q (qt_move rfl) rfl ?_
  refine sq_q (qt_index (i := i) rfl rfl hi) rfl ?_
  refine sq_q (qt_load2 rfl (fun w t => t.atA hz0) (fun w t => t.atA hz1)) rfl ?_
  refine sq_call (iv m.rs[j].l[i].z) (Lz m.rs[j].l[i].z.natAbs) rfl rfl rfl (fun w t => norm_zd (t.zd hzok) hB) fun x => ?_
  refine sq_store 0 rfl rfl rfl rfl (Nat.le_refl 2) rfl rfl ?_
  refine sq_end ?_
  refine tr_ret ?_
  repeat with_reducible first | refine tr_skip ?_ | refine tr_exit ?_ | refine tr_then ?_ | refine tr_inX ?_ | refine tr_thenX ?_ | refine tr_inN ?_ | refine tr_inR ?_ | refine tr_thenR ?_
  exact tr_done x (fun a w s t => results_1 rfl (resv_cell 0 s t rfl rfl rfl)) (fun w h _ _ => ⟨h.2, hbd⟩)
theorem transpose_ret (m : Mt) (B : Nat) (w0 : World) (S : Nat → Prop) (hm : m.ok B w0) (hB : B ≤ 35184372088832) (hl : m.rs.length ≤ 35184372088832) (hr : ∀ r ∈ m.rs, r.l.length ≤ 35184372088832) :
    Ret Try.prog 44 [m.v] w0 S (optV (trO m.zs)) (optF B (trO m.zs)) := by
  obtain ⟨o, ho⟩ : ∃ o, o = shp m.zs := ⟨_, rfl⟩
  have hO : trO m.zs = trP o m.zs := by rw [ho]; rfl
  rw [hO]
  clear hO
  refine ret_of Try.func44 rfl Try.ntmps44 rfl ?_
  refine tr_rseq ?_
  refine sq_box rfl rfl fun r1 => ?_
  refine sq_q (qt_assign rfl) rfl ?_
  refine sq_q (qt_assign rfl) rfl ?_
  refine sq_end ?_
  refine tr_rseq ?_
  refine sq_q (qt_load rfl (fun w t => t.atO 0 rfl rfl)) rfl ?_
  refine sq_call (val := fun _ : Unit => shpV o) (F := fun _ _ => True) rfl rfl rfl (fun w t => by rw [ho]; exact shape_ret m B w _ (t.mt hm) hl hr) fun _ => ?_
  refine sq_q (qt_move rfl) rfl ?_
  refine sq_q (qt_extract rfl rfl) rfl ?_
  refine sq_q (qt_extract rfl rfl) rfl ?_
  refine sq_q (qt_extract rfl rfl) rfl ?_
  refine sq_q (qt_assign rfl) rfl ?_
  refine sq_q (qt_assign rfl) rfl ?_
  refine sq_q (qt_assign rfl) rfl ?_
  refine sq_end ?_
  refine tr_seq ?_
  rcases (show o = none ∨ ∃ r c, o = some (r, c) by cases o with | none => exact .inl rfl | some x => exact .inr ⟨x.1, x.2, rfl⟩) with h1 | ⟨r, c, h1⟩
  ·
    subst h1
    rw [show trP none m.zs = none from rfl]
    refine tr_rseq ?_
    refine sq_q (qt_move rfl) rfl ?_
    refine sq_q (qt_not rfl) rfl ?_
    refine sq_end ?_
    refine tr_ifT rfl ?_
    refine tr_rseq ?_
    refine sq_q (qt_assign rfl) rfl ?_
    refine sq_q (qt_assign rfl) rfl ?_
    refine sq_end ?_
    refine tr_ret ?_
    repeat with_reducible first | refine tr_skip ?_ | refine tr_exit ?_ | refine tr_then ?_ | refine tr_inX ?_ | refine tr_thenX ?_ | refine tr_inN ?_ | refine tr_inR ?_ | refine tr_thenR ?_
    exact tr_done ⟨[], (none, 0)⟩ (fun a w s t => results_2 rfl (resv_tmp s rfl) (resv_tmp s rfl)) (fun w _ _ _ => optF_none _ _)
  ·
    subst h1
    rw [show trP (some (r, c)) m.zs = some (grid (tr (ent m.zs)) c r) from rfl]
    obtain ⟨g1, g2, g3, g4, g5, g6⟩ := mt_shp ho.symm
    refine tr_rseq ?_
    refine sq_q (qt_move rfl) rfl ?_
    refine sq_q (qt_not rfl) rfl ?_
    refine sq_end ?_
    refine tr_ifF rfl ?_
    refine tr_skip ?_
    repeat with_reducible first | refine tr_skip ?_ | refine tr_exit ?_ | refine tr_then ?_ | refine tr_inX ?_ | refine tr_thenX ?_ | refine tr_inN ?_ | refine tr_inR ?_ | refine tr_thenR ?_
    refine tr_rseq ?_
    refine sq_q (qt_move rfl) rfl ?_
    refine sq_q (qt_move rfl) rfl ?_
    refine sq_q (qt_makeFunc rfl) rfl ?_
    refine sq_call Mt.v (fun x w => x.ok B w ∧ x.zs = grid (tr (ent m.zs)) c r ∧ x.can) rfl rfl rfl (fun w t => ?_) fun x => ?_
    · exact build_ret c r B (tr (ent m.zs)) 89 [] [.pointer (some ⟨r1, 0, none⟩)] w _ (by omega) (by omega) (fun i j w' S' hi hj hbel => transpose1_ret m B r1 i j w' S' ((t.mt hm).below hbel) hB ((t.atO 0 rfl rfl).below hbel) (by omega) (by rw [g6 _ (List.getElem_mem _)]; exact hi))
    refine sq_q (qt_assign rfl) rfl ?_
    refine sq_q (qt_assign rfl) rfl ?_
    refine sq_end ?_
    refine tr_ret ?_
    repeat with_reducible first | refine tr_skip ?_ | refine tr_exit ?_ | refine tr_then ?_ | refine tr_inX ?_ | refine tr_thenX ?_ | refine tr_inN ?_ | refine tr_inR ?_ | refine tr_thenR ?_
    exact tr_done x (fun a w s t => results_2 rfl (resv_tmp s rfl) (resv_tmp s rfl)) (fun w h _ _ => h.2)
end Go.Qk
end
section
set_option linter.unusedVariables false
namespace Go.Qk
open Go Go.Proofs Go.RowKit
section
variable {P : Program} {n : Nat} {w0 : World} {X : List Nat} {S : Nat → Prop} {E : Env} {own : Own} {R : World → Prop} {Q : Exit → Act → World → Prop} {ops : Array Oper} {rest : List Oper}
end
theorem Mt.ok.row_at {B : Nat} {m : Mt} {w : World} {r o : Nat} (h : m.ok B w) (e : m.v = .slice (some ⟨r, o, none⟩) m.rs.length m.p.2) {i : Nat} (hi : i < m.rs.length) : At r (o + i * 1) (m.rs[i]).v w := by
  rw [Nat.mul_one]
  exact h.at_eq e hi
end Go.Qk
end
section
set_option linter.unusedVariables false
namespace Go.Qk
open Go Go.Proofs Go.RowKit
/-- what stands behind the integers of a row, by the row's block -/
abbrev Sk := Nat → List Value
section
variable {σ : Sk} {o : Nat} {qs : List Wr}
end
section
variable {P : Program} {n : Nat} {w0 w : World} {X : List Nat} {S : Nat → Prop} {E : Env} {own : Own} {R : World → Prop} {Q : Exit → Act → World → Prop} {ops : Array Oper} {σ : Sk}
end
end Go.Qk
end
section
set_option linter.unusedVariables false
namespace Go.Qk
open Go Go.Proofs Go.RowKit
abbrev Wi := Nat × List Int
def ihdr (q : Wi) : Value := .slice (some ⟨q.1, 0, none⟩) q.2.length q.2.length
def irow (q : Wi) : Nat × Obj := (q.1, .cells (i64s q.2).toArray 2 (0, 0))
def iout (o : Nat) (qs : List Wi) (k : Nat) : Nat × Obj := (o, .cells (qs.map ihdr ++ List.replicate k (Value.slice none 0 0)).toArray 71 (0, 0))
def iown (o : Nat) (qs : List Wi) : Own := iout o qs 0 :: qs.map irow
section
variable {o : Nat} {qs : List Wi} {g g' : Mf} {r c : Nat}
theorem iout_next (k : Nat) (q : Wi) : (o, Obj.cells (wr (qs.map ihdr ++ List.replicate (k + 1) (Value.slice none 0 0)) (0 + qs.length * 1) [ihdr q]).toArray 71 (0, 0)) = iout o (qs ++ [q]) k := by
  have h := next_set (qs.map ihdr) k (Value.slice none 0 0) (ihdr q)
  rw [List.length_map] at h
  unfold iout
  rw [Nat.zero_add, Nat.mul_one, List.map_append]
  show (o, Obj.cells ((qs.map ihdr ++ List.replicate (k + 1) (Value.slice none 0 0)).set qs.length (ihdr q)).toArray _ _) = _
  rw [h]
  rfl
end
def ird (q : Wi) : Xr := ⟨q.2, (some ⟨q.1, 0, none⟩, q.2.length)⟩
def imt (o : Nat) (qs : List Wi) : Xm := ⟨qs.map ird, (some ⟨o, 0, none⟩, qs.length)⟩
theorem imt_v (o : Nat) (qs : List Wi) : (imt o qs).v = .slice (some ⟨o, 0, none⟩) qs.length qs.length := by simp [imt, Xm.v]
theorem imt_zs (o : Nat) (qs : List Wi) : (imt o qs).zs = qs.map (·.2) := by simp [imt, Xm.zs, ird, Function.comp_def]
theorem imt_ok {o : Nat} {qs : List Wi} {w : World} (h : ∀ p ∈ iown o qs, w.heap[p.1]? = some p.2) (hz : ∀ q ∈ qs, ∀ z ∈ q.2, In64 z) : (imt o qs).ok w := by
  refine ⟨?_, by simp [imt], ?_⟩
  · have := Rd.own (h (iout o qs 0) (List.mem_cons_self ..))
    rw [List.replicate_zero, List.append_nil] at this
    have e : (qs.map ird).map Xr.v = qs.map ihdr := by rw [List.map_map]; rfl
    show Rd _ ((qs.map ird).map Xr.v) w
    rw [e]
    exact this
  · intro r hr
    simp only [imt, List.mem_map] at hr
    obtain ⟨q, hq, rfl⟩ := hr
    exact ⟨Rd.own (h (irow q) (List.mem_cons_of_mem _ (List.mem_map.2 ⟨q, hq, rfl⟩))), Nat.le_refl _, hz q hq⟩
section
variable {P : Program} {t : TypeId} {J : World → Prop} {lk : Nat → Option Value} {ty : TypeId}
end
end Go.Qk
end
section
set_option linter.unusedVariables false
namespace Go.Qk
open Go Go.Proofs Go.RowKit
set_option maxRecDepth 100000
set_option maxHeartbeats 4000000
theorem equal_ret (m m' : Mt) (B : Nat) (w0 : World) (S : Nat → Prop) (hm : m.ok B w0) (hm' : m'.ok B w0) (hB : B ≤ 35184372088832) (hl : m.rs.length ≤ 35184372088832) (hr : ∀ r ∈ m.rs, r.l.length ≤ 35184372088832) (hl' : m'.rs.length ≤ 35184372088832) (hr' : ∀ r ∈ m'.rs, r.l.length ≤ 35184372088832) :
    Ret Try.prog 61 [m.v, m'.v] w0 S (fun _ : Unit => .bool (eqO m.zs m'.zs)) (fun _ _ => True) := by
  obtain ⟨o, ho⟩ : ∃ o, o = shp m.zs := ⟨_, rfl⟩
  obtain ⟨o', ho'⟩ : ∃ o, o = shp m'.zs := ⟨_, rfl⟩
  refine ret_of Try.func61 rfl Try.ntmps61 rfl ?_
  refine tr_rseq ?_
  refine sq_q (qt_assign rfl) rfl ?_
  refine sq_end ?_
  refine tr_rseq ?_
  refine sq_q (qt_move rfl) rfl ?_
  refine sq_call (val := fun _ : Unit => shpV o) (F := fun _ _ => True) rfl rfl rfl (fun w t => by rw [ho]; exact shape_ret m B w _ (t.mt hm) hl hr) fun _ => ?_
  refine sq_q (qt_move rfl) rfl ?_
  refine sq_q (qt_extract rfl rfl) rfl ?_
  refine sq_q (qt_extract rfl rfl) rfl ?_
  refine sq_q (qt_extract rfl rfl) rfl ?_
  refine sq_q (qt_assign rfl) rfl ?_
  refine sq_q (qt_assign rfl) rfl ?_
  refine sq_q (qt_assign rfl) rfl ?_
  refine sq_end ?_
  refine tr_rseq ?_
  refine sq_q (qt_move rfl) rfl ?_
  refine sq_call (val := fun _ : Unit => shpV o') (F := fun _ _ => True) rfl rfl rfl (fun w t => by rw [ho']; exact shape_ret m' B w _ (t.mt hm') hl' hr') fun _ => ?_
  refine sq_q (qt_move rfl) rfl ?_
  refine sq_q (qt_extract rfl rfl) rfl ?_
  refine sq_q (qt_extract rfl rfl) rfl ?_
  refine sq_q (qt_extract rfl rfl) rfl ?_
  refine sq_q (qt_assign rfl) rfl ?_
  refine sq_q (qt_assign rfl) rfl ?_
  refine sq_q (qt_assign rfl) rfl ?_
  refine sq_end ?_
  refine tr_seq ?_
  have hcs : o = none ∨ (∃ r c, o = some (r, c) ∧ o' = none) ∨ (∃ r c r' c', o = some (r, c) ∧ o' = some (r', c') ∧ r ≠ r') ∨ (∃ r c c', o = some (r, c) ∧ o' = some (r, c') ∧ c ≠ c') ∨ (∃ r c, o = some (r, c) ∧ o' = some (r, c)) := by
    cases o with
    | none => exact .inl rfl
    | some x =>
      cases o' with
      | none => exact .inr (.inl ⟨x.1, x.2, rfl, rfl⟩)
      | some y =>
        obtain ⟨r, c⟩ := x
        obtain ⟨r', c'⟩ := y
        by_cases h1 : r = r'
        · subst h1
          by_cases h2 : c = c'
          · subst h2; exact .inr (.inr (.inr (.inr ⟨_, _, rfl, rfl⟩)))
          · exact .inr (.inr (.inr (.inl ⟨_, _, _, rfl, rfl, h2⟩)))
        · exact .inr (.inr (.inl ⟨_, _, _, _, rfl, rfl, h1⟩))
  rcases hcs with h1 | ⟨r, c, h1, h2⟩ | ⟨r, c, r', c', h1, h2, h3⟩ | ⟨r, c, c', h1, h2, h3⟩ | ⟨r, c, h1, h2⟩
  ·
    subst h1
    have hf : false = eqO m.zs m'.zs := (eqO_none ho.symm).symm
    refine tr_rseq ?_
    refine sq_q (qt_move rfl) rfl ?_
    refine sq_q (qt_not rfl) rfl ?_
    refine sq_q (qt_move rfl) rfl ?_
    refine sq_gF rfl rfl rfl rfl ?_
    refine sq_gF rfl rfl rfl rfl ?_
    refine sq_q (qt_pick rfl rfl) rfl ?_
    refine sq_q (qt_move rfl) rfl ?_
    refine sq_gF rfl rfl rfl rfl ?_
    refine sq_gF rfl rfl rfl rfl ?_
    refine sq_gF rfl rfl rfl rfl ?_
    refine sq_q (qt_pick rfl rfl) rfl ?_
    refine sq_q (qt_move rfl) rfl ?_
    refine sq_gF rfl rfl rfl rfl ?_
    refine sq_gF rfl rfl rfl rfl ?_
    refine sq_gF rfl rfl rfl rfl ?_
    refine sq_q (qt_pick rfl rfl) rfl ?_
    refine sq_end ?_
    refine tr_ifT rfl ?_
    refine tr_rseq ?_
    refine sq_q (qt_assign rfl) rfl ?_
    refine sq_end ?_
    refine tr_ret ?_
    repeat with_reducible first | refine tr_skip ?_ | refine tr_exit ?_ | refine tr_then ?_ | refine tr_inX ?_ | refine tr_thenX ?_ | refine tr_inN ?_ | refine tr_inR ?_ | refine tr_thenR ?_
    exact tr_done () (fun a w s t => results_1 rfl (resv_tmp s (congrArg (fun b => some (Value.bool b)) hf))) (fun _ _ _ _ => trivial)
  ·
    subst h1
    subst h2
    have hf : false = eqO m.zs m'.zs := (eqO_shp (by rw [← ho, ← ho']; simp)).symm
    refine tr_rseq ?_
    refine sq_q (qt_move rfl) rfl ?_
    refine sq_q (qt_not rfl) rfl ?_
    refine sq_q (qt_move rfl) rfl ?_
    refine sq_gT rfl rfl ?_
    refine sq_q (qt_move rfl) rfl ?_
    refine sq_gT rfl rfl ?_
    refine sq_q (qt_not rfl) rfl ?_
    refine sq_q (qt_pick rfl rfl) rfl ?_
    refine sq_q (qt_move rfl) rfl ?_
    refine sq_gF rfl rfl rfl rfl ?_
    refine sq_gF rfl rfl rfl rfl ?_
    refine sq_gF rfl rfl rfl rfl ?_
    refine sq_q (qt_pick rfl rfl) rfl ?_
    refine sq_q (qt_move rfl) rfl ?_
    refine sq_gF rfl rfl rfl rfl ?_
    refine sq_gF rfl rfl rfl rfl ?_
    refine sq_gF rfl rfl rfl rfl ?_
    refine sq_q (qt_pick rfl rfl) rfl ?_
    refine sq_end ?_
    refine tr_ifT rfl ?_
    refine tr_rseq ?_
    refine sq_q (qt_assign rfl) rfl ?_
    refine sq_end ?_
    refine tr_ret ?_
    repeat with_reducible first | refine tr_skip ?_ | refine tr_exit ?_ | refine tr_then ?_ | refine tr_inX ?_ | refine tr_thenX ?_ | refine tr_inN ?_ | refine tr_inR ?_ | refine tr_thenR ?_
    exact tr_done () (fun a w s t => results_1 rfl (resv_tmp s (congrArg (fun b => some (Value.bool b)) hf))) (fun _ _ _ _ => trivial)
  ·
    subst h1
    subst h2
    have hf : false = eqO m.zs m'.zs := (eqO_shp (by rw [← ho, ← ho']; simp; omega)).symm
    refine tr_rseq ?_
    refine sq_q (qt_move rfl) rfl ?_
    refine sq_q (qt_not rfl) rfl ?_
    refine sq_q (qt_move rfl) rfl ?_
    refine sq_gT rfl rfl ?_
    refine sq_q (qt_move rfl) rfl ?_
    refine sq_gT rfl rfl ?_
    refine sq_q (qt_not rfl) rfl ?_
    refine sq_q (qt_pick rfl rfl) rfl ?_
    refine sq_q (qt_move rfl) rfl ?_
    refine sq_gT rfl rfl ?_
    refine sq_q (qt_move rfl) rfl ?_
    refine sq_gT rfl rfl ?_
    refine sq_q (qt_move rfl) rfl ?_
    refine sq_gT rfl rfl ?_
    refine sq_q (qt_bin rfl rfl (bT bin_neq (by simp only [Option.getD_some]; omega))) rfl ?_
    refine sq_q (qt_pick rfl rfl) rfl ?_
    refine sq_q (qt_move rfl) rfl ?_
    refine sq_gF rfl rfl rfl rfl ?_
    refine sq_gF rfl rfl rfl rfl ?_
    refine sq_gF rfl rfl rfl rfl ?_
    refine sq_q (qt_pick rfl rfl) rfl ?_
    refine sq_end ?_
    refine tr_ifT rfl ?_
    refine tr_rseq ?_
    refine sq_q (qt_assign rfl) rfl ?_
    refine sq_end ?_
    refine tr_ret ?_
    repeat with_reducible first | refine tr_skip ?_ | refine tr_exit ?_ | refine tr_then ?_ | refine tr_inX ?_ | refine tr_thenX ?_ | refine tr_inN ?_ | refine tr_inR ?_ | refine tr_thenR ?_
    exact tr_done () (fun a w s t => results_1 rfl (resv_tmp s (congrArg (fun b => some (Value.bool b)) hf))) (fun _ _ _ _ => trivial)
  ·
    subst h1
    subst h2
    have hf : false = eqO m.zs m'.zs := (eqO_shp (by rw [← ho, ← ho']; simp; omega)).symm
    refine tr_rseq ?_
    refine sq_q (qt_move rfl) rfl ?_
    refine sq_q (qt_not rfl) rfl ?_
    refine sq_q (qt_move rfl) rfl ?_
    refine sq_gT rfl rfl ?_
    refine sq_q (qt_move rfl) rfl ?_
    refine sq_gT rfl rfl ?_
    refine sq_q (qt_not rfl) rfl ?_
    refine sq_q (qt_pick rfl rfl) rfl ?_
    refine sq_q (qt_move rfl) rfl ?_
    refine sq_gT rfl rfl ?_
    refine sq_q (qt_move rfl) rfl ?_
    refine sq_gT rfl rfl ?_
    refine sq_q (qt_move rfl) rfl ?_
    refine sq_gT rfl rfl ?_
    refine sq_q (qt_bin rfl rfl (bF bin_neq (by simp only [Option.getD_some]; omega))) rfl ?_
    refine sq_q (qt_pick rfl rfl) rfl ?_
    refine sq_q (qt_move rfl) rfl ?_
    refine sq_gT rfl rfl ?_
    refine sq_q (qt_move rfl) rfl ?_
    refine sq_gT rfl rfl ?_
    refine sq_q (qt_move rfl) rfl ?_
    refine sq_gT rfl rfl ?_
    refine sq_q (qt_bin rfl rfl (bT bin_neq (by simp only [Option.getD_some]; omega))) rfl ?_
    refine sq_q (qt_pick rfl rfl) rfl ?_
    refine sq_end ?_
    refine tr_ifT rfl ?_
    refine tr_rseq ?_
    refine sq_q (qt_assign rfl) rfl ?_
    refine sq_end ?_
    refine tr_ret ?_
    repeat with_reducible first | refine tr_skip ?_ | refine tr_exit ?_ | refine tr_then ?_ | refine tr_inX ?_ | refine tr_thenX ?_ | refine tr_inN ?_ | refine tr_inR ?_ | refine tr_thenR ?_
    exact tr_done () (fun a w s t => results_1 rfl (resv_tmp s (congrArg (fun b => some (Value.bool b)) hf))) (fun _ _ _ _ => trivial)
  ·
    subst h1
    subst h2
    obtain ⟨g1, g2, g3, g4, g5, g6⟩ := mt_shp ho.symm
    obtain ⟨g1', _, _, _, _, g6'⟩ := mt_shp ho'.symm
    refine tr_rseq ?_
    refine sq_q (qt_move rfl) rfl ?_
    refine sq_q (qt_not rfl) rfl ?_
    refine sq_q (qt_move rfl) rfl ?_
    refine sq_gT rfl rfl ?_
    refine sq_q (qt_move rfl) rfl ?_
    refine sq_gT rfl rfl ?_
    refine sq_q (qt_not rfl) rfl ?_
    refine sq_q (qt_pick rfl rfl) rfl ?_
    refine sq_q (qt_move rfl) rfl ?_
    refine sq_gT rfl rfl ?_
    refine sq_q (qt_move rfl) rfl ?_
    refine sq_gT rfl rfl ?_
    refine sq_q (qt_move rfl) rfl ?_
    refine sq_gT rfl rfl ?_
    refine sq_q (qt_bin rfl rfl (bF bin_neq (by simp only [Option.getD_some]; omega))) rfl ?_
    refine sq_q (qt_pick rfl rfl) rfl ?_
    refine sq_q (qt_move rfl) rfl ?_
    refine sq_gT rfl rfl ?_
    refine sq_q (qt_move rfl) rfl ?_
    refine sq_gT rfl rfl ?_
    refine sq_q (qt_move rfl) rfl ?_
    refine sq_gT rfl rfl ?_
    refine sq_q (qt_bin rfl rfl (bF bin_neq (by simp only [Option.getD_some]; omega))) rfl ?_
    refine sq_q (qt_pick rfl rfl) rfl ?_
    refine sq_end ?_
    refine tr_ifF rfl ?_
    refine tr_skip ?_
    repeat with_reducible first | refine tr_skip ?_ | refine tr_exit ?_ | refine tr_then ?_ | refine tr_inX ?_ | refine tr_thenX ?_ | refine tr_inN ?_ | refine tr_inR ?_ | refine tr_thenR ?_
    refine tr_seq ?_
    refine tr_rseq ?_
    refine sq_q (qt_move rfl) rfl ?_
    refine sq_q (qt_len rfl) rfl ?_
    refine sq_q (qt_move rfl) rfl ?_
    refine sq_end ?_
    refine tr_block ?_
    obtain ⟨ro, oo, evm, hat⟩ := hm.at_ (show 0 < m.rs.length by omega)
    obtain ⟨ro', oo', evm', hat'⟩ := hm'.at_ (show 0 < m'.rs.length by omega)
    refine tr_loop (fun i : Nat => i ≤ r ∧ ∀ a b, a < i → b < c → ent m.zs a b = ent m'.zs a b) (fun i => [(0, .slice (some ⟨ro, oo, none⟩) m.rs.length m.p.2), (1, .slice (some ⟨ro', oo', none⟩) m'.rs.length m'.p.2), (42, .int .i64 (r : Int)), (43, .int .i64 (i : Int))]) (fun _ => []) (fun _ _ => True) (fun i => r - i) 0 ⟨Nat.zero_le _, fun a b h _ => by omega⟩ ⟨congrArg some evm, congrArg some evm', congrArg (fun z => some (Value.int .i64 ((z : Nat) : Int))) g1, rfl, trivial⟩ rfl (fun _ _ => trivial) ?_
    rintro i ⟨hle, hE⟩
    refine tr_rseq ?_
    refine sq_q (qt_bin rfl rfl bin_lss) rfl ?_
    refine sq_end ?_
    refine tr_seq ?_
    refine tr_if rfl (fun hc => ?_) (fun hc => ?_)
    ·
      have hlt : i < r := by have := of_decide_eq_true hc; omega
      have hmi : i < m.rs.length := by omega
      have hmi' : i < m'.rs.length := by omega
      have hcl := g6 _ (List.getElem_mem hmi)
      have hcl' := g6' _ (List.getElem_mem hmi')
      obtain ⟨rr, orr, evr, hatr⟩ := (hm.2.2 _ (List.getElem_mem hmi)).at_ (show 0 < m.rs[i].l.length by omega)
      obtain ⟨rr', orr', evr', hatr'⟩ := (hm'.2.2 _ (List.getElem_mem hmi')).at_ (show 0 < m'.rs[i].l.length by omega)
      have hrw := hat i hmi
      have hrw' := hat' i hmi'
      rw [evr] at hrw
      rw [evr'] at hrw'
      refine tr_skip ?_
      repeat with_reducible first | refine tr_skip ?_ | refine tr_exit ?_ | refine tr_then ?_ | refine tr_inX ?_ | refine tr_thenX ?_ | refine tr_inN ?_ | refine tr_inR ?_ | refine tr_thenR ?_
      refine tr_seq ?_
      refine tr_block ?_
      refine tr_rseq ?_
      refine sq_q (qt_move rfl) rfl ?_
      refine sq_q (qt_assign rfl) rfl ?_
      refine sq_end ?_
      refine tr_rseq ?_
      refine sq_q (qt_move rfl) rfl ?_
      refine sq_q (qt_move rfl) rfl ?_
      refine sq_q (qt_index (i := i) rfl rfl hmi) rfl ?_
      refine sq_q (qt_load rfl (fun w t => t.a1 hrw)) rfl ?_
      refine sq_q (qt_len rfl) rfl ?_
      refine sq_q (qt_move rfl) rfl ?_
      refine sq_end ?_
      refine tr_block ?_
      refine tr_loop (fun j : Nat => j ≤ c ∧ ∀ b, b < j → ent m.zs i b = ent m'.zs i b) (fun j => [(0, .slice (some ⟨ro, oo, none⟩) m.rs.length m.p.2), (1, .slice (some ⟨ro', oo', none⟩) m'.rs.length m'.p.2), (11, .int .i64 (i : Int)), (42, .int .i64 (r : Int)), (43, .int .i64 (i : Int)), (50, .int .i64 (c : Int)), (51, .int .i64 (j : Int))]) (fun _ => []) (fun _ _ => True) (fun j => c - j) 0 ⟨Nat.zero_le _, fun b h => by omega⟩ ⟨rfl, rfl, rfl, rfl, rfl, congrArg (fun z => some (Value.int .i64 ((z : Nat) : Int))) hcl, rfl, trivial⟩ rfl (fun _ _ => trivial) ?_
      rintro j ⟨hjc, hF⟩
      refine tr_rseq ?_
      refine sq_q (qt_bin rfl rfl bin_lss) rfl ?_
      refine sq_end ?_
      refine tr_seq ?_
      refine tr_if rfl (fun hc => ?_) (fun hc => ?_)
      ·
        have hlt2 : j < c := by have := of_decide_eq_true hc; omega
        have hjl : j < m.rs[i].l.length := by omega
        have hjl' : j < m'.rs[i].l.length := by omega
        obtain ⟨hz0, hz1⟩ := hatr j hjl
        obtain ⟨hz0', hz1'⟩ := hatr' j hjl'
        have hzok := (hm.2.2 _ (List.getElem_mem hmi)).2.2 _ (List.getElem_mem hjl)
        have hzok' := (hm'.2.2 _ (List.getElem_mem hmi')).2.2 _ (List.getElem_mem hjl')
        have he := mt_ent hmi hjl
        have he' := mt_ent hmi' hjl'
        refine tr_skip ?_
        repeat with_reducible first | refine tr_skip ?_ | refine tr_exit ?_ | refine tr_then ?_ | refine tr_inX ?_ | refine tr_thenX ?_ | refine tr_inN ?_ | refine tr_inR ?_ | refine tr_thenR ?_
        refine tr_seq ?_
        refine tr_block ?_
        refine tr_rseq ?_
        refine sq_q (qt_move rfl) rfl ?_
        refine sq_q (qt_assign rfl) rfl ?_
        refine sq_end ?_
        refine tr_rdraw0 [0, 1, 4, 5, 6, 7, 8, 9, 10, 11, 12, 40, 42, 43, 44, 50, 51, 52, 69] (by kernel_rfl) ?_
        refine dx_q rfl (qt_move rfl) rfl ?_
        refine dx_q rfl (qt_move rfl) rfl ?_
        refine dx_q rfl (qt_index (i := i) rfl rfl hmi) rfl ?_
        refine dx_q rfl (qt_load rfl (fun w t => t.a1 hrw)) rfl ?_
        refine dx_q rfl (qt_move rfl) rfl ?_
        refine dx_q rfl (qt_index (i := j) rfl rfl hjl) rfl ?_
        refine dx_q rfl (qt_load2 rfl (fun w t => t.atA hz0) (fun w t => t.atA hz1)) rfl ?_
        refine dx_q rfl (qt_move rfl) rfl ?_
        refine dx_q rfl (qt_move rfl) rfl ?_
        refine dx_q rfl (qt_index (i := i) rfl rfl hmi') rfl ?_
        refine dx_q rfl (qt_load rfl (fun w t => t.a1 hrw')) rfl ?_
        refine dx_q rfl (qt_move rfl) rfl ?_
        refine dx_q rfl (qt_index (i := j) rfl rfl hjl') rfl ?_
        refine dx_q rfl (qt_load2 rfl (fun w t => t.atA hz0') (fun w t => t.atA hz1')) rfl ?_
        refine dx_callv (v := .int .i64 (cmpZ (ent m.zs i j) (ent m'.zs i j))) (F := fun _ _ => True) rfl rfl rfl (fun w t => by rw [he, he']; exact cmp_zd (t.zd hzok) (t.zd hzok') hB hB) ?_
        refine dx_q rfl (qt_bin rfl rfl bin_neq) rfl ?_
        refine dx_nil ?_
        repeat (first | refine es_val rfl ?_ rfl | refine es_res rfl (fun x => ?_) rfl | refine es_skip rfl ?_)
        refine es_nil rfl ?_
        refine tx_endk ?_
        refine tr_if rfl (fun hc => ?_) (fun hc => ?_)
        ·
          have hne := cmpZ_ne.1 (of_decide_eq_true hc)
          have hf : false = eqO m.zs m'.zs := (eqO_ent hne).symm
          refine tr_rseq ?_
          refine sq_q (qt_assign rfl) rfl ?_
          refine sq_end ?_
          refine tr_ret ?_
          repeat with_reducible first | refine tr_skip ?_ | refine tr_exit ?_ | refine tr_then ?_ | refine tr_inX ?_ | refine tr_thenX ?_ | refine tr_inN ?_ | refine tr_inR ?_ | refine tr_thenR ?_
          exact tr_done () (fun a w s t => results_1 rfl (resv_tmp s (congrArg (fun b => some (Value.bool b)) hf))) (fun _ _ _ _ => trivial)
        ·
          have heq : ent m.zs i j = ent m'.zs i j := Decidable.of_not_not fun h => of_decide_eq_false hc (cmpZ_ne.2 h)
          refine tr_skip ?_
          repeat with_reducible first | refine tr_skip ?_ | refine tr_exit ?_ | refine tr_then ?_ | refine tr_inX ?_ | refine tr_thenX ?_ | refine tr_inN ?_ | refine tr_inR ?_ | refine tr_thenR ?_
          refine tr_region ?_
          refine sq_q (qt_bin rfl rfl (bin_addI (by omega) (by omega))) rfl ?_
          refine sq_q (qt_move rfl) rfl ?_
          refine sq_nil ?_
          repeat with_reducible first | refine tr_skip ?_ | refine tr_exit ?_ | refine tr_then ?_ | refine tr_inX ?_ | refine tr_thenX ?_ | refine tr_inN ?_ | refine tr_inR ?_ | refine tr_thenR ?_
          exact tr_round (j + 1) ⟨by omega, fun b hb => by
            rcases Nat.lt_or_ge b j with h | h
            · exact hF b h
            · rw [show b = j by omega]; exact heq⟩ (by omega) ⟨rfl, rfl, rfl, rfl, rfl, rfl, rfl, trivial⟩ rfl (fun _ h => h)
      ·
        have hje : j = c := by have := of_decide_eq_false hc; omega
        refine tr_exit ?_
        repeat with_reducible first | refine tr_skip ?_ | refine tr_exit ?_ | refine tr_then ?_ | refine tr_inX ?_ | refine tr_thenX ?_ | refine tr_inN ?_ | refine tr_inR ?_ | refine tr_thenR ?_
        refine tr_region ?_
        refine sq_q (qt_bin rfl rfl (bin_addI (by omega) (by omega))) rfl ?_
        refine sq_q (qt_move rfl) rfl ?_
        refine sq_nil ?_
        repeat with_reducible first | refine tr_skip ?_ | refine tr_exit ?_ | refine tr_then ?_ | refine tr_inX ?_ | refine tr_thenX ?_ | refine tr_inN ?_ | refine tr_inR ?_ | refine tr_thenR ?_
        exact tr_round (i + 1) ⟨by omega, fun a b ha hb => by
          rcases Nat.lt_or_ge a i with h | h
          · exact hE a b h hb
          · rw [show a = i by omega]; exact hF b (by omega)⟩ (by omega) ⟨rfl, rfl, rfl, rfl, trivial⟩ rfl (fun _ h => h)
    ·
      have hik : i = r := by have := of_decide_eq_false hc; omega
      subst hik
      refine tr_exit ?_
      repeat with_reducible first | refine tr_skip ?_ | refine tr_exit ?_ | refine tr_then ?_ | refine tr_inX ?_ | refine tr_thenX ?_ | refine tr_inN ?_ | refine tr_inR ?_ | refine tr_thenR ?_
      refine tr_rseq ?_
      refine sq_q (qt_assign rfl) rfl ?_
      refine sq_end ?_
      refine tr_ret ?_
      repeat with_reducible first | refine tr_skip ?_ | refine tr_exit ?_ | refine tr_then ?_ | refine tr_inX ?_ | refine tr_thenX ?_ | refine tr_inN ?_ | refine tr_inR ?_ | refine tr_thenR ?_
      exact tr_done () (fun a w s t => results_1 rfl (resv_tmp s (congrArg (fun b => some (Value.bool b)) (eqO_grid ho.symm ho'.symm hE).symm))) (fun _ _ _ _ => trivial)
end Go.Qk
end
section
set_option linter.unusedVariables false
namespace Go.Qk
open Go Go.Proofs Go.RowKit
theorem Xm.zs_len (m : Xm) : m.zs.length = m.rs.length := by simp [Xm.zs]
theorem Xm.zs_at (m : Xm) {i : Nat} (h : i < m.rs.length) : m.zs[i]'(by rw [m.zs_len]; exact h) = m.rs[i].l := by simp [Xm.zs]
theorem Xm.ok.at_ {m : Xm} {w : World} (h : m.ok w) (h0 : 0 < m.rs.length) : ∃ r o, m.v = .slice (some ⟨r, o, none⟩) m.rs.length m.p.2 ∧ ∀ i (hi : i < m.rs.length), At r (o + i) (m.rs[i]).v w := by
  obtain ⟨r, o, e, ha⟩ := h.1.all (by simpa using h0)
  exact ⟨r, o, by unfold Xm.v; rw [e], fun i hi => ha i _ (by simp [hi])⟩
theorem Xr.ok.at_ {r : Xr} {w : World} (h : r.ok w) (h0 : 0 < r.l.length) : ∃ b o, r.v = .slice (some ⟨b, o, none⟩) r.l.length r.p.2 ∧ ∀ i (hi : i < r.l.length), At b (o + i) (.int .i64 r.l[i]) w := by
  obtain ⟨b, o, e, ha⟩ := h.1.all (by simpa [i64s] using h0)
  exact ⟨b, o, by unfold Xr.v; rw [e], fun i hi => ha i _ (by simp [i64s, hi])⟩
theorem xm_ent {m : Xm} {i j : Nat} (hi : i < m.rs.length) (hj : j < m.rs[i].l.length) : ent m.zs i j = m.rs[i].l[j] := by
  rw [ent_at (by rw [m.zs_len]; exact hi) (by rw [m.zs_at hi]; exact hj)]
  simp [m.zs_at hi]
theorem xm_shp {m : Xm} {r c : Nat} (h : shp m.zs = some (r, c)) : m.rs.length = r ∧ 1 ≤ r ∧ r ≤ 16 ∧ 1 ≤ c ∧ c ≤ 16 ∧ ∀ q ∈ m.rs, q.l.length = c := by
  obtain ⟨h1, h2, h3, h4, h5, h6⟩ := shp_inv h
  rw [m.zs_len] at h1
  exact ⟨h1, h2, h3, h4, h5, fun q hq => h6 q.l (List.mem_map.2 ⟨q, hq, rfl⟩)⟩
theorem Xm.ok.below {m : Xm} {w w' : World} (h : m.ok w) (hb : Below w.heap.size w w') : m.ok w' := ⟨h.1.below hb, h.2.1, fun r hr => ⟨(h.2.2 r hr).1.below hb, (h.2.2 r hr).2⟩⟩
def keepP (o : Option (Nat × Nat)) (L : List (List Int)) : Option (List (List Int)) := match o with
  | some rc => some (grid (ent L) rc.1 rc.2)
  | none => none
theorem keepP_eq (L : List (List Int)) : keepP (shp L) L = keepO L := by
  unfold keepO
  cases h : shp L with
  | none => rfl
  | some rc =>
    obtain ⟨r, c⟩ := rc
    obtain ⟨h1, h2, h3, h4, h5, h6⟩ := shp_inv h
    show some (grid (ent L) r c) = some L
    rw [grid_ent h1 h6]
def tiP (o : Option (Nat × Nat)) (L : List (List Int)) : Option (List (List Int)) := match o with
  | some rc => if (grid (ent L) rc.1 rc.2).all (fun q => q.all fun z => decide (In64 z)) = true then some (grid (ent L) rc.1 rc.2) else none
  | none => none
def tiO (L : List (List Int)) : Option (List (List Int)) := tiP (shp L) L
def xmV (o : Option (List (List Int))) (m : Xm) : Value := .tuple #[m.v, .bool o.isSome]
def xmF (o : Option (List (List Int))) (m : Xm) (w : World) : Prop := m.ok w ∧ m.zs = o.getD []
theorem xmF_none (w : World) : xmF none ⟨[], (none, 0)⟩ w := ⟨⟨Rd.nil _ _, Nat.le_refl _, by simp⟩, rfl⟩
theorem grid_all {f : Nat → Nat → Int} {r c : Nat} : (grid f r c).all (fun q => q.all fun z => decide (In64 z)) = true ↔ ∀ i, i < r → ∀ j, j < c → In64 (f i j) := by
  simp [grid]
theorem tiP_some {L : List (List Int)} {r c : Nat} (h : ∀ i, i < r → ∀ j, j < c → In64 (ent L i j)) : tiP (some (r, c)) L = some (grid (ent L) r c) := if_pos (grid_all.2 h)
theorem tiP_none {L : List (List Int)} {r c i j : Nat} (hi : i < r) (hj : j < c) (h : ¬ In64 (ent L i j)) : tiP (some (r, c)) L = none := if_neg fun hh => h (grid_all.1 hh i hi j hj)
theorem int64_zd {z : Zd} {B : Nat} {w : World} {S : Nat → Prop} (h : z.ok B w) (hB : B ≤ 35184372088832) : Ret Try.prog 85 [z.v] w S (fun _ : Unit => int64V z.z) (fun _ _ => True) :=
  int64_ret z.n z.xs z.p w S h.1 h.2.1 (by have := h.2.2; omega)
end Go.Qk
end
section
set_option linter.unusedVariables false
namespace Go.Qk
open Go Go.Proofs Go.RowKit
set_option maxRecDepth 100000
set_option maxHeartbeats 4000000
theorem shape64_ret (m : Xm) (w0 : World) (S : Nat → Prop) (hm : m.ok w0) (hlen : m.rs.length ≤ 4611686018427387904) (hrow : ∀ r ∈ m.rs, r.l.length ≤ 4611686018427387904) :
    Ret Try.prog 99 [m.v] w0 S (fun _ : Unit => shpV (shp m.zs)) (fun _ _ => True) := by
  have hzl := m.zs_len
  refine ret_of Try.func99 rfl Try.ntmps99 rfl ?_
  refine tr_rseq ?_
  refine sq_q (qt_assign rfl) rfl ?_
  refine sq_q (qt_assign rfl) rfl ?_
  refine sq_q (qt_assign rfl) rfl ?_
  refine sq_end ?_
  refine tr_seq ?_
  have hcs : m.rs.length < 1 ∨ (1 ≤ m.rs.length ∧ 16 < m.rs.length) ∨ (∃ h : 0 < m.rs.length, m.rs.length ≤ 16 ∧ m.rs[0].l.length < 1) ∨ (∃ h : 0 < m.rs.length, m.rs.length ≤ 16 ∧ 1 ≤ m.rs[0].l.length ∧ 16 < m.rs[0].l.length) ∨ (∃ h : 0 < m.rs.length, m.rs.length ≤ 16 ∧ 1 ≤ m.rs[0].l.length ∧ m.rs[0].l.length ≤ 16) := by
    by_cases h : 0 < m.rs.length
    · by_cases h2 : m.rs.length ≤ 16
      · by_cases h3 : 1 ≤ m.rs[0].l.length
        · by_cases h4 : m.rs[0].l.length ≤ 16
          · exact .inr (.inr (.inr (.inr ⟨h, h2, h3, h4⟩)))
          · exact .inr (.inr (.inr (.inl ⟨h, h2, h3, by omega⟩)))
        · exact .inr (.inr (.inl ⟨h, h2, by omega⟩))
      · exact .inr (.inl ⟨by omega, by omega⟩)
    · exact .inl (by omega)
  rcases hcs with h1 | ⟨h1, h2⟩ | ⟨hp0, h2, g1⟩ | ⟨hp0, h2, g1, g2⟩ | ⟨hp0, h2, g1, g2⟩
  ·
    rw [shp_none_len (L := m.zs) (by omega)]
    refine tr_rseq ?_
    refine sq_q (qt_move rfl) rfl ?_
    refine sq_q (qt_len rfl) rfl ?_
    refine sq_q (qt_bin rfl rfl (bT bin_lss (by omega))) rfl ?_
    refine sq_q (qt_move rfl) rfl ?_
    refine sq_gF rfl rfl rfl rfl ?_
    refine sq_gF rfl rfl rfl rfl ?_
    refine sq_gF rfl rfl rfl rfl ?_
    refine sq_q (qt_pick rfl rfl) rfl ?_
    refine sq_q (qt_move rfl) rfl ?_
    refine sq_gF rfl rfl rfl rfl ?_
    refine sq_gF rfl rfl rfl rfl ?_
    refine sq_gF rfl rfl rfl rfl ?_
    refine sq_gF rfl rfl rfl rfl ?_
    refine sq_gF rfl rfl rfl rfl ?_
    refine sq_q (qt_pick rfl rfl) rfl ?_
    refine sq_q (qt_move rfl) rfl ?_
    refine sq_gF rfl rfl rfl rfl ?_
    refine sq_gF rfl rfl rfl rfl ?_
    refine sq_gF rfl rfl rfl rfl ?_
    refine sq_gF rfl rfl rfl rfl ?_
    refine sq_gF rfl rfl rfl rfl ?_
    refine sq_q (qt_pick rfl rfl) rfl ?_
    refine sq_end ?_
    refine tr_ifT rfl ?_
    refine tr_rseq ?_
    refine sq_q (qt_assign rfl) rfl ?_
    refine sq_q (qt_assign rfl) rfl ?_
    refine sq_q (qt_assign rfl) rfl ?_
    refine sq_end ?_
    refine tr_ret ?_
    repeat with_reducible first | refine tr_skip ?_ | refine tr_exit ?_ | refine tr_then ?_ | refine tr_inX ?_ | refine tr_thenX ?_ | refine tr_inN ?_ | refine tr_inR ?_ | refine tr_thenR ?_
    exact tr_done () (fun a w s t => results_3 rfl (resv_tmp s rfl) (resv_tmp s rfl) (resv_tmp s rfl)) (fun w _ _ _ => trivial)
  ·
    rw [shp_none_len (L := m.zs) (by omega)]
    refine tr_rseq ?_
    refine sq_q (qt_move rfl) rfl ?_
    refine sq_q (qt_len rfl) rfl ?_
    refine sq_q (qt_bin rfl rfl (bF bin_lss (by omega))) rfl ?_
    refine sq_q (qt_move rfl) rfl ?_
    refine sq_gT rfl rfl ?_
    refine sq_q (qt_move rfl) rfl ?_
    refine sq_gT rfl rfl ?_
    refine sq_q (qt_len rfl) rfl ?_
    refine sq_gT rfl rfl ?_
    refine sq_q (qt_bin rfl rfl (bT bin_gtr (by omega))) rfl ?_
    refine sq_q (qt_pick rfl rfl) rfl ?_
    refine sq_q (qt_move rfl) rfl ?_
    refine sq_gF rfl rfl rfl rfl ?_
    refine sq_gF rfl rfl rfl rfl ?_
    refine sq_gF rfl rfl rfl rfl ?_
    refine sq_gF rfl rfl rfl rfl ?_
    refine sq_gF rfl rfl rfl rfl ?_
    refine sq_q (qt_pick rfl rfl) rfl ?_
    refine sq_q (qt_move rfl) rfl ?_
    refine sq_gF rfl rfl rfl rfl ?_
    refine sq_gF rfl rfl rfl rfl ?_
    refine sq_gF rfl rfl rfl rfl ?_
    refine sq_gF rfl rfl rfl rfl ?_
    refine sq_gF rfl rfl rfl rfl ?_
    refine sq_q (qt_pick rfl rfl) rfl ?_
    refine sq_end ?_
    refine tr_ifT rfl ?_
    refine tr_rseq ?_
    refine sq_q (qt_assign rfl) rfl ?_
    refine sq_q (qt_assign rfl) rfl ?_
    refine sq_q (qt_assign rfl) rfl ?_
    refine sq_end ?_
    refine tr_ret ?_
    repeat with_reducible first | refine tr_skip ?_ | refine tr_exit ?_ | refine tr_then ?_ | refine tr_inX ?_ | refine tr_thenX ?_ | refine tr_inN ?_ | refine tr_inR ?_ | refine tr_thenR ?_
    exact tr_done () (fun a w s t => results_3 rfl (resv_tmp s rfl) (resv_tmp s rfl) (resv_tmp s rfl)) (fun w _ _ _ => trivial)
  ·
    obtain ⟨ro, oo, evm, hat⟩ := hm.at_ hp0
    rw [evm]
    have hno0 : (m.rs[0].l.length < 1 ∨ 16 < m.rs[0].l.length) → shp m.zs = none := fun h => shp_none_row (k := 0) (by omega) (by omega) (by rw [m.zs_at hp0]; omega)
    have hr0 := hrow _ (List.getElem_mem hp0)
    rw [hno0 (.inl g1)]
    refine tr_rseq ?_
    refine sq_q (qt_move rfl) rfl ?_
    refine sq_q (qt_len rfl) rfl ?_
    refine sq_q (qt_bin rfl rfl (bF bin_lss (by omega))) rfl ?_
    refine sq_q (qt_move rfl) rfl ?_
    refine sq_gT rfl rfl ?_
    refine sq_q (qt_move rfl) rfl ?_
    refine sq_gT rfl rfl ?_
    refine sq_q (qt_len rfl) rfl ?_
    refine sq_gT rfl rfl ?_
    refine sq_q (qt_bin rfl rfl (bF bin_gtr (by omega))) rfl ?_
    refine sq_q (qt_pick rfl rfl) rfl ?_
    refine sq_q (qt_move rfl) rfl ?_
    refine sq_gT rfl rfl ?_
    refine sq_q (qt_move rfl) rfl ?_
    refine sq_gT rfl rfl ?_
    refine sq_q (qt_index (i := 0) rfl rfl hp0) rfl ?_
    refine sq_gT rfl rfl ?_
    refine sq_q (qt_load rfl (fun w t => t.a1 (hat 0 hp0))) rfl ?_
    refine sq_gT rfl rfl ?_
    refine sq_q (qt_len rfl) rfl ?_
    refine sq_gT rfl rfl ?_
    refine sq_q (qt_bin rfl rfl (bT bin_lss (by omega))) rfl ?_
    refine sq_q (qt_pick rfl rfl) rfl ?_
    refine sq_q (qt_move rfl) rfl ?_
    refine sq_gF rfl rfl rfl rfl ?_
    refine sq_gF rfl rfl rfl rfl ?_
    refine sq_gF rfl rfl rfl rfl ?_
    refine sq_gF rfl rfl rfl rfl ?_
    refine sq_gF rfl rfl rfl rfl ?_
    refine sq_q (qt_pick rfl rfl) rfl ?_
    refine sq_end ?_
    refine tr_ifT rfl ?_
    refine tr_rseq ?_
    refine sq_q (qt_assign rfl) rfl ?_
    refine sq_q (qt_assign rfl) rfl ?_
    refine sq_q (qt_assign rfl) rfl ?_
    refine sq_end ?_
    refine tr_ret ?_
    repeat with_reducible first | refine tr_skip ?_ | refine tr_exit ?_ | refine tr_then ?_ | refine tr_inX ?_ | refine tr_thenX ?_ | refine tr_inN ?_ | refine tr_inR ?_ | refine tr_thenR ?_
    exact tr_done () (fun a w s t => results_3 rfl (resv_tmp s rfl) (resv_tmp s rfl) (resv_tmp s rfl)) (fun w _ _ _ => trivial)
  ·
    obtain ⟨ro, oo, evm, hat⟩ := hm.at_ hp0
    rw [evm]
    have hno0 : (m.rs[0].l.length < 1 ∨ 16 < m.rs[0].l.length) → shp m.zs = none := fun h => shp_none_row (k := 0) (by omega) (by omega) (by rw [m.zs_at hp0]; omega)
    have hr0 := hrow _ (List.getElem_mem hp0)
    rw [hno0 (.inr g2)]
    refine tr_rseq ?_
    refine sq_q (qt_move rfl) rfl ?_
    refine sq_q (qt_len rfl) rfl ?_
    refine sq_q (qt_bin rfl rfl (bF bin_lss (by omega))) rfl ?_
    refine sq_q (qt_move rfl) rfl ?_
    refine sq_gT rfl rfl ?_
    refine sq_q (qt_move rfl) rfl ?_
    refine sq_gT rfl rfl ?_
    refine sq_q (qt_len rfl) rfl ?_
    refine sq_gT rfl rfl ?_
    refine sq_q (qt_bin rfl rfl (bF bin_gtr (by omega))) rfl ?_
    refine sq_q (qt_pick rfl rfl) rfl ?_
    refine sq_q (qt_move rfl) rfl ?_
    refine sq_gT rfl rfl ?_
    refine sq_q (qt_move rfl) rfl ?_
    refine sq_gT rfl rfl ?_
    refine sq_q (qt_index (i := 0) rfl rfl hp0) rfl ?_
    refine sq_gT rfl rfl ?_
    refine sq_q (qt_load rfl (fun w t => t.a1 (hat 0 hp0))) rfl ?_
    refine sq_gT rfl rfl ?_
    refine sq_q (qt_len rfl) rfl ?_
    refine sq_gT rfl rfl ?_
    refine sq_q (qt_bin rfl rfl (bF bin_lss (by omega))) rfl ?_
    refine sq_q (qt_pick rfl rfl) rfl ?_
    refine sq_q (qt_move rfl) rfl ?_
    refine sq_gT rfl rfl ?_
    refine sq_q (qt_move rfl) rfl ?_
    refine sq_gT rfl rfl ?_
    refine sq_q (qt_index (i := 0) rfl rfl hp0) rfl ?_
    refine sq_gT rfl rfl ?_
    refine sq_q (qt_load rfl (fun w t => t.a1 (hat 0 hp0))) rfl ?_
    refine sq_gT rfl rfl ?_
    refine sq_q (qt_len rfl) rfl ?_
    refine sq_gT rfl rfl ?_
    refine sq_q (qt_bin rfl rfl (bT bin_gtr (by omega))) rfl ?_
    refine sq_q (qt_pick rfl rfl) rfl ?_
    refine sq_end ?_
    refine tr_ifT rfl ?_
    refine tr_rseq ?_
    refine sq_q (qt_assign rfl) rfl ?_
    refine sq_q (qt_assign rfl) rfl ?_
    refine sq_q (qt_assign rfl) rfl ?_
    refine sq_end ?_
    refine tr_ret ?_
    repeat with_reducible first | refine tr_skip ?_ | refine tr_exit ?_ | refine tr_then ?_ | refine tr_inX ?_ | refine tr_thenX ?_ | refine tr_inN ?_ | refine tr_inR ?_ | refine tr_thenR ?_
    exact tr_done () (fun a w s t => results_3 rfl (resv_tmp s rfl) (resv_tmp s rfl) (resv_tmp s rfl)) (fun w _ _ _ => trivial)
  ·
    obtain ⟨ro, oo, evm, hat⟩ := hm.at_ hp0
    rw [evm]
    have hno0 : (m.rs[0].l.length < 1 ∨ 16 < m.rs[0].l.length) → shp m.zs = none := fun h => shp_none_row (k := 0) (by omega) (by omega) (by rw [m.zs_at hp0]; omega)
    have hr0 := hrow _ (List.getElem_mem hp0)
    refine tr_rseq ?_
    refine sq_q (qt_move rfl) rfl ?_
    refine sq_q (qt_len rfl) rfl ?_
    refine sq_q (qt_bin rfl rfl (bF bin_lss (by omega))) rfl ?_
    refine sq_q (qt_move rfl) rfl ?_
    refine sq_gT rfl rfl ?_
    refine sq_q (qt_move rfl) rfl ?_
    refine sq_gT rfl rfl ?_
    refine sq_q (qt_len rfl) rfl ?_
    refine sq_gT rfl rfl ?_
    refine sq_q (qt_bin rfl rfl (bF bin_gtr (by omega))) rfl ?_
    refine sq_q (qt_pick rfl rfl) rfl ?_
    refine sq_q (qt_move rfl) rfl ?_
    refine sq_gT rfl rfl ?_
    refine sq_q (qt_move rfl) rfl ?_
    refine sq_gT rfl rfl ?_
    refine sq_q (qt_index (i := 0) rfl rfl hp0) rfl ?_
    refine sq_gT rfl rfl ?_
    refine sq_q (qt_load rfl (fun w t => t.a1 (hat 0 hp0))) rfl ?_
    refine sq_gT rfl rfl ?_
    refine sq_q (qt_len rfl) rfl ?_
    refine sq_gT rfl rfl ?_
    refine sq_q (qt_bin rfl rfl (bF bin_lss (by omega))) rfl ?_
    refine sq_q (qt_pick rfl rfl) rfl ?_
    refine sq_q (qt_move rfl) rfl ?_
    refine sq_gT rfl rfl ?_
    refine sq_q (qt_move rfl) rfl ?_
    refine sq_gT rfl rfl ?_
    refine sq_q (qt_index (i := 0) rfl rfl hp0) rfl ?_
    refine sq_gT rfl rfl ?_
    refine sq_q (qt_load rfl (fun w t => t.a1 (hat 0 hp0))) rfl ?_
    refine sq_gT rfl rfl ?_
    refine sq_q (qt_len rfl) rfl ?_
    refine sq_gT rfl rfl ?_
    refine sq_q (qt_bin rfl rfl (bF bin_gtr (by omega))) rfl ?_
    refine sq_q (qt_pick rfl rfl) rfl ?_
    refine sq_end ?_
    refine tr_ifF rfl ?_
    refine tr_skip ?_
    repeat with_reducible first | refine tr_skip ?_ | refine tr_exit ?_ | refine tr_then ?_ | refine tr_inX ?_ | refine tr_thenX ?_ | refine tr_inN ?_ | refine tr_inR ?_ | refine tr_thenR ?_
    refine tr_seq ?_
    refine tr_rseq ?_
    refine sq_q (qt_move rfl) rfl ?_
    refine sq_q (qt_len rfl) rfl ?_
    refine sq_q (qt_move rfl) rfl ?_
    refine sq_end ?_
    refine tr_block ?_
    refine tr_loop (fun k : Nat => k ≤ m.rs.length ∧ ∀ i (h : i < m.rs.length), i < k → m.rs[i].l.length = m.rs[0].l.length) (fun k => [(0, .slice (some ⟨ro, oo, none⟩) m.rs.length m.p.2), (29, .slice (some ⟨ro, oo, none⟩) m.rs.length m.p.2), (30, .int .i64 (m.rs.length : Int)), (31, .int .i64 (k : Int))]) (fun _ => []) (fun _ _ => True) (fun k => m.rs.length - k) 0 ⟨Nat.zero_le _, fun i _ h => by omega⟩ ⟨rfl, rfl, rfl, rfl, trivial⟩ rfl (fun _ _ => trivial) ?_
    rintro k ⟨hk, hall⟩
    refine tr_rseq ?_
    refine sq_q (qt_bin rfl rfl bin_lss) rfl ?_
    refine sq_end ?_
    refine tr_seq ?_
    refine tr_if rfl (fun hc => ?_) (fun hc => ?_)
    ·
      have hlt : k < m.rs.length := by have := of_decide_eq_true hc; omega
      have hrk := hrow _ (List.getElem_mem hlt)
      refine tr_skip ?_
      repeat with_reducible first | refine tr_skip ?_ | refine tr_exit ?_ | refine tr_then ?_ | refine tr_inX ?_ | refine tr_thenX ?_ | refine tr_inN ?_ | refine tr_inR ?_ | refine tr_thenR ?_
      refine tr_seq ?_
      refine tr_block ?_
      refine tr_rseq ?_
      refine sq_q (qt_index (i := k) rfl rfl hlt) rfl ?_
      refine sq_q (qt_load rfl (fun w t => t.a1 (hat k hlt))) rfl ?_
      refine sq_q (qt_assign rfl) rfl ?_
      refine sq_end ?_
      refine tr_rseq ?_
      refine sq_q (qt_move rfl) rfl ?_
      refine sq_q (qt_len rfl) rfl ?_
      refine sq_q (qt_move rfl) rfl ?_
      refine sq_q (qt_index (i := 0) rfl rfl hp0) rfl ?_
      refine sq_q (qt_load rfl (fun w t => t.a1 (hat 0 hp0))) rfl ?_
      refine sq_q (qt_len rfl) rfl ?_
      refine sq_q (qt_bin rfl rfl bin_neq) rfl ?_
      refine sq_end ?_
      refine tr_if rfl (fun hc => ?_) (fun hc => ?_)
      ·
        have hne : m.rs[k].l.length ≠ m.rs[0].l.length := by have := of_decide_eq_true hc; omega
        rw [shp_none_row (L := m.zs) (k := k) (by omega) (by omega) (by rw [m.zs_at hlt, m.zs_at hp0]; exact .inr (.inr hne))]
        refine tr_rseq ?_
        refine sq_q (qt_assign rfl) rfl ?_
        refine sq_q (qt_assign rfl) rfl ?_
        refine sq_q (qt_assign rfl) rfl ?_
        refine sq_end ?_
        refine tr_ret ?_
        repeat with_reducible first | refine tr_skip ?_ | refine tr_exit ?_ | refine tr_then ?_ | refine tr_inX ?_ | refine tr_thenX ?_ | refine tr_inN ?_ | refine tr_inR ?_ | refine tr_thenR ?_
        exact tr_done () (fun a w s t => results_3 rfl (resv_tmp s rfl) (resv_tmp s rfl) (resv_tmp s rfl)) (fun w _ _ _ => trivial)
      ·
        have heq : m.rs[k].l.length = m.rs[0].l.length := by have := of_decide_eq_false hc; omega
        refine tr_skip ?_
        repeat with_reducible first | refine tr_skip ?_ | refine tr_exit ?_ | refine tr_then ?_ | refine tr_inX ?_ | refine tr_thenX ?_ | refine tr_inN ?_ | refine tr_inR ?_ | refine tr_thenR ?_
        refine tr_region ?_
        refine sq_q (qt_bin rfl rfl (bin_addI (by omega) (by omega))) rfl ?_
        refine sq_q (qt_move rfl) rfl ?_
        refine sq_nil ?_
        repeat with_reducible first | refine tr_skip ?_ | refine tr_exit ?_ | refine tr_then ?_ | refine tr_inX ?_ | refine tr_thenX ?_ | refine tr_inN ?_ | refine tr_inR ?_ | refine tr_thenR ?_
        refine tr_round (k + 1) ⟨by omega, fun i h hi => ?_⟩ (by omega) ⟨rfl, rfl, rfl, rfl, trivial⟩ rfl (fun _ h => h)
        by_cases e : i = k
        · subst e; exact heq
        · exact hall i h (by omega)
    ·
      have hkm : k = m.rs.length := by have := of_decide_eq_false hc; omega
      rw [shp_some (L := m.zs) (by omega) (by omega) (by rw [m.zs_at hp0]; exact g1) (by rw [m.zs_at hp0]; exact g2) (fun i hi => by rw [m.zs_at (by omega), m.zs_at hp0]; exact hall i (by omega) (by omega))]
      rw [m.zs_at hp0, m.zs_len]
      refine tr_exit ?_
      repeat with_reducible first | refine tr_skip ?_ | refine tr_exit ?_ | refine tr_then ?_ | refine tr_inX ?_ | refine tr_thenX ?_ | refine tr_inN ?_ | refine tr_inR ?_ | refine tr_thenR ?_
      refine tr_rdraw0 [0, 2, 3, 4, 6, 28, 29, 30, 31, 32, 41] (by kernel_rfl) ?_
      refine dx_q rfl (qt_move rfl) rfl ?_
      refine dx_q rfl (qt_len rfl) rfl ?_
      refine dx_q rfl (qt_move rfl) rfl ?_
      refine dx_q rfl (qt_index (i := 0) rfl rfl hp0) rfl ?_
      refine dx_q rfl (qt_load rfl (fun w t => t.a1 (hat 0 hp0))) rfl ?_
      refine dx_q rfl (qt_len rfl) rfl ?_
      refine dx_q rfl (qt_assign rfl) rfl ?_
      refine dx_q rfl (qt_assign rfl) rfl ?_
      refine dx_q rfl (qt_assign rfl) rfl ?_
      refine dx_nil ?_
      repeat (first | refine es_val rfl ?_ rfl | refine es_res rfl (fun x => ?_) rfl | refine es_skip rfl ?_)
      refine es_nil rfl ?_
      refine tx_endk ?_
      refine tr_ret ?_
      repeat with_reducible first | refine tr_skip ?_ | refine tr_exit ?_ | refine tr_then ?_ | refine tr_inX ?_ | refine tr_thenX ?_ | refine tr_inN ?_ | refine tr_inR ?_ | refine tr_thenR ?_
      exact tr_done () (fun a w s t => results_3 rfl (resv_tmp s rfl) (resv_tmp s rfl) (resv_tmp s rfl)) (fun w _ _ _ => trivial)
theorem fromints1_ret (m : Xm) (b2 i j : Nat) (w : World) (S : Nat → Prop) (hm : m.ok w) (h2 : At b2 0 m.v w) (hi : i < m.rs.length) (hj : j < m.rs[i].l.length) :
    Ret Try.prog 100 [.int .i64 (i : Int), .int .i64 (j : Int), .pointer (some ⟨b2, 0, none⟩)] w S (iv (ent m.zs i j)) (fun p w => Lz (ent m.zs i j).natAbs p w ∧ nl (ent m.zs i j).natAbs ≤ 2) := by
  obtain ⟨ro, oo, evm, hat⟩ := hm.at_ (show 0 < m.rs.length by omega)
  obtain ⟨rr, orr, evr, hatr⟩ := (hm.2.2 _ (List.getElem_mem hi)).at_ (show 0 < m.rs[i].l.length by omega)
  rw [evm] at h2
  have hr := hat i hi
  rw [evr] at hr
  have hz := hatr j hj
  have hin := (hm.2.2 _ (List.getElem_mem hi)).2.2 _ (List.getElem_mem hj)
  rw [xm_ent hi hj]
  obtain ⟨x, hx⟩ : ∃ x, x = m.rs[i].l[j] := ⟨_, rfl⟩
  rw [← hx] at hz hin ⊢
  have hbd := nl_64 hin
  unfold In64 at hin
  refine ret_of Try.func100 rfl Try.ntmps100 rfl ?_
  refine tr_rseq ?_
  refine sq_alloc rfl fun r5 => ?_
  refine sq_end ?_
  refine tr_rseq ?_
  refine sq_q (qt_load rfl (fun w t => t.atA h2)) rfl ?_
  refine sq_q (qt_move rfl) rfl ?_
  refine sq_q (qt_index (i := i) rfl rfl hi) rfl ?_
  refine sq_q (qt_load rfl (fun w t => t.a1 hr)) rfl ?_
  refine sq_q (qt_move rfl) rfl ?_
  refine sq_q (qt_index (i := j) rfl rfl hj) rfl ?_
  refine sq_q (qt_load (v := .int .i64 x) rfl (fun w t => t.a1 hz)) rfl ?_
  refine sq_call (iv x) (Lz x.natAbs) rfl rfl rfl (fun w t => small_ret x w _ (by omega) (by omega)) fun y => ?_
  refine sq_store 0 rfl rfl rfl rfl (Nat.le_refl 2) rfl rfl ?_
  refine sq_end ?_
  refine tr_ret ?_
  repeat with_reducible first | refine tr_skip ?_ | refine tr_exit ?_ | refine tr_then ?_ | refine tr_inX ?_ | refine tr_thenX ?_ | refine tr_inN ?_ | refine tr_inR ?_ | refine tr_thenR ?_
  exact tr_done y (fun a w s t => results_1 rfl (resv_cell 0 s t rfl rfl rfl)) (fun w h _ _ => ⟨h.2, hbd⟩)
theorem fromints_ret (m : Xm) (w0 : World) (S : Nat → Prop) (hm : m.ok w0) (hl : m.rs.length ≤ 4611686018427387904) (hr : ∀ r ∈ m.rs, r.l.length ≤ 4611686018427387904) :
    Ret Try.prog 57 [m.v] w0 S (optV (keepO m.zs)) (optF 2 (keepO m.zs)) := by
  obtain ⟨o, ho⟩ : ∃ o, o = shp m.zs := ⟨_, rfl⟩
  have hO : keepO m.zs = keepP o m.zs := by rw [ho]; exact (keepP_eq _).symm
  rw [hO]
  clear hO
  refine ret_of Try.func57 rfl Try.ntmps57 rfl ?_
  refine tr_rseq ?_
  refine sq_box rfl rfl fun r1 => ?_
  refine sq_q (qt_assign rfl) rfl ?_
  refine sq_q (qt_assign rfl) rfl ?_
  refine sq_end ?_
  refine tr_rseq ?_
  refine sq_q (qt_load rfl (fun w t => t.atO 0 rfl rfl)) rfl ?_
  refine sq_call (val := fun _ : Unit => shpV o) (F := fun _ _ => True) rfl rfl rfl (fun w t => by rw [ho]; exact shape64_ret m w _ (t.xm hm) hl hr) fun _ => ?_
  refine sq_q (qt_move rfl) rfl ?_
  refine sq_q (qt_extract rfl rfl) rfl ?_
  refine sq_q (qt_extract rfl rfl) rfl ?_
  refine sq_q (qt_extract rfl rfl) rfl ?_
  refine sq_q (qt_assign rfl) rfl ?_
  refine sq_q (qt_assign rfl) rfl ?_
  refine sq_q (qt_assign rfl) rfl ?_
  refine sq_end ?_
  refine tr_seq ?_
  rcases (show o = none ∨ ∃ r c, o = some (r, c) by cases o with | none => exact .inl rfl | some x => exact .inr ⟨x.1, x.2, rfl⟩) with h1 | ⟨r, c, h1⟩
  ·
    subst h1
    rw [show keepP none m.zs = none from rfl]
    refine tr_rseq ?_
    refine sq_q (qt_move rfl) rfl ?_
    refine sq_q (qt_not rfl) rfl ?_
    refine sq_end ?_
    refine tr_ifT rfl ?_
    refine tr_rseq ?_
    refine sq_q (qt_assign rfl) rfl ?_
    refine sq_q (qt_assign rfl) rfl ?_
    refine sq_end ?_
    refine tr_ret ?_
    repeat with_reducible first | refine tr_skip ?_ | refine tr_exit ?_ | refine tr_then ?_ | refine tr_inX ?_ | refine tr_thenX ?_ | refine tr_inN ?_ | refine tr_inR ?_ | refine tr_thenR ?_
    exact tr_done ⟨[], (none, 0)⟩ (fun a w s t => results_2 rfl (resv_tmp s rfl) (resv_tmp s rfl)) (fun w _ _ _ => optF_none _ _)
  ·
    subst h1
    rw [show keepP (some (r, c)) m.zs = some (grid (ent m.zs) r c) from rfl]
    obtain ⟨g1, g2, g3, g4, g5, g6⟩ := xm_shp ho.symm
    refine tr_rseq ?_
    refine sq_q (qt_move rfl) rfl ?_
    refine sq_q (qt_not rfl) rfl ?_
    refine sq_end ?_
    refine tr_ifF rfl ?_
    refine tr_skip ?_
    repeat with_reducible first | refine tr_skip ?_ | refine tr_exit ?_ | refine tr_then ?_ | refine tr_inX ?_ | refine tr_thenX ?_ | refine tr_inN ?_ | refine tr_inR ?_ | refine tr_thenR ?_
    refine tr_rseq ?_
    refine sq_q (qt_move rfl) rfl ?_
    refine sq_q (qt_move rfl) rfl ?_
    refine sq_q (qt_makeFunc rfl) rfl ?_
    refine sq_call Mt.v (fun x w => x.ok 2 w ∧ x.zs = grid (ent m.zs) r c ∧ x.can) rfl rfl rfl (fun w t => ?_) fun x => ?_
    · exact build_ret r c 2 (ent m.zs) 100 [] [.pointer (some ⟨r1, 0, none⟩)] w _ (by omega) (by omega) (fun i j w' S' hi hj hbel => fromints1_ret m r1 i j w' S' ((t.xm hm).below hbel) ((t.atO 0 rfl rfl).below hbel) (by omega) (by rw [g6 _ (List.getElem_mem _)]; exact hj))
    refine sq_q (qt_assign rfl) rfl ?_
    refine sq_q (qt_assign rfl) rfl ?_
    refine sq_end ?_
    refine tr_ret ?_
    repeat with_reducible first | refine tr_skip ?_ | refine tr_exit ?_ | refine tr_then ?_ | refine tr_inX ?_ | refine tr_thenX ?_ | refine tr_inN ?_ | refine tr_inR ?_ | refine tr_thenR ?_
    exact tr_done x (fun a w s t => results_2 rfl (resv_tmp s rfl) (resv_tmp s rfl)) (fun w h _ _ => h.2)
end Go.Qk
end
section
set_option linter.unusedVariables false
namespace Go.Qk
open Go Go.Proofs Go.RowKit
set_option maxRecDepth 100000
set_option maxHeartbeats 4000000
theorem toints_ret (m : Mt) (B : Nat) (w0 : World) (S : Nat → Prop) (hm : m.ok B w0) (hB : B ≤ 35184372088832) (hl : m.rs.length ≤ 35184372088832) (hr : ∀ r ∈ m.rs, r.l.length ≤ 35184372088832) :
    Ret Try.prog 54 [m.v] w0 S (xmV (tiO m.zs)) (xmF (tiO m.zs)) := by
  obtain ⟨o, ho⟩ : ∃ o, o = shp m.zs := ⟨_, rfl⟩
  have hO : tiO m.zs = tiP o m.zs := by rw [ho]; rfl
  rw [hO]
  clear hO
  refine ret_of Try.func54 rfl Try.ntmps54 rfl ?_
  refine tr_rseq ?_
  refine sq_q (qt_assign rfl) rfl ?_
  refine sq_q (qt_assign rfl) rfl ?_
  refine sq_end ?_
  refine tr_rseq ?_
  refine sq_q (qt_move rfl) rfl ?_
  refine sq_call (val := fun _ : Unit => shpV o) (F := fun _ _ => True) rfl rfl rfl (fun w t => by rw [ho]; exact shape_ret m B w _ (t.mt hm) hl hr) fun _ => ?_
  refine sq_q (qt_move rfl) rfl ?_
  refine sq_q (qt_extract rfl rfl) rfl ?_
  refine sq_q (qt_extract rfl rfl) rfl ?_
  refine sq_q (qt_extract rfl rfl) rfl ?_
  refine sq_q (qt_assign rfl) rfl ?_
  refine sq_q (qt_assign rfl) rfl ?_
  refine sq_q (qt_assign rfl) rfl ?_
  refine sq_end ?_
  refine tr_seq ?_
  rcases (show o = none ∨ ∃ r c, o = some (r, c) by cases o with | none => exact .inl rfl | some x => exact .inr ⟨x.1, x.2, rfl⟩) with h1 | ⟨r, c, h1⟩
  ·
    subst h1
    rw [show tiP none m.zs = none from rfl]
    refine tr_rseq ?_
    refine sq_q (qt_move rfl) rfl ?_
    refine sq_q (qt_not rfl) rfl ?_
    refine sq_end ?_
    refine tr_ifT rfl ?_
    refine tr_rseq ?_
    refine sq_q (qt_assign rfl) rfl ?_
    refine sq_q (qt_assign rfl) rfl ?_
    refine sq_end ?_
    refine tr_ret ?_
    repeat with_reducible first | refine tr_skip ?_ | refine tr_exit ?_ | refine tr_then ?_ | refine tr_inX ?_ | refine tr_thenX ?_ | refine tr_inN ?_ | refine tr_inR ?_ | refine tr_thenR ?_
    exact tr_done ⟨[], (none, 0)⟩ (fun a w s t => results_2 rfl (resv_tmp s rfl) (resv_tmp s rfl)) (fun w _ _ _ => xmF_none _)
  ·
    subst h1
    obtain ⟨g1, g2, g3, g4, g5, g6⟩ := mt_shp ho.symm
    obtain ⟨ro, oo, evm, hat⟩ := hm.at_ (show 0 < m.rs.length by omega)
    refine tr_rseq ?_
    refine sq_q (qt_move rfl) rfl ?_
    refine sq_q (qt_not rfl) rfl ?_
    refine sq_end ?_
    refine tr_ifF rfl ?_
    refine tr_skip ?_
    repeat with_reducible first | refine tr_skip ?_ | refine tr_exit ?_ | refine tr_then ?_ | refine tr_inX ?_ | refine tr_thenX ?_ | refine tr_inN ?_ | refine tr_inR ?_ | refine tr_thenR ?_
    refine tr_rseq ?_
    refine sq_q (qt_move rfl) rfl ?_
    refine sq_make (c := r) rfl rfl (by omega) (by omega) rfl fun r21 => ?_
    refine sq_q (qt_assign rfl) rfl ?_
    refine sq_end ?_
    refine tr_seq ?_
    refine tr_rseq ?_
    refine sq_q (qt_move rfl) rfl ?_
    refine sq_q (qt_len rfl) rfl ?_
    refine sq_q (qt_move rfl) rfl ?_
    refine sq_end ?_
    refine tr_block ?_
    refine tr_loop (fun done : List Xr => done.length ≤ r ∧ (done.map Xr.l = (List.range done.length).map fun i => (List.range c).map fun j => ent m.zs i j) ∧ ∀ i, i < done.length → ∀ j, j < c → In64 (ent m.zs i j))
      (fun done => [(0, .slice (some ⟨ro, oo, none⟩) m.rs.length m.p.2), (5, .int .i64 (c : Int)), (7, .slice (some ⟨r21, 0, none⟩) r r), (23, .int .i64 (r : Int)), (24, .int .i64 (done.length : Int))])
      (fun done => [(r21, .cells (done.map Xr.v ++ List.replicate (r - done.length) (Value.slice none 0 0)).toArray 71 (0, 0))])
      (fun done w => ∀ q ∈ done, q.ok w) (fun done => r - done.length) [] ⟨Nat.zero_le _, rfl, fun i h => absurd h (Nat.not_lt_zero _)⟩ ⟨congrArg some evm, rfl, rfl, rfl, rfl, trivial⟩ (by rw [made_s]; simp) (fun _ _ => by simp) ?_
    rintro done ⟨hle, hzd, hfit⟩
    refine tr_rseq ?_
    refine sq_q (qt_bin rfl rfl bin_lss) rfl ?_
    refine sq_end ?_
    refine tr_seq ?_
    refine tr_if rfl (fun hc => ?_) (fun hc => ?_)
    ·
      have hlt : done.length < r := by have := of_decide_eq_true hc; omega
      have hmi : done.length < m.rs.length := by omega
      have hcl := g6 _ (List.getElem_mem hmi)
      obtain ⟨rr, orr, evr, hatr⟩ := (hm.2.2 _ (List.getElem_mem hmi)).at_ (show 0 < m.rs[done.length].l.length by omega)
      have hrw := hat done.length hmi
      rw [evr] at hrw
      refine tr_skip ?_
      repeat with_reducible first | refine tr_skip ?_ | refine tr_exit ?_ | refine tr_then ?_ | refine tr_inX ?_ | refine tr_thenX ?_ | refine tr_inN ?_ | refine tr_inR ?_ | refine tr_thenR ?_
      refine tr_seq ?_
      refine tr_block ?_
      refine tr_rseq ?_
      refine sq_q (qt_move rfl) rfl ?_
      refine sq_q (qt_assign rfl) rfl ?_
      refine sq_end ?_
      refine tr_rseq ?_
      refine sq_q (qt_move rfl) rfl ?_
      refine sq_q (qt_move rfl) rfl ?_
      refine sq_q (qt_move rfl) rfl ?_
      refine sq_make (c := c) rfl rfl (by omega) (by omega) rfl fun r30 => ?_
      refine sq_q (qt_index (i := done.length) rfl rfl hlt) rfl ?_
      refine sq_store 1 rfl rfl rfl rfl (by simp [Value.cells]; omega) rfl rfl ?_
      refine sq_end ?_
      obtain ⟨kk, hkk⟩ : ∃ kk, r - done.length = kk + 1 := ⟨r - done.length - 1, by omega⟩
      have hkk' : r - (done.length + 1) = kk := by omega
      have hset : wr (done.map Xr.v ++ List.replicate (kk + 1) (Value.slice none 0 0)) (0 + done.length * 1) [Value.slice (some ⟨r30, 0, none⟩) c c] = (done.map Xr.v ++ [Value.slice (some ⟨r30, 0, none⟩) c c]) ++ List.replicate kk (Value.slice none 0 0) := by
        have := next_set (done.map Xr.v) kk (Value.slice none 0 0) (.slice (some ⟨r30, 0, none⟩) c c)
        rw [List.length_map] at this
        rw [← this, Nat.zero_add, Nat.mul_one]
        rfl
      have hget : ((done.map Xr.v ++ [Value.slice (some ⟨r30, 0, none⟩) c c]) ++ List.replicate kk (Value.slice none 0 0))[done.length]? = some (.slice (some ⟨r30, 0, none⟩) c c) := by simp [List.getElem?_append]
      refine tr_own [(r30, .cells (i64s (List.replicate c 0)).toArray 2 (0, 0)), (r21, .cells ((done.map Xr.v ++ [Value.slice (some ⟨r30, 0, none⟩) c c]) ++ List.replicate kk (Value.slice none 0 0)).toArray 71 (0, 0))] (by rw [← hset, ← hkk, ← made_i64]; rfl) ?_
      refine tr_rseq ?_
      refine sq_q (qt_move rfl) rfl ?_
      refine sq_q (qt_move rfl) rfl ?_
      refine sq_q (qt_index (i := done.length) rfl rfl hlt) rfl ?_
      refine sq_q (qt_load rfl (fun w t => t.o1 1 rfl hget)) rfl ?_
      refine sq_q (qt_len rfl) rfl ?_
      refine sq_q (qt_move rfl) rfl ?_
      refine sq_end ?_
      refine tr_block ?_
      refine tr_loop (fun vs : List Int => vs.length ≤ c ∧ (vs = (List.range vs.length).map fun j => ent m.zs done.length j) ∧ ∀ j, j < vs.length → In64 (ent m.zs done.length j))
        (fun vs => [(0, .slice (some ⟨ro, oo, none⟩) m.rs.length m.p.2), (5, .int .i64 (c : Int)), (7, .slice (some ⟨r21, 0, none⟩) r r), (8, .int .i64 (done.length : Int)), (23, .int .i64 (r : Int)), (24, .int .i64 (done.length : Int)), (36, .int .i64 (c : Int)), (37, .int .i64 (vs.length : Int))])
        (fun vs => [(r30, .cells (i64s (vs ++ List.replicate (c - vs.length) 0)).toArray 2 (0, 0)), (r21, .cells ((done.map Xr.v ++ [Value.slice (some ⟨r30, 0, none⟩) c c]) ++ List.replicate kk (Value.slice none 0 0)).toArray 71 (0, 0))])
        (fun vs w => ∀ q ∈ done, q.ok w) (fun vs => c - vs.length) [] ⟨Nat.zero_le _, rfl, fun j h => absurd h (Nat.not_lt_zero _)⟩ ⟨rfl, rfl, rfl, rfl, rfl, rfl, rfl, rfl, trivial⟩ rfl (fun _ h => h) ?_
      rintro vs ⟨hvl, hvs, hvf⟩
      refine tr_rseq ?_
      refine sq_q (qt_bin rfl rfl bin_lss) rfl ?_
      refine sq_end ?_
      refine tr_seq ?_
      refine tr_if rfl (fun hc => ?_) (fun hc => ?_)
      ·
        have hlt2 : vs.length < c := by have := of_decide_eq_true hc; omega
        have hjl : vs.length < m.rs[done.length].l.length := by omega
        obtain ⟨hz0, hz1⟩ := hatr _ hjl
        have hzok := (hm.2.2 _ (List.getElem_mem hmi)).2.2 _ (List.getElem_mem hjl)
        have hze := mt_ent hmi hjl
        obtain ⟨z, hzz⟩ : ∃ z, z = m.rs[done.length].l[vs.length] := ⟨_, rfl⟩
        rw [← hzz] at hz0 hz1 hzok hze
        refine tr_skip ?_
        repeat with_reducible first | refine tr_skip ?_ | refine tr_exit ?_ | refine tr_then ?_ | refine tr_inX ?_ | refine tr_thenX ?_ | refine tr_inN ?_ | refine tr_inR ?_ | refine tr_thenR ?_
        refine tr_seq ?_
        refine tr_block ?_
        refine tr_rseq ?_
        refine sq_q (qt_move rfl) rfl ?_
        refine sq_q (qt_assign rfl) rfl ?_
        refine sq_end ?_
        rcases Decidable.em (In64 z.z) with hin | hin
        ·
          refine tr_rseq ?_
          refine sq_q (qt_move rfl) rfl ?_
          refine sq_q (qt_move rfl) rfl ?_
          refine sq_q (qt_index (i := done.length) rfl rfl hmi) rfl ?_
          refine sq_q (qt_load rfl (fun w t => t.a1 hrw)) rfl ?_
          refine sq_q (qt_move rfl) rfl ?_
          refine sq_q (qt_index (i := vs.length) rfl rfl hjl) rfl ?_
          refine sq_q (qt_load2 rfl (fun w t => t.atA hz0) (fun w t => t.atA hz1)) rfl ?_
          refine sq_call (val := fun _ : Unit => .tuple #[.int .i64 z.z, .bool true]) (F := fun _ _ => True) rfl rfl rfl (fun w t => by have h := fun S' => int64_zd (S := S') (t.zd hzok) hB; unfold int64V at h; rw [if_pos hin, decide_eq_true hin] at h; exact h _) fun _ => ?_
          refine sq_q (qt_move rfl) rfl ?_
          refine sq_q (qt_extract rfl rfl) rfl ?_
          refine sq_q (qt_extract rfl rfl) rfl ?_
          refine sq_q (qt_assign rfl) rfl ?_
          refine sq_q (qt_assign rfl) rfl ?_
          refine sq_end ?_
          refine tr_seq ?_
          refine tr_rseq ?_
          refine sq_q (qt_move rfl) rfl ?_
          refine sq_q (qt_not rfl) rfl ?_
          refine sq_end ?_
          refine tr_ifF rfl ?_
          refine tr_skip ?_
          repeat with_reducible first | refine tr_skip ?_ | refine tr_exit ?_ | refine tr_then ?_ | refine tr_inX ?_ | refine tr_thenX ?_ | refine tr_inN ?_ | refine tr_inR ?_ | refine tr_thenR ?_
          refine tr_region ?_
          refine sq_q (qt_move rfl) rfl ?_
          refine sq_q (qt_move rfl) rfl ?_
          refine sq_q (qt_index (i := done.length) rfl rfl hlt) rfl ?_
          refine sq_q (qt_load rfl (fun w t => t.o1 1 rfl hget)) rfl ?_
          refine sq_q (qt_move rfl) rfl ?_
          refine sq_q (qt_move rfl) rfl ?_
          refine sq_q (qt_index (i := vs.length) rfl rfl hlt2) rfl ?_
          refine sq_store 0 rfl rfl rfl rfl (show 0 + vs.length * 1 + 1 ≤ (i64s (vs ++ List.replicate (c - vs.length) 0)).length by simp [i64s]; omega) rfl rfl ?_
          refine sq_nil ?_
          repeat with_reducible first | refine tr_skip ?_ | refine tr_exit ?_ | refine tr_then ?_ | refine tr_inX ?_ | refine tr_thenX ?_ | refine tr_inN ?_ | refine tr_inR ?_ | refine tr_thenR ?_
          refine tr_region ?_
          refine sq_q (qt_bin rfl rfl (bin_addI (by omega) (by omega))) rfl ?_
          refine sq_q (qt_move rfl) rfl ?_
          refine sq_nil ?_
          repeat with_reducible first | refine tr_skip ?_ | refine tr_exit ?_ | refine tr_then ?_ | refine tr_inX ?_ | refine tr_thenX ?_ | refine tr_inN ?_ | refine tr_inR ?_ | refine tr_thenR ?_
          refine tr_own [(r30, .cells (i64s ((vs ++ [z.z]) ++ List.replicate (c - (vs.length + 1)) 0)).toArray 2 (0, 0)), (r21, .cells ((done.map Xr.v ++ [Value.slice (some ⟨r30, 0, none⟩) c c]) ++ List.replicate kk (Value.slice none 0 0)).toArray 71 (0, 0))] ?_ ?_
          · refine own1c ?_
            have e : c - vs.length = (c - (vs.length + 1)) + 1 := by omega
            have := next_set vs (c - (vs.length + 1)) 0 z.z
            rw [← e] at this
            rw [← this, ← i64s_set, Nat.zero_add, Nat.mul_one]
            rfl
          refine tr_round (vs ++ [z.z]) ⟨by simp; omega, ?_, fun j hj => ?_⟩ (by simp; omega) ⟨rfl, rfl, rfl, rfl, rfl, rfl, rfl, by rw [List.length_append]; rfl, trivial⟩ (by rw [List.length_append, List.length_singleton]) (fun _ h => h.1)
          · rw [List.length_append, List.length_singleton, List.range_succ, List.map_append, ← hvs, ← hze]
            rfl
          · rw [List.length_append, List.length_singleton] at hj
            by_cases h : j = vs.length
            · rw [h, hze]; exact hin
            · exact hvf j (by omega)
        ·
          refine tr_rseq ?_
          refine sq_q (qt_move rfl) rfl ?_
          refine sq_q (qt_move rfl) rfl ?_
          refine sq_q (qt_index (i := done.length) rfl rfl hmi) rfl ?_
          refine sq_q (qt_load rfl (fun w t => t.a1 hrw)) rfl ?_
          refine sq_q (qt_move rfl) rfl ?_
          refine sq_q (qt_index (i := vs.length) rfl rfl hjl) rfl ?_
          refine sq_q (qt_load2 rfl (fun w t => t.atA hz0) (fun w t => t.atA hz1)) rfl ?_
          refine sq_call (val := fun _ : Unit => .tuple #[.int .i64 0, .bool false]) (F := fun _ _ => True) rfl rfl rfl (fun w t => by have h := fun S' => int64_zd (S := S') (t.zd hzok) hB; unfold int64V at h; rw [if_neg hin, decide_eq_false hin] at h; exact h _) fun _ => ?_
          refine sq_q (qt_move rfl) rfl ?_
          refine sq_q (qt_extract rfl rfl) rfl ?_
          refine sq_q (qt_extract rfl rfl) rfl ?_
          refine sq_q (qt_assign rfl) rfl ?_
          refine sq_q (qt_assign rfl) rfl ?_
          refine sq_end ?_
          refine tr_seq ?_
          refine tr_rseq ?_
          refine sq_q (qt_move rfl) rfl ?_
          refine sq_q (qt_not rfl) rfl ?_
          refine sq_end ?_
          refine tr_ifT rfl ?_
          refine tr_rseq ?_
          refine sq_q (qt_assign rfl) rfl ?_
          refine sq_q (qt_assign rfl) rfl ?_
          refine sq_end ?_
          refine tr_ret ?_
          repeat with_reducible first | refine tr_skip ?_ | refine tr_exit ?_ | refine tr_then ?_ | refine tr_inX ?_ | refine tr_thenX ?_ | refine tr_inN ?_ | refine tr_inR ?_ | refine tr_thenR ?_
          rw [tiP_none hlt hlt2 (by rw [hze]; exact hin)]
          exact tr_done ⟨[], (none, 0)⟩ (fun a w s t => results_2 rfl (resv_tmp s rfl) (resv_tmp s rfl)) (fun w _ _ _ => xmF_none _)
      ·
        have hve : vs.length = c := by have := of_decide_eq_false hc; omega
        refine tr_exit ?_
        repeat with_reducible first | refine tr_skip ?_ | refine tr_exit ?_ | refine tr_then ?_ | refine tr_inX ?_ | refine tr_thenX ?_ | refine tr_inN ?_ | refine tr_inR ?_ | refine tr_thenR ?_
        refine tr_region ?_
        refine sq_q (qt_bin rfl rfl (bin_addI (by omega) (by omega))) rfl ?_
        refine sq_q (qt_move rfl) rfl ?_
        refine sq_nil ?_
        repeat with_reducible first | refine tr_skip ?_ | refine tr_exit ?_ | refine tr_then ?_ | refine tr_inX ?_ | refine tr_thenX ?_ | refine tr_inN ?_ | refine tr_inR ?_ | refine tr_thenR ?_
        refine tr_retire ?_
        refine tr_round (done ++ [⟨vs, (some ⟨r30, 0, none⟩, c)⟩]) ⟨by simp; omega, ?_, fun i hi j hj => ?_⟩ (by simp; omega) ⟨rfl, rfl, rfl, rfl, by simp; rfl, trivial⟩ ?_ ?_
        · rw [List.length_append, List.length_singleton, List.range_succ, List.map_append, List.map_append, hzd, List.map_singleton, List.map_singleton]
          congr 2
          rw [← hve]
          exact hvs
        · rw [List.length_append, List.length_singleton] at hi
          by_cases h : i = done.length
          · rw [h]; exact hvf j (by omega)
          · exact hfit i (by omega) j hj
        · rw [List.length_append, List.length_singleton, hkk', List.map_append]
          simp only [List.map_cons, List.map_nil, Xr.v, hve]
        · rintro w ⟨h2, h3⟩ q hq
          rcases List.mem_append.1 hq with h | h
          · exact h2 q h
          · rw [List.mem_singleton.1 h]
            rw [hve, Nat.sub_self, List.replicate_zero, List.append_nil] at h3
            refine ⟨Rd.own h3, Nat.le_of_eq hve, fun a ha => ?_⟩
            have ha : a ∈ vs := ha
            rw [hvs] at ha
            obtain ⟨j, hj, rfl⟩ := List.mem_map.1 ha
            exact hvf j (List.mem_range.1 hj)
    ·
      have hlr : done.length = r := by have := of_decide_eq_false hc; omega
      have hall : tiP (some (r, c)) m.zs = some (grid (ent m.zs) r c) := tiP_some fun i hi j hj => hfit i (by omega) j hj
      rw [hall]
      refine tr_exit ?_
      repeat with_reducible first | refine tr_skip ?_ | refine tr_exit ?_ | refine tr_then ?_ | refine tr_inX ?_ | refine tr_thenX ?_ | refine tr_inN ?_ | refine tr_inR ?_ | refine tr_thenR ?_
      refine tr_rseq ?_
      refine sq_q (qt_move rfl) rfl ?_
      refine sq_q (qt_assign rfl) rfl ?_
      refine sq_q (qt_assign rfl) rfl ?_
      refine sq_end ?_
      refine tr_ret ?_
      repeat with_reducible first | refine tr_skip ?_ | refine tr_exit ?_ | refine tr_then ?_ | refine tr_inX ?_ | refine tr_thenX ?_ | refine tr_inN ?_ | refine tr_inR ?_ | refine tr_thenR ?_
      refine tr_done ⟨done, (some ⟨r21, 0, none⟩, r)⟩ (fun a w s t => results_2 rfl (resv_tmp s ?_) (resv_tmp s rfl)) (fun w h ho _ => ⟨⟨?_, Nat.le_of_eq hlr, h⟩, ?_⟩)
      · show some (Value.slice (some ⟨r21, 0, none⟩) r r) = some (Xm.v ⟨done, (some ⟨r21, 0, none⟩, r)⟩)
        unfold Xm.v
        rw [hlr]
      · have := Rd.own (ho _ (ownAt_mem (i := 0) rfl))
        rwa [hlr, Nat.sub_self, List.replicate_zero, List.append_nil] at this
      · show done.map Xr.l = _
        rw [hzd, hlr]
        rfl
end Go.Qk
end
section
set_option linter.unusedVariables false
namespace Go.Qk
open Go Go.Proofs Go.RowKit
section
variable {P : Program} {n : Nat} {w0 w : World} {S : Nat → Prop} {E : Env} {own : Own} {R : World → Prop}
theorem tr_retireAll {f : Act → World → Prop} : ∀ {own : Own} {R : World → Prop}, Tr n w0 [] S E [] (fun w => R w ∧ ∀ p ∈ own, w.heap[p.1]? = some p.2) f → Tr n w0 [] S E own R f
  | [], R, h => fun a w s t => h a w s (t.mono fun w h => ⟨h, fun _ hp => nomatch hp⟩)
  | (r, o) :: own, R, h => tr_retire (tr_retireAll fun a w s t => h a w s (t.mono fun w h => ⟨h.1.1, fun p hp => by
      rcases List.mem_cons.1 hp with h' | h'
      · rw [h']; exact h.1.2
      · exact h.2 p h'⟩))
theorem bin_eqT {t : TypeId} (ht : P.underlying t = some .bool) {a b : Bool} (h : a = b) : Bin P .eql t (.bool a) (.bool b) (.bool true) := by
  subst h
  exact bin_eqlBr ht a
end
theorem zcs_take (l : List Zd) (k : Nat) : zcs (l.take k) = (zcs l).take (k * 2) := by
  induction l generalizing k with
  | nil => simp [zcs]
  | cons z l ih =>
    cases k with
    | zero => simp [zcs]
    | succ k =>
      rw [List.take_succ_cons, zcs_cons, zcs_cons, ih, show (k + 1) * 2 = k * 2 + 1 + 1 by omega, List.take_succ_cons, List.take_succ_cons]
/-- a matrix of zeros, its row i cut to k entries -/
def cutRw (q : Wr) (k : Nat) : Rw := ⟨q.2.take k, (some ⟨q.1, 0, none⟩, q.2.length)⟩
def cutMt (o : Nat) (qs : List Wr) (i : Nat) (q : Wr) (k : Nat) : Mt := ⟨(qs.map mrd).set i (cutRw q k), (some ⟨o, 0, none⟩, qs.length)⟩
theorem cutMt_ok {o : Nat} {qs : List Wr} {i k : Nat} {q : Wr} {w : World} (hq : qs[i]? = some q) (hk : k ≤ q.2.length)
    (ho : w.heap[o]? = some (.cells ((qs.map mhdr).set i (.slice (some ⟨q.1, 0, none⟩) k q.2.length)).toArray 44 (0, 0))) (hr : ∀ q ∈ qs, w.heap[q.1]? = some (mrow q).2) (hz : ∀ q ∈ qs, ∀ z ∈ q.2, z = z0) : (cutMt o qs i q k).ok 1 w := by
  have hqm := List.mem_of_getElem? hq
  refine ⟨?_, by simp [cutMt], fun r hr' => ?_⟩
  · have := Rd.own ho
    show Rd _ (((qs.map mrd).set i (cutRw q k)).map Rw.v) w
    rw [List.map_set, List.map_map, show Rw.v ∘ mrd = mhdr from rfl]
    have e : (cutRw q k).v = .slice (some ⟨q.1, 0, none⟩) k q.2.length := by simp [cutRw, Rw.v]; omega
    rw [e]
    exact this
  · rcases List.mem_or_eq_of_mem_set hr' with h | h
    · obtain ⟨p, hp, rfl⟩ := List.mem_map.1 h
      exact ⟨Rd.own (hr p hp), Nat.le_refl _, fun z hz' => by rw [hz p hp z hz']; exact z0_ok 1 w⟩
    · rw [h]
      refine ⟨?_, by simp [cutRw]; omega, fun z hz' => by rw [hz q hqm z (List.mem_of_mem_take hz')]; exact z0_ok 1 w⟩
      show Rd _ (zcs (q.2.take k)) w
      rw [zcs_take]
      exact (Rd.own (hr q hqm)).take _
def zeroM (m : Mt) (n : Nat) : Prop := ∀ q ∈ m.rs, q.l.length ≤ n ∧ ∀ z ∈ q.l, z = z0
theorem zeroM.zs {m : Mt} {n : Nat} (h : zeroM m n) : m.zs = m.rs.map fun q => List.replicate q.l.length 0 := by
  unfold Mt.zs Rw.zs
  refine List.map_congr_left fun q hq => ?_
  refine List.eq_replicate_iff.2 ⟨by simp, fun b hb => ?_⟩
  obtain ⟨z, hz, rfl⟩ := List.mem_map.1 hb
  rw [(h q hq).2 z hz]
  rfl
theorem zero_mmt {qs : List Wr} {r c : Nat} (h : qs.map (·.2) = List.replicate r (List.replicate c z0)) : ∀ q ∈ qs, q.2.length = c ∧ ∀ z ∈ q.2, z = z0 := by
  intro q hq
  have e : q.2 = List.replicate c z0 := List.eq_of_mem_replicate (show q.2 ∈ List.replicate r (List.replicate c z0) by rw [← h]; exact List.mem_map.2 ⟨q, hq, rfl⟩)
  rw [e]
  exact ⟨by simp, fun z hz => List.eq_of_mem_replicate hz⟩
theorem ent_zero {m : Mt} {n : Nat} (h : zeroM m n) (i j : Nat) : ent m.zs i j = 0 := by
  rw [h.zs]
  unfold ent
  cases hq : m.rs[i]? with
  | none => simp [List.getD, hq]
  | some q => simp [List.getD, hq, List.getElem?_replicate]; split <;> rfl
theorem tiO_zero {m : Mt} {n : Nat} (h : zeroM m n) : (tiO m.zs).isSome = (shp m.zs).isSome := by
  unfold tiO
  cases hs : shp m.zs with
  | none => rfl
  | some rc =>
    obtain ⟨r, c⟩ := rc
    rw [tiP_some fun i _ j _ => by rw [ent_zero h]; decide]
    rfl
theorem trO_some (L : List (List Int)) : (trO L).isSome = (shp L).isSome := by
  unfold trO
  cases hs : shp L <;> rfl
theorem keepO_some (L : List (List Int)) : (keepO L).isSome = (shp L).isSome := by
  unfold keepO
  cases h : (shp L).isSome
  · rfl
  · rfl
theorem keepO_len (L : List (List Int)) : decide ((((keepO L).getD []).length : Int) > 0) = (shp L).isSome := by
  unfold keepO
  cases h : shp L with
  | none => rfl
  | some rc =>
    obtain ⟨r, c⟩ := rc
    obtain ⟨h1, h2, _⟩ := shp_inv h
    simp
    show 0 < L.length
    omega
theorem eqO_self (L : List (List Int)) : eqO L L = (shp L).isSome := by
  unfold eqO
  cases h : (shp L).isSome
  · exact decide_eq_false fun h' => nomatch h'.1
  · exact decide_eq_true ⟨rfl, rfl⟩
theorem mt_zs_row {m : Mt} {L : List (List Int)} (h : m.zs = L) : m.rs.length = L.length := by rw [← h, m.zs_len]
end Go.Qk
end
section
set_option linter.unusedVariables false
namespace Go.Qk
open Go Go.Proofs Go.RowKit
set_option maxRecDepth 100000
set_option maxHeartbeats 4000000
theorem matrixSizes_ret (a0 a1 : Int) (b2 : Bool) (w0 : World) (S : Nat → Prop) (h0 : 0 ≤ a0 ∧ a0 < 256) (h1 : 0 ≤ a1 ∧ a1 < 256) :
    Ret Try.prog 19 [.int .u8 a0, .int .u8 a1, .bool b2] w0 S (fun _ : Unit => .bool true) (fun _ _ => True) := by
  obtain ⟨r, hr⟩ : ∃ r : Nat, r = (a0 % 19).toNat := ⟨_, rfl⟩
  obtain ⟨c, hc0⟩ : ∃ c : Nat, c = (a1 % 19).toNat := ⟨_, rfl⟩
  have hri : a0 % 19 = (r : Int) := by omega
  have hci : a1 % 19 = (c : Int) := by omega
  have hr18 : r ≤ 18 := by omega
  have hc18 : c ≤ 18 := by omega
  refine ret_of Try.func19 rfl Try.ntmps19 rfl ?_
  refine tr_rseq ?_
  refine sq_q (qt_assign rfl) rfl ?_
  refine sq_end ?_
  refine tr_rseq ?_
  refine sq_q (qt_move rfl) rfl ?_
  refine sq_q (qt_toI rfl (by omega) (by omega)) rfl ?_
  refine sq_q (qt_bin rfl rfl (bin_rem (by decide) (by omega))) rfl ?_
  rw [hri]
  refine sq_q (qt_move rfl) rfl ?_
  refine sq_q (qt_toI rfl (by omega) (by omega)) rfl ?_
  refine sq_q (qt_bin rfl rfl (bin_rem (by decide) (by omega))) rfl ?_
  rw [hci]
  refine sq_q (qt_assign rfl) rfl ?_
  refine sq_q (qt_assign rfl) rfl ?_
  refine sq_end ?_
  refine tr_rseq ?_
  refine sq_q (qt_move rfl) rfl ?_
  refine sq_q (qt_move rfl) rfl ?_
  refine sq_call (fun x : Nat × List Wr => .slice (some ⟨x.1, 0, none⟩) r r) (fun x w' => Fresh w0.heap.size (mown x.1 x.2) w' ∧ x.2.map (·.2) = List.replicate r (List.replicate c z0)) rfl rfl rfl (fun w t => zero_call t r c (by omega) (by omega)) fun x => ?_
  refine sq_q (qt_assign rfl) rfl ?_
  refine sq_end ?_
  obtain ⟨o, qs⟩ := x
  refine tr_have (fun w t => t.r.2.2) fun hqs => ?_
  refine tr_adopt0 (mown o qs) (fun w h => h.2.1) ?_
  replace hqs : qs.map (·.2) = List.replicate r (List.replicate c z0) := hqs
  have hlen : qs.length = r := by have := congrArg List.length hqs; simpa using this
  have hzq := zero_mmt hqs
  refine tr_cut (ι := Mt) (fun m => m.p = (some ⟨o, 0, none⟩, r) ∧ m.rs.length = r ∧ zeroM m 18) (fun m => [(7, .int .i64 (r : Int)), (8, .int .i64 (c : Int)), (9, .slice (some ⟨o, 0, none⟩) r r)]) (fun _ => []) (fun m w => m.ok 1 w) ?_ ?_
  ·
    refine tr_cut (ι := Bool) (fun b => b = true → 1 < r ∧ 0 < c) (fun b => [(7, .int .i64 (r : Int)), (8, .int .i64 (c : Int)), (9, .slice (some ⟨o, 0, none⟩) r r), (38, .bool b)]) (fun _ => mown o qs) (fun _ _ => True) ?_ (fun cc hb => ?_)
    · refine tr_region ?_
      refine sq_q (qt_move rfl) rfl ?_
      refine sq_q (qt_move rfl) rfl ?_
      cases b2 with
      | false =>
        refine sq_gF rfl rfl rfl rfl ?_
        refine sq_gF rfl rfl rfl rfl ?_
        refine sq_q (qt_pick rfl rfl) rfl ?_
        refine sq_q (qt_move rfl) rfl ?_
        refine sq_gF rfl rfl rfl rfl ?_
        refine sq_gF rfl rfl rfl rfl ?_
        refine sq_q (qt_pick rfl rfl) rfl ?_
        refine sq_end ?_
        exact tr_mid false (fun h => nomatch h) ⟨rfl, rfl, rfl, rfl, trivial⟩ rfl (fun _ _ => trivial)
      | true =>
        refine sq_gT rfl rfl ?_
        refine sq_q (qt_move rfl) rfl ?_
        refine sq_gT rfl rfl ?_
        rcases (by omega : 1 < r ∨ ¬ 1 < r) with h | h
        · refine sq_q (qt_bin rfl rfl (bT bin_gtr (by omega))) rfl ?_
          refine sq_q (qt_pick rfl rfl) rfl ?_
          refine sq_q (qt_move rfl) rfl ?_
          refine sq_gT rfl rfl ?_
          refine sq_q (qt_move rfl) rfl ?_
          refine sq_gT rfl rfl ?_
          refine sq_q (qt_bin rfl rfl bin_gtr) rfl ?_
          refine sq_q (qt_pick rfl rfl) rfl ?_
          refine sq_end ?_
          exact tr_mid (decide ((c : Int) > 0)) (fun h' => ⟨h, by have := of_decide_eq_true h'; omega⟩) ⟨rfl, rfl, rfl, rfl, trivial⟩ rfl (fun _ _ => trivial)
        · refine sq_q (qt_bin rfl rfl (bF bin_gtr (by omega))) rfl ?_
          refine sq_q (qt_pick rfl rfl) rfl ?_
          refine sq_q (qt_move rfl) rfl ?_
          refine sq_gF rfl rfl rfl rfl ?_
          refine sq_gF rfl rfl rfl rfl ?_
          refine sq_q (qt_pick rfl rfl) rfl ?_
          refine sq_end ?_
          exact tr_mid false (fun h => nomatch h) ⟨rfl, rfl, rfl, rfl, trivial⟩ rfl (fun _ _ => trivial)
    refine tr_if rfl (fun hc => ?_) (fun hc => ?_)
    ·
      obtain ⟨hr2, hc2⟩ := hb hc
      obtain ⟨q, hq⟩ : ∃ q, qs[r - 1]? = some q := ⟨_, List.getElem?_eq_getElem (show r - 1 < qs.length by omega)⟩
      obtain ⟨hql, hqz⟩ := hzq q (List.mem_of_getElem? hq)
      refine tr_region ?_
      refine sq_q (qt_move rfl) rfl ?_
      refine sq_q (qt_move rfl) rfl ?_
      refine sq_q (qt_bin rfl rfl (bin_subI (by omega) (by omega))) rfl ?_
      rw [show (r : Int) - 1 = ((r - 1 : Nat) : Int) by omega]
      refine sq_q (qt_move rfl) rfl ?_
      refine sq_q (qt_move rfl) rfl ?_
      refine sq_q (qt_bin rfl rfl (bin_subI (by omega) (by omega))) rfl ?_
      rw [show (r : Int) - 1 = ((r - 1 : Nat) : Int) by omega]
      refine sq_q (qt_index (i := r - 1) rfl rfl (by omega)) rfl ?_
      refine sq_q (qt_load (v := .slice (some ⟨q.1, 0, none⟩) q.2.length q.2.length) rfl (fun w t => t.o1 0 rfl (mout_get hq))) rfl ?_
      refine sq_q (qt_move rfl) rfl ?_
      refine sq_q (qt_bin rfl rfl (bin_subI (by omega) (by omega))) rfl ?_
      rw [show (c : Int) - 1 = ((c - 1 : Nat) : Int) by omega]
      refine sq_q (qt_sliceH (h := c - 1) rfl rfl (by omega)) rfl ?_
      refine sq_q (qt_index (i := r - 1) rfl rfl (by omega)) rfl ?_
      refine sq_store 0 rfl rfl rfl rfl (show 0 + (r - 1) * 1 + 1 ≤ (qs.map mhdr ++ List.replicate 0 (Value.slice none 0 0)).length by simp; omega) rfl rfl ?_
      refine sq_nil ?_
      repeat with_reducible first | refine tr_skip ?_ | refine tr_exit ?_ | refine tr_then ?_ | refine tr_inX ?_ | refine tr_thenX ?_ | refine tr_inN ?_ | refine tr_inR ?_ | refine tr_thenR ?_
      refine tr_own ((o, .cells ((qs.map mhdr).set (r - 1) (.slice (some ⟨q.1, 0, none⟩) (c - 1) q.2.length)).toArray 44 (0, 0)) :: qs.map mrow) (by
        show (o, Obj.cells (wr (qs.map mhdr ++ List.replicate 0 (Value.slice none 0 0)) (0 + (r - 1) * 1) [.slice (some ⟨q.1, 0, none⟩) (c - 1) q.2.length]).toArray 44 (0, 0)) :: qs.map mrow = _
        rw [List.replicate_zero, List.append_nil, Nat.zero_add, Nat.mul_one]
        rfl) ?_
      refine tr_retireAll ?_
      refine tr_mid (cutMt o qs (r - 1) q (c - 1)) ⟨by simp [cutMt, hlen], by simp [cutMt, hlen], fun y hy => ?_⟩ ⟨rfl, rfl, rfl, trivial⟩ rfl (fun w h => cutMt_ok hq (by omega) (h.2 _ (List.mem_cons_self ..)) (fun p hp => h.2 (mrow p) (List.mem_cons_of_mem _ (List.mem_map.2 ⟨p, hp, rfl⟩))) (fun p hp => (hzq p hp).2))
      rcases List.mem_or_eq_of_mem_set hy with h | h
      · obtain ⟨p, hp, rfl⟩ := List.mem_map.1 h
        have h' := hzq p hp
        exact ⟨by show p.2.length ≤ 18; omega, h'.2⟩
      · rw [h]
        exact ⟨by show (q.2.take (c - 1)).length ≤ 18; rw [List.length_take]; omega, fun z hz => hqz z (List.mem_of_mem_take hz)⟩
    ·
      refine tr_skip ?_
      repeat with_reducible first | refine tr_skip ?_ | refine tr_exit ?_ | refine tr_then ?_ | refine tr_inX ?_ | refine tr_thenX ?_ | refine tr_inN ?_ | refine tr_inR ?_ | refine tr_thenR ?_
      refine tr_retireAll ?_
      refine tr_mid (mmt o qs) ⟨by simp [mmt, hlen], by simp [mmt, hlen], fun y hy => ?_⟩ ⟨rfl, rfl, rfl, trivial⟩ rfl (fun w h => mmt_ok h.2 fun q hq z hz => by rw [(hzq q hq).2 z hz]; exact z0_ok 1 w)
      obtain ⟨p, hp, rfl⟩ := List.mem_map.1 hy
      have h' := hzq p hp
      exact ⟨by show p.2.length ≤ 18; omega, h'.2⟩
  ·
    rintro m ⟨hmp, hml, hmz⟩
    have em : m.v = .slice (some ⟨o, 0, none⟩) r r := by unfold Mt.v; rw [hmp, hml]
    have em2 : m.v = .slice (some ⟨o, 0, none⟩) m.rs.length m.p.2 := by rw [em, hml, hmp]
    refine tr_rseq ?_
    refine sq_q (qt_move rfl) rfl ?_
    refine sq_make (c := r) rfl rfl (by omega) (by omega) rfl fun r52 => ?_
    refine sq_q (qt_assign rfl) rfl ?_
    refine sq_end ?_
    refine tr_seq ?_
    refine tr_rseq ?_
    refine sq_q (qt_move rfl) rfl ?_
    refine sq_q (qt_len rfl) rfl ?_
    refine sq_q (qt_move rfl) rfl ?_
    refine sq_end ?_
    refine tr_block ?_
    refine tr_loop (fun done : List Wi => done.length ≤ r ∧ done.map (·.2) = (m.rs.take done.length).map fun q => List.replicate q.l.length (0 : Int)) (fun done => [(7, .int .i64 (r : Int)), (9, .slice (some ⟨o, 0, none⟩) r r), (10, .slice (some ⟨r52, 0, none⟩) r r), (54, .int .i64 (r : Int)), (55, .int .i64 (done.length : Int))])
      (fun done => iout r52 done (r - done.length) :: done.map irow) (fun _ w => m.ok 1 w) (fun done => r - done.length) [] ⟨Nat.zero_le _, rfl⟩ ⟨rfl, rfl, rfl, rfl, rfl, trivial⟩ (by rw [made_s]; rfl) (fun _ h => h) ?_
    rintro done ⟨hle, hd⟩
    refine tr_rseq ?_
    refine sq_q (qt_bin rfl rfl bin_lss) rfl ?_
    refine sq_end ?_
    refine tr_seq ?_
    refine tr_if rfl (fun hc => ?_) (fun hc => ?_)
    ·
      have hlt : done.length < r := by have := of_decide_eq_true hc; omega
      have hlm : done.length < m.rs.length := by omega
      obtain ⟨k, hk⟩ : ∃ k, r - done.length = k + 1 := ⟨r - done.length - 1, by omega⟩
      obtain ⟨q, hq⟩ : ∃ q, q = m.rs[done.length] := ⟨_, rfl⟩
      have hql := (hmz q (by rw [hq]; exact List.getElem_mem hlm)).1
      refine tr_skip ?_
      repeat with_reducible first | refine tr_skip ?_ | refine tr_exit ?_ | refine tr_then ?_ | refine tr_inX ?_ | refine tr_thenX ?_ | refine tr_inN ?_ | refine tr_inR ?_ | refine tr_thenR ?_
      refine tr_seq ?_
      refine tr_block ?_
      refine tr_rseq ?_
      refine sq_q (qt_move rfl) rfl ?_
      refine sq_q (qt_assign rfl) rfl ?_
      refine sq_end ?_
      refine tr_region ?_
      refine sq_q (qt_move rfl) rfl ?_
      refine sq_q (qt_move rfl) rfl ?_
      refine sq_q (qt_move rfl) rfl ?_
      refine sq_q (qt_move rfl) rfl ?_
      refine sq_q (qt_index (i := done.length) rfl rfl hlt) rfl ?_
      refine sq_q (qt_load (v := .slice q.p.1 q.l.length q.p.2) rfl (fun w t => by rw [hq]; exact t.r.row_at em2 hlm)) rfl ?_
      refine sq_q (qt_len rfl) rfl ?_
      refine sq_make (c := q.l.length) rfl rfl (by omega) (by omega) rfl fun r65 => ?_
      refine sq_q (qt_index (i := done.length) rfl rfl hlt) rfl ?_
      refine sq_store 1 rfl rfl rfl rfl (by simp [Value.cells]; omega) rfl rfl ?_
      refine sq_nil ?_
      repeat with_reducible first | refine tr_skip ?_ | refine tr_exit ?_ | refine tr_then ?_ | refine tr_inX ?_ | refine tr_thenX ?_ | refine tr_inN ?_ | refine tr_inR ?_ | refine tr_thenR ?_
      refine tr_region ?_
      refine sq_q (qt_bin rfl rfl (bin_addI (by omega) (by omega))) rfl ?_
      refine sq_q (qt_move rfl) rfl ?_
      refine sq_nil ?_
      repeat with_reducible first | refine tr_skip ?_ | refine tr_exit ?_ | refine tr_then ?_ | refine tr_inX ?_ | refine tr_thenX ?_ | refine tr_inN ?_ | refine tr_inR ?_ | refine tr_thenR ?_
      obtain ⟨qn, hqn⟩ : ∃ qn : Wi, qn = (r65, List.replicate q.l.length (0 : Int)) := ⟨_, rfl⟩
      have hqh : ihdr qn = .slice (some ⟨r65, 0, none⟩) q.l.length q.l.length := by rw [hqn]; simp [ihdr]
      refine tr_own (irow qn :: iout r52 (done ++ [qn]) k :: done.map irow) (by rw [← iout_next k qn, hqh, ← hk, hqn]; unfold irow; rw [← made_i64]; rfl) ?_
      refine tr_perm (iout r52 (done ++ [qn]) k :: (done ++ [qn]).map irow) ?_ ?_
      · rw [List.map_append, List.map_singleton]
        exact (List.Perm.swap _ _ _).trans (List.Perm.cons _ (List.perm_append_comm (l₁ := [irow qn]) (l₂ := done.map irow)))
      refine tr_round (done ++ [qn]) ⟨by simp; omega, ?_⟩ (by simp; omega) ⟨rfl, rfl, rfl, rfl, by rw [List.length_append]; rfl, trivial⟩ (by rw [List.length_append, List.length_singleton, show r - (done.length + 1) = k by omega]) (fun _ h => h)
      rw [List.length_append, List.length_singleton, List.take_succ_eq_append_getElem hlm, List.map_append, List.map_append, hd, ← hq, List.map_singleton, List.map_singleton, hqn]
    ·
      have hdn : done.length = r := by have := of_decide_eq_false hc; omega
      refine tr_own (iown r52 done) (by rw [hdn, Nat.sub_self]; rfl) ?_
      rw [← em]
      obtain ⟨L, hL⟩ : ∃ L, L = m.zs := ⟨_, rfl⟩
      have ei : (imt r52 done).v = .slice (some ⟨r52, 0, none⟩) r r := by rw [imt_v, hdn]
      have ez : (imt r52 done).zs = L := by rw [imt_zs, hd, hdn, hL, hmz.zs, List.take_of_length_le (by omega)]
      have hi64 : ∀ q ∈ done, ∀ z ∈ q.2, In64 z := fun q hq z hz => by
        have : q.2 ∈ done.map (·.2) := List.mem_map.2 ⟨q, hq, rfl⟩
        rw [hd] at this
        obtain ⟨y, _, hy⟩ := List.mem_map.1 this
        rw [← hy] at hz
        rw [List.eq_of_mem_replicate hz]
        decide
      obtain ⟨s, hs⟩ : ∃ s, s = (shp L).isSome := ⟨_, rfl⟩
      obtain ⟨K, hK⟩ : ∃ K, K = keepO L := ⟨_, rfl⟩
      obtain ⟨T, hT⟩ : ∃ T, T = tiO L := ⟨_, rfl⟩
      obtain ⟨U, hU⟩ : ∃ U, U = trO L := ⟨_, rfl⟩
      have hKs : K.isSome = s := by rw [hK, hs, keepO_some]
      have hTs : T.isSome = s := by rw [hT, hs, hL, tiO_zero hmz]
      have hUs : U.isSome = s := by rw [hU, hs, trO_some]
      have hEs : eqO L L = s := by rw [hs, eqO_self]
      have hml' : m.rs.length ≤ 35184372088832 := by omega
      have hmr' : ∀ q ∈ m.rs, q.l.length ≤ 35184372088832 := fun q hq => by have := (hmz q hq).1; omega
      refine tr_exit ?_
      repeat with_reducible first | refine tr_skip ?_ | refine tr_exit ?_ | refine tr_then ?_ | refine tr_inX ?_ | refine tr_thenX ?_ | refine tr_inN ?_ | refine tr_inR ?_ | refine tr_thenR ?_
      refine tr_rseq ?_
      refine sq_q (qt_move rfl) rfl ?_
      refine sq_call (val := fun _ : Unit => shpV (shp L)) (F := fun _ _ => True) rfl rfl rfl (fun w t => by rw [hL]; exact rshape_ret m 1 w _ t.r hml' hmr') fun _ => ?_
      refine sq_q (qt_move rfl) rfl ?_
      refine sq_q (qt_extract rfl rfl) rfl ?_
      refine sq_q (qt_extract rfl rfl) rfl ?_
      refine sq_q (qt_extract rfl rfl) rfl ?_
      refine sq_q (qt_assign rfl) rfl ?_
      refine sq_q (qt_assign rfl) rfl ?_
      refine sq_q (qt_assign rfl) rfl ?_
      refine sq_end ?_
      refine tr_rseq ?_
      refine sq_q (qt_move rfl) rfl ?_
      refine sq_call (optV K) (optF 2 K) rfl rfl rfl (fun w t => by
        have h := fun S' => fromints_ret (imt r52 done) w S' (imt_ok t.has hi64) (by simp [imt]; omega) (fun q hq => by
          obtain ⟨p, hp, rfl⟩ := List.mem_map.1 hq
          have : p.2 ∈ done.map (·.2) := List.mem_map.2 ⟨p, hp, rfl⟩
          rw [hd] at this
          obtain ⟨y, hy, hy'⟩ := List.mem_map.1 this
          have hy2 := (hmz y (List.mem_of_mem_take hy)).1
          show p.2.length ≤ _
          rw [← hy', List.length_replicate]
          omega)
        rw [ei, ez, ← hK] at h
        exact h _) fun x15 => ?_
      refine sq_q (qt_move rfl) rfl ?_
      refine sq_q (qt_extract rfl rfl) rfl ?_
      refine sq_q (qt_extract rfl rfl) rfl ?_
      refine sq_q (qt_assign rfl) rfl ?_
      refine sq_q (qt_assign rfl) rfl ?_
      refine sq_end ?_
      refine tr_rseq ?_
      refine sq_q (qt_move rfl) rfl ?_
      refine sq_call (xmV T) (xmF T) rfl rfl rfl (fun w t => by rw [hT, hL]; exact toints_ret m 1 w _ t.r.1.1 (by omega) hml' hmr') fun x17 => ?_
      refine sq_q (qt_move rfl) rfl ?_
      refine sq_q (qt_extract rfl rfl) rfl ?_
      refine sq_q (qt_extract rfl rfl) rfl ?_
      refine sq_q (qt_assign rfl) rfl ?_
      refine sq_q (qt_assign rfl) rfl ?_
      refine sq_end ?_
      refine tr_rseq ?_
      refine sq_q (qt_move rfl) rfl ?_
      refine sq_call (optV U) (optF 1 U) rfl rfl rfl (fun w t => by rw [hU, hL]; exact transpose_ret m 1 w _ t.r.1.1.1 (by omega) hml' hmr') fun x19 => ?_
      refine sq_q (qt_move rfl) rfl ?_
      refine sq_q (qt_extract rfl rfl) rfl ?_
      refine sq_q (qt_extract rfl rfl) rfl ?_
      refine sq_q (qt_assign rfl) rfl ?_
      refine sq_q (qt_assign rfl) rfl ?_
      refine sq_end ?_
      refine tr_have (fun w t => mt_zs_row t.r.1.1.2.2.1) fun hl15 => ?_
      have h105 : decide ((x15.rs.length : Int) > 0) = s := by rw [hl15, hK, hs, keepO_len]
      refine tr_r (fun w => m.ok 1 w) (fun w h => h.1.1.1.1) ?_
      skip
      ·
        refine tr_rseq ?_
        refine sq_q (qt_move rfl) rfl ?_
        refine sq_q (qt_move rfl) rfl ?_
        refine sq_q (qt_binB (r := .bool true) rfl rfl (bin_eqT boolT (by rw [hKs, hs]))) rfl ?_
        refine sq_q (qt_move rfl) rfl ?_
        refine sq_gT rfl rfl ?_
        refine sq_q (qt_move rfl) rfl ?_
        refine sq_gT rfl rfl ?_
        refine sq_q (qt_move rfl) rfl ?_
        refine sq_gT rfl rfl ?_
        refine sq_q (qt_binB (r := .bool true) rfl rfl (bin_eqT boolT (by rw [hTs, hs]))) rfl ?_
        refine sq_q (qt_pick rfl rfl) rfl ?_
        refine sq_q (qt_move rfl) rfl ?_
        refine sq_gT rfl rfl ?_
        refine sq_q (qt_move rfl) rfl ?_
        refine sq_gT rfl rfl ?_
        refine sq_q (qt_move rfl) rfl ?_
        refine sq_gT rfl rfl ?_
        refine sq_q (qt_binB (r := .bool true) rfl rfl (bin_eqT boolT (by rw [hUs, hs]))) rfl ?_
        refine sq_q (qt_pick rfl rfl) rfl ?_
        refine sq_q (qt_move rfl) rfl ?_
        refine sq_gT rfl rfl ?_
        refine sq_q (qt_move rfl) rfl ?_
        refine sq_gT rfl rfl ?_
        refine sq_q (qt_len rfl) rfl ?_
        refine sq_gT rfl rfl ?_
        refine sq_q (qt_bin (r := .bool s) rfl rfl (by rw [← h105]; exact bin_gtr)) rfl ?_
        refine sq_gT rfl rfl ?_
        refine sq_q (qt_move rfl) rfl ?_
        refine sq_gT rfl rfl ?_
        refine sq_q (qt_binB (r := .bool true) rfl rfl (bin_eqT boolT hs)) rfl ?_
        refine sq_q (qt_pick rfl rfl) rfl ?_
        refine sq_q (qt_move rfl) rfl ?_
        refine sq_gT rfl rfl ?_
        refine sq_q (qt_move rfl) rfl ?_
        refine sq_gT rfl rfl ?_
        refine sq_q (qt_move rfl) rfl ?_
        refine sq_gT rfl rfl ?_
        refine sq_call (val := fun _ : Unit => .bool s) (F := fun _ _ => True) rfl rfl rfl (fun w t => by
          have h := fun S' => equal_ret m m 1 w S' t.r t.r (by omega) hml' hmr' hml' hmr'
          rw [← hL, hEs] at h
          exact h _) fun _ => ?_
        refine sq_gT rfl rfl ?_
        refine sq_q (qt_move rfl) rfl ?_
        refine sq_gT rfl rfl ?_
        refine sq_q (qt_binB (r := .bool true) rfl rfl (bin_eqT boolT hs)) rfl ?_
        refine sq_q (qt_pick rfl rfl) rfl ?_
        refine sq_q (qt_move rfl) rfl ?_
        refine sq_gT rfl rfl ?_
        refine sq_call (val := fun _ : Unit => .bool true) (F := fun _ _ => True) rfl rfl rfl (fun w t => awake_ret w _) fun _ => ?_
        refine sq_q (qt_pick rfl rfl) rfl ?_
        refine sq_q (qt_assign rfl) rfl ?_
        refine sq_end ?_
        refine tr_ret ?_
        repeat with_reducible first | refine tr_skip ?_ | refine tr_exit ?_ | refine tr_then ?_ | refine tr_inX ?_ | refine tr_thenX ?_ | refine tr_inN ?_ | refine tr_inR ?_ | refine tr_thenR ?_
        exact tr_done () (fun a w s t => results_1 rfl (resv_tmp s rfl)) (fun _ _ _ _ => trivial)
end Go.Qk
end
