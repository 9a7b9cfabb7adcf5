/- Lemmas and contracts of functions that the law reaches. -/
import Derived.Test.YtencodepmbhpiaaGw5
set_option linter.unusedVariables false
set_option linter.unusedSimpArgs false
section
set_option linter.unusedVariables false
namespace Go.Qk
open Go Go.Proofs Go.RowKit
set_option maxRecDepth 100000
set_option maxHeartbeats 4000000
theorem equal_ret (m m' : Mt) (B : Nat) (w0 : World) (S : Nat → Prop) (hm : m.ok B w0) (hm' : m'.ok B w0) (hB : B ≤ 35184372088832) (hl : m.rs.length ≤ 35184372088832) (hr : ∀ r ∈ m.rs, r.l.length ≤ 35184372088832) (hl' : m'.rs.length ≤ 35184372088832) (hr' : ∀ r ∈ m'.rs, r.l.length ≤ 35184372088832) :
    Ret Try.prog 61 [m.v, m'.v] w0 S (fun _ : Unit => .bool (eqO m.zs m'.zs)) (fun _ _ => True) := by
  obtain ⟨o, ho⟩ : ∃ o, o = shp m.zs := ⟨_, rfl⟩
  obtain ⟨o', ho'⟩ : ∃ o, o = shp m'.zs := ⟨_, rfl⟩
  refine ret_of Try.func61 rfl Try.ntmps61 rfl ?_
  refine tr_rseq ?_
  refine sq_q (qt_assign rfl) rfl ?_
  refine sq_end ?_
  refine tr_rseq ?_
  refine sq_q (qt_move rfl) rfl ?_
  refine sq_call (val := fun _ : Unit => shpV o) (F := fun _ _ => True) rfl rfl rfl (fun w t => by rw [ho]; exact shape_ret m B w _ (t.mt hm) hl hr) fun _ => ?_
  refine sq_q (qt_move rfl) rfl ?_
  refine sq_q (qt_extract rfl rfl) rfl ?_
  refine sq_q (qt_extract rfl rfl) rfl ?_
  refine sq_q (qt_extract rfl rfl) rfl ?_
  refine sq_q (qt_assign rfl) rfl ?_
  refine sq_q (qt_assign rfl) rfl ?_
  refine sq_q (qt_assign rfl) rfl ?_
  refine sq_end ?_
  refine tr_rseq ?_
  refine sq_q (qt_move rfl) rfl ?_
  refine sq_call (val := fun _ : Unit => shpV o') (F := fun _ _ => True) rfl rfl rfl (fun w t => by rw [ho']; exact shape_ret m' B w _ (t.mt hm') hl' hr') fun _ => ?_
  refine sq_q (qt_move rfl) rfl ?_
  refine sq_q (qt_extract rfl rfl) rfl ?_
  refine sq_q (qt_extract rfl rfl) rfl ?_
  refine sq_q (qt_extract rfl rfl) rfl ?_
  refine sq_q (qt_assign rfl) rfl ?_
  refine sq_q (qt_assign rfl) rfl ?_
  refine sq_q (qt_assign rfl) rfl ?_
  refine sq_end ?_
  refine tr_seq ?_
  have hcs : o = none ∨ (∃ r c, o = some (r, c) ∧ o' = none) ∨ (∃ r c r' c', o = some (r, c) ∧ o' = some (r', c') ∧ r ≠ r') ∨ (∃ r c c', o = some (r, c) ∧ o' = some (r, c') ∧ c ≠ c') ∨ (∃ r c, o = some (r, c) ∧ o' = some (r, c)) := by
    cases o with
    | none => exact .inl rfl
    | some x =>
      cases o' with
      | none => exact .inr (.inl ⟨x.1, x.2, rfl, rfl⟩)
      | some y =>
        obtain ⟨r, c⟩ := x
        obtain ⟨r', c'⟩ := y
        by_cases h1 : r = r'
        · subst h1
          by_cases h2 : c = c'
          · subst h2; exact .inr (.inr (.inr (.inr ⟨_, _, rfl, rfl⟩)))
          · exact .inr (.inr (.inr (.inl ⟨_, _, _, rfl, rfl, h2⟩)))
        · exact .inr (.inr (.inl ⟨_, _, _, _, rfl, rfl, h1⟩))
  rcases hcs with h1 | ⟨r, c, h1, h2⟩ | ⟨r, c, r', c', h1, h2, h3⟩ | ⟨r, c, c', h1, h2, h3⟩ | ⟨r, c, h1, h2⟩
  ·
    subst h1
    have hf : false = eqO m.zs m'.zs := (eqO_none ho.symm).symm
    refine tr_rseq ?_
    refine sq_q (qt_move rfl) rfl ?_
    refine sq_q (qt_not rfl) rfl ?_
    refine sq_q (qt_move rfl) rfl ?_
    refine sq_gF rfl rfl rfl rfl ?_
    refine sq_gF rfl rfl rfl rfl ?_
    refine sq_q (qt_pick rfl rfl) rfl ?_
    refine sq_q (qt_move rfl) rfl ?_
    refine sq_gF rfl rfl rfl rfl ?_
    refine sq_gF rfl rfl rfl rfl ?_
    refine sq_gF rfl rfl rfl rfl ?_
    refine sq_q (qt_pick rfl rfl) rfl ?_
    refine sq_q (qt_move rfl) rfl ?_
    refine sq_gF rfl rfl rfl rfl ?_
    refine sq_gF rfl rfl rfl rfl ?_
    refine sq_gF rfl rfl rfl rfl ?_
    refine sq_q (qt_pick rfl rfl) rfl ?_
    refine sq_end ?_
    refine tr_ifT rfl ?_
    refine tr_rseq ?_
    refine sq_q (qt_assign rfl) rfl ?_
    refine sq_end ?_
    refine tr_ret ?_
    repeat with_reducible first | refine tr_skip ?_ | refine tr_exit ?_ | refine tr_then ?_ | refine tr_inX ?_ | refine tr_thenX ?_ | refine tr_inN ?_ | refine tr_inR ?_ | refine tr_thenR ?_
    exact tr_done () (fun a w s t => results_1 rfl (resv_tmp s (congrArg (fun b => some (Value.bool b)) hf))) (fun _ _ _ _ => trivial)
  ·
    subst h1
    subst h2
    have hf : false = eqO m.zs m'.zs := (eqO_shp (by rw [← ho, ← ho']; simp)).symm
    refine tr_rseq ?_
    refine sq_q (qt_move rfl) rfl ?_
    refine sq_q (qt_not rfl) rfl ?_
    refine sq_q (qt_move rfl) rfl ?_
    refine sq_gT rfl rfl ?_
    refine sq_q (qt_move rfl) rfl ?_
    refine sq_gT rfl rfl ?_
    refine sq_q (qt_not rfl) rfl ?_
    refine sq_q (qt_pick rfl rfl) rfl ?_
    refine sq_q (qt_move rfl) rfl ?_
    refine sq_gF rfl rfl rfl rfl ?_
    refine sq_gF rfl rfl rfl rfl ?_
    refine sq_gF rfl rfl rfl rfl ?_
    refine sq_q (qt_pick rfl rfl) rfl ?_
    refine sq_q (qt_move rfl) rfl ?_
    refine sq_gF rfl rfl rfl rfl ?_
    refine sq_gF rfl rfl rfl rfl ?_
    refine sq_gF rfl rfl rfl rfl ?_
    refine sq_q (qt_pick rfl rfl) rfl ?_
    refine sq_end ?_
    refine tr_ifT rfl ?_
    refine tr_rseq ?_
    refine sq_q (qt_assign rfl) rfl ?_
    refine sq_end ?_
    refine tr_ret ?_
    repeat with_reducible first | refine tr_skip ?_ | refine tr_exit ?_ | refine tr_then ?_ | refine tr_inX ?_ | refine tr_thenX ?_ | refine tr_inN ?_ | refine tr_inR ?_ | refine tr_thenR ?_
    exact tr_done () (fun a w s t => results_1 rfl (resv_tmp s (congrArg (fun b => some (Value.bool b)) hf))) (fun _ _ _ _ => trivial)
  ·
    subst h1
    subst h2
    have hf : false = eqO m.zs m'.zs := (eqO_shp (by rw [← ho, ← ho']; simp; omega)).symm
    refine tr_rseq ?_
    refine sq_q (qt_move rfl) rfl ?_
    refine sq_q (qt_not rfl) rfl ?_
    refine sq_q (qt_move rfl) rfl ?_
    refine sq_gT rfl rfl ?_
    refine sq_q (qt_move rfl) rfl ?_
    refine sq_gT rfl rfl ?_
    refine sq_q (qt_not rfl) rfl ?_
    refine sq_q (qt_pick rfl rfl) rfl ?_
    refine sq_q (qt_move rfl) rfl ?_
    refine sq_gT rfl rfl ?_
    refine sq_q (qt_move rfl) rfl ?_
    refine sq_gT rfl rfl ?_
    refine sq_q (qt_move rfl) rfl ?_
    refine sq_gT rfl rfl ?_
    refine sq_q (qt_bin rfl rfl (bT bin_neq (by simp only [Option.getD_some]; omega))) rfl ?_
    refine sq_q (qt_pick rfl rfl) rfl ?_
    refine sq_q (qt_move rfl) rfl ?_
    refine sq_gF rfl rfl rfl rfl ?_
    refine sq_gF rfl rfl rfl rfl ?_
    refine sq_gF rfl rfl rfl rfl ?_
    refine sq_q (qt_pick rfl rfl) rfl ?_
    refine sq_end ?_
    refine tr_ifT rfl ?_
    refine tr_rseq ?_
    refine sq_q (qt_assign rfl) rfl ?_
    refine sq_end ?_
    refine tr_ret ?_
    repeat with_reducible first | refine tr_skip ?_ | refine tr_exit ?_ | refine tr_then ?_ | refine tr_inX ?_ | refine tr_thenX ?_ | refine tr_inN ?_ | refine tr_inR ?_ | refine tr_thenR ?_
    exact tr_done () (fun a w s t => results_1 rfl (resv_tmp s (congrArg (fun b => some (Value.bool b)) hf))) (fun _ _ _ _ => trivial)
  ·
    subst h1
    subst h2
    have hf : false = eqO m.zs m'.zs := (eqO_shp (by rw [← ho, ← ho']; simp; omega)).symm
    refine tr_rseq ?_
    refine sq_q (qt_move rfl) rfl ?_
    refine sq_q (qt_not rfl) rfl ?_
    refine sq_q (qt_move rfl) rfl ?_
    refine sq_gT rfl rfl ?_
    refine sq_q (qt_move rfl) rfl ?_
    refine sq_gT rfl rfl ?_
    refine sq_q (qt_not rfl) rfl ?_
    refine sq_q (qt_pick rfl rfl) rfl ?_
    refine sq_q (qt_move rfl) rfl ?_
    refine sq_gT rfl rfl ?_
    refine sq_q (qt_move rfl) rfl ?_
    refine sq_gT rfl rfl ?_
    refine sq_q (qt_move rfl) rfl ?_
    refine sq_gT rfl rfl ?_
    refine sq_q (qt_bin rfl rfl (bF bin_neq (by simp only [Option.getD_some]; omega))) rfl ?_
    refine sq_q (qt_pick rfl rfl) rfl ?_
    refine sq_q (qt_move rfl) rfl ?_
    refine sq_gT rfl rfl ?_
    refine sq_q (qt_move rfl) rfl ?_
    refine sq_gT rfl rfl ?_
    refine sq_q (qt_move rfl) rfl ?_
    refine sq_gT rfl rfl ?_
    refine sq_q (qt_bin rfl rfl (bT bin_neq (by simp only [Option.getD_some]; omega))) rfl ?_
    refine sq_q (qt_pick rfl rfl) rfl ?_
    refine sq_end ?_
    refine tr_ifT rfl ?_
    refine tr_rseq ?_
    refine sq_q (qt_assign rfl) rfl ?_
    refine sq_end ?_
    refine tr_ret ?_
    repeat with_reducible first | refine tr_skip ?_ | refine tr_exit ?_ | refine tr_then ?_ | refine tr_inX ?_ | refine tr_thenX ?_ | refine tr_inN ?_ | refine tr_inR ?_ | refine tr_thenR ?_
    exact tr_done () (fun a w s t => results_1 rfl (resv_tmp s (congrArg (fun b => some (Value.bool b)) hf))) (fun _ _ _ _ => trivial)
  ·
    subst h1
    subst h2
    obtain ⟨g1, g2, g3, g4, g5, g6⟩ := mt_shp ho.symm
    obtain ⟨g1', _, _, _, _, g6'⟩ := mt_shp ho'.symm
    refine tr_rseq ?_
    refine sq_q (qt_move rfl) rfl ?_
    refine sq_q (qt_not rfl) rfl ?_
    refine sq_q (qt_move rfl) rfl ?_
    refine sq_gT rfl rfl ?_
    refine sq_q (qt_move rfl) rfl ?_
    refine sq_gT rfl rfl ?_
    refine sq_q (qt_not rfl) rfl ?_
    refine sq_q (qt_pick rfl rfl) rfl ?_
    refine sq_q (qt_move rfl) rfl ?_
    refine sq_gT rfl rfl ?_
    refine sq_q (qt_move rfl) rfl ?_
    refine sq_gT rfl rfl ?_
    refine sq_q (qt_move rfl) rfl ?_
    refine sq_gT rfl rfl ?_
    refine sq_q (qt_bin rfl rfl (bF bin_neq (by simp only [Option.getD_some]; omega))) rfl ?_
    refine sq_q (qt_pick rfl rfl) rfl ?_
    refine sq_q (qt_move rfl) rfl ?_
    refine sq_gT rfl rfl ?_
    refine sq_q (qt_move rfl) rfl ?_
    refine sq_gT rfl rfl ?_
    refine sq_q (qt_move rfl) rfl ?_
    refine sq_gT rfl rfl ?_
    refine sq_q (qt_bin rfl rfl (bF bin_neq (by simp only [Option.getD_some]; omega))) rfl ?_
    refine sq_q (qt_pick rfl rfl) rfl ?_
    refine sq_end ?_
    refine tr_ifF rfl ?_
    refine tr_skip ?_
    repeat with_reducible first | refine tr_skip ?_ | refine tr_exit ?_ | refine tr_then ?_ | refine tr_inX ?_ | refine tr_thenX ?_ | refine tr_inN ?_ | refine tr_inR ?_ | refine tr_thenR ?_
    refine tr_seq ?_
    refine tr_rseq ?_
    refine sq_q (qt_move rfl) rfl ?_
    refine sq_q (qt_len rfl) rfl ?_
    refine sq_q (qt_move rfl) rfl ?_
    refine sq_end ?_
    refine tr_block ?_
    obtain ⟨ro, oo, evm, hat⟩ := hm.at_ (show 0 < m.rs.length by omega)
    obtain ⟨ro', oo', evm', hat'⟩ := hm'.at_ (show 0 < m'.rs.length by omega)
    refine tr_loop (fun i : Nat => i ≤ r ∧ ∀ a b, a < i → b < c → ent m.zs a b = ent m'.zs a b) (fun i => [(0, .slice (some ⟨ro, oo, none⟩) m.rs.length m.p.2), (1, .slice (some ⟨ro', oo', none⟩) m'.rs.length m'.p.2), (42, .int .i64 (r : Int)), (43, .int .i64 (i : Int))]) (fun _ => []) (fun _ _ => True) (fun i => r - i) 0 ⟨Nat.zero_le _, fun a b h _ => by omega⟩ ⟨congrArg some evm, congrArg some evm', congrArg (fun z => some (Value.int .i64 ((z : Nat) : Int))) g1, rfl, trivial⟩ rfl (fun _ _ => trivial) ?_
    rintro i ⟨hle, hE⟩
    refine tr_rseq ?_
    refine sq_q (qt_bin rfl rfl bin_lss) rfl ?_
    refine sq_end ?_
    refine tr_seq ?_
    refine tr_if rfl (fun hc => ?_) (fun hc => ?_)
    ·
      have hlt : i < r := by have := of_decide_eq_true hc; omega
      have hmi : i < m.rs.length := by omega
      have hmi' : i < m'.rs.length := by omega
      have hcl := g6 _ (List.getElem_mem hmi)
      have hcl' := g6' _ (List.getElem_mem hmi')
      obtain ⟨rr, orr, evr, hatr⟩ := (hm.2.2 _ (List.getElem_mem hmi)).at_ (show 0 < m.rs[i].l.length by omega)
      obtain ⟨rr', orr', evr', hatr'⟩ := (hm'.2.2 _ (List.getElem_mem hmi')).at_ (show 0 < m'.rs[i].l.length by omega)
      have hrw := hat i hmi
      have hrw' := hat' i hmi'
      rw [evr] at hrw
      rw [evr'] at hrw'
      refine tr_skip ?_
      repeat with_reducible first | refine tr_skip ?_ | refine tr_exit ?_ | refine tr_then ?_ | refine tr_inX ?_ | refine tr_thenX ?_ | refine tr_inN ?_ | refine tr_inR ?_ | refine tr_thenR ?_
      refine tr_seq ?_
      refine tr_block ?_
      refine tr_rseq ?_
      refine sq_q (qt_move rfl) rfl ?_
      refine sq_q (qt_assign rfl) rfl ?_
      refine sq_end ?_
      refine tr_rseq ?_
      refine sq_q (qt_move rfl) rfl ?_
      refine sq_q (qt_move rfl) rfl ?_
      refine sq_q (qt_index (i := i) rfl rfl hmi) rfl ?_
      refine sq_q (qt_load rfl (fun w t => t.a1 hrw)) rfl ?_
      refine sq_q (qt_len rfl) rfl ?_
      refine sq_q (qt_move rfl) rfl ?_
      refine sq_end ?_
      refine tr_block ?_
      refine tr_loop (fun j : Nat => j ≤ c ∧ ∀ b, b < j → ent m.zs i b = ent m'.zs i b) (fun j => [(0, .slice (some ⟨ro, oo, none⟩) m.rs.length m.p.2), (1, .slice (some ⟨ro', oo', none⟩) m'.rs.length m'.p.2), (11, .int .i64 (i : Int)), (42, .int .i64 (r : Int)), (43, .int .i64 (i : Int)), (50, .int .i64 (c : Int)), (51, .int .i64 (j : Int))]) (fun _ => []) (fun _ _ => True) (fun j => c - j) 0 ⟨Nat.zero_le _, fun b h => by omega⟩ ⟨rfl, rfl, rfl, rfl, rfl, congrArg (fun z => some (Value.int .i64 ((z : Nat) : Int))) hcl, rfl, trivial⟩ rfl (fun _ _ => trivial) ?_
      rintro j ⟨hjc, hF⟩
      refine tr_rseq ?_
      refine sq_q (qt_bin rfl rfl bin_lss) rfl ?_
      refine sq_end ?_
      refine tr_seq ?_
      refine tr_if rfl (fun hc => ?_) (fun hc => ?_)
      ·
        have hlt2 : j < c := by have := of_decide_eq_true hc; omega
        have hjl : j < m.rs[i].l.length := by omega
        have hjl' : j < m'.rs[i].l.length := by omega
        obtain ⟨hz0, hz1⟩ := hatr j hjl
        obtain ⟨hz0', hz1'⟩ := hatr' j hjl'
        have hzok := (hm.2.2 _ (List.getElem_mem hmi)).2.2 _ (List.getElem_mem hjl)
        have hzok' := (hm'.2.2 _ (List.getElem_mem hmi')).2.2 _ (List.getElem_mem hjl')
        have he := mt_ent hmi hjl
        have he' := mt_ent hmi' hjl'
        refine tr_skip ?_
        repeat with_reducible first | refine tr_skip ?_ | refine tr_exit ?_ | refine tr_then ?_ | refine tr_inX ?_ | refine tr_thenX ?_ | refine tr_inN ?_ | refine tr_inR ?_ | refine tr_thenR ?_
        refine tr_seq ?_
        refine tr_block ?_
        refine tr_rseq ?_
        refine sq_q (qt_move rfl) rfl ?_
        refine sq_q (qt_assign rfl) rfl ?_
        refine sq_end ?_
        refine tr_rdraw0 [0, 1, 4, 5, 6, 7, 8, 9, 10, 11, 12, 40, 42, 43, 44, 50, 51, 52, 69] (by kernel_rfl) ?_
        refine dx_q rfl (qt_move rfl) rfl ?_
        refine dx_q rfl (qt_move rfl) rfl ?_
        refine dx_q rfl (qt_index (i := i) rfl rfl hmi) rfl ?_
        refine dx_q rfl (qt_load rfl (fun w t => t.a1 hrw)) rfl ?_
        refine dx_q rfl (qt_move rfl) rfl ?_
        refine dx_q rfl (qt_index (i := j) rfl rfl hjl) rfl ?_
        refine dx_q rfl (qt_load2 rfl (fun w t => t.atA hz0) (fun w t => t.atA hz1)) rfl ?_
        refine dx_q rfl (qt_move rfl) rfl ?_
        refine dx_q rfl (qt_move rfl) rfl ?_
        refine dx_q rfl (qt_index (i := i) rfl rfl hmi') rfl ?_
        refine dx_q rfl (qt_load rfl (fun w t => t.a1 hrw')) rfl ?_
        refine dx_q rfl (qt_move rfl) rfl ?_
        refine dx_q rfl (qt_index (i := j) rfl rfl hjl') rfl ?_
        refine dx_q rfl (qt_load2 rfl (fun w t => t.atA hz0') (fun w t => t.atA hz1')) rfl ?_
        refine dx_callv (v := .int .i64 (cmpZ (ent m.zs i j) (ent m'.zs i j))) (F := fun _ _ => True) rfl rfl rfl (fun w t => by rw [he, he']; exact cmp_zd (t.zd hzok) (t.zd hzok') hB hB) ?_
        refine dx_q rfl (qt_bin rfl rfl bin_neq) rfl ?_
        refine dx_nil ?_
        repeat (first | refine es_val rfl ?_ rfl | refine es_res rfl (fun x => ?_) rfl | refine es_skip rfl ?_)
        refine es_nil rfl ?_
        refine tx_endk ?_
        refine tr_if rfl (fun hc => ?_) (fun hc => ?_)
        ·
          have hne := cmpZ_ne.1 (of_decide_eq_true hc)
          have hf : false = eqO m.zs m'.zs := (eqO_ent hne).symm
          refine tr_rseq ?_
          refine sq_q (qt_assign rfl) rfl ?_
          refine sq_end ?_
          refine tr_ret ?_
          repeat with_reducible first | refine tr_skip ?_ | refine tr_exit ?_ | refine tr_then ?_ | refine tr_inX ?_ | refine tr_thenX ?_ | refine tr_inN ?_ | refine tr_inR ?_ | refine tr_thenR ?_
          exact tr_done () (fun a w s t => results_1 rfl (resv_tmp s (congrArg (fun b => some (Value.bool b)) hf))) (fun _ _ _ _ => trivial)
        ·
          have heq : ent m.zs i j = ent m'.zs i j := Decidable.of_not_not fun h => of_decide_eq_false hc (cmpZ_ne.2 h)
          refine tr_skip ?_
          repeat with_reducible first | refine tr_skip ?_ | refine tr_exit ?_ | refine tr_then ?_ | refine tr_inX ?_ | refine tr_thenX ?_ | refine tr_inN ?_ | refine tr_inR ?_ | refine tr_thenR ?_
          refine tr_region ?_
          refine sq_q (qt_bin rfl rfl (bin_addI (by omega) (by omega))) rfl ?_
          refine sq_q (qt_move rfl) rfl ?_
          refine sq_nil ?_
          repeat with_reducible first | refine tr_skip ?_ | refine tr_exit ?_ | refine tr_then ?_ | refine tr_inX ?_ | refine tr_thenX ?_ | refine tr_inN ?_ | refine tr_inR ?_ | refine tr_thenR ?_
          exact tr_round (j + 1) ⟨by omega, fun b hb => by
            rcases Nat.lt_or_ge b j with h | h
            · exact hF b h
            · rw [show b = j by omega]; exact heq⟩ (by omega) ⟨rfl, rfl, rfl, rfl, rfl, rfl, rfl, trivial⟩ rfl (fun _ h => h)
      ·
        have hje : j = c := by have := of_decide_eq_false hc; omega
        refine tr_exit ?_
        repeat with_reducible first | refine tr_skip ?_ | refine tr_exit ?_ | refine tr_then ?_ | refine tr_inX ?_ | refine tr_thenX ?_ | refine tr_inN ?_ | refine tr_inR ?_ | refine tr_thenR ?_
        refine tr_region ?_
        refine sq_q (qt_bin rfl rfl (bin_addI (by omega) (by omega))) rfl ?_
        refine sq_q (qt_move rfl) rfl ?_
        refine sq_nil ?_
        repeat with_reducible first | refine tr_skip ?_ | refine tr_exit ?_ | refine tr_then ?_ | refine tr_inX ?_ | refine tr_thenX ?_ | refine tr_inN ?_ | refine tr_inR ?_ | refine tr_thenR ?_
        exact tr_round (i + 1) ⟨by omega, fun a b ha hb => by
          rcases Nat.lt_or_ge a i with h | h
          · exact hE a b h hb
          · rw [show a = i by omega]; exact hF b (by omega)⟩ (by omega) ⟨rfl, rfl, rfl, rfl, trivial⟩ rfl (fun _ h => h)
    ·
      have hik : i = r := by have := of_decide_eq_false hc; omega
      subst hik
      refine tr_exit ?_
      repeat with_reducible first | refine tr_skip ?_ | refine tr_exit ?_ | refine tr_then ?_ | refine tr_inX ?_ | refine tr_thenX ?_ | refine tr_inN ?_ | refine tr_inR ?_ | refine tr_thenR ?_
      refine tr_rseq ?_
      refine sq_q (qt_assign rfl) rfl ?_
      refine sq_end ?_
      refine tr_ret ?_
      repeat with_reducible first | refine tr_skip ?_ | refine tr_exit ?_ | refine tr_then ?_ | refine tr_inX ?_ | refine tr_thenX ?_ | refine tr_inN ?_ | refine tr_inR ?_ | refine tr_thenR ?_
      exact tr_done () (fun a w s t => results_1 rfl (resv_tmp s (congrArg (fun b => some (Value.bool b)) (eqO_grid ho.symm ho'.symm hE).symm))) (fun _ _ _ _ => trivial)
theorem requal_ret (m m' : Mt) (B : Nat) (w0 : World) (S : Nat → Prop) (hm : m.ok B w0) (hm' : m'.ok B w0) (hB : B ≤ 35184372088832) (hl : m.rs.length ≤ 35184372088832) (hr : ∀ r ∈ m.rs, r.l.length ≤ 35184372088832) (hl' : m'.rs.length ≤ 35184372088832) (hr' : ∀ r ∈ m'.rs, r.l.length ≤ 35184372088832) :
    Ret Try.prog 62 [m.v, m'.v] w0 S (fun _ : Unit => .bool (eqO m.zs m'.zs)) (fun _ _ => True) := by
  obtain ⟨o, ho⟩ : ∃ o, o = shp m.zs := ⟨_, rfl⟩
  obtain ⟨o', ho'⟩ : ∃ o, o = shp m'.zs := ⟨_, rfl⟩
  refine ret_of Try.func62 rfl Try.ntmps62 rfl ?_
  refine tr_rseq ?_
  refine sq_q (qt_assign rfl) rfl ?_
  refine sq_end ?_
  refine tr_rseq ?_
  refine sq_q (qt_move rfl) rfl ?_
  refine sq_call (val := fun _ : Unit => shpV o) (F := fun _ _ => True) rfl rfl rfl (fun w t => by rw [ho]; exact rshape_ret m B w _ (t.mt hm) hl hr) fun _ => ?_
  refine sq_q (qt_move rfl) rfl ?_
  refine sq_q (qt_extract rfl rfl) rfl ?_
  refine sq_q (qt_extract rfl rfl) rfl ?_
  refine sq_q (qt_extract rfl rfl) rfl ?_
  refine sq_q (qt_assign rfl) rfl ?_
  refine sq_q (qt_assign rfl) rfl ?_
  refine sq_q (qt_assign rfl) rfl ?_
  refine sq_end ?_
  refine tr_rseq ?_
  refine sq_q (qt_move rfl) rfl ?_
  refine sq_call (val := fun _ : Unit => shpV o') (F := fun _ _ => True) rfl rfl rfl (fun w t => by rw [ho']; exact rshape_ret m' B w _ (t.mt hm') hl' hr') fun _ => ?_
  refine sq_q (qt_move rfl) rfl ?_
  refine sq_q (qt_extract rfl rfl) rfl ?_
  refine sq_q (qt_extract rfl rfl) rfl ?_
  refine sq_q (qt_extract rfl rfl) rfl ?_
  refine sq_q (qt_assign rfl) rfl ?_
  refine sq_q (qt_assign rfl) rfl ?_
  refine sq_q (qt_assign rfl) rfl ?_
  refine sq_end ?_
  refine tr_seq ?_
  have hcs : o = none ∨ (∃ r c, o = some (r, c) ∧ o' = none) ∨ (∃ r c r' c', o = some (r, c) ∧ o' = some (r', c') ∧ r ≠ r') ∨ (∃ r c c', o = some (r, c) ∧ o' = some (r, c') ∧ c ≠ c') ∨ (∃ r c, o = some (r, c) ∧ o' = some (r, c)) := by
    cases o with
    | none => exact .inl rfl
    | some x =>
      cases o' with
      | none => exact .inr (.inl ⟨x.1, x.2, rfl, rfl⟩)
      | some y =>
        obtain ⟨r, c⟩ := x
        obtain ⟨r', c'⟩ := y
        by_cases h1 : r = r'
        · subst h1
          by_cases h2 : c = c'
          · subst h2; exact .inr (.inr (.inr (.inr ⟨_, _, rfl, rfl⟩)))
          · exact .inr (.inr (.inr (.inl ⟨_, _, _, rfl, rfl, h2⟩)))
        · exact .inr (.inr (.inl ⟨_, _, _, _, rfl, rfl, h1⟩))
  rcases hcs with h1 | ⟨r, c, h1, h2⟩ | ⟨r, c, r', c', h1, h2, h3⟩ | ⟨r, c, c', h1, h2, h3⟩ | ⟨r, c, h1, h2⟩
  ·
    subst h1
    have hf : false = eqO m.zs m'.zs := (eqO_none ho.symm).symm
    refine tr_rseq ?_
    refine sq_q (qt_move rfl) rfl ?_
    refine sq_q (qt_not rfl) rfl ?_
    refine sq_q (qt_move rfl) rfl ?_
    refine sq_gF rfl rfl rfl rfl ?_
    refine sq_gF rfl rfl rfl rfl ?_
    refine sq_q (qt_pick rfl rfl) rfl ?_
    refine sq_q (qt_move rfl) rfl ?_
    refine sq_gF rfl rfl rfl rfl ?_
    refine sq_gF rfl rfl rfl rfl ?_
    refine sq_gF rfl rfl rfl rfl ?_
    refine sq_q (qt_pick rfl rfl) rfl ?_
    refine sq_q (qt_move rfl) rfl ?_
    refine sq_gF rfl rfl rfl rfl ?_
    refine sq_gF rfl rfl rfl rfl ?_
    refine sq_gF rfl rfl rfl rfl ?_
    refine sq_q (qt_pick rfl rfl) rfl ?_
    refine sq_end ?_
    refine tr_ifT rfl ?_
    refine tr_rseq ?_
    refine sq_q (qt_assign rfl) rfl ?_
    refine sq_end ?_
    refine tr_ret ?_
    repeat with_reducible first | refine tr_skip ?_ | refine tr_exit ?_ | refine tr_then ?_ | refine tr_inX ?_ | refine tr_thenX ?_ | refine tr_inN ?_ | refine tr_inR ?_ | refine tr_thenR ?_
    exact tr_done () (fun a w s t => results_1 rfl (resv_tmp s (congrArg (fun b => some (Value.bool b)) hf))) (fun _ _ _ _ => trivial)
  ·
    subst h1
    subst h2
    have hf : false = eqO m.zs m'.zs := (eqO_shp (by rw [← ho, ← ho']; simp)).symm
    refine tr_rseq ?_
    refine sq_q (qt_move rfl) rfl ?_
    refine sq_q (qt_not rfl) rfl ?_
    refine sq_q (qt_move rfl) rfl ?_
    refine sq_gT rfl rfl ?_
    refine sq_q (qt_move rfl) rfl ?_
    refine sq_gT rfl rfl ?_
    refine sq_q (qt_not rfl) rfl ?_
    refine sq_q (qt_pick rfl rfl) rfl ?_
    refine sq_q (qt_move rfl) rfl ?_
    refine sq_gF rfl rfl rfl rfl ?_
    refine sq_gF rfl rfl rfl rfl ?_
    refine sq_gF rfl rfl rfl rfl ?_
    refine sq_q (qt_pick rfl rfl) rfl ?_
    refine sq_q (qt_move rfl) rfl ?_
    refine sq_gF rfl rfl rfl rfl ?_
    refine sq_gF rfl rfl rfl rfl ?_
    refine sq_gF rfl rfl rfl rfl ?_
    refine sq_q (qt_pick rfl rfl) rfl ?_
    refine sq_end ?_
    refine tr_ifT rfl ?_
    refine tr_rseq ?_
    refine sq_q (qt_assign rfl) rfl ?_
    refine sq_end ?_
    refine tr_ret ?_
    repeat with_reducible first | refine tr_skip ?_ | refine tr_exit ?_ | refine tr_then ?_ | refine tr_inX ?_ | refine tr_thenX ?_ | refine tr_inN ?_ | refine tr_inR ?_ | refine tr_thenR ?_
    exact tr_done () (fun a w s t => results_1 rfl (resv_tmp s (congrArg (fun b => some (Value.bool b)) hf))) (fun _ _ _ _ => trivial)
  ·
    subst h1
    subst h2
    have hf : false = eqO m.zs m'.zs := (eqO_shp (by rw [← ho, ← ho']; simp; omega)).symm
    refine tr_rseq ?_
    refine sq_q (qt_move rfl) rfl ?_
    refine sq_q (qt_not rfl) rfl ?_
    refine sq_q (qt_move rfl) rfl ?_
    refine sq_gT rfl rfl ?_
    refine sq_q (qt_move rfl) rfl ?_
    refine sq_gT rfl rfl ?_
    refine sq_q (qt_not rfl) rfl ?_
    refine sq_q (qt_pick rfl rfl) rfl ?_
    refine sq_q (qt_move rfl) rfl ?_
    refine sq_gT rfl rfl ?_
    refine sq_q (qt_move rfl) rfl ?_
    refine sq_gT rfl rfl ?_
    refine sq_q (qt_move rfl) rfl ?_
    refine sq_gT rfl rfl ?_
    refine sq_q (qt_bin rfl rfl (bT bin_neq (by simp only [Option.getD_some]; omega))) rfl ?_
    refine sq_q (qt_pick rfl rfl) rfl ?_
    refine sq_q (qt_move rfl) rfl ?_
    refine sq_gF rfl rfl rfl rfl ?_
    refine sq_gF rfl rfl rfl rfl ?_
    refine sq_gF rfl rfl rfl rfl ?_
    refine sq_q (qt_pick rfl rfl) rfl ?_
    refine sq_end ?_
    refine tr_ifT rfl ?_
    refine tr_rseq ?_
    refine sq_q (qt_assign rfl) rfl ?_
    refine sq_end ?_
    refine tr_ret ?_
    repeat with_reducible first | refine tr_skip ?_ | refine tr_exit ?_ | refine tr_then ?_ | refine tr_inX ?_ | refine tr_thenX ?_ | refine tr_inN ?_ | refine tr_inR ?_ | refine tr_thenR ?_
    exact tr_done () (fun a w s t => results_1 rfl (resv_tmp s (congrArg (fun b => some (Value.bool b)) hf))) (fun _ _ _ _ => trivial)
  ·
    subst h1
    subst h2
    have hf : false = eqO m.zs m'.zs := (eqO_shp (by rw [← ho, ← ho']; simp; omega)).symm
    refine tr_rseq ?_
    refine sq_q (qt_move rfl) rfl ?_
    refine sq_q (qt_not rfl) rfl ?_
    refine sq_q (qt_move rfl) rfl ?_
    refine sq_gT rfl rfl ?_
    refine sq_q (qt_move rfl) rfl ?_
    refine sq_gT rfl rfl ?_
    refine sq_q (qt_not rfl) rfl ?_
    refine sq_q (qt_pick rfl rfl) rfl ?_
    refine sq_q (qt_move rfl) rfl ?_
    refine sq_gT rfl rfl ?_
    refine sq_q (qt_move rfl) rfl ?_
    refine sq_gT rfl rfl ?_
    refine sq_q (qt_move rfl) rfl ?_
    refine sq_gT rfl rfl ?_
    refine sq_q (qt_bin rfl rfl (bF bin_neq (by simp only [Option.getD_some]; omega))) rfl ?_
    refine sq_q (qt_pick rfl rfl) rfl ?_
    refine sq_q (qt_move rfl) rfl ?_
    refine sq_gT rfl rfl ?_
    refine sq_q (qt_move rfl) rfl ?_
    refine sq_gT rfl rfl ?_
    refine sq_q (qt_move rfl) rfl ?_
    refine sq_gT rfl rfl ?_
    refine sq_q (qt_bin rfl rfl (bT bin_neq (by simp only [Option.getD_some]; omega))) rfl ?_
    refine sq_q (qt_pick rfl rfl) rfl ?_
    refine sq_end ?_
    refine tr_ifT rfl ?_
    refine tr_rseq ?_
    refine sq_q (qt_assign rfl) rfl ?_
    refine sq_end ?_
    refine tr_ret ?_
    repeat with_reducible first | refine tr_skip ?_ | refine tr_exit ?_ | refine tr_then ?_ | refine tr_inX ?_ | refine tr_thenX ?_ | refine tr_inN ?_ | refine tr_inR ?_ | refine tr_thenR ?_
    exact tr_done () (fun a w s t => results_1 rfl (resv_tmp s (congrArg (fun b => some (Value.bool b)) hf))) (fun _ _ _ _ => trivial)
  ·
    subst h1
    subst h2
    obtain ⟨g1, g2, g3, g4, g5, g6⟩ := mt_shp ho.symm
    obtain ⟨g1', _, _, _, _, g6'⟩ := mt_shp ho'.symm
    refine tr_rseq ?_
    refine sq_q (qt_move rfl) rfl ?_
    refine sq_q (qt_not rfl) rfl ?_
    refine sq_q (qt_move rfl) rfl ?_
    refine sq_gT rfl rfl ?_
    refine sq_q (qt_move rfl) rfl ?_
    refine sq_gT rfl rfl ?_
    refine sq_q (qt_not rfl) rfl ?_
    refine sq_q (qt_pick rfl rfl) rfl ?_
    refine sq_q (qt_move rfl) rfl ?_
    refine sq_gT rfl rfl ?_
    refine sq_q (qt_move rfl) rfl ?_
    refine sq_gT rfl rfl ?_
    refine sq_q (qt_move rfl) rfl ?_
    refine sq_gT rfl rfl ?_
    refine sq_q (qt_bin rfl rfl (bF bin_neq (by simp only [Option.getD_some]; omega))) rfl ?_
    refine sq_q (qt_pick rfl rfl) rfl ?_
    refine sq_q (qt_move rfl) rfl ?_
    refine sq_gT rfl rfl ?_
    refine sq_q (qt_move rfl) rfl ?_
    refine sq_gT rfl rfl ?_
    refine sq_q (qt_move rfl) rfl ?_
    refine sq_gT rfl rfl ?_
    refine sq_q (qt_bin rfl rfl (bF bin_neq (by simp only [Option.getD_some]; omega))) rfl ?_
    refine sq_q (qt_pick rfl rfl) rfl ?_
    refine sq_end ?_
    refine tr_ifF rfl ?_
    refine tr_skip ?_
    repeat with_reducible first | refine tr_skip ?_ | refine tr_exit ?_ | refine tr_then ?_ | refine tr_inX ?_ | refine tr_thenX ?_ | refine tr_inN ?_ | refine tr_inR ?_ | refine tr_thenR ?_
    refine tr_seq ?_
    refine tr_rseq ?_
    refine sq_q (qt_move rfl) rfl ?_
    refine sq_q (qt_len rfl) rfl ?_
    refine sq_q (qt_move rfl) rfl ?_
    refine sq_end ?_
    refine tr_block ?_
    obtain ⟨ro, oo, evm, hat⟩ := hm.at_ (show 0 < m.rs.length by omega)
    obtain ⟨ro', oo', evm', hat'⟩ := hm'.at_ (show 0 < m'.rs.length by omega)
    refine tr_loop (fun i : Nat => i ≤ r ∧ ∀ a b, a < i → b < c → ent m.zs a b = ent m'.zs a b) (fun i => [(0, .slice (some ⟨ro, oo, none⟩) m.rs.length m.p.2), (1, .slice (some ⟨ro', oo', none⟩) m'.rs.length m'.p.2), (42, .int .i64 (r : Int)), (43, .int .i64 (i : Int))]) (fun _ => []) (fun _ _ => True) (fun i => r - i) 0 ⟨Nat.zero_le _, fun a b h _ => by omega⟩ ⟨congrArg some evm, congrArg some evm', congrArg (fun z => some (Value.int .i64 ((z : Nat) : Int))) g1, rfl, trivial⟩ rfl (fun _ _ => trivial) ?_
    rintro i ⟨hle, hE⟩
    refine tr_rseq ?_
    refine sq_q (qt_bin rfl rfl bin_lss) rfl ?_
    refine sq_end ?_
    refine tr_seq ?_
    refine tr_if rfl (fun hc => ?_) (fun hc => ?_)
    ·
      have hlt : i < r := by have := of_decide_eq_true hc; omega
      have hmi : i < m.rs.length := by omega
      have hmi' : i < m'.rs.length := by omega
      have hcl := g6 _ (List.getElem_mem hmi)
      have hcl' := g6' _ (List.getElem_mem hmi')
      obtain ⟨rr, orr, evr, hatr⟩ := (hm.2.2 _ (List.getElem_mem hmi)).at_ (show 0 < m.rs[i].l.length by omega)
      obtain ⟨rr', orr', evr', hatr'⟩ := (hm'.2.2 _ (List.getElem_mem hmi')).at_ (show 0 < m'.rs[i].l.length by omega)
      have hrw := hat i hmi
      have hrw' := hat' i hmi'
      rw [evr] at hrw
      rw [evr'] at hrw'
      refine tr_skip ?_
      repeat with_reducible first | refine tr_skip ?_ | refine tr_exit ?_ | refine tr_then ?_ | refine tr_inX ?_ | refine tr_thenX ?_ | refine tr_inN ?_ | refine tr_inR ?_ | refine tr_thenR ?_
      refine tr_seq ?_
      refine tr_block ?_
      refine tr_rseq ?_
      refine sq_q (qt_move rfl) rfl ?_
      refine sq_q (qt_assign rfl) rfl ?_
      refine sq_end ?_
      refine tr_rseq ?_
      refine sq_q (qt_move rfl) rfl ?_
      refine sq_q (qt_move rfl) rfl ?_
      refine sq_q (qt_index (i := i) rfl rfl hmi) rfl ?_
      refine sq_q (qt_load rfl (fun w t => t.a1 hrw)) rfl ?_
      refine sq_q (qt_len rfl) rfl ?_
      refine sq_q (qt_move rfl) rfl ?_
      refine sq_end ?_
      refine tr_block ?_
      refine tr_loop (fun j : Nat => j ≤ c ∧ ∀ b, b < j → ent m.zs i b = ent m'.zs i b) (fun j => [(0, .slice (some ⟨ro, oo, none⟩) m.rs.length m.p.2), (1, .slice (some ⟨ro', oo', none⟩) m'.rs.length m'.p.2), (11, .int .i64 (i : Int)), (42, .int .i64 (r : Int)), (43, .int .i64 (i : Int)), (50, .int .i64 (c : Int)), (51, .int .i64 (j : Int))]) (fun _ => []) (fun _ _ => True) (fun j => c - j) 0 ⟨Nat.zero_le _, fun b h => by omega⟩ ⟨rfl, rfl, rfl, rfl, rfl, congrArg (fun z => some (Value.int .i64 ((z : Nat) : Int))) hcl, rfl, trivial⟩ rfl (fun _ _ => trivial) ?_
      rintro j ⟨hjc, hF⟩
      refine tr_rseq ?_
      refine sq_q (qt_bin rfl rfl bin_lss) rfl ?_
      refine sq_end ?_
      refine tr_seq ?_
      refine tr_if rfl (fun hc => ?_) (fun hc => ?_)
      ·
        have hlt2 : j < c := by have := of_decide_eq_true hc; omega
        have hjl : j < m.rs[i].l.length := by omega
        have hjl' : j < m'.rs[i].l.length := by omega
        obtain ⟨hz0, hz1⟩ := hatr j hjl
        obtain ⟨hz0', hz1'⟩ := hatr' j hjl'
        have hzok := (hm.2.2 _ (List.getElem_mem hmi)).2.2 _ (List.getElem_mem hjl)
        have hzok' := (hm'.2.2 _ (List.getElem_mem hmi')).2.2 _ (List.getElem_mem hjl')
        have he := mt_ent hmi hjl
        have he' := mt_ent hmi' hjl'
        refine tr_skip ?_
        repeat with_reducible first | refine tr_skip ?_ | refine tr_exit ?_ | refine tr_then ?_ | refine tr_inX ?_ | refine tr_thenX ?_ | refine tr_inN ?_ | refine tr_inR ?_ | refine tr_thenR ?_
        refine tr_seq ?_
        refine tr_block ?_
        refine tr_rseq ?_
        refine sq_q (qt_move rfl) rfl ?_
        refine sq_q (qt_assign rfl) rfl ?_
        refine sq_end ?_
        refine tr_rdraw0 [0, 1, 4, 5, 6, 7, 8, 9, 10, 11, 12, 40, 42, 43, 44, 50, 51, 52, 69] (by kernel_rfl) ?_
        refine dx_q rfl (qt_move rfl) rfl ?_
        refine dx_q rfl (qt_move rfl) rfl ?_
        refine dx_q rfl (qt_index (i := i) rfl rfl hmi) rfl ?_
        refine dx_q rfl (qt_load rfl (fun w t => t.a1 hrw)) rfl ?_
        refine dx_q rfl (qt_move rfl) rfl ?_
        refine dx_q rfl (qt_index (i := j) rfl rfl hjl) rfl ?_
        refine dx_q rfl (qt_load2 rfl (fun w t => t.atA hz0) (fun w t => t.atA hz1)) rfl ?_
        refine dx_q rfl (qt_move rfl) rfl ?_
        refine dx_q rfl (qt_move rfl) rfl ?_
        refine dx_q rfl (qt_index (i := i) rfl rfl hmi') rfl ?_
        refine dx_q rfl (qt_load rfl (fun w t => t.a1 hrw')) rfl ?_
        refine dx_q rfl (qt_move rfl) rfl ?_
        refine dx_q rfl (qt_index (i := j) rfl rfl hjl') rfl ?_
        refine dx_q rfl (qt_load2 rfl (fun w t => t.atA hz0') (fun w t => t.atA hz1')) rfl ?_
        refine dx_callv (v := .int .i64 (cmpZ (ent m.zs i j) (ent m'.zs i j))) (F := fun _ _ => True) rfl rfl rfl (fun w t => by rw [he, he']; exact rcmp_zd (t.zd hzok) (t.zd hzok') hB hB) ?_
        refine dx_q rfl (qt_bin rfl rfl bin_neq) rfl ?_
        refine dx_nil ?_
        repeat (first | refine es_val rfl ?_ rfl | refine es_res rfl (fun x => ?_) rfl | refine es_skip rfl ?_)
        refine es_nil rfl ?_
        refine tx_endk ?_
        refine tr_if rfl (fun hc => ?_) (fun hc => ?_)
        ·
          have hne := cmpZ_ne.1 (of_decide_eq_true hc)
          have hf : false = eqO m.zs m'.zs := (eqO_ent hne).symm
          refine tr_rseq ?_
          refine sq_q (qt_assign rfl) rfl ?_
          refine sq_end ?_
          refine tr_ret ?_
          repeat with_reducible first | refine tr_skip ?_ | refine tr_exit ?_ | refine tr_then ?_ | refine tr_inX ?_ | refine tr_thenX ?_ | refine tr_inN ?_ | refine tr_inR ?_ | refine tr_thenR ?_
          exact tr_done () (fun a w s t => results_1 rfl (resv_tmp s (congrArg (fun b => some (Value.bool b)) hf))) (fun _ _ _ _ => trivial)
        ·
          have heq : ent m.zs i j = ent m'.zs i j := Decidable.of_not_not fun h => of_decide_eq_false hc (cmpZ_ne.2 h)
          refine tr_skip ?_
          repeat with_reducible first | refine tr_skip ?_ | refine tr_exit ?_ | refine tr_then ?_ | refine tr_inX ?_ | refine tr_thenX ?_ | refine tr_inN ?_ | refine tr_inR ?_ | refine tr_thenR ?_
          refine tr_region ?_
          refine sq_q (qt_bin rfl rfl (bin_addI (by omega) (by omega))) rfl ?_
          refine sq_q (qt_move rfl) rfl ?_
          refine sq_nil ?_
          repeat with_reducible first | refine tr_skip ?_ | refine tr_exit ?_ | refine tr_then ?_ | refine tr_inX ?_ | refine tr_thenX ?_ | refine tr_inN ?_ | refine tr_inR ?_ | refine tr_thenR ?_
          exact tr_round (j + 1) ⟨by omega, fun b hb => by
            rcases Nat.lt_or_ge b j with h | h
            · exact hF b h
            · rw [show b = j by omega]; exact heq⟩ (by omega) ⟨rfl, rfl, rfl, rfl, rfl, rfl, rfl, trivial⟩ rfl (fun _ h => h)
      ·
        have hje : j = c := by have := of_decide_eq_false hc; omega
        refine tr_exit ?_
        repeat with_reducible first | refine tr_skip ?_ | refine tr_exit ?_ | refine tr_then ?_ | refine tr_inX ?_ | refine tr_thenX ?_ | refine tr_inN ?_ | refine tr_inR ?_ | refine tr_thenR ?_
        refine tr_region ?_
        refine sq_q (qt_bin rfl rfl (bin_addI (by omega) (by omega))) rfl ?_
        refine sq_q (qt_move rfl) rfl ?_
        refine sq_nil ?_
        repeat with_reducible first | refine tr_skip ?_ | refine tr_exit ?_ | refine tr_then ?_ | refine tr_inX ?_ | refine tr_thenX ?_ | refine tr_inN ?_ | refine tr_inR ?_ | refine tr_thenR ?_
        exact tr_round (i + 1) ⟨by omega, fun a b ha hb => by
          rcases Nat.lt_or_ge a i with h | h
          · exact hE a b h hb
          · rw [show a = i by omega]; exact hF b (by omega)⟩ (by omega) ⟨rfl, rfl, rfl, rfl, trivial⟩ rfl (fun _ h => h)
    ·
      have hik : i = r := by have := of_decide_eq_false hc; omega
      subst hik
      refine tr_exit ?_
      repeat with_reducible first | refine tr_skip ?_ | refine tr_exit ?_ | refine tr_then ?_ | refine tr_inX ?_ | refine tr_thenX ?_ | refine tr_inN ?_ | refine tr_inR ?_ | refine tr_thenR ?_
      refine tr_rseq ?_
      refine sq_q (qt_assign rfl) rfl ?_
      refine sq_end ?_
      refine tr_ret ?_
      repeat with_reducible first | refine tr_skip ?_ | refine tr_exit ?_ | refine tr_then ?_ | refine tr_inX ?_ | refine tr_thenX ?_ | refine tr_inN ?_ | refine tr_inR ?_ | refine tr_thenR ?_
      exact tr_done () (fun a w s t => results_1 rfl (resv_tmp s (congrArg (fun b => some (Value.bool b)) (eqO_grid ho.symm ho'.symm hE).symm))) (fun _ _ _ _ => trivial)
end Go.Qk
end
section
set_option linter.unusedVariables false
namespace Go.Qk
open Go Go.Proofs Go.RowKit
set_option maxRecDepth 100000
set_option maxHeartbeats 4000000
theorem rfromints_retK (m : Xm) (r c : Nat) (w0 : World) (S : Nat → Prop) (hm : m.ok w0) (hsh : shp m.zs = some (r, c)) :
    Ret Try.prog 58 [m.v] w0 S (fun x : Nat × List Wr => .tuple #[.slice (some ⟨x.1, 0, none⟩) r r, .bool true]) (fun x w' => Fresh w0.heap.size (mown x.1 x.2) w' ∧ (MG (ent m.zs) r c x.2 ∧ allz Zd.can x.2) ∧ Kp w0 S (mown x.1 x.2) (fun w => allz (fun z => z.ok 2 w) x.2) w') := by
  obtain ⟨q1, q2, q3, q4, q5, q6⟩ := shp_inv hsh
  have hkk : keepO m.zs ≠ none := by unfold keepO; rw [hsh]; exact fun h => nomatch h
  have hlen : m.rs.length ≤ 35184372088832 := by have : m.zs.length = m.rs.length := by simp [Xm.zs]
                                                 omega
  have hrow : ∀ q ∈ m.rs, q.l.length ≤ 35184372088832 := fun q hq => by have := q6 q.l (List.mem_map.2 ⟨q, hq, rfl⟩); omega
  have hzl : m.zs.length = m.rs.length := by simp [Xm.zs]
  have hzi : ∀ i (h : i < m.rs.length), m.zs[i]'(by omega) = m.rs[i].l := fun i h => by simp [Xm.zs]
  refine ret_of Try.func58 rfl Try.ntmps58 rfl ?_
  refine tr_rseq ?_
  refine sq_q (qt_assign rfl) rfl ?_
  refine sq_q (qt_assign rfl) rfl ?_
  refine sq_end ?_
  refine tr_seq ?_
  have hcs : m.rs.length < 1 ∨ (1 ≤ m.rs.length ∧ 16 < m.rs.length) ∨ (1 ≤ m.rs.length ∧ m.rs.length ≤ 16) := by omega
  rcases hcs with h1 | ⟨h1, h2⟩ | ⟨h1, h2⟩
  ·
    have e : keepO m.zs = none := by unfold keepO; rw [shp_none_len (by omega)]; rfl
    refine tr_rseq ?_
    refine sq_q (qt_move rfl) rfl ?_
    refine sq_q (qt_len rfl) rfl ?_
    refine sq_q (qt_bin rfl rfl (bT bin_lss (by omega))) rfl ?_
    refine sq_q (qt_move rfl) rfl ?_
    refine sq_gF rfl rfl rfl rfl ?_
    refine sq_gF rfl rfl rfl rfl ?_
    refine sq_gF rfl rfl rfl rfl ?_
    refine sq_q (qt_pick rfl rfl) rfl ?_
    refine sq_end ?_
    refine tr_ifT rfl ?_
    refine tr_rseq ?_
    refine sq_q (qt_assign rfl) rfl ?_
    refine sq_q (qt_assign rfl) rfl ?_
    refine sq_end ?_
    refine tr_ret ?_
    repeat with_reducible first | refine tr_skip ?_ | refine tr_exit ?_ | refine tr_then ?_ | refine tr_inX ?_ | refine tr_thenX ?_ | refine tr_inN ?_ | refine tr_inR ?_ | refine tr_thenR ?_
    exact absurd e hkk
  ·
    have e : keepO m.zs = none := by unfold keepO; rw [shp_none_len (by omega)]; rfl
    refine tr_rseq ?_
    refine sq_q (qt_move rfl) rfl ?_
    refine sq_q (qt_len rfl) rfl ?_
    refine sq_q (qt_bin rfl rfl (bF bin_lss (by omega))) rfl ?_
    refine sq_q (qt_move rfl) rfl ?_
    refine sq_gT rfl rfl ?_
    refine sq_q (qt_move rfl) rfl ?_
    refine sq_gT rfl rfl ?_
    refine sq_q (qt_len rfl) rfl ?_
    refine sq_gT rfl rfl ?_
    refine sq_q (qt_bin rfl rfl (bT bin_gtr (by omega))) rfl ?_
    refine sq_q (qt_pick rfl rfl) rfl ?_
    refine sq_end ?_
    refine tr_ifT rfl ?_
    refine tr_rseq ?_
    refine sq_q (qt_assign rfl) rfl ?_
    refine sq_q (qt_assign rfl) rfl ?_
    refine sq_end ?_
    refine tr_ret ?_
    repeat with_reducible first | refine tr_skip ?_ | refine tr_exit ?_ | refine tr_then ?_ | refine tr_inX ?_ | refine tr_thenX ?_ | refine tr_inN ?_ | refine tr_inR ?_ | refine tr_thenR ?_
    exact absurd e hkk
  ·
    refine tr_rseq ?_
    refine sq_q (qt_move rfl) rfl ?_
    refine sq_q (qt_len rfl) rfl ?_
    refine sq_q (qt_bin rfl rfl (bF bin_lss (by omega))) rfl ?_
    refine sq_q (qt_move rfl) rfl ?_
    refine sq_gT rfl rfl ?_
    refine sq_q (qt_move rfl) rfl ?_
    refine sq_gT rfl rfl ?_
    refine sq_q (qt_len rfl) rfl ?_
    refine sq_gT rfl rfl ?_
    refine sq_q (qt_bin rfl rfl (bF bin_gtr (by omega))) rfl ?_
    refine sq_q (qt_pick rfl rfl) rfl ?_
    refine sq_end ?_
    refine tr_ifF rfl ?_
    refine tr_skip ?_
    repeat with_reducible first | refine tr_skip ?_ | refine tr_exit ?_ | refine tr_then ?_ | refine tr_inX ?_ | refine tr_thenX ?_ | refine tr_inN ?_ | refine tr_inR ?_ | refine tr_thenR ?_
    refine tr_seq ?_
    have hp0 : 0 < m.rs.length := by omega
    obtain ⟨ro, oo, eo, ho0⟩ := hm.1.at_ (i := 0) (v := (m.rs[0]).v) (by simp [hp0])
    have hat : ∀ k (h : k < m.rs.length), At ro (oo + k) (m.rs[k]).v w0 := by
      intro k h
      obtain ⟨r', o', e', h'⟩ := hm.1.at_ (i := k) (v := (m.rs[k]).v) (by simp [h])
      rw [eo] at e'
      injection e' with e'
      injection e' with e1 e2 _
      subst e1 e2
      exact h'
    have evm : m.v = .slice (some ⟨ro, oo, none⟩) m.rs.length m.p.2 := by unfold Xm.v; rw [eo]
    rw [evm]
    refine tr_rseq ?_
    refine sq_q (qt_move rfl) rfl ?_
    refine sq_q (qt_len rfl) rfl ?_
    refine sq_q (qt_move rfl) rfl ?_
    refine sq_end ?_
    refine tr_block ?_
    refine tr_loop (fun k : Nat => k ≤ m.rs.length ∧ ∀ i (h : i < m.rs.length), i < k → 1 ≤ m.rs[i].l.length ∧ m.rs[i].l.length ≤ 16 ∧ m.rs[i].l.length = m.rs[0].l.length) (fun k => [(0, .slice (some ⟨ro, oo, none⟩) m.rs.length m.p.2), (17, .slice (some ⟨ro, oo, none⟩) m.rs.length m.p.2), (18, .int .i64 (m.rs.length : Int)), (19, .int .i64 (k : Int))]) (fun _ => []) (fun _ _ => True) (fun k => m.rs.length - k) 0 ⟨Nat.zero_le _, fun i _ h => by omega⟩ ⟨rfl, rfl, rfl, rfl, trivial⟩ rfl (fun _ _ => trivial) ?_
    rintro k ⟨hk, hall⟩
    refine tr_rseq ?_
    refine sq_q (qt_bin rfl rfl bin_lss) rfl ?_
    refine sq_end ?_
    refine tr_seq ?_
    refine tr_if rfl (fun hc => ?_) (fun hc => ?_)
    ·
      have hlt : k < m.rs.length := by have := of_decide_eq_true hc; omega
      have hrk := hrow _ (List.getElem_mem hlt)
      have hr0 := hrow _ (List.getElem_mem hp0)
      refine tr_skip ?_
      repeat with_reducible first | refine tr_skip ?_ | refine tr_exit ?_ | refine tr_then ?_ | refine tr_inX ?_ | refine tr_thenX ?_ | refine tr_inN ?_ | refine tr_inR ?_ | refine tr_thenR ?_
      refine tr_seq ?_
      refine tr_block ?_
      refine tr_rseq ?_
      refine sq_q (qt_index (i := k) rfl rfl hlt) rfl ?_
      refine sq_q (qt_load rfl (fun w t => t.a1 (hat k hlt))) rfl ?_
      refine sq_q (qt_assign rfl) rfl ?_
      refine sq_end ?_
      have hcs : m.rs[k].l.length < 1 ∨ (1 ≤ m.rs[k].l.length ∧ 16 < m.rs[k].l.length) ∨ ((1 ≤ m.rs[k].l.length ∧ m.rs[k].l.length ≤ 16) ∧ m.rs[k].l.length ≠ m.rs[0].l.length) ∨ ((1 ≤ m.rs[k].l.length ∧ m.rs[k].l.length ≤ 16) ∧ m.rs[k].l.length = m.rs[0].l.length) := by omega
      have hno : (m.rs[k].l.length < 1 ∨ 16 < m.rs[k].l.length ∨ m.rs[k].l.length ≠ m.rs[0].l.length) → keepO m.zs = none := fun h => by
        unfold keepO
        rw [shp_none_row (k := k) (by omega) (by omega) (by rw [hzi k hlt, hzi 0 hp0]; exact h)]
        rfl
      rcases hcs with g1 | ⟨g1, g2⟩ | ⟨⟨g1, g2⟩, g3⟩ | ⟨⟨g1, g2⟩, g3⟩
      ·
        have e := hno (.inl g1)
        refine tr_rseq ?_
        refine sq_q (qt_move rfl) rfl ?_
        refine sq_q (qt_len rfl) rfl ?_
        refine sq_q (qt_bin rfl rfl (bT bin_lss (by omega))) rfl ?_
        refine sq_q (qt_move rfl) rfl ?_
        refine sq_gF rfl rfl rfl rfl ?_
        refine sq_gF rfl rfl rfl rfl ?_
        refine sq_gF rfl rfl rfl rfl ?_
        refine sq_q (qt_pick rfl rfl) rfl ?_
        refine sq_q (qt_move rfl) rfl ?_
        refine sq_gF rfl rfl rfl rfl ?_
        refine sq_gF rfl rfl rfl rfl ?_
        refine sq_gF rfl rfl rfl rfl ?_
        refine sq_gF rfl rfl rfl rfl ?_
        refine sq_gF rfl rfl rfl rfl ?_
        refine sq_gF rfl rfl rfl rfl ?_
        refine sq_gF rfl rfl rfl rfl ?_
        refine sq_q (qt_pick rfl rfl) rfl ?_
        refine sq_end ?_
        refine tr_ifT rfl ?_
        refine tr_rseq ?_
        refine sq_q (qt_assign rfl) rfl ?_
        refine sq_q (qt_assign rfl) rfl ?_
        refine sq_end ?_
        refine tr_ret ?_
        repeat with_reducible first | refine tr_skip ?_ | refine tr_exit ?_ | refine tr_then ?_ | refine tr_inX ?_ | refine tr_thenX ?_ | refine tr_inN ?_ | refine tr_inR ?_ | refine tr_thenR ?_
        exact absurd e hkk
      ·
        have e := hno (.inr (.inl g2))
        refine tr_rseq ?_
        refine sq_q (qt_move rfl) rfl ?_
        refine sq_q (qt_len rfl) rfl ?_
        refine sq_q (qt_bin rfl rfl (bF bin_lss (by omega))) rfl ?_
        refine sq_q (qt_move rfl) rfl ?_
        refine sq_gT rfl rfl ?_
        refine sq_q (qt_move rfl) rfl ?_
        refine sq_gT rfl rfl ?_
        refine sq_q (qt_len rfl) rfl ?_
        refine sq_gT rfl rfl ?_
        refine sq_q (qt_bin rfl rfl (bT bin_gtr (by omega))) rfl ?_
        refine sq_q (qt_pick rfl rfl) rfl ?_
        refine sq_q (qt_move rfl) rfl ?_
        refine sq_gF rfl rfl rfl rfl ?_
        refine sq_gF rfl rfl rfl rfl ?_
        refine sq_gF rfl rfl rfl rfl ?_
        refine sq_gF rfl rfl rfl rfl ?_
        refine sq_gF rfl rfl rfl rfl ?_
        refine sq_gF rfl rfl rfl rfl ?_
        refine sq_gF rfl rfl rfl rfl ?_
        refine sq_q (qt_pick rfl rfl) rfl ?_
        refine sq_end ?_
        refine tr_ifT rfl ?_
        refine tr_rseq ?_
        refine sq_q (qt_assign rfl) rfl ?_
        refine sq_q (qt_assign rfl) rfl ?_
        refine sq_end ?_
        refine tr_ret ?_
        repeat with_reducible first | refine tr_skip ?_ | refine tr_exit ?_ | refine tr_then ?_ | refine tr_inX ?_ | refine tr_thenX ?_ | refine tr_inN ?_ | refine tr_inR ?_ | refine tr_thenR ?_
        exact absurd e hkk
      ·
        have e := hno (.inr (.inr g3))
        refine tr_rseq ?_
        refine sq_q (qt_move rfl) rfl ?_
        refine sq_q (qt_len rfl) rfl ?_
        refine sq_q (qt_bin rfl rfl (bF bin_lss (by omega))) rfl ?_
        refine sq_q (qt_move rfl) rfl ?_
        refine sq_gT rfl rfl ?_
        refine sq_q (qt_move rfl) rfl ?_
        refine sq_gT rfl rfl ?_
        refine sq_q (qt_len rfl) rfl ?_
        refine sq_gT rfl rfl ?_
        refine sq_q (qt_bin rfl rfl (bF bin_gtr (by omega))) rfl ?_
        refine sq_q (qt_pick rfl rfl) rfl ?_
        refine sq_q (qt_move rfl) rfl ?_
        refine sq_gT rfl rfl ?_
        refine sq_q (qt_move rfl) rfl ?_
        refine sq_gT rfl rfl ?_
        refine sq_q (qt_len rfl) rfl ?_
        refine sq_gT rfl rfl ?_
        refine sq_q (qt_move rfl) rfl ?_
        refine sq_gT rfl rfl ?_
        refine sq_q (qt_index (i := 0) rfl rfl hp0) rfl ?_
        refine sq_gT rfl rfl ?_
        refine sq_q (qt_load rfl (fun w t => t.a1 (hat 0 hp0))) rfl ?_
        refine sq_gT rfl rfl ?_
        refine sq_q (qt_len rfl) rfl ?_
        refine sq_gT rfl rfl ?_
        refine sq_q (qt_bin rfl rfl (bT bin_neq (by omega))) rfl ?_
        refine sq_q (qt_pick rfl rfl) rfl ?_
        refine sq_end ?_
        refine tr_ifT rfl ?_
        refine tr_rseq ?_
        refine sq_q (qt_assign rfl) rfl ?_
        refine sq_q (qt_assign rfl) rfl ?_
        refine sq_end ?_
        refine tr_ret ?_
        repeat with_reducible first | refine tr_skip ?_ | refine tr_exit ?_ | refine tr_then ?_ | refine tr_inX ?_ | refine tr_thenX ?_ | refine tr_inN ?_ | refine tr_inR ?_ | refine tr_thenR ?_
        exact absurd e hkk
      ·
        refine tr_rseq ?_
        refine sq_q (qt_move rfl) rfl ?_
        refine sq_q (qt_len rfl) rfl ?_
        refine sq_q (qt_bin rfl rfl (bF bin_lss (by omega))) rfl ?_
        refine sq_q (qt_move rfl) rfl ?_
        refine sq_gT rfl rfl ?_
        refine sq_q (qt_move rfl) rfl ?_
        refine sq_gT rfl rfl ?_
        refine sq_q (qt_len rfl) rfl ?_
        refine sq_gT rfl rfl ?_
        refine sq_q (qt_bin rfl rfl (bF bin_gtr (by omega))) rfl ?_
        refine sq_q (qt_pick rfl rfl) rfl ?_
        refine sq_q (qt_move rfl) rfl ?_
        refine sq_gT rfl rfl ?_
        refine sq_q (qt_move rfl) rfl ?_
        refine sq_gT rfl rfl ?_
        refine sq_q (qt_len rfl) rfl ?_
        refine sq_gT rfl rfl ?_
        refine sq_q (qt_move rfl) rfl ?_
        refine sq_gT rfl rfl ?_
        refine sq_q (qt_index (i := 0) rfl rfl hp0) rfl ?_
        refine sq_gT rfl rfl ?_
        refine sq_q (qt_load rfl (fun w t => t.a1 (hat 0 hp0))) rfl ?_
        refine sq_gT rfl rfl ?_
        refine sq_q (qt_len rfl) rfl ?_
        refine sq_gT rfl rfl ?_
        refine sq_q (qt_bin rfl rfl (bF bin_neq (by omega))) rfl ?_
        refine sq_q (qt_pick rfl rfl) rfl ?_
        refine sq_end ?_
        refine tr_ifF rfl ?_
        refine tr_skip ?_
        repeat with_reducible first | refine tr_skip ?_ | refine tr_exit ?_ | refine tr_then ?_ | refine tr_inX ?_ | refine tr_thenX ?_ | refine tr_inN ?_ | refine tr_inR ?_ | refine tr_thenR ?_
        refine tr_region ?_
        refine sq_q (qt_bin rfl rfl (bin_addI (by omega) (by omega))) rfl ?_
        refine sq_q (qt_move rfl) rfl ?_
        refine sq_nil ?_
        repeat with_reducible first | refine tr_skip ?_ | refine tr_exit ?_ | refine tr_then ?_ | refine tr_inX ?_ | refine tr_thenX ?_ | refine tr_inN ?_ | refine tr_inR ?_ | refine tr_thenR ?_
        refine tr_round (k + 1) ⟨by omega, fun i h hi => ?_⟩ (by omega) ⟨rfl, rfl, rfl, rfl, trivial⟩ rfl (fun _ h => h)
        by_cases e : i = k
        · subst e; exact ⟨g1, g2, g3⟩
        · exact hall i h (by omega)
    ·
      have hkm : k = m.rs.length := by have := of_decide_eq_false hc; omega
      subst hkm
      have hcl : c = m.rs[0].l.length := by have := q6 m.rs[0].l (List.mem_map.2 ⟨_, List.getElem_mem hp0, rfl⟩); omega
      have hrows : ∀ i (h : i < m.rs.length), m.rs[i].l.length = c := fun i h => by rw [hcl]; exact (hall i h h).2.2
      have hc1 : 1 ≤ c ∧ c ≤ 16 := by rw [hcl]; exact ⟨(hall 0 hp0 hp0).1, (hall 0 hp0 hp0).2.1⟩
      have hr : r = m.rs.length := by omega
      refine tr_exit ?_
      repeat with_reducible first | refine tr_skip ?_ | refine tr_exit ?_ | refine tr_then ?_ | refine tr_inX ?_ | refine tr_thenX ?_ | refine tr_inN ?_ | refine tr_inR ?_ | refine tr_thenR ?_
      refine tr_rseq ?_
      refine sq_q (qt_move rfl) rfl ?_
      refine sq_q (qt_len rfl) rfl ?_
      refine sq_q (qt_move rfl) rfl ?_
      refine sq_q (qt_index (i := 0) rfl rfl hp0) rfl ?_
      refine sq_q (qt_load rfl (fun w t => t.a1 (hat 0 hp0))) rfl ?_
      refine sq_q (qt_len rfl) rfl ?_
      rw [← hcl, ← hr]
      refine sq_call (fun x : Nat × List Wr => .slice (some ⟨x.1, 0, none⟩) r r) (fun x w' => Fresh w0.heap.size (mown x.1 x.2) w' ∧ x.2.map (·.2) = List.replicate r (List.replicate c z0)) rfl rfl rfl (fun w t => zero_call t r c (by omega) (by omega)) fun x => ?_
      refine sq_q (qt_assign rfl) rfl ?_
      refine sq_end ?_
      obtain ⟨o, qs⟩ := x
      refine tr_have (fun w t => t.r.2.2) fun hqs => ?_
      refine tr_adopt0 (mown o qs) (fun w h => h.2.1) ?_
      refine tr_seq ?_
      refine tr_rseq ?_
      refine sq_q (qt_move rfl) rfl ?_
      refine sq_q (qt_len rfl) rfl ?_
      refine sq_q (qt_move rfl) rfl ?_
      refine sq_end ?_
      refine tr_block ?_
      refine tr_loop2 (fun (i : Nat) (qs : List Wr) => i ≤ r ∧ MG (fun a b => if a < i then ent m.zs a b else 0) r c qs ∧ allz Zd.can qs) (fun i qs => [(0, .slice (some ⟨ro, oo, none⟩) r m.p.2), (6, .slice (some ⟨o, 0, none⟩) r r), (49, .int .i64 (r : Int)), (50, .int .i64 (i : Int))])
        (fun i qs => mown o qs) (fun i qs w => allz (fun z => z.ok 2 w) qs) (fun i qs => r - i) 0 qs ⟨Nat.zero_le _, (MG.of_zero hqs).congr (fun a b _ _ => by rw [if_neg (by omega)]), allz.of_zero hqs z0_can⟩ ⟨by rw [hr]; rfl, rfl, by rw [hr]; rfl, rfl, trivial⟩ rfl (fun w _ => allz.of_zero hqs (z0_ok 2 w)) ?_
      clear hqs qs
      rintro i qs ⟨hle, hG, hcan⟩
      refine tr_rseq ?_
      refine sq_q (qt_bin rfl rfl bin_lss) rfl ?_
      refine sq_end ?_
      refine tr_seq ?_
      refine tr_if rfl (fun hc => ?_) (fun hc => ?_)
      ·
        have hlt : i < r := by have := of_decide_eq_true hc; omega
        have hli : i < m.rs.length := by omega
        have hlc := hrows i hli
        have hokr := hm.2.2 _ (List.getElem_mem hli)
        refine tr_skip ?_
        repeat with_reducible first | refine tr_skip ?_ | refine tr_exit ?_ | refine tr_then ?_ | refine tr_inX ?_ | refine tr_thenX ?_ | refine tr_inN ?_ | refine tr_inR ?_ | refine tr_thenR ?_
        refine tr_seq ?_
        refine tr_block ?_
        refine tr_rseq ?_
        refine sq_q (qt_move rfl) rfl ?_
        refine sq_q (qt_assign rfl) rfl ?_
        refine sq_end ?_
        refine tr_rseq ?_
        refine sq_q (qt_move rfl) rfl ?_
        refine sq_q (qt_move rfl) rfl ?_
        refine sq_q (qt_index (i := i) rfl rfl hlt) rfl ?_
        refine sq_q (qt_load rfl (fun w t => t.a1 (hat i hli))) rfl ?_
        refine sq_q (qt_len rfl) rfl ?_
        refine sq_q (qt_move rfl) rfl ?_
        refine sq_end ?_
        refine tr_block ?_
        refine tr_loop2 (fun (j : Nat) (qs : List Wr) => j ≤ c ∧ MG (fun a b => if a < i ∨ (a = i ∧ b < j) then ent m.zs a b else 0) r c qs ∧ allz Zd.can qs) (fun j qs => [(0, .slice (some ⟨ro, oo, none⟩) r m.p.2), (6, .slice (some ⟨o, 0, none⟩) r r), (7, .int .i64 (i : Int)), (49, .int .i64 (r : Int)), (50, .int .i64 (i : Int)), (57, .int .i64 (c : Int)), (58, .int .i64 (j : Int))])
          (fun j qs => mown o qs) (fun j qs w => allz (fun z => z.ok 2 w) qs) (fun j qs => c - j) 0 qs ⟨Nat.zero_le _, hG.congr (fun a b _ _ => by by_cases h : a < i <;> simp [h]), hcan⟩ ⟨rfl, rfl, rfl, rfl, rfl, by rw [← hlc]; rfl, rfl, trivial⟩ rfl (fun w h => h) ?_
        clear hG hcan qs
        rintro j qs ⟨hlj, hG, hcan⟩
        refine tr_rseq ?_
        refine sq_q (qt_bin rfl rfl bin_lss) rfl ?_
        refine sq_end ?_
        refine tr_seq ?_
        refine tr_if rfl (fun hc => ?_) (fun hc => ?_)
        ·
          have hltj : j < c := by have := of_decide_eq_true hc; omega
          have hljl : j < m.rs[i].l.length := by omega
          obtain ⟨q, hq, hql⟩ := hG.get hlt
          obtain ⟨rr, orr, er, hxat⟩ := hokr.1.at_ (i64s_get hljl)
          have h64 := hokr.2.2 _ (List.getElem_mem hljl)
          have hent : ent m.zs i j = m.rs[i].l[j] := by
            rw [ent_at (by omega) (by rw [hzi i hli]; exact hljl)]
            simp [hzi i hli]
          have evr : (m.rs[i]).v = .slice (some ⟨rr, orr, none⟩) m.rs[i].l.length m.rs[i].p.2 := by unfold Xr.v; rw [er]
          refine tr_skip ?_
          repeat with_reducible first | refine tr_skip ?_ | refine tr_exit ?_ | refine tr_then ?_ | refine tr_inX ?_ | refine tr_thenX ?_ | refine tr_inN ?_ | refine tr_inR ?_ | refine tr_thenR ?_
          refine tr_seq ?_
          refine tr_block ?_
          refine tr_rseq ?_
          refine sq_q (qt_move rfl) rfl ?_
          refine sq_q (qt_assign rfl) rfl ?_
          refine sq_end ?_
          refine tr_draw 13 [] [] [0, 2, 3, 5, 6, 7, 8, 16, 17, 18, 19, 20, 39, 49, 50, 51, 57, 58, 59, 64, 65, 73] (by kernel_rfl) ?_
          refine dx_q rfl (qt_move rfl) rfl ?_
          refine dx_q rfl (qt_move rfl) rfl ?_
          refine dx_q rfl (qt_index (i := i) rfl rfl hlt) rfl ?_
          refine dx_q rfl (qt_load rfl (fun w t => t.o1 0 rfl (mout_get hq))) rfl ?_
          refine dx_q rfl (qt_move rfl) rfl ?_
          refine dx_q rfl (qt_move rfl) rfl ?_
          refine dx_q rfl (qt_move rfl) rfl ?_
          refine dx_q rfl (qt_index (i := i) rfl rfl hlt) rfl ?_
          refine dx_q rfl (qt_load (v := .slice (some ⟨rr, orr, none⟩) m.rs[i].l.length m.rs[i].p.2) rfl (fun w t => by rw [← evr]; exact t.a1 (hat i hli))) rfl ?_
          refine dx_q rfl (qt_move rfl) rfl ?_
          refine dx_q rfl (qt_index (i := j) rfl rfl hljl) rfl ?_
          refine dx_q rfl (qt_load rfl (fun w t => t.a1 hxat)) rfl ?_
          refine dx_call (iv m.rs[i].l[j]) (Lz (m.rs[i].l[j]).natAbs) rfl rfl rfl (fun w t => rsmall_ret _ w _ h64.1 h64.2) ?_
          refine dx_nil ?_
          repeat (first | refine es_val rfl ?_ rfl | refine es_res rfl (fun x => ?_) rfl | refine es_skip rfl ?_)
          refine es_nil rfl ?_
          refine tx_q (qt_index (i := j) rfl rfl (by omega)) rfl rfl rfl ?_
          refine tx_store (i + 1) rfl rfl (mown_at hq) rfl (show 0 + j * 2 + 2 ≤ (zcs q.2).length by rw [zcs_length, hql]; omega) rfl rfl rfl ?_
          refine tx_end ?_
          repeat with_reducible first | refine tr_skip ?_ | refine tr_exit ?_ | refine tr_then ?_ | refine tr_inX ?_ | refine tr_thenX ?_ | refine tr_inN ?_ | refine tr_inR ?_ | refine tr_thenR ?_
          refine tr_region ?_
          refine sq_q (qt_bin rfl rfl (bin_addI (by omega) (by omega))) rfl ?_
          refine sq_q (qt_move rfl) rfl ?_
          refine sq_nil ?_
          repeat with_reducible first | refine tr_skip ?_ | refine tr_exit ?_ | refine tr_then ?_ | refine tr_inX ?_ | refine tr_thenX ?_ | refine tr_inN ?_ | refine tr_inR ?_ | refine tr_thenR ?_
          refine tr_own (mown o (qs.set i (q.1, q.2.set j (zd m.rs[i].l[j] x)))) (mown_wr (zd m.rs[i].l[j] x) hq (by omega)) ?_
          refine tr_round2 (j + 1) (qs.set i (q.1, q.2.set j (zd m.rs[i].l[j] x))) ⟨by omega, (hG.set hq (zd m.rs[i].l[j] x) _ (zd_z _ _)).congr (fun a b _ _ => ?_), hcan.set hq (zd_can _ _)⟩ (by omega) ⟨rfl, rfl, rfl, rfl, rfl, rfl, rfl, trivial⟩ rfl (fun w h => h.1.set hq (zd_ok h.2 (nl_64 h64)))
          unfold gset
          try dsimp only
          by_cases h : a = i ∧ b = j
          · rw [if_pos h, if_pos (by omega), ← hent, h.1, h.2]
          · rw [if_neg h]
            by_cases h' : a < i ∨ (a = i ∧ b < j)
            · rw [if_pos h', if_pos (by omega)]
            · rw [if_neg h', if_neg (by omega)]
        ·
          have hjc : j = c := by have := of_decide_eq_false hc; omega
          refine tr_exit ?_
          repeat with_reducible first | refine tr_skip ?_ | refine tr_exit ?_ | refine tr_then ?_ | refine tr_inX ?_ | refine tr_thenX ?_ | refine tr_inN ?_ | refine tr_inR ?_ | refine tr_thenR ?_
          refine tr_region ?_
          refine sq_q (qt_bin rfl rfl (bin_addI (by omega) (by omega))) rfl ?_
          refine sq_q (qt_move rfl) rfl ?_
          refine sq_nil ?_
          repeat with_reducible first | refine tr_skip ?_ | refine tr_exit ?_ | refine tr_then ?_ | refine tr_inX ?_ | refine tr_thenX ?_ | refine tr_inN ?_ | refine tr_inR ?_ | refine tr_thenR ?_
          refine tr_round2 (i + 1) qs ⟨by omega, hG.congr (fun a b _ hb => ?_), hcan⟩ (by omega) ⟨rfl, rfl, rfl, rfl, trivial⟩ rfl (fun w h => h)
          try dsimp only
          by_cases h : a < i ∨ (a = i ∧ b < j)
          · rw [if_pos h, if_pos (by omega)]
          · rw [if_neg h, if_neg (by omega)]
      ·
        have hik : i = r := by have := of_decide_eq_false hc; omega
        refine tr_exit ?_
        repeat with_reducible first | refine tr_skip ?_ | refine tr_exit ?_ | refine tr_then ?_ | refine tr_inX ?_ | refine tr_thenX ?_ | refine tr_inN ?_ | refine tr_inR ?_ | refine tr_thenR ?_
        refine tr_rseq ?_
        refine sq_q (qt_move rfl) rfl ?_
        refine sq_q (qt_assign rfl) rfl ?_
        refine sq_q (qt_assign rfl) rfl ?_
        refine sq_end ?_
        refine tr_ret ?_
        repeat with_reducible first | refine tr_skip ?_ | refine tr_exit ?_ | refine tr_then ?_ | refine tr_inX ?_ | refine tr_thenX ?_ | refine tr_inN ?_ | refine tr_inR ?_ | refine tr_thenR ?_
        refine tr_doneK (o, qs) (fun a w s t => results_2 rfl (resv_tmp s rfl) (resv_tmp s rfl)) (fun w hf hk => ⟨hf, ⟨hG.congr fun a b ha _ => ?_, hcan⟩, hk⟩)
        try dsimp only
        rw [if_pos (by omega)]
theorem of_retK (m : Xm) (r c : Nat) (w0 : World) (S : Nat → Prop) (hm : m.ok w0) (hsh : shp m.zs = some (r, c)) :
    Ret Try.prog 38 [m.v] w0 S (fun x : Nat × List Wr => .slice (some ⟨x.1, 0, none⟩) r r) (fun x w' => Fresh w0.heap.size (mown x.1 x.2) w' ∧ (MG (ent m.zs) r c x.2 ∧ allz Zd.can x.2) ∧ Kp w0 S (mown x.1 x.2) (fun w => allz (fun z => z.ok 2 w) x.2) w') := by
  refine ret_of Try.func38 rfl Try.ntmps38 rfl ?_
  refine tr_rseq ?_
  refine sq_q (qt_assign rfl) rfl ?_
  refine sq_end ?_
  refine tr_rseq ?_
  refine sq_q (qt_move rfl) rfl ?_
  refine sq_callK (fun x : Nat × List Wr => .tuple #[.slice (some ⟨x.1, 0, none⟩) r r, .bool true]) (fun x => mown x.1 x.2) (fun x => MG (ent m.zs) r c x.2 ∧ allz Zd.can x.2) (fun x w => allz (fun z => z.ok 2 w) x.2) rfl rfl rfl (fun w t => rfromints_retK m r c w _ (t.xm hm) hsh) fun x hx => ?_
  refine sq_q (qt_move rfl) rfl ?_
  refine sq_q (qt_extract rfl rfl) rfl ?_
  refine sq_q (qt_extract rfl rfl) rfl ?_
  refine sq_q (qt_assign rfl) rfl ?_
  refine sq_q (qt_assign rfl) rfl ?_
  refine sq_end ?_
  refine tr_own (mown x.1 x.2) (List.append_nil _) ?_
  refine tr_rseq ?_
  refine sq_q (qt_move rfl) rfl ?_
  refine sq_q (qt_assign rfl) rfl ?_
  refine sq_end ?_
  refine tr_ret ?_
  repeat with_reducible first | refine tr_skip ?_ | refine tr_exit ?_ | refine tr_then ?_ | refine tr_inX ?_ | refine tr_thenX ?_ | refine tr_inN ?_ | refine tr_inR ?_ | refine tr_thenR ?_
  exact tr_doneK x (fun a w s t => results_1 rfl (resv_tmp s rfl)) (fun w hf hk => ⟨hf, hx, hk.mono fun w h => h.2⟩)
theorem gmatrix_retK (g : Gd) (k : Nat) (w0 : World) (S : Nat → Prop) (hg : g.ok w0) (hk : 1 ≤ k) (hk16 : k ≤ 16) :
    Ret Try.prog 30 [g.v, .int .i64 (k : Int)] w0 S (fun x : Nat × List Wr => .slice (some ⟨x.1, 0, none⟩) (1 + g.r % k) (1 + g.r % k)) (fun x w' => Fresh w0.heap.size (mown x.1 x.2) w' ∧ (MG (g.e k) (1 + g.r % k) (1 + g.c % k) x.2 ∧ allz Zd.can x.2) ∧ Kp w0 S (mown x.1 x.2) (fun w => allz (fun z => z.ok 2 w) x.2) w') := by
  refine ret_of Try.func30 rfl Try.ntmps30 rfl ?_
  refine tr_rseq ?_
  refine sq_box rfl rfl fun r2 => ?_
  refine sq_q (qt_assign rfl) rfl ?_
  refine sq_end ?_
  refine tr_rseq ?_
  refine sq_q (qt_load_agg (vs := [.int .u8 (g.r : Int), .int .u8 (g.c : Int), .slice g.p.1 g.l.length g.p.2]) rfl rfl (fun w t j v hv => by rw [Nat.zero_add]; exact t.atO 0 rfl hv)) rfl ?_
  refine sq_q (qt_move rfl) rfl ?_
  refine sq_call Xm.v (fun m w => m.ok w ∧ m.zs = g.zs k) rfl rfl rfl (fun w t => ints_ret g k w _ (t.gd hg) hk hk16) fun m => ?_
  refine sq_have (fun w t => t.r.2.2) fun hz => ?_
  have h1 := Nat.mod_lt g.r (show 0 < k by omega)
  have h2 := Nat.mod_lt g.c (show 0 < k by omega)
  have hsh : shp m.zs = some (1 + g.r % k, 1 + g.c % k) := by rw [hz]; exact shp_grid _ (by omega) (by omega) (by omega) (by omega)
  refine sq_callK (fun x : Nat × List Wr => .slice (some ⟨x.1, 0, none⟩) (1 + g.r % k) (1 + g.r % k)) (fun x => mown x.1 x.2) (fun x => MG (ent m.zs) (1 + g.r % k) (1 + g.c % k) x.2 ∧ allz Zd.can x.2) (fun x w => allz (fun z => z.ok 2 w) x.2) rfl rfl rfl (fun w t => of_retK m _ _ w _ t.r.2.1 hsh) fun x hx => ?_
  refine sq_q (qt_assign rfl) rfl ?_
  refine sq_end ?_
  refine tr_drop (mown x.1 x.2) (List.sublist_append_left _ _) ?_
  refine tr_ret ?_
  repeat with_reducible first | refine tr_skip ?_ | refine tr_exit ?_ | refine tr_then ?_ | refine tr_inX ?_ | refine tr_thenX ?_ | refine tr_inN ?_ | refine tr_inR ?_ | refine tr_thenR ?_
  refine tr_doneK x (fun a w s t => results_1 rfl (resv_tmp s rfl)) (fun w hf hk => ⟨hf, ⟨hx.1.congr fun a b ha hb => ?_, hx.2⟩, hk.mono fun w h => h.2⟩)
  rw [hz]
  exact ent_grid ha hb
end Go.Qk
end
section
set_option linter.unusedVariables false
namespace Go.Qk
open Go Go.Proofs Go.RowKit
set_option maxRecDepth 100000
set_option maxHeartbeats 4000000
theorem matrixEqual_ret (m m' : Mt) (gx : Gd) (p3 : Int) (b4 : Bool) (w0 : World) (S : Nat → Prop) (hm : m.ok RB w0) (hlen : m.rs.length ≤ RB) (hrow : ∀ r ∈ m.rs, r.l.length ≤ RB) (hm' : m'.ok RB w0) (hlen' : m'.rs.length ≤ RB) (hrow' : ∀ r ∈ m'.rs, r.l.length ≤ RB) (hx : gx.ok w0) (hp3 : 0 ≤ p3 ∧ p3 < 256) :
    Ret Try.prog 18 [m.v, m'.v, gx.v, .int .u8 p3, .bool b4] w0 S (fun _ : Unit => .bool true) (fun _ _ => True) := by
  obtain ⟨r, hrr⟩ : ∃ r, r = 1 + gx.r % 6 := ⟨_, rfl⟩
  obtain ⟨c, hcc⟩ : ∃ c, c = 1 + gx.c % 6 := ⟨_, rfl⟩
  have hr1' : 1 ≤ r ∧ r ≤ 6 := by have := Nat.mod_lt gx.r (show 0 < 6 by omega); omega
  have hc1 : 1 ≤ c ∧ c ≤ 6 := by have := Nat.mod_lt gx.c (show 0 < 6 by omega); omega
  obtain ⟨g, hg⟩ : ∃ g, g = gx.e 6 := ⟨_, rfl⟩
  have hgz : gx.zs 6 = grid g r c := by rw [hg, hrr, hcc]; rfl
  obtain ⟨i, hi⟩ : ∃ i : Nat, i = (p3 % (r : Int)).toNat := ⟨_, rfl⟩
  have hi0 := Int.emod_nonneg p3 (show (r : Int) ≠ 0 by omega)
  have hi1 := Int.emod_lt_of_pos p3 (show (0 : Int) < r by omega)
  have hii : p3 % (r : Int) = (i : Int) := by omega
  have hil : i < r := by omega
  obtain ⟨j, hj⟩ : ∃ j : Nat, j = (p3 / 16 % (c : Int)).toNat := ⟨_, rfl⟩
  have hj0 := Int.emod_nonneg (p3 / 16) (show (c : Int) ≠ 0 by omega)
  have hj1 := Int.emod_lt_of_pos (p3 / 16) (show (0 : Int) < c by omega)
  have hjj : p3 / 16 % (c : Int) = (j : Int) := by omega
  have hjl : j < c := by omega
  refine ret_of Try.func18 rfl Try.ntmps18 rfl ?_
  refine tr_rseq ?_
  refine sq_box rfl rfl fun r7 => ?_
  refine sq_q (qt_assign rfl) rfl ?_
  refine sq_end ?_
  refine tr_seq ?_
  refine tr_cut (ι := Bool) (fun c => c = false → smallM m ∧ smallM m') (fun b => [(0, m.v), (1, m'.v), (3, .int .u8 p3), (4, .bool b4), (7, .pointer (some ⟨r7, 0, none⟩)), (19, .bool b)]) (fun _ => [(r7, .cells gx.v.cells 31 (0, 0))]) (fun _ _ => True) ?_ (fun cc hb => ?_)
  · refine tr_region ?_
    refine sq_q (qt_move rfl) rfl ?_
    refine sq_call (fun b : Bool => .bool b) (fun b _ => b = false → smallM m) rfl rfl rfl (fun w t => large_ret m w _ (t.mt hm) hlen hrow) fun b => ?_
    refine sq_have (fun w t => t.r.2) fun hb => ?_
    refine sq_q (qt_move rfl) rfl ?_
    cases b with
    | true =>
      refine sq_gF rfl rfl rfl rfl ?_
      refine sq_gF rfl rfl rfl rfl ?_
      refine sq_q (qt_pick rfl rfl) rfl ?_
      refine sq_end ?_
      exact tr_mid true (fun h => nomatch h) ⟨rfl, rfl, rfl, rfl, rfl, rfl, trivial⟩ rfl (fun _ _ => trivial)
    | false =>
      refine sq_gT rfl rfl ?_
      refine sq_q (qt_move rfl) rfl ?_
      refine sq_gT rfl rfl ?_
      refine sq_call (fun b : Bool => .bool b) (fun b _ => b = false → smallM m') rfl rfl rfl (fun w t => large_ret m' w _ (t.mt hm') hlen' hrow') fun b => ?_
      refine sq_have (fun w t => t.r.2) fun hb' => ?_
      refine sq_q (qt_pick rfl rfl) rfl ?_
      refine sq_end ?_
      exact tr_mid b (fun h => ⟨hb rfl, hb' h⟩) ⟨rfl, rfl, rfl, rfl, rfl, rfl, trivial⟩ rfl (fun _ _ => trivial)
  refine tr_if rfl (fun hc => ?_) (fun hc => ?_)
  ·
    refine tr_rseq ?_
    refine sq_call (val := fun _ : Unit => .bool true) (F := fun _ _ => True) rfl rfl rfl (fun w t => awake_ret w _) fun _ => ?_
    refine sq_q (qt_assign rfl) rfl ?_
    refine sq_end ?_
    refine tr_ret ?_
    repeat with_reducible first | refine tr_skip ?_ | refine tr_exit ?_ | refine tr_then ?_ | refine tr_inX ?_ | refine tr_thenX ?_ | refine tr_inN ?_ | refine tr_inR ?_ | refine tr_thenR ?_
    exact tr_done () (fun a w s t => results_1 rfl (resv_tmp s rfl)) (fun _ _ _ _ => trivial)
  ·
    obtain ⟨hs, hs'⟩ := hb hc
    have hl1 := hs.1
    have hr1 := fun r hr => (hs.2 r hr).1
    have hl2 := hs'.1
    have hr2 := fun r hr => (hs'.2 r hr).1
    refine tr_skip ?_
    repeat with_reducible first | refine tr_skip ?_ | refine tr_exit ?_ | refine tr_then ?_ | refine tr_inX ?_ | refine tr_thenX ?_ | refine tr_inN ?_ | refine tr_inR ?_ | refine tr_thenR ?_
    refine tr_rsb [] ?_
    refine sb_q 0 rfl (by kernel_rfl) (qt_load_agg (vs := [.int .u8 (gx.r : Int), .int .u8 (gx.c : Int), .slice gx.p.1 gx.l.length gx.p.2]) rfl rfl (fun w t j v hv => by rw [Nat.zero_add]; exact t.atO 0 rfl hv)) rfl ?_
    refine sb_q 2 rfl (by kernel_rfl) (qt_load_agg (vs := [.int .u8 (gx.r : Int), .int .u8 (gx.c : Int), .slice gx.p.1 gx.l.length gx.p.2]) rfl rfl (fun w t j v hv => by rw [Nat.zero_add]; exact t.atO 0 rfl hv)) rfl ?_
    refine sb_one 1 (by kernel_rfl) ?_
    refine so2_call Mt.v (fun m w => m.ok 2 w ∧ m.zs = gx.zs 6 ∧ m.can) rfl rfl rfl rfl (fun w t => gmatrix_ret gx 6 w _ (t.gd hx) (by omega) (by omega)) fun mA => ?_
    refine sb_one 3 (by kernel_rfl) ?_
    refine so2_callK (fun x : Nat × List Wr => .slice (some ⟨x.1, 0, none⟩) r r) (fun x => mown x.1 x.2) (fun x => MG g r c x.2 ∧ allz Zd.can x.2) (fun x w => allz (fun z => z.ok 2 w) x.2) rfl rfl rfl rfl (fun w t => by rw [hrr, hcc, hg]; exact gmatrix_retK gx 6 w _ (t.gd hx) (by omega) (by omega)) fun x hxG => ?_
    obtain ⟨o2, q2⟩ := x
    have hG : MG g r c q2 := hxG.1
    refine sb_q 4 rfl (by kernel_rfl) (qt_assign rfl) rfl ?_
    refine sb_q 5 rfl (by kernel_rfl) (qt_assign rfl) rfl ?_
    refine sb_endk (by kernel_rfl) ?_
    refine tr_drop (mown o2 q2) (List.sublist_append_left _ _) ?_
    refine tr_have (fun w t => t.r.1.2.2.1) fun hzA => ?_
    rw [hgz] at hzA
    obtain ⟨lA, qA⟩ := mt_lens hzA
    refine tr_r (fun w => mA.ok 3 w ∧ allz (fun z => z.ok 2 w) q2) (fun w h => ⟨h.1.2.1.mono (by omega), h.2⟩) ?_
    refine tr_seq ?_
    refine tr_rseq ?_
    refine sq_q (qt_move rfl) rfl ?_
    refine sq_end ?_
    refine tr_if rfl (fun hc => ?_) (fun hc => ?_)
    ·
      obtain ⟨q, hq, hql⟩ := hG.get hil
      obtain ⟨z, hzj⟩ : ∃ z, q.2[j]? = some z := ⟨_, List.getElem?_eq_getElem (show j < q.2.length by omega)⟩
      have hzm : z ∈ q.2 := List.mem_of_getElem? hzj
      refine tr_rseq ?_
      refine sq_q (qt_move rfl) rfl ?_
      refine sq_q (qt_move rfl) rfl ?_
      refine sq_q (qt_toI rfl (by omega) (by omega)) rfl ?_
      refine sq_q (qt_move rfl) rfl ?_
      refine sq_q (qt_len rfl) rfl ?_
      refine sq_q (qt_bin rfl rfl (bin_rem (by omega) (by omega))) rfl ?_
      rw [hii]
      refine sq_q (qt_index (i := i) rfl rfl (by omega)) rfl ?_
      refine sq_q (qt_load (v := .slice (some ⟨q.1, 0, none⟩) q.2.length q.2.length) rfl (fun w t => t.o1 0 rfl (mout_get hq))) rfl ?_
      refine sq_q (qt_assign rfl) rfl ?_
      refine sq_end ?_
      refine tr_sb [22] ?_
      refine sb_q 0 rfl (by kernel_rfl) (qt_move rfl) rfl ?_
      refine sb_q 1 rfl (by kernel_rfl) (qt_move rfl) rfl ?_
      refine sb_q 2 rfl (by kernel_rfl) (qt_toI rfl (by omega) (by omega)) rfl ?_
      refine sb_q 3 rfl (by kernel_rfl) (qt_bin rfl rfl (bin_quo (by decide) (by omega) (by decide) (w64 (by omega) (by omega)))) rfl ?_
      refine sb_q 4 rfl (by kernel_rfl) (qt_move rfl) rfl ?_
      refine sb_q 5 rfl (by kernel_rfl) (qt_len rfl) rfl ?_
      refine sb_q 6 rfl (by kernel_rfl) (qt_bin (r := .int .i64 (j : Int)) rfl rfl (by rw [hql, ← hjj]; exact bin_rem (by omega) (by omega))) rfl ?_
      refine sb_q 7 rfl (by kernel_rfl) (qt_move rfl) rfl ?_
      refine sb_q 8 rfl (by kernel_rfl) (qt_move rfl) rfl ?_
      refine sb_q 9 rfl (by kernel_rfl) (qt_toI rfl (by omega) (by omega)) rfl ?_
      refine sb_q 10 rfl (by kernel_rfl) (qt_bin rfl rfl (bin_quo (by decide) (by omega) (by decide) (w64 (by omega) (by omega)))) rfl ?_
      refine sb_q 11 rfl (by kernel_rfl) (qt_move rfl) rfl ?_
      refine sb_q 12 rfl (by kernel_rfl) (qt_len rfl) rfl ?_
      refine sb_q 13 rfl (by kernel_rfl) (qt_bin (r := .int .i64 (j : Int)) rfl rfl (by rw [hql, ← hjj]; exact bin_rem (by omega) (by omega))) rfl ?_
      refine sb_q 14 rfl (by kernel_rfl) (qt_index (i := j) rfl rfl (by omega)) rfl ?_
      refine sb_q 15 rfl (by kernel_rfl) (qt_load2 rfl (fun w t => t.mz0 (i + 1) (mown_at hq) hzj) (fun w t => t.mz1 (i + 1) (mown_at hq) hzj)) rfl ?_
      refine sb_q 16 rfl (by kernel_rfl) (qt_move rfl) rfl ?_
      refine sb_q 17 rfl (by kernel_rfl) (qt_bin rfl rfl (bin_rem (by decide) (by omega))) rfl ?_
      refine sb_q 18 rfl (by kernel_rfl) (qt_toI rfl (by omega) (by omega)) rfl ?_
      refine sb_one 19 (by kernel_rfl) ?_
      refine so2_call (iv (p3 % 3)) (Lz (p3 % 3).natAbs) rfl rfl rfl rfl (fun w t => rsmall_ret (p3 % 3) w _ (by omega) (by omega)) fun x53 => ?_
      refine sb_one 20 (by kernel_rfl) ?_
      refine so2_call (iv (z.z + p3 % 3)) (fun p w => Lz (z.z + p3 % 3).natAbs p w) rfl rfl rfl rfl (fun w t => by
        have h := fun S' => radd_zd (S := S') (t.r.1.2 q (List.mem_of_getElem? hq) z hzm) (zd_ok t.r.2 (nl_64 (a := p3 % 3) ⟨by omega, by omega⟩)) (by omega) (by omega)
        rw [zd_z] at h
        exact h _) fun x54 => ?_
      refine sb_q 21 rfl (by kernel_rfl) (qt_index (i := j) rfl rfl (by omega)) rfl ?_
      refine sb_one 22 (by kernel_rfl) ?_
      refine so2_store (i + 1) rfl rfl rfl rfl (mown_at hq) rfl (show 0 + j * 2 + 2 ≤ (zcs q.2).length by rw [zcs_length]; omega) rfl rfl ?_
      refine sb_end (by kernel_rfl) ?_
      obtain ⟨zn, hzn⟩ : ∃ zn, zn = zd (z.z + p3 % 3) x54 := ⟨_, rfl⟩
      refine tr_own (mown o2 (q2.set i (q.1, q.2.set j zn))) (by rw [hzn]; exact mown_wr (zd (z.z + p3 % 3) x54) hq (show j < q.2.length by omega)) ?_
      refine tr_have (p := nl (z.z + p3 % 3).natAbs ≤ 3) (fun w t => by
        have h := nl_zd (t.r.1.1.2 q (List.mem_of_getElem? hq) z hzm)
        have h2 := nl_64 (a := p3 % 3) ⟨by omega, by omega⟩
        have h3 := nl_iadd z.z (p3 % 3)
        omega) fun hnl => ?_
      have hG2 : MG (gset g i j zn.z) r c (q2.set i (q.1, q.2.set j zn)) := hG.set hq zn _ rfl
      refine tr_r (fun w => mA.ok 3 w ∧ allz (fun z => z.ok 3 w) (q2.set i (q.1, q.2.set j zn))) (fun w h => ⟨h.1.1.1, allz.set (fun q hq z hz => (h.1.1.2 q hq z hz).mono (by omega)) hq (by rw [hzn]; exact zd_ok h.2 hnl)⟩) ?_
      obtain ⟨q3, hq3⟩ : ∃ q3, q3 = q2.set i (q.1, q.2.set j zn) := ⟨_, rfl⟩
      obtain ⟨g3, hg3⟩ : ∃ g3, g3 = gset g i j zn.z := ⟨_, rfl⟩
      rw [← hq3, ← hg3] at hG2
      rw [← hq3]
      repeat with_reducible first | refine tr_skip ?_ | refine tr_exit ?_ | refine tr_then ?_ | refine tr_inX ?_ | refine tr_thenX ?_ | refine tr_inN ?_ | refine tr_inR ?_ | refine tr_thenR ?_
      have e3 : (mmt o2 q3).v = .slice (some ⟨o2, 0, none⟩) r r := by rw [mmt_v, hG2.1]
      obtain ⟨l3, s3⟩ : (mmt o2 q3).rs.length = r ∧ ∀ q ∈ (mmt o2 q3).rs, q.l.length = c := mt_lens (by rw [mmt_zs]; exact hG2.zs)
      obtain ⟨E2, hE2⟩ : ∃ E2, E2 = eqO mA.zs (mmt o2 q3).zs := ⟨_, rfl⟩
      ·
        refine tr_rseq ?_
        refine sq_q (qt_move rfl) rfl ?_
        refine sq_q (qt_move rfl) rfl ?_
        refine sq_call (val := fun _ : Unit => .bool (eqO m.zs m'.zs)) (F := fun _ _ => True) rfl rfl rfl (fun w t => equal_ret m m' 600 w _ (hs.ok (t.mt hm)) (hs'.ok (t.mt hm')) (by omega) (by omega) (fun r hr => by have := hr1 r hr; omega) (by omega) (fun r hr => by have := hr2 r hr; omega)) fun _ => ?_
        refine sq_q (qt_move rfl) rfl ?_
        refine sq_q (qt_move rfl) rfl ?_
        refine sq_call (val := fun _ : Unit => .bool (eqO m.zs m'.zs)) (F := fun _ _ => True) rfl rfl rfl (fun w t => requal_ret m m' 600 w _ (hs.ok (t.mt hm)) (hs'.ok (t.mt hm')) (by omega) (by omega) (fun r hr => by have := hr1 r hr; omega) (by omega) (fun r hr => by have := hr2 r hr; omega)) fun _ => ?_
        refine sq_q (qt_binB (r := .bool true) rfl rfl (bin_eqlBr boolT _)) rfl ?_
        refine sq_q (qt_move rfl) rfl ?_
        refine sq_gT rfl rfl ?_
        refine sq_q (qt_move rfl) rfl ?_
        refine sq_gT rfl rfl ?_
        refine sq_q (qt_move rfl) rfl ?_
        refine sq_gT rfl rfl ?_
        refine sq_call (val := fun _ : Unit => .bool E2) (F := fun _ _ => True) rfl rfl rfl (fun w t => by
          have h := fun S' => equal_ret mA (mmt o2 q3) 3 w S' t.r.1.1.1 (mmt_ok t.has t.r.1.1.2) (by omega) (by omega) (fun q hq => by rw [qA q hq]; omega) (by omega) (fun q hq => by rw [s3 q hq]; omega)
          rw [e3, ← hE2] at h
          exact h _) fun _ => ?_
        refine sq_gT rfl rfl ?_
        refine sq_q (qt_move rfl) rfl ?_
        refine sq_gT rfl rfl ?_
        refine sq_q (qt_move rfl) rfl ?_
        refine sq_gT rfl rfl ?_
        refine sq_call (val := fun _ : Unit => .bool E2) (F := fun _ _ => True) rfl rfl rfl (fun w t => by
          have h := fun S' => requal_ret mA (mmt o2 q3) 3 w S' t.r.1.1.1.1 (mmt_ok t.has t.r.1.1.1.2) (by omega) (by omega) (fun q hq => by rw [qA q hq]; omega) (by omega) (fun q hq => by rw [s3 q hq]; omega)
          rw [e3, ← hE2] at h
          exact h _) fun _ => ?_
        refine sq_gT rfl rfl ?_
        refine sq_q (qt_binB (r := .bool true) rfl rfl (bin_eqlBr boolT _)) rfl ?_
        refine sq_q (qt_pick rfl rfl) rfl ?_
        refine sq_q (qt_move rfl) rfl ?_
        refine sq_gT rfl rfl ?_
        refine sq_call (val := fun _ : Unit => .bool true) (F := fun _ _ => True) rfl rfl rfl (fun w t => awake_ret w _) fun _ => ?_
        refine sq_q (qt_pick rfl rfl) rfl ?_
        refine sq_q (qt_assign rfl) rfl ?_
        refine sq_end ?_
        refine tr_ret ?_
        repeat with_reducible first | refine tr_skip ?_ | refine tr_exit ?_ | refine tr_then ?_ | refine tr_inX ?_ | refine tr_thenX ?_ | refine tr_inN ?_ | refine tr_inR ?_ | refine tr_thenR ?_
        exact tr_done () (fun a w s t => results_1 rfl (resv_tmp s rfl)) (fun _ _ _ _ => trivial)
    ·
      have hG2 := hG
      obtain ⟨q3, hq3⟩ : ∃ q3, q3 = q2 := ⟨_, rfl⟩
      obtain ⟨g3, hg3⟩ : ∃ g3, g3 = g := ⟨_, rfl⟩
      rw [← hq3, ← hg3] at hG2
      rw [← hq3]
      refine tr_r (fun w => mA.ok 3 w ∧ allz (fun z => z.ok 3 w) q3) (fun w h => ⟨h.1, fun q hq z hz => (h.2 q hq z hz).mono (by omega)⟩) ?_
      refine tr_skip ?_
      repeat with_reducible first | refine tr_skip ?_ | refine tr_exit ?_ | refine tr_then ?_ | refine tr_inX ?_ | refine tr_thenX ?_ | refine tr_inN ?_ | refine tr_inR ?_ | refine tr_thenR ?_
      have e3 : (mmt o2 q3).v = .slice (some ⟨o2, 0, none⟩) r r := by rw [mmt_v, hG2.1]
      obtain ⟨l3, s3⟩ : (mmt o2 q3).rs.length = r ∧ ∀ q ∈ (mmt o2 q3).rs, q.l.length = c := mt_lens (by rw [mmt_zs]; exact hG2.zs)
      obtain ⟨E2, hE2⟩ : ∃ E2, E2 = eqO mA.zs (mmt o2 q3).zs := ⟨_, rfl⟩
      ·
        refine tr_rseq ?_
        refine sq_q (qt_move rfl) rfl ?_
        refine sq_q (qt_move rfl) rfl ?_
        refine sq_call (val := fun _ : Unit => .bool (eqO m.zs m'.zs)) (F := fun _ _ => True) rfl rfl rfl (fun w t => equal_ret m m' 600 w _ (hs.ok (t.mt hm)) (hs'.ok (t.mt hm')) (by omega) (by omega) (fun r hr => by have := hr1 r hr; omega) (by omega) (fun r hr => by have := hr2 r hr; omega)) fun _ => ?_
        refine sq_q (qt_move rfl) rfl ?_
        refine sq_q (qt_move rfl) rfl ?_
        refine sq_call (val := fun _ : Unit => .bool (eqO m.zs m'.zs)) (F := fun _ _ => True) rfl rfl rfl (fun w t => requal_ret m m' 600 w _ (hs.ok (t.mt hm)) (hs'.ok (t.mt hm')) (by omega) (by omega) (fun r hr => by have := hr1 r hr; omega) (by omega) (fun r hr => by have := hr2 r hr; omega)) fun _ => ?_
        refine sq_q (qt_binB (r := .bool true) rfl rfl (bin_eqlBr boolT _)) rfl ?_
        refine sq_q (qt_move rfl) rfl ?_
        refine sq_gT rfl rfl ?_
        refine sq_q (qt_move rfl) rfl ?_
        refine sq_gT rfl rfl ?_
        refine sq_q (qt_move rfl) rfl ?_
        refine sq_gT rfl rfl ?_
        refine sq_call (val := fun _ : Unit => .bool E2) (F := fun _ _ => True) rfl rfl rfl (fun w t => by
          have h := fun S' => equal_ret mA (mmt o2 q3) 3 w S' t.r.1.1.1 (mmt_ok t.has t.r.1.1.2) (by omega) (by omega) (fun q hq => by rw [qA q hq]; omega) (by omega) (fun q hq => by rw [s3 q hq]; omega)
          rw [e3, ← hE2] at h
          exact h _) fun _ => ?_
        refine sq_gT rfl rfl ?_
        refine sq_q (qt_move rfl) rfl ?_
        refine sq_gT rfl rfl ?_
        refine sq_q (qt_move rfl) rfl ?_
        refine sq_gT rfl rfl ?_
        refine sq_call (val := fun _ : Unit => .bool E2) (F := fun _ _ => True) rfl rfl rfl (fun w t => by
          have h := fun S' => requal_ret mA (mmt o2 q3) 3 w S' t.r.1.1.1.1 (mmt_ok t.has t.r.1.1.1.2) (by omega) (by omega) (fun q hq => by rw [qA q hq]; omega) (by omega) (fun q hq => by rw [s3 q hq]; omega)
          rw [e3, ← hE2] at h
          exact h _) fun _ => ?_
        refine sq_gT rfl rfl ?_
        refine sq_q (qt_binB (r := .bool true) rfl rfl (bin_eqlBr boolT _)) rfl ?_
        refine sq_q (qt_pick rfl rfl) rfl ?_
        refine sq_q (qt_move rfl) rfl ?_
        refine sq_gT rfl rfl ?_
        refine sq_call (val := fun _ : Unit => .bool true) (F := fun _ _ => True) rfl rfl rfl (fun w t => awake_ret w _) fun _ => ?_
        refine sq_q (qt_pick rfl rfl) rfl ?_
        refine sq_q (qt_assign rfl) rfl ?_
        refine sq_end ?_
        refine tr_ret ?_
        repeat with_reducible first | refine tr_skip ?_ | refine tr_exit ?_ | refine tr_then ?_ | refine tr_inX ?_ | refine tr_thenX ?_ | refine tr_inN ?_ | refine tr_inR ?_ | refine tr_thenR ?_
        exact tr_done () (fun a w s t => results_1 rfl (resv_tmp s rfl)) (fun _ _ _ _ => trivial)
end Go.Qk
end
