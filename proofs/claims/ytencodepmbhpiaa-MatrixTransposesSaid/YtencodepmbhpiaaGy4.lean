/- Lemmas and contracts of functions that the law reaches. -/
import Derived.Test.YtencodepmbhpiaaGy3
set_option linter.unusedVariables false
set_option linter.unusedSimpArgs false
section
set_option linter.unusedVariables false
namespace Go.Qk
open Go Go.Proofs Go.RowKit
set_option maxRecDepth 100000
set_option maxHeartbeats 4000000
theorem rfromints_ret (m : Xm) (w0 : World) (S : Nat → Prop) (hm : m.ok w0) (hlen : m.rs.length ≤ 35184372088832) (hrow : ∀ r ∈ m.rs, r.l.length ≤ 35184372088832) :
    Ret Try.prog 58 [m.v] w0 S (optV (keepO m.zs)) (optF 2 (keepO m.zs)) := by
  have hzl : m.zs.length = m.rs.length := by simp [Xm.zs]
  have hzi : ∀ i (h : i < m.rs.length), m.zs[i]'(by omega) = m.rs[i].l := fun i h => by simp [Xm.zs]
  refine ret_of Try.func58 rfl Try.ntmps58 rfl ?_
  refine tr_rseq ?_
  refine sq_q (qt_assign rfl) rfl ?_
  refine sq_q (qt_assign rfl) rfl ?_
  refine sq_end ?_
  refine tr_seq ?_
  have hcs : m.rs.length < 1 ∨ (1 ≤ m.rs.length ∧ 16 < m.rs.length) ∨ (1 ≤ m.rs.length ∧ m.rs.length ≤ 16) := by omega
  rcases hcs with h1 | ⟨h1, h2⟩ | ⟨h1, h2⟩
  ·
    have e : keepO m.zs = none := by unfold keepO; rw [shp_none_len (by omega)]; rfl
    rw [e]
    refine tr_rseq ?_
    refine sq_q (qt_move rfl) rfl ?_
    refine sq_q (qt_len rfl) rfl ?_
    refine sq_q (qt_bin rfl rfl (bT bin_lss (by omega))) rfl ?_
    refine sq_q (qt_move rfl) rfl ?_
    refine sq_gF rfl rfl rfl rfl ?_
    refine sq_gF rfl rfl rfl rfl ?_
    refine sq_gF rfl rfl rfl rfl ?_
    refine sq_q (qt_pick rfl rfl) rfl ?_
    refine sq_end ?_
    refine tr_ifT rfl ?_
    refine tr_rseq ?_
    refine sq_q (qt_assign rfl) rfl ?_
    refine sq_q (qt_assign rfl) rfl ?_
    refine sq_end ?_
    refine tr_ret ?_
    repeat with_reducible first | refine tr_skip ?_ | refine tr_exit ?_ | refine tr_then ?_ | refine tr_inX ?_ | refine tr_thenX ?_ | refine tr_inN ?_ | refine tr_inR ?_ | refine tr_thenR ?_
    exact tr_done ⟨[], (none, 0)⟩ (fun a w s t => results_2 rfl (resv_tmp s rfl) (resv_tmp s rfl)) (fun w _ _ _ => optF_none _ _)
  ·
    have e : keepO m.zs = none := by unfold keepO; rw [shp_none_len (by omega)]; rfl
    rw [e]
    refine tr_rseq ?_
    refine sq_q (qt_move rfl) rfl ?_
    refine sq_q (qt_len rfl) rfl ?_
    refine sq_q (qt_bin rfl rfl (bF bin_lss (by omega))) rfl ?_
    refine sq_q (qt_move rfl) rfl ?_
    refine sq_gT rfl rfl ?_
    refine sq_q (qt_move rfl) rfl ?_
    refine sq_gT rfl rfl ?_
    refine sq_q (qt_len rfl) rfl ?_
    refine sq_gT rfl rfl ?_
    refine sq_q (qt_bin rfl rfl (bT bin_gtr (by omega))) rfl ?_
    refine sq_q (qt_pick rfl rfl) rfl ?_
    refine sq_end ?_
    refine tr_ifT rfl ?_
    refine tr_rseq ?_
    refine sq_q (qt_assign rfl) rfl ?_
    refine sq_q (qt_assign rfl) rfl ?_
    refine sq_end ?_
    refine tr_ret ?_
    repeat with_reducible first | refine tr_skip ?_ | refine tr_exit ?_ | refine tr_then ?_ | refine tr_inX ?_ | refine tr_thenX ?_ | refine tr_inN ?_ | refine tr_inR ?_ | refine tr_thenR ?_
    exact tr_done ⟨[], (none, 0)⟩ (fun a w s t => results_2 rfl (resv_tmp s rfl) (resv_tmp s rfl)) (fun w _ _ _ => optF_none _ _)
  ·
    refine tr_rseq ?_
    refine sq_q (qt_move rfl) rfl ?_
    refine sq_q (qt_len rfl) rfl ?_
    refine sq_q (qt_bin rfl rfl (bF bin_lss (by omega))) rfl ?_
    refine sq_q (qt_move rfl) rfl ?_
    refine sq_gT rfl rfl ?_
    refine sq_q (qt_move rfl) rfl ?_
    refine sq_gT rfl rfl ?_
    refine sq_q (qt_len rfl) rfl ?_
    refine sq_gT rfl rfl ?_
    refine sq_q (qt_bin rfl rfl (bF bin_gtr (by omega))) rfl ?_
    refine sq_q (qt_pick rfl rfl) rfl ?_
    refine sq_end ?_
    refine tr_ifF rfl ?_
    refine tr_skip ?_
    repeat with_reducible first | refine tr_skip ?_ | refine tr_exit ?_ | refine tr_then ?_ | refine tr_inX ?_ | refine tr_thenX ?_ | refine tr_inN ?_ | refine tr_inR ?_ | refine tr_thenR ?_
    refine tr_seq ?_
    have hp0 : 0 < m.rs.length := by omega
    obtain ⟨ro, oo, eo, ho0⟩ := hm.1.at_ (i := 0) (v := (m.rs[0]).v) (by simp [hp0])
    have hat : ∀ k (h : k < m.rs.length), At ro (oo + k) (m.rs[k]).v w0 := by
      intro k h
      obtain ⟨r', o', e', h'⟩ := hm.1.at_ (i := k) (v := (m.rs[k]).v) (by simp [h])
      rw [eo] at e'
      injection e' with e'
      injection e' with e1 e2 _
      subst e1 e2
      exact h'
    have evm : m.v = .slice (some ⟨ro, oo, none⟩) m.rs.length m.p.2 := by unfold Xm.v; rw [eo]
    rw [evm]
    refine tr_rseq ?_
    refine sq_q (qt_move rfl) rfl ?_
    refine sq_q (qt_len rfl) rfl ?_
    refine sq_q (qt_move rfl) rfl ?_
    refine sq_end ?_
    refine tr_block ?_
    refine tr_loop (fun k : Nat => k ≤ m.rs.length ∧ ∀ i (h : i < m.rs.length), i < k → 1 ≤ m.rs[i].l.length ∧ m.rs[i].l.length ≤ 16 ∧ m.rs[i].l.length = m.rs[0].l.length) (fun k => [(0, .slice (some ⟨ro, oo, none⟩) m.rs.length m.p.2), (17, .slice (some ⟨ro, oo, none⟩) m.rs.length m.p.2), (18, .int .i64 (m.rs.length : Int)), (19, .int .i64 (k : Int))]) (fun _ => []) (fun _ _ => True) (fun k => m.rs.length - k) 0 ⟨Nat.zero_le _, fun i _ h => by omega⟩ ⟨rfl, rfl, rfl, rfl, trivial⟩ rfl (fun _ _ => trivial) ?_
    rintro k ⟨hk, hall⟩
    refine tr_rseq ?_
    refine sq_q (qt_bin rfl rfl bin_lss) rfl ?_
    refine sq_end ?_
    refine tr_seq ?_
    refine tr_if rfl (fun hc => ?_) (fun hc => ?_)
    ·
      have hlt : k < m.rs.length := by have := of_decide_eq_true hc; omega
      have hrk := hrow _ (List.getElem_mem hlt)
      have hr0 := hrow _ (List.getElem_mem hp0)
      refine tr_skip ?_
      repeat with_reducible first | refine tr_skip ?_ | refine tr_exit ?_ | refine tr_then ?_ | refine tr_inX ?_ | refine tr_thenX ?_ | refine tr_inN ?_ | refine tr_inR ?_ | refine tr_thenR ?_
      refine tr_seq ?_
      refine tr_block ?_
      refine tr_rseq ?_
      refine sq_q (qt_index (i := k) rfl rfl hlt) rfl ?_
      refine sq_q (qt_load rfl (fun w t => t.a1 (hat k hlt))) rfl ?_
      refine sq_q (qt_assign rfl) rfl ?_
      refine sq_end ?_
      have hcs : m.rs[k].l.length < 1 ∨ (1 ≤ m.rs[k].l.length ∧ 16 < m.rs[k].l.length) ∨ ((1 ≤ m.rs[k].l.length ∧ m.rs[k].l.length ≤ 16) ∧ m.rs[k].l.length ≠ m.rs[0].l.length) ∨ ((1 ≤ m.rs[k].l.length ∧ m.rs[k].l.length ≤ 16) ∧ m.rs[k].l.length = m.rs[0].l.length) := by omega
      have hno : (m.rs[k].l.length < 1 ∨ 16 < m.rs[k].l.length ∨ m.rs[k].l.length ≠ m.rs[0].l.length) → keepO m.zs = none := fun h => by
        unfold keepO
        rw [shp_none_row (k := k) (by omega) (by omega) (by rw [hzi k hlt, hzi 0 hp0]; exact h)]
        rfl
      rcases hcs with g1 | ⟨g1, g2⟩ | ⟨⟨g1, g2⟩, g3⟩ | ⟨⟨g1, g2⟩, g3⟩
      ·
        rw [hno (.inl g1)]
        refine tr_rseq ?_
        refine sq_q (qt_move rfl) rfl ?_
        refine sq_q (qt_len rfl) rfl ?_
        refine sq_q (qt_bin rfl rfl (bT bin_lss (by omega))) rfl ?_
        refine sq_q (qt_move rfl) rfl ?_
        refine sq_gF rfl rfl rfl rfl ?_
        refine sq_gF rfl rfl rfl rfl ?_
        refine sq_gF rfl rfl rfl rfl ?_
        refine sq_q (qt_pick rfl rfl) rfl ?_
        refine sq_q (qt_move rfl) rfl ?_
        refine sq_gF rfl rfl rfl rfl ?_
        refine sq_gF rfl rfl rfl rfl ?_
        refine sq_gF rfl rfl rfl rfl ?_
        refine sq_gF rfl rfl rfl rfl ?_
        refine sq_gF rfl rfl rfl rfl ?_
        refine sq_gF rfl rfl rfl rfl ?_
        refine sq_gF rfl rfl rfl rfl ?_
        refine sq_q (qt_pick rfl rfl) rfl ?_
        refine sq_end ?_
        refine tr_ifT rfl ?_
        refine tr_rseq ?_
        refine sq_q (qt_assign rfl) rfl ?_
        refine sq_q (qt_assign rfl) rfl ?_
        refine sq_end ?_
        refine tr_ret ?_
        repeat with_reducible first | refine tr_skip ?_ | refine tr_exit ?_ | refine tr_then ?_ | refine tr_inX ?_ | refine tr_thenX ?_ | refine tr_inN ?_ | refine tr_inR ?_ | refine tr_thenR ?_
        exact tr_done ⟨[], (none, 0)⟩ (fun a w s t => results_2 rfl (resv_tmp s rfl) (resv_tmp s rfl)) (fun w _ _ _ => optF_none _ _)
      ·
        rw [hno (.inr (.inl g2))]
        refine tr_rseq ?_
        refine sq_q (qt_move rfl) rfl ?_
        refine sq_q (qt_len rfl) rfl ?_
        refine sq_q (qt_bin rfl rfl (bF bin_lss (by omega))) rfl ?_
        refine sq_q (qt_move rfl) rfl ?_
        refine sq_gT rfl rfl ?_
        refine sq_q (qt_move rfl) rfl ?_
        refine sq_gT rfl rfl ?_
        refine sq_q (qt_len rfl) rfl ?_
        refine sq_gT rfl rfl ?_
        refine sq_q (qt_bin rfl rfl (bT bin_gtr (by omega))) rfl ?_
        refine sq_q (qt_pick rfl rfl) rfl ?_
        refine sq_q (qt_move rfl) rfl ?_
        refine sq_gF rfl rfl rfl rfl ?_
        refine sq_gF rfl rfl rfl rfl ?_
        refine sq_gF rfl rfl rfl rfl ?_
        refine sq_gF rfl rfl rfl rfl ?_
        refine sq_gF rfl rfl rfl rfl ?_
        refine sq_gF rfl rfl rfl rfl ?_
        refine sq_gF rfl rfl rfl rfl ?_
        refine sq_q (qt_pick rfl rfl) rfl ?_
        refine sq_end ?_
        refine tr_ifT rfl ?_
        refine tr_rseq ?_
        refine sq_q (qt_assign rfl) rfl ?_
        refine sq_q (qt_assign rfl) rfl ?_
        refine sq_end ?_
        refine tr_ret ?_
        repeat with_reducible first | refine tr_skip ?_ | refine tr_exit ?_ | refine tr_then ?_ | refine tr_inX ?_ | refine tr_thenX ?_ | refine tr_inN ?_ | refine tr_inR ?_ | refine tr_thenR ?_
        exact tr_done ⟨[], (none, 0)⟩ (fun a w s t => results_2 rfl (resv_tmp s rfl) (resv_tmp s rfl)) (fun w _ _ _ => optF_none _ _)
      ·
        rw [hno (.inr (.inr g3))]
        refine tr_rseq ?_
        refine sq_q (qt_move rfl) rfl ?_
        refine sq_q (qt_len rfl) rfl ?_
        refine sq_q (qt_bin rfl rfl (bF bin_lss (by omega))) rfl ?_
        refine sq_q (qt_move rfl) rfl ?_
        refine sq_gT rfl rfl ?_
        refine sq_q (qt_move rfl) rfl ?_
        refine sq_gT rfl rfl ?_
        refine sq_q (qt_len rfl) rfl ?_
        refine sq_gT rfl rfl ?_
        refine sq_q (qt_bin rfl rfl (bF bin_gtr (by omega))) rfl ?_
        refine sq_q (qt_pick rfl rfl) rfl ?_
        refine sq_q (qt_move rfl) rfl ?_
        refine sq_gT rfl rfl ?_
        refine sq_q (qt_move rfl) rfl ?_
        refine sq_gT rfl rfl ?_
        refine sq_q (qt_len rfl) rfl ?_
        refine sq_gT rfl rfl ?_
        refine sq_q (qt_move rfl) rfl ?_
        refine sq_gT rfl rfl ?_
        refine sq_q (qt_index (i := 0) rfl rfl hp0) rfl ?_
        refine sq_gT rfl rfl ?_
        refine sq_q (qt_load rfl (fun w t => t.a1 (hat 0 hp0))) rfl ?_
        refine sq_gT rfl rfl ?_
        refine sq_q (qt_len rfl) rfl ?_
        refine sq_gT rfl rfl ?_
        refine sq_q (qt_bin rfl rfl (bT bin_neq (by omega))) rfl ?_
        refine sq_q (qt_pick rfl rfl) rfl ?_
        refine sq_end ?_
        refine tr_ifT rfl ?_
        refine tr_rseq ?_
        refine sq_q (qt_assign rfl) rfl ?_
        refine sq_q (qt_assign rfl) rfl ?_
        refine sq_end ?_
        refine tr_ret ?_
        repeat with_reducible first | refine tr_skip ?_ | refine tr_exit ?_ | refine tr_then ?_ | refine tr_inX ?_ | refine tr_thenX ?_ | refine tr_inN ?_ | refine tr_inR ?_ | refine tr_thenR ?_
        exact tr_done ⟨[], (none, 0)⟩ (fun a w s t => results_2 rfl (resv_tmp s rfl) (resv_tmp s rfl)) (fun w _ _ _ => optF_none _ _)
      ·
        refine tr_rseq ?_
        refine sq_q (qt_move rfl) rfl ?_
        refine sq_q (qt_len rfl) rfl ?_
        refine sq_q (qt_bin rfl rfl (bF bin_lss (by omega))) rfl ?_
        refine sq_q (qt_move rfl) rfl ?_
        refine sq_gT rfl rfl ?_
        refine sq_q (qt_move rfl) rfl ?_
        refine sq_gT rfl rfl ?_
        refine sq_q (qt_len rfl) rfl ?_
        refine sq_gT rfl rfl ?_
        refine sq_q (qt_bin rfl rfl (bF bin_gtr (by omega))) rfl ?_
        refine sq_q (qt_pick rfl rfl) rfl ?_
        refine sq_q (qt_move rfl) rfl ?_
        refine sq_gT rfl rfl ?_
        refine sq_q (qt_move rfl) rfl ?_
        refine sq_gT rfl rfl ?_
        refine sq_q (qt_len rfl) rfl ?_
        refine sq_gT rfl rfl ?_
        refine sq_q (qt_move rfl) rfl ?_
        refine sq_gT rfl rfl ?_
        refine sq_q (qt_index (i := 0) rfl rfl hp0) rfl ?_
        refine sq_gT rfl rfl ?_
        refine sq_q (qt_load rfl (fun w t => t.a1 (hat 0 hp0))) rfl ?_
        refine sq_gT rfl rfl ?_
        refine sq_q (qt_len rfl) rfl ?_
        refine sq_gT rfl rfl ?_
        refine sq_q (qt_bin rfl rfl (bF bin_neq (by omega))) rfl ?_
        refine sq_q (qt_pick rfl rfl) rfl ?_
        refine sq_end ?_
        refine tr_ifF rfl ?_
        refine tr_skip ?_
        repeat with_reducible first | refine tr_skip ?_ | refine tr_exit ?_ | refine tr_then ?_ | refine tr_inX ?_ | refine tr_thenX ?_ | refine tr_inN ?_ | refine tr_inR ?_ | refine tr_thenR ?_
        refine tr_region ?_
        refine sq_q (qt_bin rfl rfl (bin_addI (by omega) (by omega))) rfl ?_
        refine sq_q (qt_move rfl) rfl ?_
        refine sq_nil ?_
        repeat with_reducible first | refine tr_skip ?_ | refine tr_exit ?_ | refine tr_then ?_ | refine tr_inX ?_ | refine tr_thenX ?_ | refine tr_inN ?_ | refine tr_inR ?_ | refine tr_thenR ?_
        refine tr_round (k + 1) ⟨by omega, fun i h hi => ?_⟩ (by omega) ⟨rfl, rfl, rfl, rfl, trivial⟩ rfl (fun _ h => h)
        by_cases e : i = k
        · subst e; exact ⟨g1, g2, g3⟩
        · exact hall i h (by omega)
    ·
      have hkm : k = m.rs.length := by have := of_decide_eq_false hc; omega
      subst hkm
      obtain ⟨c, hcl⟩ : ∃ c, c = m.rs[0].l.length := ⟨_, rfl⟩
      have hrows : ∀ i (h : i < m.rs.length), m.rs[i].l.length = c := fun i h => by rw [hcl]; exact (hall i h h).2.2
      have hc1 : 1 ≤ c ∧ c ≤ 16 := by rw [hcl]; exact ⟨(hall 0 hp0 hp0).1, (hall 0 hp0 hp0).2.1⟩
      have hsome : keepO m.zs = some m.zs := by
        unfold keepO
        rw [shp_some (by omega) (by omega) (by rw [hzi 0 hp0]; omega) (by rw [hzi 0 hp0]; omega) (fun i hi => by rw [hzi i (by omega), hzi 0 hp0, hrows i (by omega), hcl])]
        rfl
      rw [hsome]
      obtain ⟨r, hr⟩ : ∃ r, r = m.rs.length := ⟨_, rfl⟩
      have hgrid : grid (ent m.zs) r c = m.zs := grid_ent (by omega) (fun q hq => by
        simp only [Xm.zs, List.mem_map] at hq
        obtain ⟨x, hx, rfl⟩ := hq
        obtain ⟨i, hi, rfl⟩ := List.getElem_of_mem hx
        exact hrows i hi)
      refine tr_exit ?_
      repeat with_reducible first | refine tr_skip ?_ | refine tr_exit ?_ | refine tr_then ?_ | refine tr_inX ?_ | refine tr_thenX ?_ | refine tr_inN ?_ | refine tr_inR ?_ | refine tr_thenR ?_
      refine tr_rseq ?_
      refine sq_q (qt_move rfl) rfl ?_
      refine sq_q (qt_len rfl) rfl ?_
      refine sq_q (qt_move rfl) rfl ?_
      refine sq_q (qt_index (i := 0) rfl rfl hp0) rfl ?_
      refine sq_q (qt_load rfl (fun w t => t.a1 (hat 0 hp0))) rfl ?_
      refine sq_q (qt_len rfl) rfl ?_
      rw [← hcl, ← hr]
      refine sq_call (fun x : Nat × List Wr => .slice (some ⟨x.1, 0, none⟩) r r) (fun x w' => Fresh w0.heap.size (mown x.1 x.2) w' ∧ x.2.map (·.2) = List.replicate r (List.replicate c z0)) rfl rfl rfl (fun w t => zero_call t r c (by omega) (by omega)) fun x => ?_
      refine sq_q (qt_assign rfl) rfl ?_
      refine sq_end ?_
      obtain ⟨o, qs⟩ := x
      refine tr_have (fun w t => t.r.2.2) fun hqs => ?_
      refine tr_adopt0 (mown o qs) (fun w h => h.2.1) ?_
      refine tr_seq ?_
      refine tr_rseq ?_
      refine sq_q (qt_move rfl) rfl ?_
      refine sq_q (qt_len rfl) rfl ?_
      refine sq_q (qt_move rfl) rfl ?_
      refine sq_end ?_
      refine tr_block ?_
      refine tr_loop2 (fun (i : Nat) (qs : List Wr) => i ≤ r ∧ MG (fun a b => if a < i then ent m.zs a b else 0) r c qs ∧ allz Zd.can qs) (fun i qs => [(0, .slice (some ⟨ro, oo, none⟩) r m.p.2), (6, .slice (some ⟨o, 0, none⟩) r r), (49, .int .i64 (r : Int)), (50, .int .i64 (i : Int))])
        (fun i qs => mown o qs) (fun i qs w => allz (fun z => z.ok 2 w) qs) (fun i qs => r - i) 0 qs ⟨Nat.zero_le _, (MG.of_zero hqs).congr (fun a b _ _ => by rw [if_neg (by omega)]), allz.of_zero hqs z0_can⟩ ⟨by rw [hr]; rfl, rfl, by rw [hr]; rfl, rfl, trivial⟩ rfl (fun w _ => allz.of_zero hqs (z0_ok 2 w)) ?_
      clear hqs qs
      rintro i qs ⟨hle, hG, hcan⟩
      refine tr_rseq ?_
      refine sq_q (qt_bin rfl rfl bin_lss) rfl ?_
      refine sq_end ?_
      refine tr_seq ?_
      refine tr_if rfl (fun hc => ?_) (fun hc => ?_)
      ·
        have hlt : i < r := by have := of_decide_eq_true hc; omega
        have hli : i < m.rs.length := by omega
        have hlc := hrows i hli
        have hokr := hm.2.2 _ (List.getElem_mem hli)
        refine tr_skip ?_
        repeat with_reducible first | refine tr_skip ?_ | refine tr_exit ?_ | refine tr_then ?_ | refine tr_inX ?_ | refine tr_thenX ?_ | refine tr_inN ?_ | refine tr_inR ?_ | refine tr_thenR ?_
        refine tr_seq ?_
        refine tr_block ?_
        refine tr_rseq ?_
        refine sq_q (qt_move rfl) rfl ?_
        refine sq_q (qt_assign rfl) rfl ?_
        refine sq_end ?_
        refine tr_rseq ?_
        refine sq_q (qt_move rfl) rfl ?_
        refine sq_q (qt_move rfl) rfl ?_
        refine sq_q (qt_index (i := i) rfl rfl hlt) rfl ?_
        refine sq_q (qt_load rfl (fun w t => t.a1 (hat i hli))) rfl ?_
        refine sq_q (qt_len rfl) rfl ?_
        refine sq_q (qt_move rfl) rfl ?_
        refine sq_end ?_
        refine tr_block ?_
        refine tr_loop2 (fun (j : Nat) (qs : List Wr) => j ≤ c ∧ MG (fun a b => if a < i ∨ (a = i ∧ b < j) then ent m.zs a b else 0) r c qs ∧ allz Zd.can qs) (fun j qs => [(0, .slice (some ⟨ro, oo, none⟩) r m.p.2), (6, .slice (some ⟨o, 0, none⟩) r r), (7, .int .i64 (i : Int)), (49, .int .i64 (r : Int)), (50, .int .i64 (i : Int)), (57, .int .i64 (c : Int)), (58, .int .i64 (j : Int))])
          (fun j qs => mown o qs) (fun j qs w => allz (fun z => z.ok 2 w) qs) (fun j qs => c - j) 0 qs ⟨Nat.zero_le _, hG.congr (fun a b _ _ => by by_cases h : a < i <;> simp [h]), hcan⟩ ⟨rfl, rfl, rfl, rfl, rfl, by rw [← hlc]; rfl, rfl, trivial⟩ rfl (fun w h => h) ?_
        clear hG hcan qs
        rintro j qs ⟨hlj, hG, hcan⟩
        refine tr_rseq ?_
        refine sq_q (qt_bin rfl rfl bin_lss) rfl ?_
        refine sq_end ?_
        refine tr_seq ?_
        refine tr_if rfl (fun hc => ?_) (fun hc => ?_)
        ·
          have hltj : j < c := by have := of_decide_eq_true hc; omega
          have hljl : j < m.rs[i].l.length := by omega
          obtain ⟨q, hq, hql⟩ := hG.get hlt
          obtain ⟨rr, orr, er, hxat⟩ := hokr.1.at_ (i64s_get hljl)
          have h64 := hokr.2.2 _ (List.getElem_mem hljl)
          have hent : ent m.zs i j = m.rs[i].l[j] := by
            rw [ent_at (by omega) (by rw [hzi i hli]; exact hljl)]
            simp [hzi i hli]
          have evr : (m.rs[i]).v = .slice (some ⟨rr, orr, none⟩) m.rs[i].l.length m.rs[i].p.2 := by unfold Xr.v; rw [er]
          refine tr_skip ?_
          repeat with_reducible first | refine tr_skip ?_ | refine tr_exit ?_ | refine tr_then ?_ | refine tr_inX ?_ | refine tr_thenX ?_ | refine tr_inN ?_ | refine tr_inR ?_ | refine tr_thenR ?_
          refine tr_seq ?_
          refine tr_block ?_
          refine tr_rseq ?_
          refine sq_q (qt_move rfl) rfl ?_
          refine sq_q (qt_assign rfl) rfl ?_
          refine sq_end ?_
          refine tr_draw 13 [] [] [0, 2, 3, 5, 6, 7, 8, 16, 17, 18, 19, 20, 39, 49, 50, 51, 57, 58, 59, 64, 65, 73] (by kernel_rfl) ?_
          refine dx_q rfl (qt_move rfl) rfl ?_
          refine dx_q rfl (qt_move rfl) rfl ?_
          refine dx_q rfl (qt_index (i := i) rfl rfl hlt) rfl ?_
          refine dx_q rfl (qt_load rfl (fun w t => t.o1 0 rfl (mout_get hq))) rfl ?_
          refine dx_q rfl (qt_move rfl) rfl ?_
          refine dx_q rfl (qt_move rfl) rfl ?_
          refine dx_q rfl (qt_move rfl) rfl ?_
          refine dx_q rfl (qt_index (i := i) rfl rfl hlt) rfl ?_
          refine dx_q rfl (qt_load (v := .slice (some ⟨rr, orr, none⟩) m.rs[i].l.length m.rs[i].p.2) rfl (fun w t => by rw [← evr]; exact t.a1 (hat i hli))) rfl ?_
          refine dx_q rfl (qt_move rfl) rfl ?_
          refine dx_q rfl (qt_index (i := j) rfl rfl hljl) rfl ?_
          refine dx_q rfl (qt_load rfl (fun w t => t.a1 hxat)) rfl ?_
          refine dx_call (iv m.rs[i].l[j]) (Lz (m.rs[i].l[j]).natAbs) rfl rfl rfl (fun w t => rsmall_ret _ w _ h64.1 h64.2) ?_
          refine dx_nil ?_
          repeat (first | refine es_val rfl ?_ rfl | refine es_res rfl (fun x => ?_) rfl | refine es_skip rfl ?_)
          refine es_nil rfl ?_
          refine tx_q (qt_index (i := j) rfl rfl (by omega)) rfl rfl rfl ?_
          refine tx_store (i + 1) rfl rfl (mown_at hq) rfl (show 0 + j * 2 + 2 ≤ (zcs q.2).length by rw [zcs_length, hql]; omega) rfl rfl rfl ?_
          refine tx_end ?_
          repeat with_reducible first | refine tr_skip ?_ | refine tr_exit ?_ | refine tr_then ?_ | refine tr_inX ?_ | refine tr_thenX ?_ | refine tr_inN ?_ | refine tr_inR ?_ | refine tr_thenR ?_
          refine tr_region ?_
          refine sq_q (qt_bin rfl rfl (bin_addI (by omega) (by omega))) rfl ?_
          refine sq_q (qt_move rfl) rfl ?_
          refine sq_nil ?_
          repeat with_reducible first | refine tr_skip ?_ | refine tr_exit ?_ | refine tr_then ?_ | refine tr_inX ?_ | refine tr_thenX ?_ | refine tr_inN ?_ | refine tr_inR ?_ | refine tr_thenR ?_
          refine tr_own (mown o (qs.set i (q.1, q.2.set j (zd m.rs[i].l[j] x)))) (mown_wr (zd m.rs[i].l[j] x) hq (by omega)) ?_
          refine tr_round2 (j + 1) (qs.set i (q.1, q.2.set j (zd m.rs[i].l[j] x))) ⟨by omega, (hG.set hq (zd m.rs[i].l[j] x) _ (zd_z _ _)).congr (fun a b _ _ => ?_), hcan.set hq (zd_can _ _)⟩ (by omega) ⟨rfl, rfl, rfl, rfl, rfl, rfl, rfl, trivial⟩ rfl (fun w h => h.1.set hq (zd_ok h.2 (nl_64 h64)))
          unfold gset
          try dsimp only
          by_cases h : a = i ∧ b = j
          · rw [if_pos h, if_pos (by omega), ← hent, h.1, h.2]
          · rw [if_neg h]
            by_cases h' : a < i ∨ (a = i ∧ b < j)
            · rw [if_pos h', if_pos (by omega)]
            · rw [if_neg h', if_neg (by omega)]
        ·
          have hjc : j = c := by have := of_decide_eq_false hc; omega
          refine tr_exit ?_
          repeat with_reducible first | refine tr_skip ?_ | refine tr_exit ?_ | refine tr_then ?_ | refine tr_inX ?_ | refine tr_thenX ?_ | refine tr_inN ?_ | refine tr_inR ?_ | refine tr_thenR ?_
          refine tr_region ?_
          refine sq_q (qt_bin rfl rfl (bin_addI (by omega) (by omega))) rfl ?_
          refine sq_q (qt_move rfl) rfl ?_
          refine sq_nil ?_
          repeat with_reducible first | refine tr_skip ?_ | refine tr_exit ?_ | refine tr_then ?_ | refine tr_inX ?_ | refine tr_thenX ?_ | refine tr_inN ?_ | refine tr_inR ?_ | refine tr_thenR ?_
          refine tr_round2 (i + 1) qs ⟨by omega, hG.congr (fun a b _ hb => ?_), hcan⟩ (by omega) ⟨rfl, rfl, rfl, rfl, trivial⟩ rfl (fun w h => h)
          try dsimp only
          by_cases h : a < i ∨ (a = i ∧ b < j)
          · rw [if_pos h, if_pos (by omega)]
          · rw [if_neg h, if_neg (by omega)]
      ·
        have hik : i = r := by have := of_decide_eq_false hc; omega
        refine tr_exit ?_
        repeat with_reducible first | refine tr_skip ?_ | refine tr_exit ?_ | refine tr_then ?_ | refine tr_inX ?_ | refine tr_thenX ?_ | refine tr_inN ?_ | refine tr_inR ?_ | refine tr_thenR ?_
        refine tr_rseq ?_
        refine sq_q (qt_move rfl) rfl ?_
        refine sq_q (qt_assign rfl) rfl ?_
        refine sq_q (qt_assign rfl) rfl ?_
        refine sq_end ?_
        refine tr_ret ?_
        repeat with_reducible first | refine tr_skip ?_ | refine tr_exit ?_ | refine tr_then ?_ | refine tr_inX ?_ | refine tr_thenX ?_ | refine tr_inN ?_ | refine tr_inR ?_ | refine tr_thenR ?_
        refine tr_done (mmt o qs) (fun a w s t => results_2 rfl (resv_tmp s (by rw [mmt_v, hG.1]; rfl)) (resv_tmp s rfl)) (fun w h ho _ => ⟨mmt_ok ho h, ?_, mmt_can hcan⟩)
        rw [mmt_zs, hG.zs]
        refine Eq.trans ?_ hgrid
        unfold grid
        refine List.map_congr_left fun a ha => List.map_congr_left fun b hb => ?_
        have ha := List.mem_range.1 ha
        try dsimp only
        rw [if_pos (by omega)]
theorem of_ret (m : Xm) (w0 : World) (S : Nat → Prop) (hm : m.ok w0) (hlen : m.rs.length ≤ 35184372088832) (hrow : ∀ r ∈ m.rs, r.l.length ≤ 35184372088832) :
    Ret Try.prog 38 [m.v] w0 S Mt.v (optF 2 (keepO m.zs)) := by
  refine ret_of Try.func38 rfl Try.ntmps38 rfl ?_
  refine tr_rseq ?_
  refine sq_q (qt_assign rfl) rfl ?_
  refine sq_end ?_
  refine tr_rseq ?_
  refine sq_q (qt_move rfl) rfl ?_
  refine sq_call (optV (keepO m.zs)) (optF 2 (keepO m.zs)) rfl rfl rfl (fun w t => rfromints_ret m w _ (t.xm hm) hlen hrow) fun x => ?_
  refine sq_q (qt_move rfl) rfl ?_
  refine sq_q (qt_extract rfl rfl) rfl ?_
  refine sq_q (qt_extract rfl rfl) rfl ?_
  refine sq_q (qt_assign rfl) rfl ?_
  refine sq_q (qt_assign rfl) rfl ?_
  refine sq_end ?_
  refine tr_rseq ?_
  refine sq_q (qt_move rfl) rfl ?_
  refine sq_q (qt_assign rfl) rfl ?_
  refine sq_end ?_
  refine tr_ret ?_
  repeat with_reducible first | refine tr_skip ?_ | refine tr_exit ?_ | refine tr_then ?_ | refine tr_inX ?_ | refine tr_thenX ?_ | refine tr_inN ?_ | refine tr_inR ?_ | refine tr_thenR ?_
  exact tr_done x (fun a w s t => results_1 rfl (resv_tmp s rfl)) (fun w h _ _ => h.2)
end Go.Qk
end
section
set_option linter.unusedVariables false
namespace Go.Qk
open Go Go.Proofs Go.RowKit
set_option maxRecDepth 100000
set_option maxHeartbeats 4000000
theorem shape_ret (m : Mt) (B : Nat) (w0 : World) (S : Nat → Prop) (hm : m.ok B w0) (hlen : m.rs.length ≤ 35184372088832) (hrow : ∀ r ∈ m.rs, r.l.length ≤ 35184372088832) :
    Ret Try.prog 75 [m.v] w0 S (fun _ : Unit => shpV (shp m.zs)) (fun _ _ => True) := by
  have hzl := m.zs_len
  refine ret_of Try.func75 rfl Try.ntmps75 rfl ?_
  refine tr_rseq ?_
  refine sq_q (qt_assign rfl) rfl ?_
  refine sq_q (qt_assign rfl) rfl ?_
  refine sq_q (qt_assign rfl) rfl ?_
  refine sq_end ?_
  refine tr_seq ?_
  have hcs : m.rs.length < 1 ∨ (1 ≤ m.rs.length ∧ 16 < m.rs.length) ∨ (∃ h : 0 < m.rs.length, m.rs.length ≤ 16 ∧ m.rs[0].l.length < 1) ∨ (∃ h : 0 < m.rs.length, m.rs.length ≤ 16 ∧ 1 ≤ m.rs[0].l.length ∧ 16 < m.rs[0].l.length) ∨ (∃ h : 0 < m.rs.length, m.rs.length ≤ 16 ∧ 1 ≤ m.rs[0].l.length ∧ m.rs[0].l.length ≤ 16) := by
    by_cases h : 0 < m.rs.length
    · by_cases h2 : m.rs.length ≤ 16
      · by_cases h3 : 1 ≤ m.rs[0].l.length
        · by_cases h4 : m.rs[0].l.length ≤ 16
          · exact .inr (.inr (.inr (.inr ⟨h, h2, h3, h4⟩)))
          · exact .inr (.inr (.inr (.inl ⟨h, h2, h3, by omega⟩)))
        · exact .inr (.inr (.inl ⟨h, h2, by omega⟩))
      · exact .inr (.inl ⟨by omega, by omega⟩)
    · exact .inl (by omega)
  rcases hcs with h1 | ⟨h1, h2⟩ | ⟨hp0, h2, g1⟩ | ⟨hp0, h2, g1, g2⟩ | ⟨hp0, h2, g1, g2⟩
  ·
    rw [shp_none_len (L := m.zs) (by omega)]
    refine tr_rseq ?_
    refine sq_q (qt_move rfl) rfl ?_
    refine sq_q (qt_len rfl) rfl ?_
    refine sq_q (qt_bin rfl rfl (bT bin_lss (by omega))) rfl ?_
    refine sq_q (qt_move rfl) rfl ?_
    refine sq_gF rfl rfl rfl rfl ?_
    refine sq_gF rfl rfl rfl rfl ?_
    refine sq_gF rfl rfl rfl rfl ?_
    refine sq_q (qt_pick rfl rfl) rfl ?_
    refine sq_q (qt_move rfl) rfl ?_
    refine sq_gF rfl rfl rfl rfl ?_
    refine sq_gF rfl rfl rfl rfl ?_
    refine sq_gF rfl rfl rfl rfl ?_
    refine sq_gF rfl rfl rfl rfl ?_
    refine sq_gF rfl rfl rfl rfl ?_
    refine sq_q (qt_pick rfl rfl) rfl ?_
    refine sq_q (qt_move rfl) rfl ?_
    refine sq_gF rfl rfl rfl rfl ?_
    refine sq_gF rfl rfl rfl rfl ?_
    refine sq_gF rfl rfl rfl rfl ?_
    refine sq_gF rfl rfl rfl rfl ?_
    refine sq_gF rfl rfl rfl rfl ?_
    refine sq_q (qt_pick rfl rfl) rfl ?_
    refine sq_end ?_
    refine tr_ifT rfl ?_
    refine tr_rseq ?_
    refine sq_q (qt_assign rfl) rfl ?_
    refine sq_q (qt_assign rfl) rfl ?_
    refine sq_q (qt_assign rfl) rfl ?_
    refine sq_end ?_
    refine tr_ret ?_
    repeat with_reducible first | refine tr_skip ?_ | refine tr_exit ?_ | refine tr_then ?_ | refine tr_inX ?_ | refine tr_thenX ?_ | refine tr_inN ?_ | refine tr_inR ?_ | refine tr_thenR ?_
    exact tr_done () (fun a w s t => results_3 rfl (resv_tmp s rfl) (resv_tmp s rfl) (resv_tmp s rfl)) (fun w _ _ _ => trivial)
  ·
    rw [shp_none_len (L := m.zs) (by omega)]
    refine tr_rseq ?_
    refine sq_q (qt_move rfl) rfl ?_
    refine sq_q (qt_len rfl) rfl ?_
    refine sq_q (qt_bin rfl rfl (bF bin_lss (by omega))) rfl ?_
    refine sq_q (qt_move rfl) rfl ?_
    refine sq_gT rfl rfl ?_
    refine sq_q (qt_move rfl) rfl ?_
    refine sq_gT rfl rfl ?_
    refine sq_q (qt_len rfl) rfl ?_
    refine sq_gT rfl rfl ?_
    refine sq_q (qt_bin rfl rfl (bT bin_gtr (by omega))) rfl ?_
    refine sq_q (qt_pick rfl rfl) rfl ?_
    refine sq_q (qt_move rfl) rfl ?_
    refine sq_gF rfl rfl rfl rfl ?_
    refine sq_gF rfl rfl rfl rfl ?_
    refine sq_gF rfl rfl rfl rfl ?_
    refine sq_gF rfl rfl rfl rfl ?_
    refine sq_gF rfl rfl rfl rfl ?_
    refine sq_q (qt_pick rfl rfl) rfl ?_
    refine sq_q (qt_move rfl) rfl ?_
    refine sq_gF rfl rfl rfl rfl ?_
    refine sq_gF rfl rfl rfl rfl ?_
    refine sq_gF rfl rfl rfl rfl ?_
    refine sq_gF rfl rfl rfl rfl ?_
    refine sq_gF rfl rfl rfl rfl ?_
    refine sq_q (qt_pick rfl rfl) rfl ?_
    refine sq_end ?_
    refine tr_ifT rfl ?_
    refine tr_rseq ?_
    refine sq_q (qt_assign rfl) rfl ?_
    refine sq_q (qt_assign rfl) rfl ?_
    refine sq_q (qt_assign rfl) rfl ?_
    refine sq_end ?_
    refine tr_ret ?_
    repeat with_reducible first | refine tr_skip ?_ | refine tr_exit ?_ | refine tr_then ?_ | refine tr_inX ?_ | refine tr_thenX ?_ | refine tr_inN ?_ | refine tr_inR ?_ | refine tr_thenR ?_
    exact tr_done () (fun a w s t => results_3 rfl (resv_tmp s rfl) (resv_tmp s rfl) (resv_tmp s rfl)) (fun w _ _ _ => trivial)
  ·
    obtain ⟨ro, oo, evm, hat⟩ := hm.at_ hp0
    rw [evm]
    have hno0 : (m.rs[0].l.length < 1 ∨ 16 < m.rs[0].l.length) → shp m.zs = none := fun h => shp_none_row (k := 0) (by omega) (by omega) (by rw [m.zs_at hp0, Rw.zs_len]; omega)
    have hr0 := hrow _ (List.getElem_mem hp0)
    rw [hno0 (.inl g1)]
    refine tr_rseq ?_
    refine sq_q (qt_move rfl) rfl ?_
    refine sq_q (qt_len rfl) rfl ?_
    refine sq_q (qt_bin rfl rfl (bF bin_lss (by omega))) rfl ?_
    refine sq_q (qt_move rfl) rfl ?_
    refine sq_gT rfl rfl ?_
    refine sq_q (qt_move rfl) rfl ?_
    refine sq_gT rfl rfl ?_
    refine sq_q (qt_len rfl) rfl ?_
    refine sq_gT rfl rfl ?_
    refine sq_q (qt_bin rfl rfl (bF bin_gtr (by omega))) rfl ?_
    refine sq_q (qt_pick rfl rfl) rfl ?_
    refine sq_q (qt_move rfl) rfl ?_
    refine sq_gT rfl rfl ?_
    refine sq_q (qt_move rfl) rfl ?_
    refine sq_gT rfl rfl ?_
    refine sq_q (qt_index (i := 0) rfl rfl hp0) rfl ?_
    refine sq_gT rfl rfl ?_
    refine sq_q (qt_load rfl (fun w t => t.a1 (hat 0 hp0))) rfl ?_
    refine sq_gT rfl rfl ?_
    refine sq_q (qt_len rfl) rfl ?_
    refine sq_gT rfl rfl ?_
    refine sq_q (qt_bin rfl rfl (bT bin_lss (by omega))) rfl ?_
    refine sq_q (qt_pick rfl rfl) rfl ?_
    refine sq_q (qt_move rfl) rfl ?_
    refine sq_gF rfl rfl rfl rfl ?_
    refine sq_gF rfl rfl rfl rfl ?_
    refine sq_gF rfl rfl rfl rfl ?_
    refine sq_gF rfl rfl rfl rfl ?_
    refine sq_gF rfl rfl rfl rfl ?_
    refine sq_q (qt_pick rfl rfl) rfl ?_
    refine sq_end ?_
    refine tr_ifT rfl ?_
    refine tr_rseq ?_
    refine sq_q (qt_assign rfl) rfl ?_
    refine sq_q (qt_assign rfl) rfl ?_
    refine sq_q (qt_assign rfl) rfl ?_
    refine sq_end ?_
    refine tr_ret ?_
    repeat with_reducible first | refine tr_skip ?_ | refine tr_exit ?_ | refine tr_then ?_ | refine tr_inX ?_ | refine tr_thenX ?_ | refine tr_inN ?_ | refine tr_inR ?_ | refine tr_thenR ?_
    exact tr_done () (fun a w s t => results_3 rfl (resv_tmp s rfl) (resv_tmp s rfl) (resv_tmp s rfl)) (fun w _ _ _ => trivial)
  ·
    obtain ⟨ro, oo, evm, hat⟩ := hm.at_ hp0
    rw [evm]
    have hno0 : (m.rs[0].l.length < 1 ∨ 16 < m.rs[0].l.length) → shp m.zs = none := fun h => shp_none_row (k := 0) (by omega) (by omega) (by rw [m.zs_at hp0, Rw.zs_len]; omega)
    have hr0 := hrow _ (List.getElem_mem hp0)
    rw [hno0 (.inr g2)]
    refine tr_rseq ?_
    refine sq_q (qt_move rfl) rfl ?_
    refine sq_q (qt_len rfl) rfl ?_
    refine sq_q (qt_bin rfl rfl (bF bin_lss (by omega))) rfl ?_
    refine sq_q (qt_move rfl) rfl ?_
    refine sq_gT rfl rfl ?_
    refine sq_q (qt_move rfl) rfl ?_
    refine sq_gT rfl rfl ?_
    refine sq_q (qt_len rfl) rfl ?_
    refine sq_gT rfl rfl ?_
    refine sq_q (qt_bin rfl rfl (bF bin_gtr (by omega))) rfl ?_
    refine sq_q (qt_pick rfl rfl) rfl ?_
    refine sq_q (qt_move rfl) rfl ?_
    refine sq_gT rfl rfl ?_
    refine sq_q (qt_move rfl) rfl ?_
    refine sq_gT rfl rfl ?_
    refine sq_q (qt_index (i := 0) rfl rfl hp0) rfl ?_
    refine sq_gT rfl rfl ?_
    refine sq_q (qt_load rfl (fun w t => t.a1 (hat 0 hp0))) rfl ?_
    refine sq_gT rfl rfl ?_
    refine sq_q (qt_len rfl) rfl ?_
    refine sq_gT rfl rfl ?_
    refine sq_q (qt_bin rfl rfl (bF bin_lss (by omega))) rfl ?_
    refine sq_q (qt_pick rfl rfl) rfl ?_
    refine sq_q (qt_move rfl) rfl ?_
    refine sq_gT rfl rfl ?_
    refine sq_q (qt_move rfl) rfl ?_
    refine sq_gT rfl rfl ?_
    refine sq_q (qt_index (i := 0) rfl rfl hp0) rfl ?_
    refine sq_gT rfl rfl ?_
    refine sq_q (qt_load rfl (fun w t => t.a1 (hat 0 hp0))) rfl ?_
    refine sq_gT rfl rfl ?_
    refine sq_q (qt_len rfl) rfl ?_
    refine sq_gT rfl rfl ?_
    refine sq_q (qt_bin rfl rfl (bT bin_gtr (by omega))) rfl ?_
    refine sq_q (qt_pick rfl rfl) rfl ?_
    refine sq_end ?_
    refine tr_ifT rfl ?_
    refine tr_rseq ?_
    refine sq_q (qt_assign rfl) rfl ?_
    refine sq_q (qt_assign rfl) rfl ?_
    refine sq_q (qt_assign rfl) rfl ?_
    refine sq_end ?_
    refine tr_ret ?_
    repeat with_reducible first | refine tr_skip ?_ | refine tr_exit ?_ | refine tr_then ?_ | refine tr_inX ?_ | refine tr_thenX ?_ | refine tr_inN ?_ | refine tr_inR ?_ | refine tr_thenR ?_
    exact tr_done () (fun a w s t => results_3 rfl (resv_tmp s rfl) (resv_tmp s rfl) (resv_tmp s rfl)) (fun w _ _ _ => trivial)
  ·
    obtain ⟨ro, oo, evm, hat⟩ := hm.at_ hp0
    rw [evm]
    have hno0 : (m.rs[0].l.length < 1 ∨ 16 < m.rs[0].l.length) → shp m.zs = none := fun h => shp_none_row (k := 0) (by omega) (by omega) (by rw [m.zs_at hp0, Rw.zs_len]; omega)
    have hr0 := hrow _ (List.getElem_mem hp0)
    refine tr_rseq ?_
    refine sq_q (qt_move rfl) rfl ?_
    refine sq_q (qt_len rfl) rfl ?_
    refine sq_q (qt_bin rfl rfl (bF bin_lss (by omega))) rfl ?_
    refine sq_q (qt_move rfl) rfl ?_
    refine sq_gT rfl rfl ?_
    refine sq_q (qt_move rfl) rfl ?_
    refine sq_gT rfl rfl ?_
    refine sq_q (qt_len rfl) rfl ?_
    refine sq_gT rfl rfl ?_
    refine sq_q (qt_bin rfl rfl (bF bin_gtr (by omega))) rfl ?_
    refine sq_q (qt_pick rfl rfl) rfl ?_
    refine sq_q (qt_move rfl) rfl ?_
    refine sq_gT rfl rfl ?_
    refine sq_q (qt_move rfl) rfl ?_
    refine sq_gT rfl rfl ?_
    refine sq_q (qt_index (i := 0) rfl rfl hp0) rfl ?_
    refine sq_gT rfl rfl ?_
    refine sq_q (qt_load rfl (fun w t => t.a1 (hat 0 hp0))) rfl ?_
    refine sq_gT rfl rfl ?_
    refine sq_q (qt_len rfl) rfl ?_
    refine sq_gT rfl rfl ?_
    refine sq_q (qt_bin rfl rfl (bF bin_lss (by omega))) rfl ?_
    refine sq_q (qt_pick rfl rfl) rfl ?_
    refine sq_q (qt_move rfl) rfl ?_
    refine sq_gT rfl rfl ?_
    refine sq_q (qt_move rfl) rfl ?_
    refine sq_gT rfl rfl ?_
    refine sq_q (qt_index (i := 0) rfl rfl hp0) rfl ?_
    refine sq_gT rfl rfl ?_
    refine sq_q (qt_load rfl (fun w t => t.a1 (hat 0 hp0))) rfl ?_
    refine sq_gT rfl rfl ?_
    refine sq_q (qt_len rfl) rfl ?_
    refine sq_gT rfl rfl ?_
    refine sq_q (qt_bin rfl rfl (bF bin_gtr (by omega))) rfl ?_
    refine sq_q (qt_pick rfl rfl) rfl ?_
    refine sq_end ?_
    refine tr_ifF rfl ?_
    refine tr_skip ?_
    repeat with_reducible first | refine tr_skip ?_ | refine tr_exit ?_ | refine tr_then ?_ | refine tr_inX ?_ | refine tr_thenX ?_ | refine tr_inN ?_ | refine tr_inR ?_ | refine tr_thenR ?_
    refine tr_seq ?_
    refine tr_rseq ?_
    refine sq_q (qt_move rfl) rfl ?_
    refine sq_q (qt_len rfl) rfl ?_
    refine sq_q (qt_move rfl) rfl ?_
    refine sq_end ?_
    refine tr_block ?_
    refine tr_loop (fun k : Nat => k ≤ m.rs.length ∧ ∀ i (h : i < m.rs.length), i < k → m.rs[i].l.length = m.rs[0].l.length) (fun k => [(0, .slice (some ⟨ro, oo, none⟩) m.rs.length m.p.2), (29, .slice (some ⟨ro, oo, none⟩) m.rs.length m.p.2), (30, .int .i64 (m.rs.length : Int)), (31, .int .i64 (k : Int))]) (fun _ => []) (fun _ _ => True) (fun k => m.rs.length - k) 0 ⟨Nat.zero_le _, fun i _ h => by omega⟩ ⟨rfl, rfl, rfl, rfl, trivial⟩ rfl (fun _ _ => trivial) ?_
    rintro k ⟨hk, hall⟩
    refine tr_rseq ?_
    refine sq_q (qt_bin rfl rfl bin_lss) rfl ?_
    refine sq_end ?_
    refine tr_seq ?_
    refine tr_if rfl (fun hc => ?_) (fun hc => ?_)
    ·
      have hlt : k < m.rs.length := by have := of_decide_eq_true hc; omega
      have hrk := hrow _ (List.getElem_mem hlt)
      refine tr_skip ?_
      repeat with_reducible first | refine tr_skip ?_ | refine tr_exit ?_ | refine tr_then ?_ | refine tr_inX ?_ | refine tr_thenX ?_ | refine tr_inN ?_ | refine tr_inR ?_ | refine tr_thenR ?_
      refine tr_seq ?_
      refine tr_block ?_
      refine tr_rseq ?_
      refine sq_q (qt_index (i := k) rfl rfl hlt) rfl ?_
      refine sq_q (qt_load rfl (fun w t => t.a1 (hat k hlt))) rfl ?_
      refine sq_q (qt_assign rfl) rfl ?_
      refine sq_end ?_
      refine tr_rseq ?_
      refine sq_q (qt_move rfl) rfl ?_
      refine sq_q (qt_len rfl) rfl ?_
      refine sq_q (qt_move rfl) rfl ?_
      refine sq_q (qt_index (i := 0) rfl rfl hp0) rfl ?_
      refine sq_q (qt_load rfl (fun w t => t.a1 (hat 0 hp0))) rfl ?_
      refine sq_q (qt_len rfl) rfl ?_
      refine sq_q (qt_bin rfl rfl bin_neq) rfl ?_
      refine sq_end ?_
      refine tr_if rfl (fun hc => ?_) (fun hc => ?_)
      ·
        have hne : m.rs[k].l.length ≠ m.rs[0].l.length := by have := of_decide_eq_true hc; omega
        rw [shp_none_row (L := m.zs) (k := k) (by omega) (by omega) (by rw [m.zs_at hlt, m.zs_at hp0, Rw.zs_len, Rw.zs_len]; exact .inr (.inr hne))]
        refine tr_rseq ?_
        refine sq_q (qt_assign rfl) rfl ?_
        refine sq_q (qt_assign rfl) rfl ?_
        refine sq_q (qt_assign rfl) rfl ?_
        refine sq_end ?_
        refine tr_ret ?_
        repeat with_reducible first | refine tr_skip ?_ | refine tr_exit ?_ | refine tr_then ?_ | refine tr_inX ?_ | refine tr_thenX ?_ | refine tr_inN ?_ | refine tr_inR ?_ | refine tr_thenR ?_
        exact tr_done () (fun a w s t => results_3 rfl (resv_tmp s rfl) (resv_tmp s rfl) (resv_tmp s rfl)) (fun w _ _ _ => trivial)
      ·
        have heq : m.rs[k].l.length = m.rs[0].l.length := by have := of_decide_eq_false hc; omega
        refine tr_skip ?_
        repeat with_reducible first | refine tr_skip ?_ | refine tr_exit ?_ | refine tr_then ?_ | refine tr_inX ?_ | refine tr_thenX ?_ | refine tr_inN ?_ | refine tr_inR ?_ | refine tr_thenR ?_
        refine tr_region ?_
        refine sq_q (qt_bin rfl rfl (bin_addI (by omega) (by omega))) rfl ?_
        refine sq_q (qt_move rfl) rfl ?_
        refine sq_nil ?_
        repeat with_reducible first | refine tr_skip ?_ | refine tr_exit ?_ | refine tr_then ?_ | refine tr_inX ?_ | refine tr_thenX ?_ | refine tr_inN ?_ | refine tr_inR ?_ | refine tr_thenR ?_
        refine tr_round (k + 1) ⟨by omega, fun i h hi => ?_⟩ (by omega) ⟨rfl, rfl, rfl, rfl, trivial⟩ rfl (fun _ h => h)
        by_cases e : i = k
        · subst e; exact heq
        · exact hall i h (by omega)
    ·
      have hkm : k = m.rs.length := by have := of_decide_eq_false hc; omega
      rw [shp_some (L := m.zs) (by omega) (by omega) (by rw [m.zs_at hp0, Rw.zs_len]; exact g1) (by rw [m.zs_at hp0, Rw.zs_len]; exact g2) (fun i hi => by rw [m.zs_at (by omega), m.zs_at hp0, Rw.zs_len, Rw.zs_len]; exact hall i (by omega) (by omega))]
      rw [m.zs_at hp0, Rw.zs_len, m.zs_len]
      refine tr_exit ?_
      repeat with_reducible first | refine tr_skip ?_ | refine tr_exit ?_ | refine tr_then ?_ | refine tr_inX ?_ | refine tr_thenX ?_ | refine tr_inN ?_ | refine tr_inR ?_ | refine tr_thenR ?_
      refine tr_rdraw0 [0, 2, 3, 4, 6, 28, 29, 30, 31, 32, 41] (by kernel_rfl) ?_
      refine dx_q rfl (qt_move rfl) rfl ?_
      refine dx_q rfl (qt_len rfl) rfl ?_
      refine dx_q rfl (qt_move rfl) rfl ?_
      refine dx_q rfl (qt_index (i := 0) rfl rfl hp0) rfl ?_
      refine dx_q rfl (qt_load rfl (fun w t => t.a1 (hat 0 hp0))) rfl ?_
      refine dx_q rfl (qt_len rfl) rfl ?_
      refine dx_q rfl (qt_assign rfl) rfl ?_
      refine dx_q rfl (qt_assign rfl) rfl ?_
      refine dx_q rfl (qt_assign rfl) rfl ?_
      refine dx_nil ?_
      repeat (first | refine es_val rfl ?_ rfl | refine es_res rfl (fun x => ?_) rfl | refine es_skip rfl ?_)
      refine es_nil rfl ?_
      refine tx_endk ?_
      refine tr_ret ?_
      repeat with_reducible first | refine tr_skip ?_ | refine tr_exit ?_ | refine tr_then ?_ | refine tr_inX ?_ | refine tr_thenX ?_ | refine tr_inN ?_ | refine tr_inR ?_ | refine tr_thenR ?_
      exact tr_done () (fun a w s t => results_3 rfl (resv_tmp s rfl) (resv_tmp s rfl) (resv_tmp s rfl)) (fun w _ _ _ => trivial)
end Go.Qk
end
section
set_option linter.unusedVariables false
namespace Go.Qk
open Go Go.Proofs Go.RowKit
set_option maxRecDepth 100000
set_option maxHeartbeats 4000000
theorem square_ret (m : Mt) (B : Nat) (w0 : World) (S : Nat → Prop) (hm : m.ok B w0) (hlen : m.rs.length ≤ 35184372088832) (hrow : ∀ r ∈ m.rs, r.l.length ≤ 35184372088832) :
    Ret Try.prog 67 [m.v] w0 S (fun _ : Unit => sqrV (shp m.zs)) (fun _ _ => True) := by
  obtain ⟨o, ho⟩ : ∃ o, o = shp m.zs := ⟨_, rfl⟩
  rw [← ho]
  refine ret_of Try.func67 rfl Try.ntmps67 rfl ?_
  refine tr_rseq ?_
  refine sq_q (qt_assign rfl) rfl ?_
  refine sq_q (qt_assign rfl) rfl ?_
  refine sq_end ?_
  refine tr_rseq ?_
  refine sq_q (qt_move rfl) rfl ?_
  refine sq_call (val := fun _ : Unit => shpV o) (F := fun _ _ => True) rfl rfl rfl (fun w t => by rw [ho]; exact shape_ret m B w _ (t.mt hm) hlen hrow) fun _ => ?_
  refine sq_q (qt_move rfl) rfl ?_
  refine sq_q (qt_extract rfl rfl) rfl ?_
  refine sq_q (qt_extract rfl rfl) rfl ?_
  refine sq_q (qt_extract rfl rfl) rfl ?_
  refine sq_q (qt_assign rfl) rfl ?_
  refine sq_q (qt_assign rfl) rfl ?_
  refine sq_q (qt_assign rfl) rfl ?_
  refine sq_end ?_
  clear ho
  cases o
  ·
    refine tr_rseq ?_
    refine sq_q (qt_move rfl) rfl ?_
    refine sq_q (qt_move rfl) rfl ?_
    refine sq_q (qt_move rfl) rfl ?_
    refine sq_gF rfl rfl rfl rfl ?_
    refine sq_gF rfl rfl rfl rfl ?_
    refine sq_gF rfl rfl rfl rfl ?_
    refine sq_q (qt_pick rfl rfl) rfl ?_
    refine sq_q (qt_assign rfl) rfl ?_
    refine sq_q (qt_assign rfl) rfl ?_
    refine sq_end ?_
    refine tr_ret ?_
    repeat with_reducible first | refine tr_skip ?_ | refine tr_exit ?_ | refine tr_then ?_ | refine tr_inX ?_ | refine tr_thenX ?_ | refine tr_inN ?_ | refine tr_inR ?_ | refine tr_thenR ?_
    exact tr_done () (fun a w s t => results_2 rfl (resv_tmp s rfl) (resv_tmp s rfl)) (fun w _ _ _ => trivial)
  ·
    refine tr_rseq ?_
    refine sq_q (qt_move rfl) rfl ?_
    refine sq_q (qt_move rfl) rfl ?_
    refine sq_q (qt_move rfl) rfl ?_
    refine sq_gT rfl rfl ?_
    refine sq_q (qt_move rfl) rfl ?_
    refine sq_gT rfl rfl ?_
    refine sq_q (qt_move rfl) rfl ?_
    refine sq_gT rfl rfl ?_
    refine sq_q (qt_bin rfl rfl bin_eql) rfl ?_
    refine sq_q (qt_pick rfl rfl) rfl ?_
    refine sq_q (qt_assign rfl) rfl ?_
    refine sq_q (qt_assign rfl) rfl ?_
    refine sq_end ?_
    refine tr_ret ?_
    repeat with_reducible first | refine tr_skip ?_ | refine tr_exit ?_ | refine tr_then ?_ | refine tr_inX ?_ | refine tr_thenX ?_ | refine tr_inN ?_ | refine tr_inR ?_ | refine tr_thenR ?_
    exact tr_done () (fun a w s t => results_2 rfl (resv_tmp s rfl) (resv_tmp s rfl)) (fun w _ _ _ => trivial)
theorem others_ret (n i : Nat) (w0 : World) (S : Nat → Prop) (hn : n ≤ 65536) :
    Ret Try.prog 80 [.int .i64 (n : Int), .int .i64 (i : Int)] w0 S (fun p : Sv => .slice p.1 (oth n i).length p.2) (fun p w => Rd p.1 (ints (oth n i)) w ∧ (oth n i).length ≤ p.2) := by
  refine ret_of Try.func80 rfl Try.ntmps80 rfl ?_
  refine tr_rseq ?_
  refine sq_q (qt_assign rfl) rfl ?_
  refine sq_end ?_
  refine tr_rseq ?_
  refine sq_q (qt_assign rfl) rfl ?_
  refine sq_end ?_
  refine tr_seq ?_
  refine tr_rseq ?_
  refine sq_q (qt_move rfl) rfl ?_
  refine sq_q (qt_move rfl) rfl ?_
  refine sq_end ?_
  refine tr_block ?_
  refine tr_loop2 (fun (k : Nat) (p : Gr) => k ≤ n ∧ grOk 1 (oth k i).length (ints (oth k i)) p) (fun k p => [(0, .int .i64 (n : Int)), (1, .int .i64 (i : Int)), (5, grV (oth k i).length p), (7, .int .i64 (n : Int)), (8, .int .i64 (k : Int))]) (fun k p => grO 3 (ints (oth k i)) p) (fun _ _ _ => True) (fun k _ => n - k) 0 none ⟨Nat.zero_le _, rfl, rfl⟩ ⟨rfl, rfl, rfl, rfl, rfl, trivial⟩ rfl (fun _ _ => trivial) ?_
  rintro k p ⟨hk, hok⟩
  refine tr_rseq ?_
  refine sq_q (qt_bin rfl rfl bin_lss) rfl ?_
  refine sq_end ?_
  refine tr_seq ?_
  refine tr_if rfl (fun hc => ?_) (fun hc => ?_)
  ·
    have hlt : k < n := by have := of_decide_eq_true hc; omega
    have hol : (oth k i).length ≤ k := oth_length k i
    refine tr_skip ?_
    repeat with_reducible first | refine tr_skip ?_ | refine tr_exit ?_ | refine tr_then ?_ | refine tr_inX ?_ | refine tr_thenX ?_ | refine tr_inN ?_ | refine tr_inR ?_ | refine tr_thenR ?_
    refine tr_seq ?_
    refine tr_block ?_
    refine tr_rseq ?_
    refine sq_q (qt_move rfl) rfl ?_
    refine sq_q (qt_assign rfl) rfl ?_
    refine sq_end ?_
    refine tr_rseq ?_
    refine sq_q (qt_move rfl) rfl ?_
    refine sq_q (qt_move rfl) rfl ?_
    refine sq_q (qt_bin rfl rfl bin_neq) rfl ?_
    refine sq_end ?_
    refine tr_if rfl (fun hc => ?_) (fun hc => ?_)
    ·
      have hne : k ≠ i := by have := of_decide_eq_true hc; omega
      refine tr_region ?_
      refine sq_q (qt_move rfl) rfl ?_
      refine sq_q (qt_move rfl) rfl ?_
      refine sq_lit (vs := [(0, .int .i64 (k : Int))]) (cells := [.int .i64 (k : Int)]) rfl rfl rfl (by simp [Instr.fill, Value.cells, show Array.range 1 = #[0] from by decide]) rfl fun r16 => ?_
      refine sq_own ((r16, .cells [Value.int .i64 (k : Int)].toArray 3 (0, 0)) :: (grO 3 (ints (oth k i)) p ++ [])) (by rw [List.append_nil]) ?_
      refine sq_grow (p := p) (k := (oth k i).length) (m := 1) (xs := ints (oth k i)) (news := [.int .i64 (k : Int)]) (own' := []) rfl rfl hok rfl (by omega) (by omega) (by omega) rfl rfl rfl rfl fun p' hok' => ?_
      rw [List.append_nil]
      refine sq_q (qt_assign rfl) rfl ?_
      refine sq_nil ?_
      repeat with_reducible first | refine tr_skip ?_ | refine tr_exit ?_ | refine tr_then ?_ | refine tr_inX ?_ | refine tr_thenX ?_ | refine tr_inN ?_ | refine tr_inR ?_ | refine tr_thenR ?_
      refine tr_region ?_
      refine sq_q (qt_bin rfl rfl (bin_addI (by omega) (by omega))) rfl ?_
      refine sq_q (qt_move rfl) rfl ?_
      refine sq_nil ?_
      repeat with_reducible first | refine tr_skip ?_ | refine tr_exit ?_ | refine tr_then ?_ | refine tr_inX ?_ | refine tr_thenX ?_ | refine tr_inN ?_ | refine tr_inR ?_ | refine tr_thenR ?_
      have e : oth (k + 1) i = oth k i ++ [k] := oth_ne hne
      have e2 : ints (oth k i) ++ [Value.int .i64 (k : Int)] = ints (oth (k + 1) i) := by rw [e]; simp [ints]
      have e3 : (oth k i).length + 1 = (oth (k + 1) i).length := by rw [e]; simp
      rw [e2, e3] at hok'
      refine tr_round2 (k + 1) p' ⟨by omega, hok'⟩ (by omega) ⟨rfl, rfl, by rw [← e3]; rfl, rfl, rfl, trivial⟩ (by rw [← e2]) (fun _ h => h)
    ·
      have heq : k = i := by have := of_decide_eq_false hc; omega
      refine tr_skip ?_
      repeat with_reducible first | refine tr_skip ?_ | refine tr_exit ?_ | refine tr_then ?_ | refine tr_inX ?_ | refine tr_thenX ?_ | refine tr_inN ?_ | refine tr_inR ?_ | refine tr_thenR ?_
      refine tr_region ?_
      refine sq_q (qt_bin rfl rfl (bin_addI (by omega) (by omega))) rfl ?_
      refine sq_q (qt_move rfl) rfl ?_
      refine sq_nil ?_
      repeat with_reducible first | refine tr_skip ?_ | refine tr_exit ?_ | refine tr_then ?_ | refine tr_inX ?_ | refine tr_thenX ?_ | refine tr_inN ?_ | refine tr_inR ?_ | refine tr_thenR ?_
      have e : oth (k + 1) i = oth k i := oth_eq heq
      refine tr_round2 (k + 1) p ⟨by omega, by rw [e]; exact hok⟩ (by omega) ⟨rfl, rfl, by rw [e]; rfl, rfl, rfl, trivial⟩ (by rw [e]) (fun _ h => h)
  ·
    have hkn : k = n := by have := of_decide_eq_false hc; omega
    subst hkn
    refine tr_exit ?_
    repeat with_reducible first | refine tr_skip ?_ | refine tr_exit ?_ | refine tr_then ?_ | refine tr_inX ?_ | refine tr_thenX ?_ | refine tr_inN ?_ | refine tr_inR ?_ | refine tr_thenR ?_
    refine tr_rseq ?_
    refine sq_q (qt_move rfl) rfl ?_
    refine sq_q (qt_assign rfl) rfl ?_
    refine sq_end ?_
    refine tr_ret ?_
    repeat with_reducible first | refine tr_skip ?_ | refine tr_exit ?_ | refine tr_then ?_ | refine tr_inX ?_ | refine tr_thenX ?_ | refine tr_inN ?_ | refine tr_inR ?_ | refine tr_thenR ?_
    exact tr_done (grP p) (fun a w s t => results_1 rfl (resv_tmp s (by rw [← grP_v hok]; rfl))) (fun w _ ho _ => grP_rd hok ho)
end Go.Qk
end
section
set_option linter.unusedVariables false
namespace Go.Qk
open Go Go.Proofs Go.RowKit
/-- a block with a limb in it -/
def u32b (o : Obj) : Prop := ∃ cs e fr v, o = .cells cs e fr ∧ Value.int .u32 v ∈ cs
/-- what is known of limbs alone -/
def LimbR (R : World → Prop) : Prop := ∀ w w' : World, (∀ (k : Nat) (o : Obj), w.heap[k]? = some o → u32b o → w'.heap[k]? = some o) → R w → R w'
theorem LimbR.and {R R' : World → Prop} (h : LimbR R) (h' : LimbR R') : LimbR fun w => R w ∧ R' w := fun w w' hk ⟨a, b⟩ => ⟨h w w' hk a, h' w w' hk b⟩
theorem LimbR.const (p : Prop) : LimbR fun _ => p := fun _ _ _ a => a
theorem At.row {r o : Nat} {v : Value} {w : World} (h : At r o v w) : ∃ c e fr, w.heap[r]? = some (.cells c e fr) ∧ c[o]? = some v := by
  unfold At World.cell? at h
  split at h
  · rename_i c e fr hc
    exact ⟨c, e, fr, hc, h⟩
  · simp at h
theorem LimbR.rd (A : Option Addr) (xs : List Nat) : LimbR (Rd A (u32s xs)) := by
  intro w w' hk h i v hv
  obtain ⟨r, o, e, ha⟩ := h i v hv
  refine ⟨r, o, e, ?_⟩
  obtain ⟨c, el, fr, h1, h2⟩ := ha.row
  refine ha.of_heap ?_
  rw [h1]
  refine hk _ _ h1 ⟨c, el, fr, ?_⟩
  have hm : v ∈ c := by
    have := (Array.getElem?_eq_some_iff.1 h2).2
    rw [← this]
    exact Array.getElem_mem _
  have : v ∈ u32s xs := List.mem_of_getElem? hv
  simp only [u32s, List.mem_map] at this
  obtain ⟨x, _, hx⟩ := this
  exact ⟨(x : Int), rfl, by rw [hx]; exact hm⟩
theorem LimbR.lm (xs : List Nat) (p : Sv) : LimbR (Lm xs p) := (LimbR.rd _ _).and (LimbR.const _)
theorem LimbR.ok (B : Nat) (z : Zd) : LimbR (z.ok B) := (LimbR.lm _ _).and (LimbR.const _)
section
variable {P : Program} {n : Nat} {w0 w : World} {X : List Nat} {S : Nat → Prop} {E : Env} {own : Own} {R : World → Prop} {Q : Exit → Act → World → Prop} {ops : Array Oper} {rest : List Oper}
theorem SS.adoptL (t : SS w0 X S own R w) {r : Nat} {o : Obj} (hr : w0.heap.size ≤ r) (hn : ∀ p ∈ own, p.1 ≠ r) (ho : w.heap[r]? = some o) (hu : ¬ u32b o) {R' : World → Prop} (hR : ∀ w, R w → R' w) (hL : LimbR R') : SS w0 X S ((r, o) :: own) R' w := by
  have hlt : r < w.heap.size := (Array.getElem?_eq_some_iff.1 ho).1
  refine ⟨t.os, t.tape, t.output, t.size, t.pres, ?_, ?_, List.pairwise_cons.2 ⟨fun p hp => (hn p hp).symm, t.nd⟩, fun w' hs hk => ?_⟩
  · intro p hp
    rcases List.mem_cons.1 hp with rfl | hp
    · exact ⟨hlt, .inr hr⟩
    · exact t.lt p hp
  · intro p hp
    rcases List.mem_cons.1 hp with rfl | hp
    · exact ho
    · exact t.has p hp
  · have h1 : R { w' with heap := w'.heap.setIfInBounds r o } := by
      refine t.keep _ (by simpa using hs) fun k h1 h2 h3 => ?_
      show (w'.heap.setIfInBounds r o)[k]? = w.heap[k]?
      by_cases e : k = r
      · subst e
        rw [Array.getElem?_setIfInBounds_self_of_lt (by omega), ho]
      · rw [Array.getElem?_setIfInBounds_ne (Ne.symm e)]
        exact hk k h1 h2 fun p hp => by
          rcases List.mem_cons.1 hp with rfl | hp
          · exact Ne.symm e
          · exact h3 p hp
    refine hL _ w' (fun k o' hk' hu' => ?_) (hR _ h1)
    have hk'' : (w'.heap.setIfInBounds r o)[k]? = some o' := hk'
    by_cases e : k = r
    · subst e
      rw [Array.getElem?_setIfInBounds_self_of_lt (by omega)] at hk''
      injection hk'' with hk''
      subst hk''
      exact absurd hu' hu
    · rwa [Array.getElem?_setIfInBounds_ne (Ne.symm e)] at hk''
/-- a block that an alloc in the midst of a region has made -/
def New (w0 : World) (own : Own) (o : Obj) (r : Nat) (w : World) : Prop := w0.heap.size ≤ r ∧ (∀ p ∈ own, p.1 ≠ r) ∧ w.heap[r]? = some o
theorem dx_alloc {late : Nat → Bool} {i : Nat} {os : List Oper} {Γ : Ctx} {K : Ctx → Prop} {t : TypeId} {agg : Bool} {sz by_ : Nat} {z : Value} [hT : TyI P t agg sz by_ z] {ty : TypeId} {d : Nat} {pos : String} {af : Array Edge} (hl : late i = false)
    (h : Dx P ops Q n (SS w0 X S own R) Bl late (i + 1) os ((d, .pr (ResF w0 S own (fun r : Nat => .pointer (some ⟨r, 0, none⟩)) (New w0 own (.cells z.cells t (0, 0))))) :: Γ) K) :
    Dx P ops Q n (SS w0 X S own R) Bl late i (⟨some d, .alloc t, ty, pos, af, none⟩ :: os) Γ K := by
  refine ⟨.pr (ResF w0 S own (fun r : Nat => .pointer (some ⟨r, 0, none⟩)) (New w0 own (.cells z.cells t (0, 0)))), .inl ⟨hl, fun _ _ _ hb ⟨x, e, hk⟩ => ⟨x, e, hk.below hb⟩, fun a w hs hd hJ hok => ?_⟩, h⟩
  rw [if_pos (wanted_none rfl)]
  have e : (execOp a.eval ⟨some d, .alloc t, ty, pos, af, none⟩).run P w = .ok (.value (.pointer (some ⟨w.heap.size, 0, none⟩))) (w.alloc (.cells z.cells t (0, 0))) := by
    simp [execOp, Instr.alloc, hT.zero w, newVar, newRow]
  unfold Oper.wp
  rw [e]
  have hb : Below w.heap.size w (w.alloc (.cells z.cells t (0, 0))) := (Below.refl _ _).alloc (Nat.le_refl _) _
  refine ⟨_, rfl, hb, hJ.grow hb, w.heap.size, rfl, fun w'' h1 h2 => ⟨hJ.size, fun p hp e => ?_, ?_⟩⟩
  · have := (hJ.lt p hp).1
    omega
  · rw [h2 w.heap.size (.inl hJ.size) (by simp) (fun p hp e => by have := (hJ.lt p hp).1; omega)]
    exact heap_alloc_new w _
theorem es_adopt {sl : List Nat} {os : List Oper} {Γ : Ctx} {E : Env} (own' : Own) (R' : World → Prop) (hE : noLate sl E = true) (ha : ∀ w, SS w0 X S own R w → SS w0 X S own' R' w) (h : Tx P ops Q n sl Γ os (Sx n w0 X S E own' R')) : Es P ops Q n w0 X S own sl os Γ [] E R :=
  ⟨_, sx_closed hE, fun a w hs hd hJ hE _ => ⟨⟨hs, hd, hE⟩, ha w hJ⟩, h⟩
end
end Go.Qk
end
section
set_option linter.unusedVariables false
namespace Go.Qk
open Go Go.Proofs Go.RowKit
/-- the first row from p on with no zero in column k -/
def piv (g : Nat → Nat → Int) (k : Nat) : (m p : Nat) → Nat
  | 0, p => p
  | m + 1, p => if g p k = 0 then piv g k m (p + 1) else p
def swp (g : Nat → Nat → Int) (a b : Nat) : Nat → Nat → Int := fun i j => g (if i = a then b else if i = b then a else i) j
def elm (g : Nat → Nat → Int) (k : Nat) (prev : Int) (i j : Nat) : Int := (g k k * g i j - g i k * g k j) / prev
def elim (g : Nat → Nat → Int) (k : Nat) (prev : Int) : Nat → Nat → Int := fun i j => if k < i ∧ k < j then elm g k prev i j else g i j
/-- the elimination up to the place (i, j) -/
def elimP (g : Nat → Nat → Int) (k : Nat) (prev : Int) (i j : Nat) : Nat → Nat → Int := fun a b => if k < a ∧ k < b ∧ (a < i ∨ (a = i ∧ b < j)) then elm g k prev a b else g a b
def bar (n : Nat) : (m k : Nat) → (Nat → Nat → Int) → Int → Bool → Int
  | 0, _, _, prev, neg => if neg = true then -prev else prev
  | m + 1, k, g, prev, neg => if piv g k (n - k) k = n then 0 else if piv g k (n - k) k = k then bar n m (k + 1) (elim g k prev) (g k k) neg else bar n m (k + 1) (elim (swp g (piv g k (n - k) k) k) k prev) (swp g (piv g k (n - k) k) k k k) (!neg)
def bdet (n : Nat) (g : Nat → Nat → Int) : Int := bar n n 0 g 1 false
def bd (B : Nat) : Nat → Nat
  | 0 => B
  | k + 1 => 2 * bd B k + 1
theorem bd_eq (B k : Nat) : bd B k + 1 = 2 ^ k * (B + 1) := by
  induction k with
  | zero => simp [bd]
  | succ k ih => rw [bd, Nat.pow_succ]; grind
theorem bd_le {B k : Nat} (hk : k ≤ 16) (hB : B ≤ 8388607) : bd B k ≤ 549755813887 := by
  have h := bd_eq B k
  have h1 : 2 ^ k ≤ 2 ^ 16 := Nat.pow_le_pow_right (by decide) hk
  have h2 : 2 ^ k * (B + 1) ≤ 2 ^ 16 * 8388608 := Nat.mul_le_mul h1 (by omega)
  omega
theorem bd_mono (B k : Nat) : bd B k ≤ bd B (k + 1) := by rw [bd]; omega
theorem piv_stop {g : Nat → Nat → Int} {k m p : Nat} (h : g p k ≠ 0) : piv g k m p = p := by
  cases m with
  | zero => rfl
  | succ m => rw [piv, if_neg h]
theorem piv_go {g : Nat → Nat → Int} {k m p : Nat} (h : g p k = 0) : piv g k (m + 1) p = piv g k m (p + 1) := by rw [piv, if_pos h]
/-- a fact of every integer of the rows, by place -/
def alli (F : Nat → Nat → Zd → Prop) (qs : List Wr) : Prop := ∀ a q, qs[a]? = some q → ∀ b z, q.2[b]? = some z → F a b z
theorem alli.mono {F F' : Nat → Nat → Zd → Prop} {qs : List Wr} (h : alli F qs) (hf : ∀ a b z, F a b z → F' a b z) : alli F' qs := fun a q hq b z hz => hf a b z (h a q hq b z hz)
theorem alli.set {F F' : Nat → Nat → Zd → Prop} {qs : List Wr} (h : alli F qs) {i j : Nat} {q : Wr} (hq : qs[i]? = some q) {z : Zd} (hz : F' i j z) (hf : ∀ a b z, ¬(a = i ∧ b = j) → F a b z → F' a b z) : alli F' (qs.set i (q.1, q.2.set j z)) := by
  intro a p hp b y hy
  rw [List.getElem?_set] at hp
  split at hp
  · rename_i ha
    subst ha
    split at hp
    · injection hp with hp
      subst hp
      dsimp only at hy
      rw [List.getElem?_set] at hy
      split at hy
      · rename_i hb
        subst hb
        split at hy
        · injection hy with hy
          subst hy
          exact hz
        · simp at hy
      · rename_i hb
        exact hf _ _ _ (fun e => hb e.2.symm) (h i q hq b y hy)
    · simp at hp
  · rename_i ha
    exact hf _ _ _ (fun e => ha e.1.symm) (h a p hp b y hy)
/-- known from the start, or known now -/
def okE (B : Nat) (w0 : World) (z : Zd) (w : World) : Prop := z.ok B w0 ∨ z.ok B w
theorem okE.mono {B B' : Nat} {w0 w : World} {z : Zd} (h : okE B w0 z w) (hb : B ≤ B') : okE B' w0 z w := h.imp (·.mono hb) (·.mono hb)
theorem okE.get {B : Nat} {w0 w : World} {z : Zd} {S : Nat → Prop} {own : Own} {R : World → Prop} (h : okE B w0 z w) (t : SS w0 [] S own R w) : z.ok B w := h.elim t.zd id
theorem LimbR.okE (B : Nat) (w0 : World) (z : Zd) : LimbR (okE B w0 z) := fun w w' hk h => h.imp id (LimbR.ok B z w w' hk)
theorem LimbR.alli (F : Nat → Nat → Zd → World → Prop) (hF : ∀ a b z, LimbR (F a b z)) (qs : List Wr) : LimbR fun w => alli (fun a b z => F a b z w) qs := fun w w' hk h a q hq b z hz => hF a b z w w' hk (h a q hq b z hz)
/-- two rows change places -/
def qswap (qs : List Wr) (a b : Nat) (qa qb : Wr) : List Wr := (qs.set a qb).set b qa
theorem qswap_perm {qs : List Wr} {a b : Nat} {qa qb : Wr} (ha : qs[a]? = some qa) (hb : qs[b]? = some qb) : (qswap qs a b qa qb).Perm qs := by
  obtain ⟨h1, e1⟩ := List.getElem?_eq_some_iff.1 ha
  obtain ⟨h2, e2⟩ := List.getElem?_eq_some_iff.1 hb
  unfold qswap
  rw [← e1, ← e2]
  exact List.set_set_perm h1 h2
theorem qswap_get {qs : List Wr} {a b : Nat} {qa qb : Wr} (ha : qs[a]? = some qa) (hb : qs[b]? = some qb) (i : Nat) : (qswap qs a b qa qb)[i]? = if i = b then some qa else if i = a then some qb else qs[i]? := by
  obtain ⟨h1, _⟩ := List.getElem?_eq_some_iff.1 ha
  obtain ⟨h2, _⟩ := List.getElem?_eq_some_iff.1 hb
  unfold qswap
  rw [List.getElem?_set]
  by_cases hib : i = b
  · subst hib; simp [h2]
  · rw [if_neg (Ne.symm hib), if_neg hib, List.getElem?_set]
    by_cases hia : i = a
    · subst hia; simp [h1]
    · rw [if_neg (Ne.symm hia), if_neg hia]
theorem MG.swap {g : Nat → Nat → Int} {r c : Nat} {qs : List Wr} (h : MG g r c qs) {a b : Nat} {qa qb : Wr} (ha : qs[a]? = some qa) (hb : qs[b]? = some qb) : MG (swp g a b) r c (qswap qs a b qa qb) := by
  refine ⟨by unfold qswap; rw [List.length_set, List.length_set]; exact h.1, fun i q hq => ?_⟩
  rw [qswap_get ha hb] at hq
  unfold swp
  by_cases hib : i = b
  · rw [if_pos hib] at hq
    injection hq with hq
    subst hq
    obtain ⟨e1, e2⟩ := h.2 a _ ha
    refine ⟨e1, fun j z hz => ?_⟩
    rw [e2 j z hz]
    by_cases hia : i = a
    · rw [if_pos hia, ← hib, hia]
    · rw [if_neg hia, if_pos hib]
  · rw [if_neg hib] at hq
    by_cases hia : i = a
    · rw [if_pos hia] at hq
      injection hq with hq
      subst hq
      obtain ⟨e1, e2⟩ := h.2 b _ hb
      refine ⟨e1, fun j z hz => ?_⟩
      rw [e2 j z hz, if_pos hia]
    · rw [if_neg hia] at hq
      obtain ⟨e1, e2⟩ := h.2 i _ hq
      refine ⟨e1, fun j z hz => ?_⟩
      rw [e2 j z hz, if_neg hia, if_neg hib]
theorem alli.swap {F : Zd → Prop} {qs : List Wr} (h : alli (fun _ _ z => F z) qs) {a b : Nat} {qa qb : Wr} (ha : qs[a]? = some qa) (hb : qs[b]? = some qb) : alli (fun _ _ z => F z) (qswap qs a b qa qb) := by
  intro i q hq j z hz
  have : q ∈ qs := (qswap_perm ha hb).mem_iff.1 (List.mem_of_getElem? hq)
  obtain ⟨i', hi'⟩ := List.getElem?_of_mem this
  exact h i' q hi' j z hz
theorem qswap_hdr {qs : List Wr} {a b : Nat} {qa qb : Wr} (ha : qs[a]? = some qa) (hb : qs[b]? = some qb) : ((qs.map mhdr ++ List.replicate 0 (Value.slice none 0 0)).set a (mhdr qb)).set b (mhdr qa) = (qswap qs a b qa qb).map mhdr ++ List.replicate 0 (Value.slice none 0 0) := by
  rw [List.replicate_zero, List.append_nil, List.append_nil, ← List.map_set, ← List.map_set]
  rfl
def zblk (r : Nat) (z : Zd) : Nat × Obj := (r, .cells z.cs.toArray 35 (0, 0))
theorem one_zcs (l : List Zd) : one' (zcs l) = true := by
  induction l with
  | nil => rfl
  | cons z l ih =>
    rw [zcs_cons]
    simp only [one', List.all_cons, Bool.and_eq_true] at ih ⊢
    exact ⟨rfl, rfl, ih⟩
theorem not_u32b_z0 (e : TypeId) (fr : Nat × Nat) : ¬ u32b (.cells (Value.agg #[.bool false, .slice none 0 0]).cells e fr) := by
  rintro ⟨cs, e', fr', v, h, hv⟩
  injection h with h1 _ _
  rw [← h1] at hv
  simp [Value.cells] at hv
theorem own_next (r o : Nat) (done : List Wr) (L : List Zd) (k c : Nat) (pre : Own) (hL : L.length = c) :
    ((r, Obj.cells (zcs L).toArray 35 (0, 0)) :: (pre ++ (o, .cells (wr (done.map mhdr ++ List.replicate (k + 1) (Value.slice none 0 0)) (0 + done.length * 1) [.slice (some ⟨r, 0, none⟩) c c]).toArray 44 (0, 0)) :: done.map mrow)).Perm (pre ++ mout o (done ++ [(r, L)]) k :: (done ++ [(r, L)]).map mrow) := by
  have hset := next_set (done.map mhdr) k (Value.slice none 0 0) (mhdr (r, L))
  rw [List.length_map] at hset
  have e3 : mhdr (r, L) = .slice (some ⟨r, 0, none⟩) c c := by simp [mhdr, hL]
  have e1 : mout o (done ++ [(r, L)]) k = (o, .cells (wr (done.map mhdr ++ List.replicate (k + 1) (Value.slice none 0 0)) (0 + done.length * 1) [.slice (some ⟨r, 0, none⟩) c c]).toArray 44 (0, 0)) := by
    unfold mout
    rw [Nat.zero_add, Nat.mul_one, List.map_append, ← e3]
    show _ = (o, Obj.cells ((done.map mhdr ++ List.replicate (k + 1) (Value.slice none 0 0)).set done.length (mhdr (r, L))).toArray _ _)
    rw [hset]
    rfl
  rw [e1, List.map_append, List.map_cons, List.map_nil]
  refine (List.perm_append_comm (l₁ := [mrow (r, L)]) (l₂ := pre ++ _ :: done.map mrow)).trans ?_
  simp
section
variable {w0 w : World} {X : List Nat} {S : Nat → Prop} {own : Own} {R : World → Prop}
theorem SS.mz0 (i : Nat) (t : SS w0 X S own R w) {q : Wr} (h : ownAt own i = some (mrow q)) {j : Nat} {z : Zd} (hz : q.2[j]? = some z) : At q.1 (0 + j * 2) (.bool z.n) w := by
  obtain ⟨hj, e⟩ := List.getElem?_eq_some_iff.1 hz
  refine t.atO i h ?_
  rw [Nat.zero_add, zcs_get0 hj, e]
theorem SS.mz1 (i : Nat) (t : SS w0 X S own R w) {q : Wr} (h : ownAt own i = some (mrow q)) {j : Nat} {z : Zd} (hz : q.2[j]? = some z) : At q.1 (0 + j * 2 + 1) (slv z.xs z.p) w := by
  obtain ⟨hj, e⟩ := List.getElem?_eq_some_iff.1 hz
  refine t.atO i h ?_
  rw [Nat.zero_add, zcs_get1 hj, e]
end
section
variable {w : World} {S : Nat → Prop} {B B' : Nat} {z z' : Zd}
theorem nl_zd (h : z.ok B w) : nl z.z.natAbs ≤ B := by
  rw [show z.z.natAbs = val z.xs from sgn_natAbs _ _]
  exact Nat.le_trans (nl_val h.2.1) h.2.2
theorem mul_zd (h : z.ok B w) (h' : z'.ok B' w) (hB : B + B' ≤ 35184372088832) : Ret Try.prog 87 [z.v, z'.v] w S (iv (z.z * z'.z)) (Lz (z.z * z'.z).natAbs) :=
  mul_ret z.n z'.n z.xs z'.xs z.p z'.p w S h.1 h.2.1 h'.1 h'.2.1 (by have := h.2.2; have := h'.2.2; omega)
theorem sub_zd (h : z.ok B w) (h' : z'.ok B' w) (hB : B < 35184372088832) (hB' : B' < 35184372088832) : Ret Try.prog 109 [z.v, z'.v] w S (iv (z.z - z'.z)) (Lz (z.z - z'.z).natAbs) :=
  sub_ret z.n z'.n z.xs z'.xs z.p z'.p w S h.1 h.2.1 h'.1 h'.2.1 (by have := h.2.2; omega) (by have := h'.2.2; omega)
def dmr (a b : Int) : Int := if b = 0 then 0 else a % b
theorem divmod_zd (h : z.ok B w) (h' : z'.ok B' w) (hB : B < 35184372088832) (hB' : B' < 35184372088832) : Ret Try.prog 110 [z.v, z'.v] w S (fun q : Sv × Sv => .tuple #[iv (z.z / z'.z) q.1, iv (dmr z.z z'.z) q.2, .bool (decide (z'.z ≠ 0))]) (fun q w => Lz (z.z / z'.z).natAbs q.1 w ∧ Lz (dmr z.z z'.z).natAbs q.2 w) := by
  have h := divmod_ret z.n z'.n z.xs z'.xs z.p z'.p w S h.1 h.2.1 h'.1 h'.2.1 (by have := h.2.2; omega) (by have := h'.2.2; omega)
  have e : (val z'.xs = 0) ↔ (z'.z = 0) := by
    have : z'.z.natAbs = val z'.xs := sgn_natAbs _ _
    omega
  unfold dmr
  simp only [e, ne_eq] at h
  exact h
theorem sign_zd (h : z.ok B w) (hB : B ≤ 35184372088832) : Ret Try.prog 108 [z.v] w S (fun _ : Unit => .int .i64 z.z.sign) (fun _ _ => True) :=
  sign_ret z.n z.xs z.p w S h.1 h.2.1 (Nat.le_trans h.2.2 hB)
theorem neg_zd (h : z.ok B w) (hB : B ≤ 35184372088832) : Ret Try.prog 81 [z.v] w S (iv (-z.z)) (Lz (-z.z).natAbs) := by
  have h := neg_ret z.n z.xs z.p w S h.1 h.2.1 (Nat.le_trans h.2.2 hB)
  rw [show (-z.z).natAbs = val z.xs by rw [Int.natAbs_neg]; exact sgn_natAbs _ _]
  exact h
theorem norm_zd (h : z.ok B w) (hB : B ≤ 35184372088832) : Ret Try.prog 90 [z.v] w S (iv z.z) (Lz z.z.natAbs) := by
  have h := normalize_ret z.n z.xs z.p w S h.1 h.2.1 (Nat.le_trans h.2.2 hB)
  rw [show z.z.natAbs = val z.xs from sgn_natAbs _ _]
  exact h
end
def dn (k i j a b : Nat) : Prop := k < a ∧ k < b ∧ (a < i ∨ (a = i ∧ b < j))
instance (k i j a b : Nat) : Decidable (dn k i j a b) := by unfold dn; infer_instance
def bb (B k i j a b : Nat) : Nat := if dn k i j a b then bd B (k + 1) else bd B k
theorem bb_le (B k i j a b : Nat) : bb B k i j a b ≤ bd B (k + 1) := by unfold bb; split; · exact Nat.le_refl _
                                                                        exact bd_mono B k
theorem nl_isub (a b : Int) : nl (a - b).natAbs ≤ max (nl a.natAbs) (nl b.natAbs) + 1 :=
  Nat.le_trans (nl_mono (by omega)) (nl_add a.natAbs b.natAbs)
theorem nl_imul (a b : Int) : nl (a * b).natAbs ≤ nl a.natAbs + nl b.natAbs := by
  rw [Int.natAbs_mul]
  exact nl_mul _ _
theorem nl_idiv (a b : Int) : nl (a / b).natAbs ≤ nl a.natAbs := nl_mono (Int.natAbs_ediv_le_natAbs a b)
section
variable {w : World} {S : Nat → Prop} {B : Nat} {a b : Int} {p q : Sv} {z' : Zd}
theorem sub_iv (h : Lz a.natAbs p w) (h' : Lz b.natAbs q w) (hB : nl a.natAbs < 35184372088832) (hB' : nl b.natAbs < 35184372088832) : Ret Try.prog 109 [iv a p, iv b q] w S (iv (a - b)) (Lz (a - b).natAbs) := by
  have g := sub_zd (S := S) (zd_ok h (Nat.le_refl _)) (zd_ok h' (Nat.le_refl _)) hB hB'
  rwa [zd_z, zd_z] at g
theorem divmod_iz (h : Lz a.natAbs p w) (h' : z'.ok B w) (hB : nl a.natAbs < 35184372088832) (hB' : B < 35184372088832) : Ret Try.prog 110 [iv a p, z'.v] w S (fun q : Sv × Sv => .tuple #[iv (a / z'.z) q.1, iv (dmr a z'.z) q.2, .bool (decide (z'.z ≠ 0))]) (fun q w => Lz (a / z'.z).natAbs q.1 w ∧ Lz (dmr a z'.z).natAbs q.2 w) := by
  have g := divmod_zd (S := S) (zd_ok h (Nat.le_refl _)) h' hB hB'
  rwa [zd_z] at g
end
theorem bb_mono {B k i j i' j' a b : Nat} (h : dn k i j a b → dn k i' j' a b) : bb B k i j a b ≤ bb B k i' j' a b := by
  unfold bb
  by_cases h1 : dn k i j a b
  · rw [if_pos h1, if_pos (h h1)]; exact Nat.le_refl _
  · rw [if_neg h1]
    split
    · exact bd_mono B k
    · exact Nat.le_refl _
end Go.Qk
end
section
set_option linter.unusedVariables false
namespace Go.Qk
open Go Go.Proofs Go.RowKit
set_option maxRecDepth 100000
set_option maxHeartbeats 4000000
theorem determinant_ret (m : Mt) (B n : Nat) (w0 : World) (S : Nat → Prop) (hm : m.ok B w0) (hB : B ≤ 8388607) (hB1 : 1 ≤ B) (hlen : m.rs.length = n) (hn : 1 ≤ n) (hn16 : n ≤ 16) (hrow : ∀ r ∈ m.rs, r.l.length = n) :
    Ret Try.prog 68 [m.v] w0 S (iv (bdet n (ent m.zs))) (fun p w => Lz (bdet n (ent m.zs)).natAbs p w ∧ nl (bdet n (ent m.zs)).natAbs ≤ 549755813887) := by
  have hp0 : 0 < m.rs.length := by omega
  obtain ⟨ro, oo, evm, hat⟩ := hm.at_ hp0
  rw [evm, hlen]
  obtain ⟨D, hD⟩ : ∃ D, D = bdet n (ent m.zs) := ⟨_, rfl⟩
  rw [← hD]
  refine ret_of Try.func68 rfl Try.ntmps68 rfl ?_
  refine tr_rseq ?_
  refine sq_alloc rfl fun r2 => ?_
  refine sq_end ?_
  refine tr_rseq ?_
  refine sq_q (qt_move rfl) rfl ?_
  refine sq_q (qt_len rfl) rfl ?_
  refine sq_q (qt_assign rfl) rfl ?_
  refine sq_end ?_
  refine tr_rseq ?_
  refine sq_q (qt_move rfl) rfl ?_
  refine sq_make (c := n) rfl rfl (by omega) (by omega) rfl fun r16 => ?_
  refine sq_q (qt_assign rfl) rfl ?_
  refine sq_end ?_
  refine tr_perm [zblk r2 z0, mout r16 [] n] (by rw [made_s]; exact List.Perm.swap _ _ _) ?_
  refine tr_seq ?_
  refine tr_rseq ?_
  refine sq_q (qt_move rfl) rfl ?_
  refine sq_q (qt_len rfl) rfl ?_
  refine sq_q (qt_move rfl) rfl ?_
  refine sq_end ?_
  refine tr_block ?_
  refine tr_loop (fun done : List Wr => done.length ≤ n ∧ ∀ a q, done[a]? = some q → q.2.length = n ∧ ∃ h : a < m.rs.length, q.2 = m.rs[a].l) (fun done => [(0, .slice (some ⟨ro, oo, none⟩) n m.p.2), (2, .pointer (some ⟨r2, 0, none⟩)), (3, .int .i64 (n : Int)), (4, .slice (some ⟨r16, 0, none⟩) n n), (18, .int .i64 (n : Int)), (19, .int .i64 (done.length : Int))])
    (fun done => zblk r2 z0 :: mout r16 done (n - done.length) :: done.map mrow) (fun _ _ => True) (fun done => n - done.length) [] ⟨Nat.zero_le _, fun a q h => by simp at h⟩ ⟨rfl, rfl, rfl, rfl, rfl, rfl, trivial⟩ rfl (fun _ _ => trivial) ?_
  rintro done ⟨hle, hd⟩
  refine tr_rseq ?_
  refine sq_q (qt_bin rfl rfl bin_lss) rfl ?_
  refine sq_end ?_
  refine tr_seq ?_
  refine tr_if rfl (fun hc => ?_) (fun hc => ?_)
  ·
    have hlt : done.length < n := by have := of_decide_eq_true hc; omega
    have hli : done.length < m.rs.length := by omega
    have hrl := hrow _ (List.getElem_mem hli)
    obtain ⟨k, hk⟩ : ∃ k, n - done.length = k + 1 := ⟨n - done.length - 1, by omega⟩
    refine tr_skip ?_
    repeat with_reducible first | refine tr_skip ?_ | refine tr_exit ?_ | refine tr_then ?_ | refine tr_inX ?_ | refine tr_thenX ?_ | refine tr_inN ?_ | refine tr_inR ?_ | refine tr_thenR ?_
    refine tr_seq ?_
    refine tr_block ?_
    refine tr_rseq ?_
    refine sq_q (qt_move rfl) rfl ?_
    refine sq_q (qt_assign rfl) rfl ?_
    refine sq_end ?_
    refine tr_rseq ?_
    refine sq_q (qt_move rfl) rfl ?_
    refine sq_q (qt_move rfl) rfl ?_
    refine sq_q (qt_move rfl) rfl ?_
    refine sq_make (c := n) rfl rfl (by omega) (by omega) rfl fun r25 => ?_
    refine sq_q (qt_index (i := done.length) rfl rfl hlt) rfl ?_
    refine sq_store 2 rfl rfl rfl rfl (by simp [Value.cells]; omega) rfl rfl ?_
    refine sq_end ?_
    refine tr_own ((r25, .cells (zcs (List.replicate n z0)).toArray 35 (0, 0)) :: ([zblk r2 z0] ++ (r16, .cells (wr (done.map mhdr ++ List.replicate (k + 1) (Value.slice none 0 0)) (0 + done.length * 1) [.slice (some ⟨r25, 0, none⟩) n n]).toArray 44 (0, 0)) :: done.map mrow)) (by rw [← made_z, ← hk]; rfl) ?_
    have hget : (wr (done.map mhdr ++ List.replicate (k + 1) (Value.slice none 0 0)) (0 + done.length * 1) [.slice (some ⟨r25, 0, none⟩) n n])[done.length]? = some (.slice (some ⟨r25, 0, none⟩) n n) := by
      rw [Nat.zero_add, Nat.mul_one]
      exact List.getElem?_set_self (by simp)
    refine tr_draw 8 [] [] [0, 2, 3, 4, 5, 6, 7, 8, 9, 10, 11, 12, 18, 19, 20, 30, 34, 38, 39, 40, 56, 61, 65, 86, 93, 148] (by kernel_rfl) ?_
    refine dx_q rfl (qt_move rfl) rfl ?_
    refine dx_q rfl (qt_move rfl) rfl ?_
    refine dx_q rfl (qt_index (i := done.length) rfl rfl hlt) rfl ?_
    refine dx_q rfl (qt_load rfl (fun w t => t.o1 2 rfl hget)) rfl ?_
    refine dx_q rfl (qt_move rfl) rfl ?_
    refine dx_q rfl (qt_move rfl) rfl ?_
    refine dx_q rfl (qt_index (i := done.length) rfl rfl hlt) rfl ?_
    refine dx_q rfl (qt_load (v := .slice m.rs[done.length].p.1 n m.rs[done.length].p.2) rfl (fun w t => by have h := t.a1 (hat _ hli); unfold Rw.v at h; rwa [hrl] at h)) rfl ?_
    refine dx_nil ?_
    repeat (first | refine es_val rfl ?_ rfl | refine es_res rfl (fun x => ?_) rfl | refine es_skip rfl ?_)
    refine es_nil rfl ?_
    refine tx_copy 0 (zcs m.rs[done.length].l) rfl rfl rfl (by rw [zcs_length]; simp) (by rw [zcs_length, hrl]) (one_zcs _) (fun w t => t.rd (hm.2.2 _ (List.getElem_mem hli)).1) rfl rfl ?_
    refine tx_end ?_
    repeat with_reducible first | refine tr_skip ?_ | refine tr_exit ?_ | refine tr_then ?_ | refine tr_inX ?_ | refine tr_thenX ?_ | refine tr_inN ?_ | refine tr_inR ?_ | refine tr_thenR ?_
    refine tr_region ?_
    refine sq_q (qt_bin rfl rfl (bin_addI (by omega) (by omega))) rfl ?_
    refine sq_q (qt_move rfl) rfl ?_
    refine sq_nil ?_
    repeat with_reducible first | refine tr_skip ?_ | refine tr_exit ?_ | refine tr_then ?_ | refine tr_inX ?_ | refine tr_thenX ?_ | refine tr_inN ?_ | refine tr_inR ?_ | refine tr_thenR ?_
    refine tr_perm _ (own_next r25 r16 done m.rs[done.length].l k n [zblk r2 z0] hrl) ?_
    refine tr_round (done ++ [(r25, m.rs[done.length].l)]) ⟨by simp; omega, fun a q hq => ?_⟩ (by simp; omega) ⟨rfl, rfl, rfl, rfl, rfl, by simp; rfl, trivial⟩ ?_ (fun _ _ => trivial)
    · rw [List.getElem?_append] at hq
      split at hq
      · exact hd a q hq
      · rename_i hge
        rw [List.getElem?_singleton] at hq
        split at hq
        · have ha : a = done.length := by omega
          subst ha
          injection hq with hq
          subst hq
          exact ⟨hrl, hli, rfl⟩
        · simp at hq
    · rw [List.length_append, List.length_singleton, show n - (done.length + 1) = k by omega]
      rfl
  ·
    have hdn : done.length = n := by have := of_decide_eq_false hc; omega
    refine tr_exit ?_
    repeat with_reducible first | refine tr_skip ?_ | refine tr_exit ?_ | refine tr_then ?_ | refine tr_inX ?_ | refine tr_thenX ?_ | refine tr_inN ?_ | refine tr_inR ?_ | refine tr_thenR ?_
    refine tr_rseq ?_
    refine sq_call (iv 1) (Lz (1 : Int).natAbs) rfl rfl rfl (fun w t => small_ret 1 w _ (by omega) (by omega)) fun p1 => ?_
    refine sq_alloc rfl fun r7 => ?_
    refine sq_q (qt_assign rfl) rfl ?_
    refine sq_store 0 rfl rfl rfl rfl (Nat.le_refl 2) rfl rfl ?_
    refine sq_end ?_
    refine tr_seq ?_
    refine tr_rseq ?_
    refine sq_q (qt_move rfl) rfl ?_
    refine sq_q (qt_move rfl) rfl ?_
    refine sq_end ?_
    refine tr_block ?_
    refine tr_loop4 (fun (k : Nat) (qs : List Wr) (pz : Zd) (neg : Bool) => k ≤ n ∧ ∃ g, MG g n n qs ∧ bar n (n - k) k g pz.z neg = D)
      (fun k qs pz neg => [(2, .pointer (some ⟨r2, 0, none⟩)), (3, .int .i64 (n : Int)), (4, .slice (some ⟨r16, 0, none⟩) n n), (6, .bool neg), (7, .pointer (some ⟨r7, 0, none⟩)), (38, .int .i64 (n : Int)), (39, .int .i64 (k : Int))])
      (fun k qs pz neg => zblk r7 pz :: zblk r2 z0 :: mown r16 qs) (fun k qs pz neg w => alli (fun _ _ z => okE (bd B k) w0 z w) qs ∧ okE (bd B k) w0 pz w) (fun k qs pz neg => n - k) 0 done (zd 1 p1) false ⟨Nat.zero_le _, ent m.zs, ⟨hdn, fun a q hq => ⟨(hd a q hq).1, fun b z hz => ?_⟩⟩, ?_⟩ ⟨rfl, rfl, rfl, rfl, rfl, rfl, rfl, trivial⟩ (by rw [hdn, Nat.sub_self]; rfl) (fun w h => ⟨fun a q hq b z hz => .inl ?_, .inr (zd_ok h.2 (Nat.le_trans nl_one hB1))⟩) ?_
    · obtain ⟨_, ha, e⟩ := hd a q hq
      rw [e] at hz
      obtain ⟨hb, ez⟩ := List.getElem?_eq_some_iff.1 hz
      rw [ent_at (by rw [m.zs_len]; exact ha) (by rw [m.zs_at ha, Rw.zs_len]; exact hb)]
      simp [m.zs_at ha, Rw.zs, ez]
    · rw [zd_z, Nat.sub_zero, hD]; rfl
    · obtain ⟨_, ha, e⟩ := hd a q hq
      rw [e] at hz
      exact (hm.2.2 _ (List.getElem_mem ha)).2.2 z (List.mem_of_getElem? hz)
    clear hd hle hdn hc done
    rintro k qs pz neg ⟨hkn, g, hG, hbar⟩
    refine tr_rseq ?_
    refine sq_q (qt_bin rfl rfl bin_lss) rfl ?_
    refine sq_end ?_
    refine tr_seq ?_
    refine tr_if rfl (fun hc => ?_) (fun hc => ?_)
    ·
      have hlt : k < n := by have := of_decide_eq_true hc; omega
      have hbd := bd_le (B := B) (k := k) (by omega) hB
      have hbd1 := bd_le (B := B) (k := k + 1) (by omega) hB
      refine tr_skip ?_
      repeat with_reducible first | refine tr_skip ?_ | refine tr_exit ?_ | refine tr_then ?_ | refine tr_inX ?_ | refine tr_thenX ?_ | refine tr_inN ?_ | refine tr_inR ?_ | refine tr_thenR ?_
      refine tr_seq ?_
      refine tr_block ?_
      refine tr_rseq ?_
      refine sq_q (qt_move rfl) rfl ?_
      refine sq_q (qt_assign rfl) rfl ?_
      refine sq_end ?_
      refine tr_rseq ?_
      refine sq_q (qt_move rfl) rfl ?_
      refine sq_q (qt_assign rfl) rfl ?_
      refine sq_end ?_
      refine tr_cut (fun p : Nat => k ≤ p ∧ p ≤ n ∧ piv g k (n - k) k = p ∧ (p < n → g p k ≠ 0)) (fun p => [(2, .pointer (some ⟨r2, 0, none⟩)), (3, .int .i64 (n : Int)), (4, .slice (some ⟨r16, 0, none⟩) n n), (6, .bool neg), (7, .pointer (some ⟨r7, 0, none⟩)), (8, .int .i64 (k : Int)), (9, .int .i64 (p : Int)), (38, .int .i64 (n : Int)), (39, .int .i64 (k : Int))])
        (fun p => zblk r7 pz :: zblk r2 z0 :: mown r16 qs) (fun p w => alli (fun _ _ z => okE (bd B k) w0 z w) qs ∧ okE (bd B k) w0 pz w) ?_ ?_
      ·
        refine tr_block ?_
        refine tr_loop (fun p : Nat => k ≤ p ∧ p ≤ n ∧ piv g k (n - k) k = piv g k (n - p) p) (fun p => [(2, .pointer (some ⟨r2, 0, none⟩)), (3, .int .i64 (n : Int)), (4, .slice (some ⟨r16, 0, none⟩) n n), (6, .bool neg), (7, .pointer (some ⟨r7, 0, none⟩)), (8, .int .i64 (k : Int)), (9, .int .i64 (p : Int)), (38, .int .i64 (n : Int)), (39, .int .i64 (k : Int))])
          (fun p => zblk r7 pz :: zblk r2 z0 :: mown r16 qs) (fun p w => alli (fun _ _ z => okE (bd B k) w0 z w) qs ∧ okE (bd B k) w0 pz w) (fun p => n - p) k ⟨Nat.le_refl _, hkn, rfl⟩ ⟨rfl, rfl, rfl, rfl, rfl, rfl, rfl, rfl, rfl, trivial⟩ rfl (fun _ h => h) ?_
        rintro p ⟨hkp, hpn, hpiv⟩
        refine tr_seq ?_
        have hcs : p = n ∨ (p < n ∧ g p k = 0) ∨ (p < n ∧ g p k ≠ 0) := by omega
        rcases hcs with hpe | ⟨hpl, hg0⟩ | ⟨hpl, hg0⟩
        ·
          refine tr_rseq ?_
          refine sq_q (qt_move rfl) rfl ?_
          refine sq_q (qt_move rfl) rfl ?_
          refine sq_q (qt_bin rfl rfl (bF bin_lss (by omega))) rfl ?_
          refine sq_q (qt_move rfl) rfl ?_
          refine sq_gF rfl rfl rfl rfl ?_
          refine sq_gF rfl rfl rfl rfl ?_
          refine sq_gF rfl rfl rfl rfl ?_
          refine sq_gF rfl rfl rfl rfl ?_
          refine sq_gF rfl rfl rfl rfl ?_
          refine sq_gF rfl rfl rfl rfl ?_
          refine sq_gF rfl rfl rfl rfl ?_
          refine sq_gF rfl rfl rfl rfl ?_
          refine sq_gF rfl rfl rfl rfl ?_
          refine sq_q (qt_pick rfl rfl) rfl ?_
          refine sq_end ?_
          refine tr_ifF rfl ?_
          refine tr_exit ?_
          repeat with_reducible first | refine tr_skip ?_ | refine tr_exit ?_ | refine tr_then ?_ | refine tr_inX ?_ | refine tr_thenX ?_ | refine tr_inN ?_ | refine tr_inR ?_ | refine tr_thenR ?_
          exact tr_mid p ⟨hkp, hpn, by rw [hpiv, hpe, Nat.sub_self]; rfl, fun h => by omega⟩ ⟨rfl, rfl, rfl, rfl, rfl, rfl, rfl, rfl, rfl, trivial⟩ rfl (fun _ h => h)
        ·
          obtain ⟨q, hq, hql⟩ := hG.get hpl
          obtain ⟨z, hz⟩ : ∃ z, q.2[k]? = some z := ⟨_, List.getElem?_eq_getElem (by omega)⟩
          have hzz := (hG.2 p q hq).2 k z hz
          refine tr_rseq ?_
          refine sq_q (qt_move rfl) rfl ?_
          refine sq_q (qt_move rfl) rfl ?_
          refine sq_q (qt_bin rfl rfl (bT bin_lss (by omega))) rfl ?_
          refine sq_q (qt_move rfl) rfl ?_
          refine sq_gT rfl rfl ?_
          refine sq_q (qt_move rfl) rfl ?_
          refine sq_gT rfl rfl ?_
          refine sq_q (qt_move rfl) rfl ?_
          refine sq_gT rfl rfl ?_
          refine sq_q (qt_index (i := p) rfl rfl hpl) rfl ?_
          refine sq_gT rfl rfl ?_
          refine sq_q (qt_load rfl (fun w t => t.o1 2 rfl (mout_get hq))) rfl ?_
          refine sq_gT rfl rfl ?_
          refine sq_q (qt_move rfl) rfl ?_
          refine sq_gT rfl rfl ?_
          refine sq_q (qt_index (i := k) rfl rfl (by omega)) rfl ?_
          refine sq_gT rfl rfl ?_
          refine sq_q (qt_load2 rfl (fun w t => t.mz0 (p + 3) (mown_at (o := r16) hq) hz) (fun w t => t.mz1 (p + 3) (mown_at (o := r16) hq) hz)) rfl ?_
          refine sq_gT rfl rfl ?_
          refine sq_call (val := fun _ : Unit => .int .i64 z.z.sign) (F := fun _ _ => True) rfl rfl rfl (fun w t => sign_zd ((t.r.1 p q hq k z hz).get t) (by omega)) fun _ => ?_
          refine sq_gT rfl rfl ?_
          refine sq_q (qt_bin rfl rfl (bT bin_eql (by rw [hzz, hg0]; rfl))) rfl ?_
          refine sq_q (qt_pick rfl rfl) rfl ?_
          refine sq_end ?_
          refine tr_ifT rfl ?_
          refine tr_skip ?_
          repeat with_reducible first | refine tr_skip ?_ | refine tr_exit ?_ | refine tr_then ?_ | refine tr_inX ?_ | refine tr_thenX ?_ | refine tr_inN ?_ | refine tr_inR ?_ | refine tr_thenR ?_
          refine tr_block ?_
          refine tr_region ?_
          refine sq_q (qt_move rfl) rfl ?_
          refine sq_q (qt_bin rfl rfl (bin_addI (by omega) (by omega))) rfl ?_
          refine sq_q (qt_assign rfl) rfl ?_
          refine sq_nil ?_
          repeat with_reducible first | refine tr_skip ?_ | refine tr_exit ?_ | refine tr_then ?_ | refine tr_inX ?_ | refine tr_thenX ?_ | refine tr_inN ?_ | refine tr_inR ?_ | refine tr_thenR ?_
          refine tr_round (p + 1) ⟨by omega, by omega, ?_⟩ (by omega) ⟨rfl, rfl, rfl, rfl, rfl, rfl, rfl, rfl, rfl, trivial⟩ rfl (fun _ h => h.1)
          rw [hpiv, show n - p = (n - (p + 1)) + 1 by omega, piv_go hg0]
        ·
          obtain ⟨q, hq, hql⟩ := hG.get hpl
          obtain ⟨z, hz⟩ : ∃ z, q.2[k]? = some z := ⟨_, List.getElem?_eq_getElem (by omega)⟩
          have hzz := (hG.2 p q hq).2 k z hz
          refine tr_rseq ?_
          refine sq_q (qt_move rfl) rfl ?_
          refine sq_q (qt_move rfl) rfl ?_
          refine sq_q (qt_bin rfl rfl (bT bin_lss (by omega))) rfl ?_
          refine sq_q (qt_move rfl) rfl ?_
          refine sq_gT rfl rfl ?_
          refine sq_q (qt_move rfl) rfl ?_
          refine sq_gT rfl rfl ?_
          refine sq_q (qt_move rfl) rfl ?_
          refine sq_gT rfl rfl ?_
          refine sq_q (qt_index (i := p) rfl rfl hpl) rfl ?_
          refine sq_gT rfl rfl ?_
          refine sq_q (qt_load rfl (fun w t => t.o1 2 rfl (mout_get hq))) rfl ?_
          refine sq_gT rfl rfl ?_
          refine sq_q (qt_move rfl) rfl ?_
          refine sq_gT rfl rfl ?_
          refine sq_q (qt_index (i := k) rfl rfl (by omega)) rfl ?_
          refine sq_gT rfl rfl ?_
          refine sq_q (qt_load2 rfl (fun w t => t.mz0 (p + 3) (mown_at (o := r16) hq) hz) (fun w t => t.mz1 (p + 3) (mown_at (o := r16) hq) hz)) rfl ?_
          refine sq_gT rfl rfl ?_
          refine sq_call (val := fun _ : Unit => .int .i64 z.z.sign) (F := fun _ _ => True) rfl rfl rfl (fun w t => sign_zd ((t.r.1 p q hq k z hz).get t) (by omega)) fun _ => ?_
          refine sq_gT rfl rfl ?_
          refine sq_q (qt_bin rfl rfl (bF bin_eql (by rw [hzz]; exact fun h => hg0 (Int.sign_eq_zero_iff_zero.1 h)))) rfl ?_
          refine sq_q (qt_pick rfl rfl) rfl ?_
          refine sq_end ?_
          refine tr_ifF rfl ?_
          refine tr_exit ?_
          repeat with_reducible first | refine tr_skip ?_ | refine tr_exit ?_ | refine tr_then ?_ | refine tr_inX ?_ | refine tr_thenX ?_ | refine tr_inN ?_ | refine tr_inR ?_ | refine tr_thenR ?_
          exact tr_mid p ⟨hkp, hpn, by rw [hpiv, piv_stop hg0], fun _ => hg0⟩ ⟨rfl, rfl, rfl, rfl, rfl, rfl, rfl, rfl, rfl, trivial⟩ rfl (fun _ h => h.1)
      ·
        rintro p ⟨hkp, hpn, hpiv, hpg⟩
        rw [show n - k = (n - (k + 1)) + 1 by omega, bar, hpiv] at hbar
        refine tr_seq ?_
        refine tr_rseq ?_
        refine sq_q (qt_move rfl) rfl ?_
        refine sq_q (qt_move rfl) rfl ?_
        refine sq_q (qt_bin rfl rfl bin_eql) rfl ?_
        refine sq_end ?_
        refine tr_if rfl (fun hc => ?_) (fun hc => ?_)
        ·
          have hpe : p = n := by have := of_decide_eq_true hc; omega
          rw [if_pos hpe] at hbar
          refine tr_rseq ?_
          refine sq_q (qt_build rfl built0) rfl ?_
          refine sq_store 1 rfl rfl rfl rfl (by first | (simp [u32s, Value.cells]; done) | (simp [u32s, Value.cells]; omega) | exact Nat.le_refl 2) rfl rfl ?_
          refine sq_end ?_
          refine tr_ret ?_
          repeat with_reducible first | refine tr_skip ?_ | refine tr_exit ?_ | refine tr_then ?_ | refine tr_inX ?_ | refine tr_thenX ?_ | refine tr_inN ?_ | refine tr_inR ?_ | refine tr_thenR ?_
          refine tr_done (none, 0) (fun a w s t => results_1 rfl (by rw [← hbar, iv_zero]; exact resv_cell 1 s t rfl rfl rfl)) (fun w _ _ _ => ?_)
          rw [← hbar, show (0 : Int).natAbs = 0 from rfl, Lz, limbsOf_zero, nl_zero.2 rfl]
          exact ⟨⟨Rd.nil _ _, Nat.le_refl _⟩, Nat.zero_le _⟩
        ·
          have hpl : p < n := by have := of_decide_eq_false hc; omega
          have hpk := hpg hpl
          rw [if_neg (by omega)] at hbar
          refine tr_skip ?_
          repeat with_reducible first | refine tr_skip ?_ | refine tr_exit ?_ | refine tr_then ?_ | refine tr_inX ?_ | refine tr_thenX ?_ | refine tr_inN ?_ | refine tr_inR ?_ | refine tr_thenR ?_
          refine tr_cut3 (fun (g' : Nat → Nat → Int) (qs' : List Wr) (neg' : Bool) => MG g' n n qs' ∧ bar n (n - (k + 1)) (k + 1) (elim g' k pz.z) (g' k k) neg' = D) (fun g' qs' neg' => [(2, .pointer (some ⟨r2, 0, none⟩)), (3, .int .i64 (n : Int)), (4, .slice (some ⟨r16, 0, none⟩) n n), (6, .bool neg'), (7, .pointer (some ⟨r7, 0, none⟩)), (8, .int .i64 (k : Int)), (38, .int .i64 (n : Int)), (39, .int .i64 (k : Int))])
            (fun g' qs' neg' => zblk r7 pz :: zblk r2 z0 :: mown r16 qs') (fun g' qs' neg' w => alli (fun _ _ z => okE (bd B k) w0 z w) qs' ∧ okE (bd B k) w0 pz w) ?_ ?_
          ·
            refine tr_rseq ?_
            refine sq_q (qt_move rfl) rfl ?_
            refine sq_q (qt_move rfl) rfl ?_
            refine sq_q (qt_bin rfl rfl bin_neq) rfl ?_
            refine sq_end ?_
            refine tr_if rfl (fun hc => ?_) (fun hc => ?_)
            ·
              have hne : p ≠ k := by have := of_decide_eq_true hc; omega
              rw [if_neg hne] at hbar
              obtain ⟨qp, hqp, _⟩ := hG.get hpl
              obtain ⟨qk, hqk, _⟩ := hG.get hlt
              refine tr_rdraw 12 [2, 3] [68, 69] [0, 2, 3, 4, 5, 6, 7, 8, 9, 10, 11, 12, 18, 19, 20, 38, 39, 40, 56, 61, 65, 66, 67, 73, 77, 86, 93, 148] (by kernel_rfl) ?_
              refine dx_q rfl (qt_move rfl) rfl ?_
              refine dx_q rfl (qt_move rfl) rfl ?_
              refine dx_late rfl (qt_move rfl) rfl ?_
              refine dx_late rfl (qt_move rfl) rfl ?_
              refine dx_q rfl (qt_move rfl) rfl ?_
              refine dx_q rfl (qt_move rfl) rfl ?_
              refine dx_q rfl (qt_index (i := k) rfl rfl hlt) rfl ?_
              refine dx_q rfl (qt_load rfl (fun w t => t.o1 2 rfl (mout_get hqk))) rfl ?_
              refine dx_q rfl (qt_move rfl) rfl ?_
              refine dx_q rfl (qt_move rfl) rfl ?_
              refine dx_q rfl (qt_index (i := p) rfl rfl hpl) rfl ?_
              refine dx_q rfl (qt_load rfl (fun w t => t.o1 2 rfl (mout_get hqp))) rfl ?_
              refine dx_nil ?_
              repeat (first | refine es_val rfl ?_ rfl | refine es_res rfl (fun x => ?_) rfl | refine es_skip rfl ?_)
              refine es_nil rfl ?_
              refine tx_q (qt_index (i := p) rfl rfl hpl) rfl rfl rfl ?_
              refine tx_store 2 rfl rfl rfl rfl (show 0 + p * 1 + 1 ≤ (qs.map mhdr ++ List.replicate 0 (Value.slice none 0 0)).length by simp; have := hG.1; omega) rfl rfl rfl ?_
              refine tx_q (qt_index (i := k) rfl rfl hlt) rfl rfl rfl ?_
              refine tx_store 2 rfl rfl rfl rfl (show 0 + k * 1 + 1 ≤ (wr (qs.map mhdr ++ List.replicate 0 (Value.slice none 0 0)) (0 + p * 1) [mhdr qk]).length by rw [wr_length]; simp; have := hG.1; omega) rfl rfl rfl ?_
              refine tx_endk ?_
              refine tr_region ?_
              refine sq_q (qt_move rfl) rfl ?_
              refine sq_q (qt_not rfl) rfl ?_
              refine sq_q (qt_assign rfl) rfl ?_
              refine sq_nil ?_
              repeat with_reducible first | refine tr_skip ?_ | refine tr_exit ?_ | refine tr_then ?_ | refine tr_inX ?_ | refine tr_thenX ?_ | refine tr_inN ?_ | refine tr_inR ?_ | refine tr_thenR ?_
              refine tr_perm (zblk r7 pz :: zblk r2 z0 :: mown r16 (qswap qs p k qp qk)) ?_ ?_
              · have e : (r16, Obj.cells (wr (wr (qs.map mhdr ++ List.replicate 0 (Value.slice none 0 0)) (0 + p * 1) [mhdr qk]) (0 + k * 1) [mhdr qp]).toArray 44 (0, 0)) = mout r16 (qswap qs p k qp qk) 0 := by
                  unfold mout
                  rw [← qswap_hdr hqp hqk]
                  simp only [wr, Nat.zero_add, Nat.mul_one]
                show (zblk r7 pz :: zblk r2 z0 :: (r16, Obj.cells (wr (wr (qs.map mhdr ++ List.replicate 0 (Value.slice none 0 0)) (0 + p * 1) [mhdr qk]) (0 + k * 1) [mhdr qp]).toArray 44 (0, 0)) :: qs.map mrow).Perm _
                rw [e]
                exact ((((qswap_perm hqp hqk).symm.map mrow).cons _).cons _).cons _
              exact tr_mid3 (swp g p k) (qswap qs p k qp qk) (!neg) ⟨hG.swap hqp hqk, hbar⟩ ⟨rfl, rfl, rfl, rfl, rfl, rfl, rfl, rfl, trivial⟩ rfl (fun w h => ⟨h.1.swap hqp hqk, h.2⟩)
            ·
              have hpe : p = k := by have := of_decide_eq_false hc; omega
              rw [if_pos hpe] at hbar
              refine tr_skip ?_
              repeat with_reducible first | refine tr_skip ?_ | refine tr_exit ?_ | refine tr_then ?_ | refine tr_inX ?_ | refine tr_thenX ?_ | refine tr_inN ?_ | refine tr_inR ?_ | refine tr_thenR ?_
              exact tr_mid3 g qs neg ⟨hG, hbar⟩ ⟨rfl, rfl, rfl, rfl, rfl, rfl, rfl, rfl, trivial⟩ rfl (fun w h => h)
          ·
            clear hG hbar hpg hpiv
            rintro g' qs' neg' ⟨hG, hbar⟩
            refine tr_seq ?_
            refine tr_rseq ?_
            refine sq_q (qt_move rfl) rfl ?_
            refine sq_q (qt_bin rfl rfl (bin_addI (by omega) (by omega))) rfl ?_
            refine sq_q (qt_assign rfl) rfl ?_
            refine sq_end ?_
            refine tr_block ?_
            refine tr_loop2 (fun (i : Nat) (qs : List Wr) => k + 1 ≤ i ∧ i ≤ n ∧ MG (elimP g' k pz.z i 0) n n qs) (fun i qs => [(2, .pointer (some ⟨r2, 0, none⟩)), (3, .int .i64 (n : Int)), (4, .slice (some ⟨r16, 0, none⟩) n n), (6, .bool neg'), (7, .pointer (some ⟨r7, 0, none⟩)), (8, .int .i64 (k : Int)), (10, .int .i64 (i : Int)), (38, .int .i64 (n : Int)), (39, .int .i64 (k : Int))])
              (fun i qs => zblk r7 pz :: zblk r2 z0 :: mown r16 qs) (fun i qs w => alli (fun a b z => okE (bb B k i 0 a b) w0 z w) qs ∧ okE (bd B k) w0 pz w) (fun i qs => n - i) (k + 1) qs' ⟨Nat.le_refl _, hlt, hG.congr (fun a b _ _ => by unfold elimP; rw [if_neg (by omega)])⟩ ⟨rfl, rfl, rfl, rfl, rfl, rfl, rfl, rfl, rfl, trivial⟩ rfl (fun w h => ⟨h.1.mono fun a b z hz => by unfold bb; rw [if_neg (by unfold dn; omega)]; exact hz, h.2⟩) ?_
            clear hG
            rintro i qs ⟨hki, hin, hG⟩
            refine tr_seq ?_
            refine tr_rseq ?_
            refine sq_q (qt_move rfl) rfl ?_
            refine sq_q (qt_move rfl) rfl ?_
            refine sq_q (qt_bin rfl rfl bin_lss) rfl ?_
            refine sq_end ?_
            refine tr_if rfl (fun hc => ?_) (fun hc => ?_)
            ·
              have hil : i < n := by have := of_decide_eq_true hc; omega
              refine tr_skip ?_
              repeat with_reducible first | refine tr_skip ?_ | refine tr_exit ?_ | refine tr_then ?_ | refine tr_inX ?_ | refine tr_thenX ?_ | refine tr_inN ?_ | refine tr_inR ?_ | refine tr_thenR ?_
              refine tr_seq ?_
              refine tr_block ?_
              refine tr_rseq ?_
              refine sq_q (qt_move rfl) rfl ?_
              refine sq_q (qt_bin rfl rfl (bin_addI (by omega) (by omega))) rfl ?_
              refine sq_q (qt_assign rfl) rfl ?_
              refine sq_end ?_
              refine tr_block ?_
              refine tr_loop2 (fun (j : Nat) (qs : List Wr) => k + 1 ≤ j ∧ j ≤ n ∧ MG (elimP g' k pz.z i j) n n qs) (fun j qs => [(2, .pointer (some ⟨r2, 0, none⟩)), (3, .int .i64 (n : Int)), (4, .slice (some ⟨r16, 0, none⟩) n n), (6, .bool neg'), (7, .pointer (some ⟨r7, 0, none⟩)), (8, .int .i64 (k : Int)), (10, .int .i64 (i : Int)), (11, .int .i64 (j : Int)), (38, .int .i64 (n : Int)), (39, .int .i64 (k : Int))])
                (fun j qs => zblk r7 pz :: zblk r2 z0 :: mown r16 qs) (fun j qs w => alli (fun a b z => okE (bb B k i j a b) w0 z w) qs ∧ okE (bd B k) w0 pz w) (fun j qs => n - j) (k + 1) qs ⟨Nat.le_refl _, hlt, hG.congr (fun a b _ _ => by unfold elimP; congr 1; exact propext (by omega))⟩ ⟨rfl, rfl, rfl, rfl, rfl, rfl, rfl, rfl, rfl, rfl, trivial⟩ rfl (fun w h => ⟨h.1.mono fun a b z hz => by have e : bb B k i (k + 1) a b = bb B k i 0 a b := (by unfold bb; congr 1; exact propext (by unfold dn; omega)); rw [e]; exact hz, h.2⟩) ?_
              clear hG
              rintro j qs ⟨hkj, hjn, hG⟩
              refine tr_seq ?_
              refine tr_rseq ?_
              refine sq_q (qt_move rfl) rfl ?_
              refine sq_q (qt_move rfl) rfl ?_
              refine sq_q (qt_bin rfl rfl bin_lss) rfl ?_
              refine sq_end ?_
              refine tr_if rfl (fun hc => ?_) (fun hc => ?_)
              ·
                have hjl : j < n := by have := of_decide_eq_true hc; omega
                obtain ⟨qk, hqk, hqkl⟩ := hG.get hlt
                obtain ⟨qi, hqi, hqil⟩ := hG.get hil
                obtain ⟨zkk, hkk⟩ : ∃ z, qk.2[k]? = some z := ⟨_, List.getElem?_eq_getElem (by omega)⟩
                obtain ⟨zkj, hkjz⟩ : ∃ z, qk.2[j]? = some z := ⟨_, List.getElem?_eq_getElem (by omega)⟩
                obtain ⟨zik, hik⟩ : ∃ z, qi.2[k]? = some z := ⟨_, List.getElem?_eq_getElem (by omega)⟩
                obtain ⟨zij, hij⟩ : ∃ z, qi.2[j]? = some z := ⟨_, List.getElem?_eq_getElem (by omega)⟩
                have ekk : zkk.z = g' k k := by rw [(hG.2 k qk hqk).2 k zkk hkk]; unfold elimP; rw [if_neg (by omega)]
                have ekj : zkj.z = g' k j := by rw [(hG.2 k qk hqk).2 j zkj hkjz]; unfold elimP; rw [if_neg (by omega)]
                have eik : zik.z = g' i k := by rw [(hG.2 i qi hqi).2 k zik hik]; unfold elimP; rw [if_neg (by omega)]
                have eij : zij.z = g' i j := by rw [(hG.2 i qi hqi).2 j zij hij]; unfold elimP; rw [if_neg (by omega)]
                have hlow : ∀ a b, ¬ dn k i j a b → bb B k i j a b = bd B k := fun a b h => by unfold bb; rw [if_neg h]
                have bkk := hlow k k (by unfold dn; omega)
                have bkj := hlow k j (by unfold dn; omega)
                have bik := hlow i k (by unfold dn; omega)
                have bij := hlow i j (by unfold dn; omega)
                obtain ⟨Xv, hXv⟩ : ∃ X, X = zkk.z * zij.z - zik.z * zkj.z := ⟨_, rfl⟩
                refine tr_skip ?_
                repeat with_reducible first | refine tr_skip ?_ | refine tr_exit ?_ | refine tr_then ?_ | refine tr_inX ?_ | refine tr_thenX ?_ | refine tr_inN ?_ | refine tr_inR ?_ | refine tr_thenR ?_
                refine tr_seq ?_
                refine tr_block ?_
                refine tr_have (fun w t => (⟨nl_zd ((t.r.1 k qk hqk k zkk hkk).get t), nl_zd ((t.r.1 i qi hqi j zij hij).get t), nl_zd ((t.r.1 i qi hqi k zik hik).get t), nl_zd ((t.r.1 k qk hqk j zkj hkjz).get t)⟩ : nl zkk.z.natAbs ≤ bb B k i j k k ∧ nl zij.z.natAbs ≤ bb B k i j i j ∧ nl zik.z.natAbs ≤ bb B k i j i k ∧ nl zkj.z.natAbs ≤ bb B k i j k j)) fun hb => ?_
                obtain ⟨hb1, hb2, hb3, hb4⟩ := hb
                rw [bkk] at hb1
                rw [bij] at hb2
                rw [bik] at hb3
                rw [bkj] at hb4
                have hm1 := nl_imul zkk.z zij.z
                have hm2 := nl_imul zik.z zkj.z
                have hm3 := nl_isub (zkk.z * zij.z) (zik.z * zkj.z)
                rw [← hXv] at hm3
                have hXb : nl Xv.natAbs ≤ bd B (k + 1) := by rw [bd]; omega
                refine tr_rdraw 32 [] [] [0, 2, 3, 4, 5, 6, 7, 8, 9, 10, 11, 12, 18, 19, 20, 38, 39, 40, 56, 61, 65, 86, 93, 126, 148] (by kernel_rfl) ?_
                refine dx_q rfl (qt_move rfl) rfl ?_
                refine dx_q rfl (qt_move rfl) rfl ?_
                refine dx_q rfl (qt_index (i := k) rfl rfl hlt) rfl ?_
                refine dx_q rfl (qt_load rfl (fun w t => t.o1 2 rfl (mout_get hqk))) rfl ?_
                refine dx_q rfl (qt_move rfl) rfl ?_
                refine dx_q rfl (qt_index (i := k) rfl rfl (by omega)) rfl ?_
                refine dx_q rfl (qt_load2 rfl (fun w t => t.mz0 (k + 3) (mown_at (o := r16) hqk) hkk) (fun w t => t.mz1 (k + 3) (mown_at (o := r16) hqk) hkk)) rfl ?_
                refine dx_q rfl (qt_move rfl) rfl ?_
                refine dx_q rfl (qt_move rfl) rfl ?_
                refine dx_q rfl (qt_index (i := i) rfl rfl hil) rfl ?_
                refine dx_q rfl (qt_load rfl (fun w t => t.o1 2 rfl (mout_get hqi))) rfl ?_
                refine dx_q rfl (qt_move rfl) rfl ?_
                refine dx_q rfl (qt_index (i := j) rfl rfl (by omega)) rfl ?_
                refine dx_q rfl (qt_load2 rfl (fun w t => t.mz0 (i + 3) (mown_at (o := r16) hqi) hij) (fun w t => t.mz1 (i + 3) (mown_at (o := r16) hqi) hij)) rfl ?_
                refine dx_call (iv (zkk.z * zij.z)) (Lz (zkk.z * zij.z).natAbs) rfl rfl rfl (fun w t => mul_zd ((t.r.1 k qk hqk k zkk hkk).get t) ((t.r.1 i qi hqi j zij hij).get t) (by rw [bkk, bij]; omega)) ?_
                refine dx_q rfl (qt_move rfl) rfl ?_
                refine dx_q rfl (qt_move rfl) rfl ?_
                refine dx_q rfl (qt_index (i := i) rfl rfl hil) rfl ?_
                refine dx_q rfl (qt_load rfl (fun w t => t.o1 2 rfl (mout_get hqi))) rfl ?_
                refine dx_q rfl (qt_move rfl) rfl ?_
                refine dx_q rfl (qt_index (i := k) rfl rfl (by omega)) rfl ?_
                refine dx_q rfl (qt_load2 rfl (fun w t => t.mz0 (i + 3) (mown_at (o := r16) hqi) hik) (fun w t => t.mz1 (i + 3) (mown_at (o := r16) hqi) hik)) rfl ?_
                refine dx_q rfl (qt_move rfl) rfl ?_
                refine dx_q rfl (qt_move rfl) rfl ?_
                refine dx_q rfl (qt_index (i := k) rfl rfl hlt) rfl ?_
                refine dx_q rfl (qt_load rfl (fun w t => t.o1 2 rfl (mout_get hqk))) rfl ?_
                refine dx_q rfl (qt_move rfl) rfl ?_
                refine dx_q rfl (qt_index (i := j) rfl rfl (by omega)) rfl ?_
                refine dx_q rfl (qt_load2 rfl (fun w t => t.mz0 (k + 3) (mown_at (o := r16) hqk) hkjz) (fun w t => t.mz1 (k + 3) (mown_at (o := r16) hqk) hkjz)) rfl ?_
                refine dx_call (iv (zik.z * zkj.z)) (Lz (zik.z * zkj.z).natAbs) rfl rfl rfl (fun w t => mul_zd ((t.r.1 i qi hqi k zik hik).get t) ((t.r.1 k qk hqk j zkj hkjz).get t) (by rw [bik, bkj]; omega)) ?_
                refine dx_call2 110 125 (iv Xv) (Lz Xv.natAbs) rfl rfl rfl (by simp) (by simp) (fun _ _ => rfl) (fun _ _ => rfl) (fun y z w t => by rw [hXv]; exact sub_iv t.r.1.2 t.r.2 (by omega) (by omega)) ?_
                refine dx_alloc rfl ?_
                refine dx_nil ?_
                repeat (first | refine es_val rfl ?_ rfl | refine es_skip rfl ?_)
                refine es_res rfl (fun r12 => ?_) rfl
                repeat (first | refine es_val rfl ?_ rfl | refine es_skip rfl ?_)
                refine es_res rfl (fun x26 => ?_) rfl
                repeat (first | refine es_val rfl ?_ rfl | refine es_skip rfl ?_)
                refine es_adopt (zblk r12 z0 :: zblk r7 pz :: zblk r2 z0 :: mown r16 qs) (fun w => (alli (fun a b z => okE (bb B k i j a b) w0 z w) qs ∧ okE (bd B k) w0 pz w) ∧ Lz Xv.natAbs x26 w) rfl (fun w t => t.adoptL t.r.1.2.1 t.r.1.2.2.1 t.r.1.2.2.2 (not_u32b_z0 _ _) (fun w h => ⟨h.1.1, h.2⟩) (((LimbR.alli _ (fun a b z => LimbR.okE _ _ z) qs).and (LimbR.okE _ _ _)).and (LimbR.lm _ _))) ?_
                refine tx_store 0 rfl rfl rfl rfl (Nat.le_refl 2) rfl rfl rfl ?_
                refine tx_endk ?_
                refine tr_own (zblk r12 (zd Xv x26) :: zblk r7 pz :: zblk r2 z0 :: mown r16 qs) rfl ?_
                refine tr_draw 12 [10, 11] [137, 138] [0, 2, 3, 4, 5, 6, 7, 8, 9, 10, 11, 12, 18, 19, 20, 38, 39, 40, 56, 61, 65, 86, 93, 131, 132, 136, 148] (by kernel_rfl) ?_
                refine dx_q rfl (qt_move rfl) rfl ?_
                refine dx_q rfl (qt_move rfl) rfl ?_
                refine dx_q rfl (qt_index (i := i) rfl rfl hil) rfl ?_
                refine dx_q rfl (qt_load rfl (fun w t => t.o1 3 rfl (mout_get hqi))) rfl ?_
                refine dx_q rfl (qt_move rfl) rfl ?_
                refine dx_q rfl (qt_load2 rfl (fun w t => t.atO 0 rfl rfl) (fun w t => t.atO 0 rfl rfl)) rfl ?_
                refine dx_q rfl (qt_load2 rfl (fun w t => t.atO 1 rfl rfl) (fun w t => t.atO 1 rfl rfl)) rfl ?_
                refine dx_call (fun q : Sv × Sv => .tuple #[iv (Xv / pz.z) q.1, iv (dmr Xv pz.z) q.2, .bool (decide (pz.z ≠ 0))]) (fun q w => Lz (Xv / pz.z).natAbs q.1 w ∧ Lz (dmr Xv pz.z).natAbs q.2 w) rfl rfl rfl (fun w t => divmod_iz t.r.2 (t.r.1.2.get t) (by omega) (by omega)) ?_
                refine dx_q1 135 (fun q : Sv × Sv => .tuple #[iv (Xv / pz.z) q.1, iv (dmr Xv pz.z) q.2, .bool (decide (pz.z ≠ 0))]) rfl rfl (fun o ho => mem_looksAt (by rw [ho]; simp [Op.operands])) (fun _ => qt_move rfl) rfl ?_
                refine dx_q1 127 (fun q : Sv × Sv => iv (Xv / pz.z) q.1) rfl rfl (fun o ho => mem_looksAt (by rw [ho]; simp [Op.operands])) (fun _ => qt_extract rfl rfl) rfl ?_
                refine dx_dead 127 rfl rfl (fun q => ⟨_, _, rfl, rfl⟩) ?_
                refine dx_dead 127 rfl rfl (fun q => ⟨_, _, rfl, rfl⟩) ?_
                refine dx_nil ?_
                repeat (first | refine es_val rfl ?_ rfl | refine es_res rfl (fun x => ?_) rfl | refine es_skip rfl ?_)
                refine es_nil rfl ?_
                refine tx_q (qt_index (i := j) rfl rfl (by omega)) rfl rfl rfl ?_
                refine tx_store (i + 4) rfl rfl (mown_at (o := r16) hqi) rfl (show 0 + j * 2 + 2 ≤ (zcs qi.2).length by rw [zcs_length]; omega) rfl rfl rfl ?_
                refine tx_end ?_
                refine tr_own (zblk r12 (zd Xv x26) :: zblk r7 pz :: zblk r2 z0 :: mown r16 (qs.set i (qi.1, qi.2.set j (zd (Xv / pz.z) x.1)))) (by rw [← mown_wr (zd (Xv / pz.z) x.1) hqi (by omega)]; rfl) ?_
                refine tr_drop (zblk r7 pz :: zblk r2 z0 :: mown r16 (qs.set i (qi.1, qi.2.set j (zd (Xv / pz.z) x.1)))) (List.sublist_cons_self ..) ?_
                repeat with_reducible first | refine tr_skip ?_ | refine tr_exit ?_ | refine tr_then ?_ | refine tr_inX ?_ | refine tr_thenX ?_ | refine tr_inN ?_ | refine tr_inR ?_ | refine tr_thenR ?_
                refine tr_region ?_
                refine sq_q (qt_move rfl) rfl ?_
                refine sq_q (qt_bin rfl rfl (bin_addI (by omega) (by omega))) rfl ?_
                refine sq_q (qt_assign rfl) rfl ?_
                refine sq_nil ?_
                repeat with_reducible first | refine tr_skip ?_ | refine tr_exit ?_ | refine tr_then ?_ | refine tr_inX ?_ | refine tr_thenX ?_ | refine tr_inN ?_ | refine tr_inR ?_ | refine tr_thenR ?_
                have hv : Xv / pz.z = elm g' k pz.z i j := by unfold elm; rw [hXv, ekk, eij, eik, ekj]
                refine tr_round2 (j + 1) (qs.set i (qi.1, qi.2.set j (zd (Xv / pz.z) x.1))) ⟨by omega, by omega, (hG.set hqi (zd (Xv / pz.z) x.1) _ (zd_z _ _)).congr (fun a b _ _ => ?_)⟩ (by omega) ⟨rfl, rfl, rfl, rfl, rfl, rfl, rfl, rfl, rfl, rfl, trivial⟩ rfl (fun w h => ⟨h.1.1.1.set hqi (.inr (zd_ok h.2.1 ?_)) (fun a b z hab hz => hz.mono (bb_mono fun hd => ?_)), h.1.1.2⟩)
                · unfold gset elimP
                  by_cases hab : a = i ∧ b = j
                  · rw [if_pos hab, if_pos (by omega), hv, hab.1, hab.2]
                  · rw [if_neg hab]
                    congr 1
                    exact propext (by omega)
                · refine Nat.le_trans (nl_idiv _ _) (Nat.le_trans hXb ?_)
                  unfold bb
                  rw [if_pos (by unfold dn; omega)]
                  exact Nat.le_refl _
                · unfold dn at hd ⊢
                  omega
              ·
                have hje : j = n := by have := of_decide_eq_false hc; omega
                refine tr_exit ?_
                repeat with_reducible first | refine tr_skip ?_ | refine tr_exit ?_ | refine tr_then ?_ | refine tr_inX ?_ | refine tr_thenX ?_ | refine tr_inN ?_ | refine tr_inR ?_ | refine tr_thenR ?_
                refine tr_region ?_
                refine sq_q (qt_move rfl) rfl ?_
                refine sq_q (qt_bin rfl rfl (bin_addI (by omega) (by omega))) rfl ?_
                refine sq_q (qt_assign rfl) rfl ?_
                refine sq_nil ?_
                repeat with_reducible first | refine tr_skip ?_ | refine tr_exit ?_ | refine tr_then ?_ | refine tr_inX ?_ | refine tr_thenX ?_ | refine tr_inN ?_ | refine tr_inR ?_ | refine tr_thenR ?_
                refine tr_round2 (i + 1) qs ⟨by omega, by omega, hG.congr (fun a b _ hb => ?_)⟩ (by omega) ⟨rfl, rfl, rfl, rfl, rfl, rfl, rfl, rfl, rfl, trivial⟩ rfl (fun w h => ⟨h.1.mono fun a b z hz => hz.mono (bb_mono fun hd => ?_), h.2⟩)
                · unfold elimP
                  congr 1
                  exact propext (by omega)
                · unfold dn at hd ⊢
                  omega
            ·
              have hie : i = n := by have := of_decide_eq_false hc; omega
              obtain ⟨qk, hqk, hqkl⟩ := hG.get hlt
              obtain ⟨zkk, hkk⟩ : ∃ z, qk.2[k]? = some z := ⟨_, List.getElem?_eq_getElem (by omega)⟩
              have ekk : zkk.z = g' k k := by rw [(hG.2 k qk hqk).2 k zkk hkk]; unfold elimP; rw [if_neg (by omega)]
              refine tr_exit ?_
              repeat with_reducible first | refine tr_skip ?_ | refine tr_exit ?_ | refine tr_then ?_ | refine tr_inX ?_ | refine tr_thenX ?_ | refine tr_inN ?_ | refine tr_inR ?_ | refine tr_thenR ?_
              refine tr_region ?_
              refine sq_q (qt_move rfl) rfl ?_
              refine sq_q (qt_move rfl) rfl ?_
              refine sq_q (qt_index (i := k) rfl rfl hlt) rfl ?_
              refine sq_q (qt_load rfl (fun w t => t.o1 2 rfl (mout_get hqk))) rfl ?_
              refine sq_q (qt_move rfl) rfl ?_
              refine sq_q (qt_index (i := k) rfl rfl (by omega)) rfl ?_
              refine sq_q (qt_load2 rfl (fun w t => t.mz0 (k + 3) (mown_at (o := r16) hqk) hkk) (fun w t => t.mz1 (k + 3) (mown_at (o := r16) hqk) hkk)) rfl ?_
              refine sq_store 0 rfl rfl rfl rfl (Nat.le_refl 2) rfl rfl ?_
              refine sq_nil ?_
              repeat with_reducible first | refine tr_skip ?_ | refine tr_exit ?_ | refine tr_then ?_ | refine tr_inX ?_ | refine tr_thenX ?_ | refine tr_inN ?_ | refine tr_inR ?_ | refine tr_thenR ?_
              refine tr_region ?_
              refine sq_q (qt_bin rfl rfl (bin_addI (by omega) (by omega))) rfl ?_
              refine sq_q (qt_move rfl) rfl ?_
              refine sq_nil ?_
              repeat with_reducible first | refine tr_skip ?_ | refine tr_exit ?_ | refine tr_then ?_ | refine tr_inX ?_ | refine tr_thenX ?_ | refine tr_inN ?_ | refine tr_inR ?_ | refine tr_thenR ?_
              refine tr_own (zblk r7 zkk :: zblk r2 z0 :: mown r16 qs) rfl ?_
              refine tr_round4 (k + 1) qs zkk neg' ⟨hlt, elim g' k pz.z, hG.congr (fun a b ha _ => ?_), by rw [ekk]; exact hbar⟩ (by omega) ⟨rfl, rfl, rfl, rfl, rfl, rfl, rfl, trivial⟩ rfl (fun w h => ⟨h.1.mono fun a b z hz => hz.mono (bb_le B k _ _ a b), (h.1 k qk hqk k zkk hkk).mono (bb_le B k _ _ k k)⟩)
              unfold elimP elim
              congr 1
              exact propext (by omega)
    ·
      have hke : k = n := by have := of_decide_eq_false hc; omega
      subst hke
      rw [Nat.sub_self, bar] at hbar
      have hbd := bd_le (B := B) (k := k) hn16 hB
      refine tr_exit ?_
      repeat with_reducible first | refine tr_skip ?_ | refine tr_exit ?_ | refine tr_then ?_ | refine tr_inX ?_ | refine tr_thenX ?_ | refine tr_inN ?_ | refine tr_inR ?_ | refine tr_thenR ?_
      refine tr_seq ?_
      refine tr_have (fun w t => nl_zd (t.r.2.get t)) fun hnz => ?_
      refine tr_rseq ?_
      refine sq_q (qt_move rfl) rfl ?_
      refine sq_end ?_
      refine tr_if rfl (fun hc => ?_) (fun hc => ?_)
      ·
        rw [if_pos hc] at hbar
        refine tr_rseq ?_
        refine sq_q (qt_load2 rfl (fun w t => t.atO 0 rfl rfl) (fun w t => t.atO 0 rfl rfl)) rfl ?_
        refine sq_call (iv (-pz.z)) (Lz (-pz.z).natAbs) rfl rfl rfl (fun w t => neg_zd (t.r.2.get t) (by omega)) fun x => ?_
        refine sq_store 1 rfl rfl rfl rfl (by first | (simp [u32s, Value.cells]; done) | (simp [u32s, Value.cells]; omega) | exact Nat.le_refl 2) rfl rfl ?_
        refine sq_end ?_
        refine tr_ret ?_
        repeat with_reducible first | refine tr_skip ?_ | refine tr_exit ?_ | refine tr_then ?_ | refine tr_inX ?_ | refine tr_thenX ?_ | refine tr_inN ?_ | refine tr_inR ?_ | refine tr_thenR ?_
        rw [← hbar]
        exact tr_done x (fun a w s t => results_1 rfl (resv_cell 1 s t rfl rfl rfl)) (fun w h _ _ => ⟨h.2, by rw [Int.natAbs_neg]; omega⟩)
      ·
        rw [if_neg (by rw [hc]; decide)] at hbar
        refine tr_skip ?_
        repeat with_reducible first | refine tr_skip ?_ | refine tr_exit ?_ | refine tr_then ?_ | refine tr_inX ?_ | refine tr_thenX ?_ | refine tr_inN ?_ | refine tr_inR ?_ | refine tr_thenR ?_
        refine tr_rseq ?_
        refine sq_q (qt_load2 rfl (fun w t => t.atO 0 rfl rfl) (fun w t => t.atO 0 rfl rfl)) rfl ?_
        refine sq_call (iv pz.z) (Lz pz.z.natAbs) rfl rfl rfl (fun w t => norm_zd (t.r.2.get t) (by omega)) fun x => ?_
        refine sq_store 1 rfl rfl rfl rfl (by first | (simp [u32s, Value.cells]; done) | (simp [u32s, Value.cells]; omega) | exact Nat.le_refl 2) rfl rfl ?_
        refine sq_end ?_
        refine tr_ret ?_
        repeat with_reducible first | refine tr_skip ?_ | refine tr_exit ?_ | refine tr_then ?_ | refine tr_inX ?_ | refine tr_thenX ?_ | refine tr_inN ?_ | refine tr_inR ?_ | refine tr_thenR ?_
        rw [← hbar]
        exact tr_done x (fun a w s t => results_1 rfl (resv_cell 1 s t rfl rfl rfl)) (fun w h _ _ => ⟨h.2, by omega⟩)
end Go.Qk
end
section
set_option linter.unusedVariables false
namespace Go.Qk
open Go Go.Proofs Go.RowKit
def detO (L : List (List Int)) : Option Int := if sqb (shp L) = true then some (bdet L.length (ent L)) else none
def optZV (o : Option Int) (p : Sv) : Value := .tuple #[iv (o.getD 0) p, .bool o.isSome]
def optZF (o : Option Int) (p : Sv) (w : World) : Prop := Lz (o.getD 0).natAbs p w ∧ nl (o.getD 0).natAbs ≤ 549755813887
theorem sqb_inv {α : Type} {L : List (List α)} (h : sqb (shp L) = true) : 1 ≤ L.length ∧ L.length ≤ 16 ∧ ∀ q ∈ L, q.length = L.length := by
  cases hs : shp L with
  | none => rw [hs] at h; simp [sqb] at h
  | some rc =>
    obtain ⟨r, c⟩ := rc
    rw [hs] at h
    have hrc : r = c := by simp [sqb] at h; omega
    obtain ⟨h1, h2, h3, h4, h5, h6⟩ := shp_inv hs
    exact ⟨by omega, by omega, fun q hq => by rw [h6 q hq]; omega⟩
theorem sqr_rows {m : Mt} (h : sqb (shp m.zs) = true) : 1 ≤ m.rs.length ∧ m.rs.length ≤ 16 ∧ ∀ r ∈ m.rs, r.l.length = m.rs.length := by
  obtain ⟨h1, h2, h3⟩ := sqb_inv h
  rw [m.zs_len] at h1 h2 h3
  refine ⟨h1, h2, fun r hr => ?_⟩
  have := h3 r.zs (List.mem_map.2 ⟨r, hr, rfl⟩)
  rwa [Rw.zs_len] at this
theorem lz_zero {w : World} : Lz (0 : Int).natAbs (none, 0) w := by
  rw [show (0 : Int).natAbs = 0 from rfl, Lz, limbsOf_zero]
  exact ⟨Rd.nil _ _, Nat.le_refl _⟩
theorem optZF_none {w : World} : optZF none (none, 0) w := ⟨lz_zero, by rw [show (none.getD (0 : Int)).natAbs = 0 from rfl, nl_zero.2 rfl]; omega⟩
end Go.Qk
end
section
set_option linter.unusedVariables false
namespace Go.Qk
open Go Go.Proofs Go.RowKit
set_option maxRecDepth 100000
set_option maxHeartbeats 4000000
theorem det_ret (m : Mt) (B : Nat) (w0 : World) (S : Nat → Prop) (hm : m.ok B w0) (hB : B ≤ 8388607) (hB1 : 1 ≤ B) (hlen : m.rs.length ≤ 35184372088832) (hrow : ∀ r ∈ m.rs, r.l.length ≤ 35184372088832) :
    Ret Try.prog 25 [m.v] w0 S (optZV (detO m.zs)) (optZF (detO m.zs)) := by
  refine ret_of Try.func25 rfl Try.ntmps25 rfl ?_
  refine tr_rseq ?_
  refine sq_alloc rfl fun r2 => ?_
  refine sq_q (qt_assign rfl) rfl ?_
  refine sq_end ?_
  refine tr_seq ?_
  refine tr_rseq ?_
  refine sq_q (qt_move rfl) rfl ?_
  refine sq_call (val := fun _ : Unit => sqrV (shp m.zs)) (F := fun _ _ => True) rfl rfl rfl (fun w t => square_ret m B w _ (t.mt hm) hlen hrow) fun _ => ?_
  refine sq_q (qt_move rfl) rfl ?_
  refine sq_q (qt_extract rfl rfl) rfl ?_
  refine sq_q (qt_extract rfl rfl) rfl ?_
  refine sq_q (qt_assign rfl) rfl ?_
  refine sq_q (qt_assign rfl) rfl ?_
  refine sq_end ?_
  refine tr_rseq ?_
  refine sq_q (qt_move rfl) rfl ?_
  refine sq_q (qt_not rfl) rfl ?_
  refine sq_end ?_
  refine tr_if rfl (fun hc => ?_) (fun hc => ?_)
  ·
    have hs : sqb (shp m.zs) = false := by simpa using hc
    have e : detO m.zs = none := by unfold detO; rw [if_neg (by rw [hs]; decide)]
    rw [e]
    refine tr_rseq ?_
    refine sq_q (qt_build rfl built0) rfl ?_
    refine sq_store 0 rfl rfl rfl rfl (by first | (simp [u32s, Value.cells]; done) | (simp [u32s, Value.cells]; omega) | exact Nat.le_refl 2) rfl rfl ?_
    refine sq_q (qt_assign rfl) rfl ?_
    refine sq_end ?_
    refine tr_ret ?_
    repeat with_reducible first | refine tr_skip ?_ | refine tr_exit ?_ | refine tr_then ?_ | refine tr_inX ?_ | refine tr_thenX ?_ | refine tr_inN ?_ | refine tr_inR ?_ | refine tr_thenR ?_
    exact tr_done (none, 0) (fun a w s t => results_2 rfl (by show ResV _ _ _ _ (iv 0 (none, 0)); rw [iv_zero]; exact resv_cell 0 s t rfl rfl rfl) (resv_tmp s rfl)) (fun w _ _ _ => optZF_none)
  ·
    have hs : sqb (shp m.zs) = true := by simpa using hc
    have e : detO m.zs = some (bdet m.rs.length (ent m.zs)) := by unfold detO; rw [if_pos hs, m.zs_len]
    rw [e]
    obtain ⟨h1, h2, h3⟩ := sqr_rows hs
    refine tr_skip ?_
    repeat with_reducible first | refine tr_skip ?_ | refine tr_exit ?_ | refine tr_then ?_ | refine tr_inX ?_ | refine tr_thenX ?_ | refine tr_inN ?_ | refine tr_inR ?_ | refine tr_thenR ?_
    refine tr_rseq ?_
    refine sq_q (qt_move rfl) rfl ?_
    refine sq_call (iv (bdet m.rs.length (ent m.zs))) (optZF (some (bdet m.rs.length (ent m.zs)))) rfl rfl rfl (fun w t => determinant_ret m B m.rs.length w _ (t.mt hm) hB hB1 rfl h1 h2 h3) fun x => ?_
    refine sq_store 0 rfl rfl rfl rfl (by first | (simp [u32s, Value.cells]; done) | (simp [u32s, Value.cells]; omega) | exact Nat.le_refl 2) rfl rfl ?_
    refine sq_q (qt_assign rfl) rfl ?_
    refine sq_end ?_
    refine tr_ret ?_
    repeat with_reducible first | refine tr_skip ?_ | refine tr_exit ?_ | refine tr_then ?_ | refine tr_inX ?_ | refine tr_thenX ?_ | refine tr_inN ?_ | refine tr_inR ?_ | refine tr_thenR ?_
    exact tr_done x (fun a w s t => results_2 rfl (resv_cell 0 s t rfl rfl rfl) (resv_tmp s rfl)) (fun w h _ _ => h.2)
end Go.Qk
end
section
set_option linter.unusedVariables false
namespace Go.Qk
open Go Go.Proofs Go.RowKit
instance (z : Int) : Decidable (In64 z) := by unfold In64; infer_instance
def int64V (z : Int) : Value := .tuple #[.int .i64 (if In64 z then z else 0), .bool (decide (In64 z))]
theorem bin_orN64 {P : Program} {t : TypeId} {a b : Nat} (ha : a < 18446744073709551616) (hb : b < 18446744073709551616) : Bin P .or t (.int .u64 (a : Int)) (.int .u64 (b : Int)) (.int .u64 ((a ||| b : Nat) : Int)) := fun w => by
  have e : ((BitVec.ofInt 64 (a : Int)) ||| (BitVec.ofInt 64 (b : Int))).toNat = a ||| b := by
    rw [BitVec.toNat_or]
    have a1 : (BitVec.ofInt 64 (a : Int)).toNat = a := by simp; omega
    have a2 : (BitVec.ofInt 64 (b : Int)).toNat = b := by simp; omega
    rw [a1, a2]
  have hlt : a ||| b < 2 ^ 64 := Nat.or_lt_two_pow (by omega) (by omega)
  have e2 : IntKind.u64.wrap ((a ||| b : Nat) : Int) = ((a ||| b : Nat) : Int) := by rw [wu64]; omega
  change Result.ok (Value.int .u64 (IntKind.u64.wrap ((((BitVec.ofInt 64 (a : Int)) ||| (BitVec.ofInt 64 (b : Int))).toNat : Nat) : Int))) w = _
  rw [e, e2]
theorem or_add {v x k : Nat} (h : v < 2 ^ k) : v ||| (x * 2 ^ k) = v + 2 ^ k * x := by
  rw [Nat.or_comm, Nat.mul_comm, ← Nat.two_pow_add_eq_or_of_lt h]
  omega
theorem qt_toIw {P : Program} {J : World → Prop} {lk : Nat → Option Value} {ty : TypeId} {x : Operand} {src dst : TypeId} {k : IntKind} {a : Int} [hs : InT P src k] [hd : InT P dst .i64] (h : ev lk x = some (.int k a)) : Qt P J lk (.convert src dst x) ty (.int .i64 ((a + 9223372036854775808) % 18446744073709551616 - 9223372036854775808)) := by
  have := qt_conv (J := J) (ty := ty) hs.u hd.u h
  have e : IntKind.i64.wrap a = (a + 9223372036854775808) % 18446744073709551616 - 9223372036854775808 := by
    simp [IntKind.wrap, IntKind.signed, IntKind.bits]
    split <;> omega
  rwa [e] at this
/-- a guard that was itself not reached -/
theorem sq_gU {P : Program} {n : Nat} {w0 : World} {X : List Nat} {S : Nat → Prop} {E : Env} {own : Own} {R : World → Prop} {Q : Exit → Act → World → Prop} {ops : Array Oper} {rest : List Oper} {j : Nat} {dj : Nat} {b : Bool} {op : Op} {ty : TypeId} {d : Nat} {pos : String} {af : Array Edge} (hj : (ops[j]?).bind (·.dst) = some dj) (hv : look E dj = some undef) (hd : Nat.blt d n = true)
    (h : Sq P ops Q n w0 X S rest ((d, undef) :: E) own R) : Sq P ops Q n w0 X S (⟨some d, op, ty, pos, af, some (j, b)⟩ :: rest) E own R := by
  intro a w s t
  have hy : yielded ops a.tmps j = none := by
    unfold yielded
    rw [hj, Option.bind_some, s.has _ _ hv]
    rfl
  unfold wpList
  have e2 : Region.wanted ⟨some d, op, ty, pos, af, some (j, b)⟩ (yielded ops a.tmps) = false := by
    simp only [Region.wanted, hy]
    cases b <;> rfl
  rw [if_neg (by rw [e2]; simp)]
  exact h _ _ (s.put hd undef) t
/-- the index i of an ascending list below n -/
def ascAt (n : Int) (l : List Int) (i : Nat) : Bool := decide (0 ≤ l.getD i 0) && decide (l.getD i 0 < n) && (decide (i = 0) || decide (l.getD (i - 1) 0 < l.getD i 0))
def ascB (n : Int) (l : List Int) : Bool := decide (0 < l.length) && (List.range l.length).all (ascAt n l)
theorem ascB_false {n : Int} {l : List Int} {k : Nat} (hk : k < l.length) (h : ascAt n l k = false) : ascB n l = false := by
  unfold ascB
  rw [show (List.range l.length).all (ascAt n l) = false from by
    rw [List.all_eq_false]
    exact ⟨k, List.mem_range.2 hk, by rw [h]; decide⟩]
  simp
theorem ascB_all {n : Int} {l : List Int} (h : ∀ i, i < l.length → ascAt n l i = true) : ascB n l = decide (0 < l.length) := by
  unfold ascB
  rw [show (List.range l.length).all (ascAt n l) = true from by
    rw [List.all_eq_true]
    exact fun i hi => h i (List.mem_range.1 hi)]
  simp
end Go.Qk
end
section
set_option linter.unusedVariables false
namespace Go.Qk
open Go Go.Proofs Go.RowKit
set_option maxRecDepth 100000
set_option maxHeartbeats 4000000
theorem int64_ret (n : Bool) (xs : List Nat) (p : Sv) (w : World) (S : Nat → Prop) (hx : Lm xs p w) (lx : lim xs) (hb : xs.length ≤ 35184372088832) :
    Ret Try.prog 85 [ig n xs p] w S (fun _ : Unit => int64V (sgn n (val xs))) (fun _ _ => True) := by
  have hxr := cut_rd hx lx
  have hxn := nl_val lx
  have hz := sgn_natAbs n (val xs)
  obtain ⟨L, hL⟩ : ∃ L, L = limbsOf (val xs) := ⟨_, rfl⟩
  have hLl : lim L := by rw [hL]; exact lim_limbsOf _
  have hLv : val L = val xs := by rw [hL, val_limbsOf]
  have hLn : L.length = nl (val xs) := by rw [hL]; rfl
  rw [← hL] at hxr
  refine ret_of Try.func85 rfl Try.ntmps85 rfl ?_
  refine tr_rseq ?_
  refine sq_box rfl rfl fun r1 => ?_
  refine sq_q (qt_assign rfl) rfl ?_
  refine sq_q (qt_assign rfl) rfl ?_
  refine sq_end ?_
  refine tr_rseq ?_
  refine sq_q (qt_load2 rfl (fun w t => t.atO 0 rfl rfl) (fun w t => t.atO 0 rfl rfl)) rfl ?_
  refine sq_call (val := fun _ : Unit => .slice p.1 L.length L.length) (F := fun _ _ => True) rfl rfl rfl (fun w t => by rw [hL]; exact magnitude_ret n xs p w _ (t.lm hx) lx hb) fun _ => ?_
  refine sq_q (qt_assign rfl) rfl ?_
  refine sq_end ?_
  refine tr_seq ?_
  refine tr_rseq ?_
  refine sq_q (qt_move rfl) rfl ?_
  refine sq_q (qt_len rfl) rfl ?_
  refine sq_q (qt_bin rfl rfl bin_gtr) rfl ?_
  refine sq_end ?_
  refine tr_if rfl (fun hc => ?_) (fun hc => ?_)
  ·
    have hbig : ¬ In64 (sgn n (val xs)) := by
      intro h
      unfold In64 at h
      have h1 : nl (val xs) ≤ 2 := nl_le (by omega)
      have := of_decide_eq_true hc
      omega
    refine tr_rseq ?_
    refine sq_q (qt_assign rfl) rfl ?_
    refine sq_q (qt_assign rfl) rfl ?_
    refine sq_end ?_
    refine tr_ret ?_
    repeat with_reducible first | refine tr_skip ?_ | refine tr_exit ?_ | refine tr_then ?_ | refine tr_inX ?_ | refine tr_thenX ?_ | refine tr_inN ?_ | refine tr_inR ?_ | refine tr_thenR ?_
    exact tr_done () (fun a w s t => results_2 rfl (resv_tmp s (by rw [if_neg hbig]; rfl)) (resv_tmp s (by rw [decide_eq_false hbig]; rfl))) (fun _ _ _ _ => trivial)
  ·
    have hl2 : L.length ≤ 2 := by have := of_decide_eq_false hc; omega
    refine tr_skip ?_
    repeat with_reducible first | refine tr_skip ?_ | refine tr_exit ?_ | refine tr_then ?_ | refine tr_inX ?_ | refine tr_thenX ?_ | refine tr_inN ?_ | refine tr_inR ?_ | refine tr_thenR ?_
    refine tr_rseq ?_
    refine sq_q (qt_assign rfl) rfl ?_
    refine sq_end ?_
    refine tr_seq ?_
    refine tr_rseq ?_
    refine sq_q (qt_move rfl) rfl ?_
    refine sq_q (qt_len rfl) rfl ?_
    refine sq_q (qt_move rfl) rfl ?_
    refine sq_end ?_
    refine tr_block ?_
    refine tr_loop (fun k : Nat => k ≤ L.length) (fun k => [(1, .pointer (some ⟨r1, 0, none⟩)), (4, .slice p.1 L.length L.length), (5, .int .u64 ((val (L.take k) : Nat) : Int)), (13, .int .i64 (L.length : Int)), (14, .int .i64 (k : Int))]) (fun _ => [(r1, .cells (ig n xs p).cells 35 (0, 0))]) (fun _ _ => True) (fun k => L.length - k) 0 (Nat.zero_le _) ⟨rfl, rfl, rfl, rfl, rfl, trivial⟩ rfl (fun _ _ => trivial) ?_
    rintro k hk
    refine tr_rseq ?_
    refine sq_q (qt_bin rfl rfl bin_lss) rfl ?_
    refine sq_end ?_
    refine tr_seq ?_
    refine tr_if rfl (fun hc => ?_) (fun hc => ?_)
    ·
      have hkl : k < L.length := by have := of_decide_eq_true hc; omega
      have gx := hLl _ (List.getElem_mem hkl)
      obtain ⟨ra, oa, ea, hat⟩ := hxr.at_ (u32s_get hkl)
      have hvl := val_lt (lim_take hLl k)
      rw [show (L.take k).length = k by simp; omega] at hvl
      have hk2 : k = 0 ∨ k = 1 := by omega
      have hpow : (4294967296 : Nat) ^ k = 2 ^ (32 * k) := by rw [Nat.pow_mul]
      have hs1 : L[k] * 2 ^ (32 * k) < 18446744073709551616 := by rcases hk2 with h | h <;> simp only [h] at gx ⊢ <;> omega
      have hs2 : val (L.take k) < 18446744073709551616 := by rw [hpow] at hvl; rcases hk2 with h | h <;> rw [h] at hvl ⊢ <;> omega
      have hcast : ((L[k] : Nat) : Int) * 2 ^ (32 * k) = ((L[k] * 2 ^ (32 * k) : Nat) : Int) := by simp
      refine tr_sub [(1, .pointer (some ⟨r1, 0, none⟩)), (4, .slice (some ⟨ra, oa, none⟩) L.length L.length), (5, .int .u64 ((val (L.take k) : Nat) : Int)), (13, .int .i64 (L.length : Int)), (14, .int .i64 (k : Int))] ⟨rfl, by rw [← ea]; rfl, rfl, rfl, rfl, trivial⟩ ?_
      refine tr_skip ?_
      repeat with_reducible first | refine tr_skip ?_ | refine tr_exit ?_ | refine tr_then ?_ | refine tr_inX ?_ | refine tr_thenX ?_ | refine tr_inN ?_ | refine tr_inR ?_ | refine tr_thenR ?_
      refine tr_seq ?_
      refine tr_block ?_
      refine tr_rseq ?_
      refine sq_q (qt_move rfl) rfl ?_
      refine sq_q (qt_assign rfl) rfl ?_
      refine sq_end ?_
      refine tr_region ?_
      refine sq_q (qt_move rfl) rfl ?_
      refine sq_q (qt_move rfl) rfl ?_
      refine sq_q (qt_move rfl) rfl ?_
      refine sq_q (qt_index (i := k) rfl rfl hkl) rfl ?_
      refine sq_q (qt_load rfl (fun w t => t.a1 hat)) rfl ?_
      refine sq_q (qt_to64 rfl (by omega) (by omega)) rfl ?_
      refine sq_q (qt_move rfl) rfl ?_
      refine sq_q (qt_bin rfl rfl (bin_mulI (by omega) (by omega))) rfl ?_
      refine sq_q (qt_bin rfl rfl (bin_shlU (32 * k) (by omega) (by omega) (by rw [hcast]; omega) (by rw [hcast]; omega))) rfl ?_
      refine sq_sub [(1, .pointer (some ⟨r1, 0, none⟩)), (4, .slice (some ⟨ra, oa, none⟩) L.length L.length), (13, .int .i64 (L.length : Int)), (14, .int .i64 (k : Int)), (17, .int .u64 ((val (L.take k) : Nat) : Int)), (25, .int .u64 ((L[k] * 2 ^ (32 * k) : Nat) : Int))] ?_ ?_
      · exact ⟨rfl, rfl, rfl, rfl, rfl, congrArg (fun z => some (Value.int .u64 z)) hcast, trivial⟩
      refine sq_q (qt_bin rfl rfl (bin_orN64 hs2 hs1)) rfl ?_
      refine sq_q (qt_assign rfl) rfl ?_
      refine sq_nil ?_
      repeat with_reducible first | refine tr_skip ?_ | refine tr_exit ?_ | refine tr_then ?_ | refine tr_inX ?_ | refine tr_thenX ?_ | refine tr_inN ?_ | refine tr_inR ?_ | refine tr_thenR ?_
      refine tr_region ?_
      refine sq_q (qt_bin rfl rfl (bin_addI (by omega) (by omega))) rfl ?_
      refine sq_q (qt_move rfl) rfl ?_
      refine sq_nil ?_
      repeat with_reducible first | refine tr_skip ?_ | refine tr_exit ?_ | refine tr_then ?_ | refine tr_inX ?_ | refine tr_thenX ?_ | refine tr_inN ?_ | refine tr_inR ?_ | refine tr_thenR ?_
      refine tr_round (k + 1) hkl (by omega) ⟨rfl, by rw [ea]; rfl, congrArg (fun z => some (Value.int .u64 z)) ?_, rfl, rfl, trivial⟩ rfl (fun _ h => h)
      rw [or_add (by rw [← hpow]; exact hvl), val_take_succ hkl, hpow]
    ·
      have hke : k = L.length := by have := of_decide_eq_false hc; omega
      have hvm : val (L.take k) = val xs := by rw [hke, List.take_length, hLv]
      rw [hvm]
      have hm64 : val xs < 18446744073709551616 := by
        have h := lt_pow_nl (val xs)
        have h2 : 4294967296 ^ nl (val xs) ≤ 4294967296 ^ 2 := Nat.pow_le_pow_right (by decide) (by omega)
        omega
      refine tr_exit ?_
      repeat with_reducible first | refine tr_skip ?_ | refine tr_exit ?_ | refine tr_then ?_ | refine tr_inX ?_ | refine tr_thenX ?_ | refine tr_inN ?_ | refine tr_inR ?_ | refine tr_thenR ?_
      refine tr_seq ?_
      refine tr_block ?_
      have hcs : n = false ∨ (n = true ∧ val xs ≤ 9223372036854775808) ∨ (n = true ∧ 9223372036854775808 < val xs) := by cases n <;> simp <;> omega
      rcases hcs with rfl | ⟨rfl, hle⟩ | ⟨rfl, hle⟩
      ·
        refine tr_rseq ?_
        refine sq_q (qt_fieldAddr rfl) rfl ?_
        refine sq_q (qt_load rfl (fun w t => t.atO 0 rfl rfl)) rfl ?_
        refine sq_q (qt_move rfl) rfl ?_
        refine sq_gF rfl rfl rfl rfl ?_
        refine sq_gF rfl rfl rfl rfl ?_
        refine sq_q (qt_pick rfl rfl) rfl ?_
        refine sq_q (qt_assign rfl) rfl ?_
        refine sq_end ?_
        refine tr_ifF rfl ?_
        skip
        ·
          refine tr_rseq ?_
          refine sq_q (qt_fieldAddr rfl) rfl ?_
          refine sq_q (qt_load rfl (fun w t => t.atO 0 rfl rfl)) rfl ?_
          refine sq_q (qt_not rfl) rfl ?_
          refine sq_q (qt_move rfl) rfl ?_
          first | (refine sq_gF rfl rfl rfl rfl ?_; done) | (refine sq_gF rfl rfl rfl rfl ?_) | (refine sq_gT rfl rfl ?_; refine sq_q (qt_move rfl) rfl ?_)
          first | (refine sq_gF rfl rfl rfl rfl ?_; done) | (refine sq_gF rfl rfl rfl rfl ?_) | (refine sq_gT rfl rfl ?_; refine sq_q (qt_bin rfl rfl bin_leq) rfl ?_)
          refine sq_q (qt_pick rfl rfl) rfl ?_
          refine sq_q (qt_assign rfl) rfl ?_
          refine sq_end ?_
          refine tr_if rfl (fun hc => ?_) (fun hc => ?_)
          ·
            have hle : val xs ≤ 9223372036854775807 := by have h := of_decide_eq_true hc; omega
            have h64 : In64 (sgn false (val xs)) := by rw [sgn_false]; unfold In64; omega
            refine tr_rseq ?_
            refine sq_q (qt_move rfl) rfl ?_
            refine sq_q (qt_toI rfl (by omega) (by omega)) rfl ?_
            refine sq_q (qt_assign rfl) rfl ?_
            refine sq_q (qt_assign rfl) rfl ?_
            refine sq_end ?_
            refine tr_ret ?_
            repeat with_reducible first | refine tr_skip ?_ | refine tr_exit ?_ | refine tr_then ?_ | refine tr_inX ?_ | refine tr_thenX ?_ | refine tr_inN ?_ | refine tr_inR ?_ | refine tr_thenR ?_
            exact tr_done () (fun a w s t => results_2 rfl (resv_tmp s (by rw [if_pos h64]; rfl)) (resv_tmp s (by rw [decide_eq_true h64]; rfl))) (fun _ _ _ _ => trivial)
          ·
            have hgt : 9223372036854775807 < val xs := by have h := of_decide_eq_false hc; omega
            have h64 : ¬ In64 (sgn false (val xs)) := by rw [sgn_false]; unfold In64; omega
            refine tr_skip ?_
            repeat with_reducible first | refine tr_skip ?_ | refine tr_exit ?_ | refine tr_then ?_ | refine tr_inX ?_ | refine tr_thenX ?_ | refine tr_inN ?_ | refine tr_inR ?_ | refine tr_thenR ?_
            refine tr_rseq ?_
            refine sq_q (qt_assign rfl) rfl ?_
            refine sq_q (qt_assign rfl) rfl ?_
            refine sq_end ?_
            refine tr_ret ?_
            repeat with_reducible first | refine tr_skip ?_ | refine tr_exit ?_ | refine tr_then ?_ | refine tr_inX ?_ | refine tr_thenX ?_ | refine tr_inN ?_ | refine tr_inR ?_ | refine tr_thenR ?_
            exact tr_done () (fun a w s t => results_2 rfl (resv_tmp s (by rw [if_neg h64]; rfl)) (resv_tmp s (by rw [decide_eq_false h64]; rfl))) (fun _ _ _ _ => trivial)
      ·
        have h64 : In64 (sgn true (val xs)) := by rw [sgn_true]; unfold In64; omega
        refine tr_rseq ?_
        refine sq_q (qt_fieldAddr rfl) rfl ?_
        refine sq_q (qt_load rfl (fun w t => t.atO 0 rfl rfl)) rfl ?_
        refine sq_q (qt_move rfl) rfl ?_
        refine sq_gT rfl rfl ?_
        refine sq_q (qt_move rfl) rfl ?_
        refine sq_gT rfl rfl ?_
        refine sq_q (qt_bin rfl rfl (bT bin_leq (by omega))) rfl ?_
        refine sq_q (qt_pick rfl rfl) rfl ?_
        refine sq_q (qt_assign rfl) rfl ?_
        refine sq_end ?_
        refine tr_ifT rfl ?_
        refine tr_rseq ?_
        refine sq_q (qt_move rfl) rfl ?_
        refine sq_q (qt_negU rfl) rfl ?_
        refine sq_sub [(1, .pointer (some ⟨r1, 0, none⟩)), (36, .int .u64 ((18446744073709551616 - (val xs : Int)) % 18446744073709551616))] ?_ ?_
        · exact ⟨rfl, congrArg (fun z => some (Value.int .u64 z)) (by omega), trivial⟩
        refine sq_q (qt_toIw rfl) rfl ?_
        refine sq_q (qt_assign rfl) rfl ?_
        refine sq_q (qt_assign rfl) rfl ?_
        refine sq_end ?_
        refine tr_ret ?_
        repeat with_reducible first | refine tr_skip ?_ | refine tr_exit ?_ | refine tr_then ?_ | refine tr_inX ?_ | refine tr_thenX ?_ | refine tr_inN ?_ | refine tr_inR ?_ | refine tr_thenR ?_
        refine tr_done () (fun a w s t => results_2 rfl (resv_tmp s ?_) (resv_tmp s (by rw [decide_eq_true h64]; rfl))) (fun _ _ _ _ => trivial)
        rw [if_pos h64]
        refine congrArg (fun z => some (Value.int .i64 z)) ?_
        rw [sgn_true]
        omega
      ·
        have h64 : ¬ In64 (sgn true (val xs)) := by rw [sgn_true]; unfold In64; omega
        refine tr_rseq ?_
        refine sq_q (qt_fieldAddr rfl) rfl ?_
        refine sq_q (qt_load rfl (fun w t => t.atO 0 rfl rfl)) rfl ?_
        refine sq_q (qt_move rfl) rfl ?_
        refine sq_gT rfl rfl ?_
        refine sq_q (qt_move rfl) rfl ?_
        refine sq_gT rfl rfl ?_
        refine sq_q (qt_bin rfl rfl (bF bin_leq (by omega))) rfl ?_
        refine sq_q (qt_pick rfl rfl) rfl ?_
        refine sq_q (qt_assign rfl) rfl ?_
        refine sq_end ?_
        refine tr_ifF rfl ?_
        skip
        ·
          refine tr_rseq ?_
          refine sq_q (qt_fieldAddr rfl) rfl ?_
          refine sq_q (qt_load rfl (fun w t => t.atO 0 rfl rfl)) rfl ?_
          refine sq_q (qt_not rfl) rfl ?_
          refine sq_q (qt_move rfl) rfl ?_
          first | (refine sq_gF rfl rfl rfl rfl ?_; done) | (refine sq_gF rfl rfl rfl rfl ?_) | (refine sq_gT rfl rfl ?_; refine sq_q (qt_move rfl) rfl ?_)
          first | (refine sq_gF rfl rfl rfl rfl ?_; done) | (refine sq_gF rfl rfl rfl rfl ?_) | (refine sq_gT rfl rfl ?_; refine sq_q (qt_bin rfl rfl bin_leq) rfl ?_)
          refine sq_q (qt_pick rfl rfl) rfl ?_
          refine sq_q (qt_assign rfl) rfl ?_
          refine sq_end ?_
          refine tr_if rfl (fun hc => ?_) (fun hc => ?_)
          ·
            have hle : val xs ≤ 9223372036854775807 := by revert hc; simp
            refine tr_rseq ?_
            refine sq_q (qt_move rfl) rfl ?_
            refine sq_q (qt_toI rfl (by omega) (by omega)) rfl ?_
            refine sq_q (qt_assign rfl) rfl ?_
            refine sq_q (qt_assign rfl) rfl ?_
            refine sq_end ?_
            refine tr_ret ?_
            repeat with_reducible first | refine tr_skip ?_ | refine tr_exit ?_ | refine tr_then ?_ | refine tr_inX ?_ | refine tr_thenX ?_ | refine tr_inN ?_ | refine tr_inR ?_ | refine tr_thenR ?_
            exact absurd hc (by simp)
          ·
            refine tr_skip ?_
            repeat with_reducible first | refine tr_skip ?_ | refine tr_exit ?_ | refine tr_then ?_ | refine tr_inX ?_ | refine tr_thenX ?_ | refine tr_inN ?_ | refine tr_inR ?_ | refine tr_thenR ?_
            refine tr_rseq ?_
            refine sq_q (qt_assign rfl) rfl ?_
            refine sq_q (qt_assign rfl) rfl ?_
            refine sq_end ?_
            refine tr_ret ?_
            repeat with_reducible first | refine tr_skip ?_ | refine tr_exit ?_ | refine tr_then ?_ | refine tr_inX ?_ | refine tr_thenX ?_ | refine tr_inN ?_ | refine tr_inR ?_ | refine tr_thenR ?_
            exact tr_done () (fun a w s t => results_2 rfl (resv_tmp s (by rw [if_neg h64]; rfl)) (resv_tmp s (by rw [decide_eq_false h64]; rfl))) (fun _ _ _ _ => trivial)
end Go.Qk
end
section
set_option linter.unusedVariables false
namespace Go.Qk
open Go Go.Proofs Go.RowKit
set_option maxRecDepth 100000
set_option maxHeartbeats 4000000
theorem ascending_ret (l : List Int) (A : Option Addr) (c : Nat) (n : Int) (w : World) (S : Nat → Prop) (hrd : Rd A (i64s l) w) (hb : l.length ≤ 35184372088832) :
    Ret Try.prog 76 [.slice A l.length c, .int .i64 n] w S (fun _ : Unit => .bool (ascB n l)) (fun _ _ => True) := by
  refine ret_of Try.func76 rfl Try.ntmps76 rfl ?_
  refine tr_rseq ?_
  refine sq_q (qt_assign rfl) rfl ?_
  refine sq_end ?_
  refine tr_seq ?_
  refine tr_rseq ?_
  refine sq_q (qt_move rfl) rfl ?_
  refine sq_q (qt_len rfl) rfl ?_
  refine sq_q (qt_move rfl) rfl ?_
  refine sq_end ?_
  refine tr_block ?_
  refine tr_loop (fun k : Nat => k ≤ l.length ∧ ∀ i, i < k → ascAt n l i = true) (fun k => [(0, .slice A l.length c), (1, .int .i64 n), (7, .slice A l.length c), (8, .int .i64 (l.length : Int)), (9, .int .i64 (k : Int))]) (fun _ => []) (fun _ _ => True) (fun k => l.length - k) 0 ⟨Nat.zero_le _, fun i h => by omega⟩ ⟨rfl, rfl, rfl, rfl, rfl, trivial⟩ rfl (fun _ _ => trivial) ?_
  rintro k ⟨hk, hall⟩
  refine tr_rseq ?_
  refine sq_q (qt_bin rfl rfl bin_lss) rfl ?_
  refine sq_end ?_
  refine tr_seq ?_
  refine tr_if rfl (fun hc => ?_) (fun hc => ?_)
  ·
    have hlt : k < l.length := by have := of_decide_eq_true hc; omega
    obtain ⟨ra, oa, rfl, hat⟩ := hrd.at_ (i64s_get hlt)
    have hgk : l.getD k 0 = l[k] := by simp [List.getD, hlt]
    refine tr_skip ?_
    repeat with_reducible first | refine tr_skip ?_ | refine tr_exit ?_ | refine tr_then ?_ | refine tr_inX ?_ | refine tr_thenX ?_ | refine tr_inN ?_ | refine tr_inR ?_ | refine tr_thenR ?_
    refine tr_seq ?_
    refine tr_block ?_
    refine tr_rseq ?_
    refine sq_q (qt_move rfl) rfl ?_
    refine sq_q (qt_index (i := k) rfl rfl hlt) rfl ?_
    refine sq_q (qt_load rfl (fun w t => t.a1 hat)) rfl ?_
    refine sq_q (qt_assign rfl) rfl ?_
    refine sq_q (qt_assign rfl) rfl ?_
    refine sq_end ?_
    have hcs : l[k] < 0 ∨ (0 ≤ l[k] ∧ n ≤ l[k]) ∨ ((0 ≤ l[k] ∧ l[k] < n) ∧ k = 0) ∨ ((0 ≤ l[k] ∧ l[k] < n) ∧ 0 < k ∧ l[k] ≤ l[k - 1]) ∨ ((0 ≤ l[k] ∧ l[k] < n) ∧ 0 < k ∧ l[k - 1] < l[k]) := by omega
    rcases hcs with h1 | ⟨h1, h2⟩ | ⟨⟨h1, h2⟩, h3⟩ | ⟨⟨h1, h2⟩, h3, h4⟩ | ⟨⟨h1, h2⟩, h3, h4⟩
    ·
      rw [ascB_false hlt (by unfold ascAt; rw [hgk, decide_eq_false (by omega)]; rfl)]
      refine tr_rseq ?_
      refine sq_q (qt_move rfl) rfl ?_
      refine sq_q (qt_bin rfl rfl (bT bin_lss h1)) rfl ?_
      refine sq_q (qt_move rfl) rfl ?_
      refine sq_gF rfl rfl rfl rfl ?_
      refine sq_gF rfl rfl rfl rfl ?_
      refine sq_gF rfl rfl rfl rfl ?_
      refine sq_q (qt_pick rfl rfl) rfl ?_
      refine sq_q (qt_move rfl) rfl ?_
      refine sq_gF rfl rfl rfl rfl ?_
      refine sq_gF rfl rfl rfl rfl ?_
      refine sq_gF rfl rfl rfl rfl ?_
      refine sq_gU rfl rfl rfl ?_
      refine sq_gU rfl rfl rfl ?_
      refine sq_gU rfl rfl rfl ?_
      refine sq_gU rfl rfl rfl ?_
      refine sq_gU rfl rfl rfl ?_
      refine sq_gU rfl rfl rfl ?_
      refine sq_gU rfl rfl rfl ?_
      refine sq_gF rfl rfl rfl rfl ?_
      refine sq_q (qt_pick rfl rfl) rfl ?_
      refine sq_end ?_
      refine tr_ifT rfl ?_
      refine tr_rseq ?_
      refine sq_q (qt_assign rfl) rfl ?_
      refine sq_end ?_
      refine tr_ret ?_
      repeat with_reducible first | refine tr_skip ?_ | refine tr_exit ?_ | refine tr_then ?_ | refine tr_inX ?_ | refine tr_thenX ?_ | refine tr_inN ?_ | refine tr_inR ?_ | refine tr_thenR ?_
      exact tr_done () (fun a w s t => results_1 rfl (resv_tmp s rfl)) (fun _ _ _ _ => trivial)
    ·
      rw [ascB_false hlt (by unfold ascAt; rw [hgk, show decide (l[k] < n) = false from decide_eq_false (by omega), Bool.and_false, Bool.false_and])]
      refine tr_rseq ?_
      refine sq_q (qt_move rfl) rfl ?_
      refine sq_q (qt_bin rfl rfl (bF bin_lss (by omega))) rfl ?_
      refine sq_q (qt_move rfl) rfl ?_
      refine sq_gT rfl rfl ?_
      refine sq_q (qt_move rfl) rfl ?_
      refine sq_gT rfl rfl ?_
      refine sq_q (qt_move rfl) rfl ?_
      refine sq_gT rfl rfl ?_
      refine sq_q (qt_bin rfl rfl (bT bin_geq h2)) rfl ?_
      refine sq_q (qt_pick rfl rfl) rfl ?_
      refine sq_q (qt_move rfl) rfl ?_
      refine sq_gF rfl rfl rfl rfl ?_
      refine sq_gF rfl rfl rfl rfl ?_
      refine sq_gF rfl rfl rfl rfl ?_
      refine sq_gU rfl rfl rfl ?_
      refine sq_gU rfl rfl rfl ?_
      refine sq_gU rfl rfl rfl ?_
      refine sq_gU rfl rfl rfl ?_
      refine sq_gU rfl rfl rfl ?_
      refine sq_gU rfl rfl rfl ?_
      refine sq_gU rfl rfl rfl ?_
      refine sq_gF rfl rfl rfl rfl ?_
      refine sq_q (qt_pick rfl rfl) rfl ?_
      refine sq_end ?_
      refine tr_ifT rfl ?_
      refine tr_rseq ?_
      refine sq_q (qt_assign rfl) rfl ?_
      refine sq_end ?_
      refine tr_ret ?_
      repeat with_reducible first | refine tr_skip ?_ | refine tr_exit ?_ | refine tr_then ?_ | refine tr_inX ?_ | refine tr_thenX ?_ | refine tr_inN ?_ | refine tr_inR ?_ | refine tr_thenR ?_
      exact tr_done () (fun a w s t => results_1 rfl (resv_tmp s rfl)) (fun _ _ _ _ => trivial)
    ·
      refine tr_rseq ?_
      refine sq_q (qt_move rfl) rfl ?_
      refine sq_q (qt_bin rfl rfl (bF bin_lss (by omega))) rfl ?_
      refine sq_q (qt_move rfl) rfl ?_
      refine sq_gT rfl rfl ?_
      refine sq_q (qt_move rfl) rfl ?_
      refine sq_gT rfl rfl ?_
      refine sq_q (qt_move rfl) rfl ?_
      refine sq_gT rfl rfl ?_
      refine sq_q (qt_bin rfl rfl (bF bin_geq (by omega))) rfl ?_
      refine sq_q (qt_pick rfl rfl) rfl ?_
      refine sq_q (qt_move rfl) rfl ?_
      refine sq_gT rfl rfl ?_
      refine sq_q (qt_move rfl) rfl ?_
      refine sq_gT rfl rfl ?_
      refine sq_q (qt_bin rfl rfl (bF bin_gtr (by omega))) rfl ?_
      refine sq_gT rfl rfl ?_
      refine sq_q (qt_move rfl) rfl ?_
      refine sq_gF rfl rfl rfl rfl ?_
      refine sq_gF rfl rfl rfl rfl ?_
      refine sq_gF rfl rfl rfl rfl ?_
      refine sq_gF rfl rfl rfl rfl ?_
      refine sq_gF rfl rfl rfl rfl ?_
      refine sq_gF rfl rfl rfl rfl ?_
      refine sq_gF rfl rfl rfl rfl ?_
      refine sq_gT rfl rfl ?_
      refine sq_q (qt_pick rfl rfl) rfl ?_
      refine sq_q (qt_pick rfl rfl) rfl ?_
      refine sq_end ?_
      refine tr_ifF rfl ?_
      refine tr_skip ?_
      repeat with_reducible first | refine tr_skip ?_ | refine tr_exit ?_ | refine tr_then ?_ | refine tr_inX ?_ | refine tr_thenX ?_ | refine tr_inN ?_ | refine tr_inR ?_ | refine tr_thenR ?_
      refine tr_region ?_
      refine sq_q (qt_bin rfl rfl (bin_addI (by omega) (by omega))) rfl ?_
      refine sq_q (qt_move rfl) rfl ?_
      refine sq_nil ?_
      repeat with_reducible first | refine tr_skip ?_ | refine tr_exit ?_ | refine tr_then ?_ | refine tr_inX ?_ | refine tr_thenX ?_ | refine tr_inN ?_ | refine tr_inR ?_ | refine tr_thenR ?_
      refine tr_round (k + 1) ⟨hlt, fun i hi => ?_⟩ (by omega) ⟨rfl, rfl, rfl, rfl, rfl, trivial⟩ rfl (fun _ h => h)
      by_cases e : i = k
      · subst e
        unfold ascAt
        rw [hgk, decide_eq_true h1, decide_eq_true h2, decide_eq_true h3]
        rfl
      · exact hall i (by omega)
    ·
      obtain ⟨_, _, e', hat'⟩ := hrd.at_ (i64s_get (show k - 1 < l.length by omega))
      injection e' with e'
      injection e' with e1 e2 _
      subst e1 e2
      rw [ascB_false hlt (by unfold ascAt; rw [hgk, show decide (k = 0) = false from decide_eq_false (by omega), show l.getD (k - 1) 0 = l[k - 1] by simp [List.getD, show k - 1 < l.length by omega], show decide (l[k - 1] < l[k]) = false from decide_eq_false (by omega)]; simp)]
      refine tr_rseq ?_
      refine sq_q (qt_move rfl) rfl ?_
      refine sq_q (qt_bin rfl rfl (bF bin_lss (by omega))) rfl ?_
      refine sq_q (qt_move rfl) rfl ?_
      refine sq_gT rfl rfl ?_
      refine sq_q (qt_move rfl) rfl ?_
      refine sq_gT rfl rfl ?_
      refine sq_q (qt_move rfl) rfl ?_
      refine sq_gT rfl rfl ?_
      refine sq_q (qt_bin rfl rfl (bF bin_geq (by omega))) rfl ?_
      refine sq_q (qt_pick rfl rfl) rfl ?_
      refine sq_q (qt_move rfl) rfl ?_
      refine sq_gT rfl rfl ?_
      refine sq_q (qt_move rfl) rfl ?_
      refine sq_gT rfl rfl ?_
      refine sq_q (qt_bin rfl rfl (bT bin_gtr (by omega))) rfl ?_
      refine sq_gT rfl rfl ?_
      refine sq_q (qt_move rfl) rfl ?_
      refine sq_gT rfl rfl ?_
      refine sq_q (qt_move rfl) rfl ?_
      refine sq_gT rfl rfl ?_
      refine sq_q (qt_move rfl) rfl ?_
      refine sq_gT rfl rfl ?_
      refine sq_q (qt_move rfl) rfl ?_
      refine sq_gT rfl rfl ?_
      refine sq_q (qt_bin rfl rfl (bin_subN (a := k) (b := 1) rfl (by omega) (by omega))) rfl ?_
      refine sq_gT rfl rfl ?_
      refine sq_q (qt_index (i := k - 1) rfl rfl (by omega)) rfl ?_
      refine sq_gT rfl rfl ?_
      refine sq_q (qt_load rfl (fun w t => t.a1 hat')) rfl ?_
      refine sq_gT rfl rfl ?_
      refine sq_q (qt_bin rfl rfl (bT bin_leq h4)) rfl ?_
      refine sq_gT rfl rfl ?_
      refine sq_q (qt_pick rfl rfl) rfl ?_
      refine sq_q (qt_pick rfl rfl) rfl ?_
      refine sq_end ?_
      refine tr_ifT rfl ?_
      refine tr_rseq ?_
      refine sq_q (qt_assign rfl) rfl ?_
      refine sq_end ?_
      refine tr_ret ?_
      repeat with_reducible first | refine tr_skip ?_ | refine tr_exit ?_ | refine tr_then ?_ | refine tr_inX ?_ | refine tr_thenX ?_ | refine tr_inN ?_ | refine tr_inR ?_ | refine tr_thenR ?_
      exact tr_done () (fun a w s t => results_1 rfl (resv_tmp s rfl)) (fun _ _ _ _ => trivial)
    ·
      obtain ⟨_, _, e', hat'⟩ := hrd.at_ (i64s_get (show k - 1 < l.length by omega))
      injection e' with e'
      injection e' with e1 e2 _
      subst e1 e2
      refine tr_rseq ?_
      refine sq_q (qt_move rfl) rfl ?_
      refine sq_q (qt_bin rfl rfl (bF bin_lss (by omega))) rfl ?_
      refine sq_q (qt_move rfl) rfl ?_
      refine sq_gT rfl rfl ?_
      refine sq_q (qt_move rfl) rfl ?_
      refine sq_gT rfl rfl ?_
      refine sq_q (qt_move rfl) rfl ?_
      refine sq_gT rfl rfl ?_
      refine sq_q (qt_bin rfl rfl (bF bin_geq (by omega))) rfl ?_
      refine sq_q (qt_pick rfl rfl) rfl ?_
      refine sq_q (qt_move rfl) rfl ?_
      refine sq_gT rfl rfl ?_
      refine sq_q (qt_move rfl) rfl ?_
      refine sq_gT rfl rfl ?_
      refine sq_q (qt_bin rfl rfl (bT bin_gtr (by omega))) rfl ?_
      refine sq_gT rfl rfl ?_
      refine sq_q (qt_move rfl) rfl ?_
      refine sq_gT rfl rfl ?_
      refine sq_q (qt_move rfl) rfl ?_
      refine sq_gT rfl rfl ?_
      refine sq_q (qt_move rfl) rfl ?_
      refine sq_gT rfl rfl ?_
      refine sq_q (qt_move rfl) rfl ?_
      refine sq_gT rfl rfl ?_
      refine sq_q (qt_bin rfl rfl (bin_subN (a := k) (b := 1) rfl (by omega) (by omega))) rfl ?_
      refine sq_gT rfl rfl ?_
      refine sq_q (qt_index (i := k - 1) rfl rfl (by omega)) rfl ?_
      refine sq_gT rfl rfl ?_
      refine sq_q (qt_load rfl (fun w t => t.a1 hat')) rfl ?_
      refine sq_gT rfl rfl ?_
      refine sq_q (qt_bin rfl rfl (bF bin_leq (by omega))) rfl ?_
      refine sq_gT rfl rfl ?_
      refine sq_q (qt_pick rfl rfl) rfl ?_
      refine sq_q (qt_pick rfl rfl) rfl ?_
      refine sq_end ?_
      refine tr_ifF rfl ?_
      refine tr_skip ?_
      repeat with_reducible first | refine tr_skip ?_ | refine tr_exit ?_ | refine tr_then ?_ | refine tr_inX ?_ | refine tr_thenX ?_ | refine tr_inN ?_ | refine tr_inR ?_ | refine tr_thenR ?_
      refine tr_region ?_
      refine sq_q (qt_bin rfl rfl (bin_addI (by omega) (by omega))) rfl ?_
      refine sq_q (qt_move rfl) rfl ?_
      refine sq_nil ?_
      repeat with_reducible first | refine tr_skip ?_ | refine tr_exit ?_ | refine tr_then ?_ | refine tr_inX ?_ | refine tr_thenX ?_ | refine tr_inN ?_ | refine tr_inR ?_ | refine tr_thenR ?_
      refine tr_round (k + 1) ⟨hlt, fun i hi => ?_⟩ (by omega) ⟨rfl, rfl, rfl, rfl, rfl, trivial⟩ rfl (fun _ h => h)
      by_cases e : i = k
      · subst e
        unfold ascAt
        rw [hgk, decide_eq_true h1, decide_eq_true h2, show l.getD (i - 1) 0 = l[i - 1] by simp [List.getD, show i - 1 < l.length by omega], decide_eq_true h4]
        simp
      · exact hall i (by omega)
  ·
    have hkl : k = l.length := by have := of_decide_eq_false hc; omega
    subst hkl
    refine tr_exit ?_
    repeat with_reducible first | refine tr_skip ?_ | refine tr_exit ?_ | refine tr_then ?_ | refine tr_inX ?_ | refine tr_thenX ?_ | refine tr_inN ?_ | refine tr_inR ?_ | refine tr_thenR ?_
    refine tr_rseq ?_
    refine sq_q (qt_move rfl) rfl ?_
    refine sq_q (qt_len rfl) rfl ?_
    refine sq_q (qt_bin rfl rfl bin_gtr) rfl ?_
    refine sq_q (qt_assign rfl) rfl ?_
    refine sq_end ?_
    refine tr_ret ?_
    repeat with_reducible first | refine tr_skip ?_ | refine tr_exit ?_ | refine tr_then ?_ | refine tr_inX ?_ | refine tr_thenX ?_ | refine tr_inN ?_ | refine tr_inR ?_ | refine tr_thenR ?_
    exact tr_done () (fun a w s t => results_1 rfl (resv_tmp s (by rw [ascB_all hall]; exact congrArg (fun b => some (Value.bool b)) (decide_eq_decide.2 (by omega))))) (fun _ _ _ _ => trivial)
end Go.Qk
end
section
set_option linter.unusedVariables false
namespace Go.Qk
open Go Go.Proofs Go.RowKit
def Mt.okE (B : Nat) (w0 : World) (m : Mt) (w : World) : Prop := Rd m.p.1 (m.rs.map Rw.v) w ∧ m.rs.length ≤ m.p.2 ∧ ∀ r ∈ m.rs, Rd r.p.1 (zcs r.l) w ∧ r.l.length ≤ r.p.2 ∧ ∀ z ∈ r.l, Go.Qk.okE B w0 z w
theorem Mt.okE.get {B : Nat} {w0 w : World} {m : Mt} {S : Nat → Prop} {own : Own} {R : World → Prop} (h : m.okE B w0 w) (t : SS w0 [] S own R w) : m.ok B w :=
  ⟨h.1, h.2.1, fun r hr => ⟨(h.2.2 r hr).1, (h.2.2 r hr).2.1, fun z hz => ((h.2.2 r hr).2.2 z hz).get t⟩⟩
def Mt.al (K : Zd → Prop) (m : Mt) : Prop := ∀ r ∈ m.rs, ∀ z ∈ r.l, K z
end Go.Qk
end
section
set_option linter.unusedVariables false
namespace Go.Qk
open Go Go.Proofs Go.RowKit
set_option maxRecDepth 100000
set_option maxHeartbeats 4000000
theorem build2_ret (K : Zd → Prop) (r c B : Nat) (g : Nat → Nat → Int) (f : FuncId) [hB : FnB Try.prog f] (pre cap : List Value) (w0 : World) (S : Nat → Prop) (hr16 : r ≤ 65536) (hc16 : c ≤ 65536) 
    (hf : ∀ i j w' S', i < r → j < c → Below w0.heap.size w0 w' → Ret Try.prog f (pre ++ [.int .i64 (i : Int), .int .i64 (j : Int)] ++ cap) w' S' Zd.v (fun z w'' => (z.z = g i j ∧ K z) ∧ okE B w0 z w'')) :
    Ret Try.prog 64 [.int .i64 (r : Int), .int .i64 (c : Int), .func (.func f) pre.toArray cap.toArray] w0 S Mt.v (fun m w => m.okE B w0 w ∧ m.zs = grid g r c ∧ m.al K) := by
  refine ret_of Try.func64 rfl Try.ntmps64 rfl ?_
  refine tr_rseq ?_
  refine sq_q (qt_assign rfl) rfl ?_
  refine sq_end ?_
  refine tr_rseq ?_
  refine sq_q (qt_move rfl) rfl ?_
  refine sq_make (c := r) rfl rfl (by omega) (by omega) rfl fun r11 => ?_
  refine sq_q (qt_assign rfl) rfl ?_
  refine sq_end ?_
  refine tr_seq ?_
  refine tr_rseq ?_
  refine sq_q (qt_move rfl) rfl ?_
  refine sq_q (qt_len rfl) rfl ?_
  refine sq_q (qt_move rfl) rfl ?_
  refine sq_end ?_
  refine tr_block ?_
  refine tr_loop (fun done : List Rw => done.length ≤ r ∧ done.map Rw.zs = grid g done.length c ∧ ∀ q ∈ done, ∀ z ∈ q.l, K z) (fun done => [(1, .int .i64 (c : Int)), (2, .func (.func f) pre.toArray cap.toArray), (7, .slice (some ⟨r11, 0, none⟩) r r), (13, .int .i64 (r : Int)), (14, .int .i64 (done.length : Int))])
    (fun done => [(r11, .cells (done.map Rw.v ++ List.replicate (r - done.length) (Value.slice none 0 0)).toArray 44 (0, 0))]) (fun done w => ∀ q ∈ done, Rd q.p.1 (zcs q.l) w ∧ q.l.length ≤ q.p.2 ∧ ∀ z ∈ q.l, okE B w0 z w) (fun done => r - done.length) [] ⟨Nat.zero_le _, rfl, by simp⟩ ⟨rfl, rfl, rfl, rfl, rfl, trivial⟩ (by rw [made_s]; rfl) (fun _ _ => by simp) ?_
  rintro done ⟨hle, hz, hcan⟩
  refine tr_rseq ?_
  refine sq_q (qt_bin rfl rfl bin_lss) rfl ?_
  refine sq_end ?_
  refine tr_seq ?_
  refine tr_if rfl (fun hc => ?_) (fun hc => ?_)
  ·
    have hlt : done.length < r := by have := of_decide_eq_true hc; omega
    refine tr_skip ?_
    repeat with_reducible first | refine tr_skip ?_ | refine tr_exit ?_ | refine tr_then ?_ | refine tr_inX ?_ | refine tr_thenX ?_ | refine tr_inN ?_ | refine tr_inR ?_ | refine tr_thenR ?_
    refine tr_seq ?_
    refine tr_block ?_
    refine tr_rseq ?_
    refine sq_q (qt_move rfl) rfl ?_
    refine sq_q (qt_assign rfl) rfl ?_
    refine sq_end ?_
    refine tr_rseq ?_
    refine sq_q (qt_move rfl) rfl ?_
    refine sq_q (qt_move rfl) rfl ?_
    refine sq_q (qt_move rfl) rfl ?_
    refine sq_make (c := c) rfl rfl (by omega) (by omega) rfl fun r20 => ?_
    refine sq_q (qt_index (i := done.length) rfl rfl hlt) rfl ?_
    refine sq_store 1 rfl rfl rfl rfl (by simp [Value.cells]; omega) rfl rfl ?_
    refine sq_end ?_
    obtain ⟨k, hk⟩ : ∃ k, r - done.length = k + 1 := ⟨r - done.length - 1, by omega⟩
    have hk' : r - (done.length + 1) = k := by omega
    have hset : wr (done.map Rw.v ++ List.replicate (k + 1) (Value.slice none 0 0)) (0 + done.length * 1) [Value.slice (some ⟨r20, 0, none⟩) c c] = (done.map Rw.v ++ [Value.slice (some ⟨r20, 0, none⟩) c c]) ++ List.replicate k (Value.slice none 0 0) := by
      have := next_set (done.map Rw.v) k (Value.slice none 0 0) (.slice (some ⟨r20, 0, none⟩) c c)
      rw [List.length_map] at this
      rw [← this, Nat.zero_add, Nat.mul_one]
      rfl
    have hget : ((done.map Rw.v ++ [Value.slice (some ⟨r20, 0, none⟩) c c]) ++ List.replicate k (Value.slice none 0 0))[done.length]? = some (.slice (some ⟨r20, 0, none⟩) c c) := by simp [List.getElem?_append]
    refine tr_own [(r20, .cells (zcs (List.replicate c z0)).toArray 35 (0, 0)), (r11, .cells ((done.map Rw.v ++ [Value.slice (some ⟨r20, 0, none⟩) c c]) ++ List.replicate k (Value.slice none 0 0)).toArray 44 (0, 0))] (by rw [← hset, ← hk, ← made_z]; rfl) ?_
    refine tr_rseq ?_
    refine sq_q (qt_move rfl) rfl ?_
    refine sq_q (qt_move rfl) rfl ?_
    refine sq_q (qt_index (i := done.length) rfl rfl hlt) rfl ?_
    refine sq_q (qt_load rfl (fun w t => t.o1 1 rfl hget)) rfl ?_
    refine sq_q (qt_len rfl) rfl ?_
    refine sq_q (qt_move rfl) rfl ?_
    refine sq_end ?_
    refine tr_block ?_
    refine tr_loop (fun l : List Zd => l.length ≤ c ∧ l.map Zd.z = (List.range l.length).map (fun j => g done.length j) ∧ ∀ z ∈ l, K z) (fun l => [(1, .int .i64 (c : Int)), (2, .func (.func f) pre.toArray cap.toArray), (7, .slice (some ⟨r11, 0, none⟩) r r), (8, .int .i64 (done.length : Int)), (13, .int .i64 (r : Int)), (14, .int .i64 (done.length : Int)), (26, .int .i64 (c : Int)), (27, .int .i64 (l.length : Int))])
      (fun l => [(r20, .cells (zcs (l ++ List.replicate (c - l.length) z0)).toArray 35 (0, 0)), (r11, .cells ((done.map Rw.v ++ [Value.slice (some ⟨r20, 0, none⟩) c c]) ++ List.replicate k (Value.slice none 0 0)).toArray 44 (0, 0))]) (fun l w => (∀ q ∈ done, Rd q.p.1 (zcs q.l) w ∧ q.l.length ≤ q.p.2 ∧ ∀ z ∈ q.l, okE B w0 z w) ∧ ∀ z ∈ l, okE B w0 z w) (fun l => c - l.length) [] ⟨Nat.zero_le _, rfl, by simp⟩ ⟨rfl, rfl, rfl, rfl, rfl, rfl, rfl, rfl, trivial⟩ rfl (fun _ h => ⟨h, by simp⟩) ?_
    rintro l ⟨hl, hlz, hlc⟩
    refine tr_rseq ?_
    refine sq_q (qt_bin rfl rfl bin_lss) rfl ?_
    refine sq_end ?_
    refine tr_seq ?_
    refine tr_if rfl (fun hc => ?_) (fun hc => ?_)
    ·
      have hlt2 : l.length < c := by have := of_decide_eq_true hc; omega
      refine tr_skip ?_
      repeat with_reducible first | refine tr_skip ?_ | refine tr_exit ?_ | refine tr_then ?_ | refine tr_inX ?_ | refine tr_thenX ?_ | refine tr_inN ?_ | refine tr_inR ?_ | refine tr_thenR ?_
      refine tr_seq ?_
      refine tr_block ?_
      refine tr_rseq ?_
      refine sq_q (qt_move rfl) rfl ?_
      refine sq_q (qt_assign rfl) rfl ?_
      refine sq_end ?_
      refine tr_draw 9 [] [] [0, 1, 2, 6, 7, 8, 9, 13, 14, 15, 26, 27, 28, 33, 34, 38] (by kernel_rfl) ?_
      refine dx_q rfl (qt_move rfl) rfl ?_
      refine dx_q rfl (qt_move rfl) rfl ?_
      refine dx_q rfl (qt_index (i := done.length) rfl rfl hlt) rfl ?_
      refine dx_q rfl (qt_load rfl (fun w t => t.o1 1 rfl hget)) rfl ?_
      refine dx_q rfl (qt_move rfl) rfl ?_
      refine dx_q rfl (qt_move rfl) rfl ?_
      refine dx_q rfl (qt_move rfl) rfl ?_
      refine dx_q rfl (qt_move rfl) rfl ?_
      refine dx_call Zd.v (fun z w => (z.z = g done.length l.length ∧ K z) ∧ okE B w0 z w) rfl rfl rfl (fun w t => hf _ _ w _ hlt hlt2 t.arg) ?_
      refine dx_nil ?_
      repeat (first | refine es_val rfl ?_ rfl | refine es_res rfl (fun x => ?_) rfl | refine es_skip rfl ?_)
      refine es_nil rfl ?_
      refine tx_q (qt_index (i := l.length) rfl rfl hlt2) rfl rfl rfl ?_
      refine tx_store 0 rfl rfl rfl rfl (show 0 + l.length * 2 + 2 ≤ (zcs (l ++ List.replicate (c - l.length) z0)).length by rw [zcs_length]; simp; omega) rfl rfl rfl ?_
      refine tx_end ?_
      repeat with_reducible first | refine tr_skip ?_ | refine tr_exit ?_ | refine tr_then ?_ | refine tr_inX ?_ | refine tr_thenX ?_ | refine tr_inN ?_ | refine tr_inR ?_ | refine tr_thenR ?_
      refine tr_region ?_
      refine sq_q (qt_bin rfl rfl (bin_addI (by omega) (by omega))) rfl ?_
      refine sq_q (qt_move rfl) rfl ?_
      refine sq_nil ?_
      repeat with_reducible first | refine tr_skip ?_ | refine tr_exit ?_ | refine tr_then ?_ | refine tr_inX ?_ | refine tr_thenX ?_ | refine tr_inN ?_ | refine tr_inR ?_ | refine tr_thenR ?_
      refine tr_have (fun w t => t.r.2.1) fun hx => ?_
      obtain ⟨k2, hk2⟩ : ∃ k2, c - l.length = k2 + 1 := ⟨c - l.length - 1, by omega⟩
      refine tr_round (l ++ [x]) ⟨by simp; omega, ?_, ?_⟩ (by simp; omega) ⟨rfl, rfl, rfl, rfl, rfl, rfl, rfl, by simp; rfl, trivial⟩ ?_ ?_
      · rw [List.map_append, hlz, List.length_append, List.length_singleton, List.range_succ, List.map_append]
        simp [hx.1]
      · intro z hz
        rcases List.mem_append.1 hz with h | h
        · exact hlc z h
        · rw [List.mem_singleton.1 h]; exact hx.2
      · have e := zcs_set (l := l ++ List.replicate (c - l.length) z0) (j := l.length) x (by simp; omega)
        rw [hk2, next_set] at e
        rw [List.length_append, List.length_singleton, show c - (l.length + 1) = k2 by omega, ← e, ← hk2]
        rfl
      · rintro w ⟨⟨h1, h2⟩, h3⟩
        refine ⟨h1, fun z hz => ?_⟩
        rcases List.mem_append.1 hz with h | h
        · exact h2 z h
        · rw [List.mem_singleton.1 h]; exact h3.2
    ·
      have hlc2 : l.length = c := by have := of_decide_eq_false hc; omega
      refine tr_exit ?_
      repeat with_reducible first | refine tr_skip ?_ | refine tr_exit ?_ | refine tr_then ?_ | refine tr_inX ?_ | refine tr_thenX ?_ | refine tr_inN ?_ | refine tr_inR ?_ | refine tr_thenR ?_
      refine tr_retire ?_
      refine tr_region ?_
      refine sq_q (qt_bin rfl rfl (bin_addI (by omega) (by omega))) rfl ?_
      refine sq_q (qt_move rfl) rfl ?_
      refine sq_nil ?_
      repeat with_reducible first | refine tr_skip ?_ | refine tr_exit ?_ | refine tr_then ?_ | refine tr_inX ?_ | refine tr_thenX ?_ | refine tr_inN ?_ | refine tr_inR ?_ | refine tr_thenR ?_
      refine tr_round (done ++ [⟨l, (some ⟨r20, 0, none⟩, c)⟩]) ⟨by simp; omega, ?_, ?_⟩ (by simp; omega) ⟨rfl, rfl, rfl, rfl, by simp; rfl, trivial⟩ ?_ ?_
      · rw [List.length_append, List.length_singleton, grid_succ, List.map_append, hz, ← hlc2, ← hlz]
        rfl
      · intro q hq
        rcases List.mem_append.1 hq with h | h
        · exact hcan q h
        · rw [List.mem_singleton.1 h]; exact hlc
      · rw [List.length_append, List.length_singleton, hk', List.map_append]
        simp only [List.map_cons, List.map_nil, Rw.v, hlc2]
      · rintro w ⟨⟨h1, h2⟩, h3⟩ q hq
        rcases List.mem_append.1 hq with h | h
        · exact h1 q h
        · rw [List.mem_singleton.1 h]
          rw [hlc2, Nat.sub_self, List.replicate_zero, List.append_nil] at h3
          exact ⟨Rd.own h3, Nat.le_of_eq hlc2, h2⟩
  ·
    have hlr : done.length = r := by have := of_decide_eq_false hc; omega
    refine tr_exit ?_
    repeat with_reducible first | refine tr_skip ?_ | refine tr_exit ?_ | refine tr_then ?_ | refine tr_inX ?_ | refine tr_thenX ?_ | refine tr_inN ?_ | refine tr_inR ?_ | refine tr_thenR ?_
    refine tr_rseq ?_
    refine sq_q (qt_move rfl) rfl ?_
    refine sq_q (qt_assign rfl) rfl ?_
    refine sq_end ?_
    refine tr_ret ?_
    repeat with_reducible first | refine tr_skip ?_ | refine tr_exit ?_ | refine tr_then ?_ | refine tr_inX ?_ | refine tr_thenX ?_ | refine tr_inN ?_ | refine tr_inR ?_ | refine tr_thenR ?_
    refine tr_done ⟨done, (some ⟨r11, 0, none⟩, r)⟩ (fun a w s t => results_1 rfl (resv_tmp s ?_)) (fun w h ho _ => ⟨⟨?_, Nat.le_of_eq hlr, h⟩, by rw [← hlr]; exact hz, hcan⟩)
    · unfold Mt.v
      rw [hlr]
      rfl
    · have := Rd.own (ho _ (ownAt_mem (i := 0) rfl))
      rwa [hlr, Nat.sub_self, List.replicate_zero, List.append_nil] at this
end Go.Qk
end
section
set_option linter.unusedVariables false
namespace Go.Qk
open Go Go.Proofs Go.RowKit
set_option maxRecDepth 100000
set_option maxHeartbeats 4000000
theorem minor1_ret (m : Mt) (B : Nat) (rs cs : List Int) (A A' : Option Addr) (c c' : Nat) (b3 b4 b5 i j a b : Nat) (w0 w : World) (S : Nat → Prop) (hm : m.ok B w) (hA : Rd A (i64s rs) w) (hA' : Rd A' (i64s cs) w) (h3 : At b3 0 m.v w) (h4 : At b4 0 (.slice A rs.length c) w) (h5 : At b5 0 (.slice A' cs.length c') w) (hi : i < rs.length) (hj : j < cs.length) (ha : rs[i] = (a : Int)) (hb : cs[j] = (b : Int)) (har : a < m.rs.length) (hbr : b < m.rs[a].l.length) :
    Ret Try.prog 77 [.int .i64 (i : Int), .int .i64 (j : Int), .pointer (some ⟨b3, 0, none⟩), .pointer (some ⟨b4, 0, none⟩), .pointer (some ⟨b5, 0, none⟩)] w S (fun _ : Unit => m.rs[a].l[b].v) (fun _ _ => True) := by
  obtain ⟨ro, oo, evm, hat⟩ := hm.at_ (show 0 < m.rs.length by omega)
  obtain ⟨rr, orr, evr, hatr⟩ := (hm.2.2 _ (List.getElem_mem har)).at_ (show 0 < m.rs[a].l.length by omega)
  obtain ⟨r4, o4, e4, hat4⟩ := hA.at_ (i64s_get hi)
  obtain ⟨r5, o5, e5, hat5⟩ := hA'.at_ (i64s_get hj)
  subst e4
  subst e5
  rw [ha] at hat4
  rw [hb] at hat5
  rw [evm] at h3
  have hr := hat a har
  rw [evr] at hr
  obtain ⟨hz0, hz1⟩ := hatr b hbr
  refine ret_of Try.func77 rfl Try.ntmps77 rfl ?_
  refine tr_rseq ?_
  refine sq_alloc rfl fun r7 => ?_
  refine sq_end ?_
  refine tr_rdraw 13 [] [] [0, 1, 2, 3, 4, 7, 20] (by kernel_rfl) ?_
  refine dx_q rfl (qt_load rfl (fun w t => t.atA h3)) rfl ?_
  refine dx_q rfl (qt_load rfl (fun w t => t.atA h4)) rfl ?_
  refine dx_q rfl (qt_move rfl) rfl ?_
  refine dx_q rfl (qt_index (i := i) rfl rfl hi) rfl ?_
  refine dx_q rfl (qt_load rfl (fun w t => t.a1 hat4)) rfl ?_
  refine dx_q rfl (qt_index (i := a) rfl rfl har) rfl ?_
  refine dx_q rfl (qt_load rfl (fun w t => t.a1 hr)) rfl ?_
  refine dx_q rfl (qt_load rfl (fun w t => t.atA h5)) rfl ?_
  refine dx_q rfl (qt_move rfl) rfl ?_
  refine dx_q rfl (qt_index (i := j) rfl rfl hj) rfl ?_
  refine dx_q rfl (qt_load rfl (fun w t => t.a1 hat5)) rfl ?_
  refine dx_q rfl (qt_index (i := b) rfl rfl hbr) rfl ?_
  refine dx_q rfl (qt_load2 rfl (fun w t => t.atA hz0) (fun w t => t.atA hz1)) rfl ?_
  refine dx_nil ?_
  repeat (first | refine es_val rfl ?_ rfl | refine es_res rfl (fun x => ?_) rfl | refine es_skip rfl ?_)
  refine es_nil rfl ?_
  refine tx_store 0 rfl rfl rfl rfl (by first | (simp [u32s, Value.cells]; done) | (simp [u32s, Value.cells]; omega) | exact Nat.le_refl 2) rfl rfl rfl ?_
  refine tx_endk ?_
  refine tr_ret ?_
  repeat with_reducible first | refine tr_skip ?_ | refine tr_exit ?_ | refine tr_then ?_ | refine tr_inX ?_ | refine tr_thenX ?_ | refine tr_inN ?_ | refine tr_inR ?_ | refine tr_thenR ?_
  exact tr_done () (fun a w s t => results_1 rfl (resv_cell 0 s t rfl rfl rfl)) (fun _ _ _ _ => trivial)
end Go.Qk
end
section
set_option linter.unusedVariables false
namespace Go.Qk
open Go Go.Proofs Go.RowKit
theorem asc_at {n : Int} {l : List Int} (h : ascB n l = true) : 0 < l.length ∧ ∀ i (hi : i < l.length), 0 ≤ l[i] ∧ l[i] < n ∧ (∀ h0 : 0 < i, l[i - 1]'(by omega) < l[i]) := by
  unfold ascB at h
  simp only [Bool.and_eq_true, decide_eq_true_eq, List.all_eq_true, List.mem_range] at h
  refine ⟨h.1, fun i hi => ?_⟩
  have h2 := h.2 i hi
  unfold ascAt at h2
  simp only [Bool.and_eq_true, Bool.or_eq_true, decide_eq_true_eq] at h2
  have e : l.getD i 0 = l[i] := by simp [List.getD, hi]
  rw [e] at h2
  refine ⟨h2.1.1, h2.1.2, fun h0 => ?_⟩
  have e' : l.getD (i - 1) 0 = l[i - 1]'(by omega) := by simp [List.getD, show i - 1 < l.length by omega]
  rw [e'] at h2
  rcases h2.2 with h3 | h3
  · omega
  · exact h3
theorem asc_ge {n : Int} {l : List Int} (h : ascB n l = true) : ∀ i (hi : i < l.length), (i : Int) ≤ l[i] := by
  obtain ⟨_, h2⟩ := asc_at h
  intro i
  induction i with
  | zero => intro hi; exact (h2 0 hi).1
  | succ i ih =>
    intro hi
    have h3 := (h2 (i + 1) hi).2.2 (by omega)
    have h4 := ih (by omega)
    simp only [Nat.add_sub_cancel] at h3
    omega
theorem asc_len {n : Nat} {l : List Int} (h : ascB n l = true) : l.length ≤ n := by
  obtain ⟨h1, h2⟩ := asc_at h
  have h3 := asc_ge h (l.length - 1) (by omega)
  have h4 := (h2 (l.length - 1) (by omega)).2.1
  omega
/-- the entries of a minor -/
def sel (L : List (List Int)) (rs cs : List Int) (i j : Nat) : Int := ent L (rs.getD i 0).toNat (cs.getD j 0).toNat
def minorP (o : Option (Nat × Nat)) (L : List (List Int)) (rs cs : List Int) : Option Int := match o with
  | some rc => if rs.length = cs.length ∧ ascB rc.1 rs = true ∧ ascB rc.2 cs = true then some (bdet rs.length (ent (grid (sel L rs cs) rs.length cs.length))) else none
  | none => none
def minorO (L : List (List Int)) (rs cs : List Int) : Option Int := minorP (shp L) L rs cs
theorem Rw.ok.below {B : Nat} {r : Rw} {w w' : World} (h : r.ok B w) (hb : Below w.heap.size w w') : r.ok B w' := ⟨h.1.below hb, h.2.1, fun z hz => ⟨⟨(h.2.2 z hz).1.1.below hb, (h.2.2 z hz).1.2⟩, (h.2.2 z hz).2⟩⟩
theorem Mt.ok.below {B : Nat} {m : Mt} {w w' : World} (h : m.ok B w) (hb : Below w.heap.size w w') : m.ok B w' := ⟨h.1.below hb, h.2.1, fun r hr => (h.2.2 r hr).below hb⟩
theorem grid_rows {m : Mt} {g : Nat → Nat → Int} {r c : Nat} (h : m.zs = grid g r c) : m.rs.length = r ∧ ∀ q ∈ m.rs, q.l.length = c := by
  have h1 := congrArg List.length h
  rw [m.zs_len] at h1
  refine ⟨by simpa [grid] using h1, fun q hq => ?_⟩
  have h2 : q.zs ∈ m.zs := List.mem_map.2 ⟨q, hq, rfl⟩
  rw [h] at h2
  simp only [grid, List.mem_map] at h2
  obtain ⟨i, _, e⟩ := h2
  rw [← Rw.zs_len, ← e]
  simp
theorem qt_makeFunc {P : Program} {J : World → Prop} {lk : Nat → Option Value} {ty : TypeId} {f : FuncId} {xs : List Operand} {vs : List Value} (hx : evs lk xs = some vs) : Qt P J lk (.makeFunc (.func f) #[] xs.toArray) ty (.func (.func f) #[] vs.toArray) := fun ρ w hρ _ d pos af g => by
  simp only [execOp]
  have e := evs_map hρ hx
  simp [Instr.makeFunc, e]
end Go.Qk
end
section
set_option linter.unusedVariables false
namespace Go.Qk
open Go Go.Proofs Go.RowKit
set_option maxRecDepth 100000
set_option maxHeartbeats 4000000
theorem minor_ret (m : Mt) (B : Nat) (rs cs : List Int) (A A' : Option Addr) (c c' : Nat) (w0 : World) (S : Nat → Prop) (hm : m.ok B w0) (hB : B ≤ 8388607) (hB1 : 1 ≤ B) (hA : Rd A (i64s rs) w0) (hA' : Rd A' (i64s cs) w0) (hlen : m.rs.length ≤ 35184372088832) (hrow : ∀ r ∈ m.rs, r.l.length ≤ 35184372088832) (hrl : rs.length ≤ 35184372088832) (hcl : cs.length ≤ 35184372088832) :
    Ret Try.prog 31 [m.v, .slice A rs.length c, .slice A' cs.length c'] w0 S (optZV (minorO m.zs rs cs)) (optZF (minorO m.zs rs cs)) := by
  obtain ⟨o, ho⟩ : ∃ o, o = shp m.zs := ⟨_, rfl⟩
  have hM : minorO m.zs rs cs = minorP o m.zs rs cs := by rw [ho]; rfl
  rw [hM]
  refine ret_of Try.func31 rfl Try.ntmps31 rfl ?_
  refine tr_rseq ?_
  refine sq_box rfl rfl fun r3 => ?_
  refine sq_box rfl rfl fun r4 => ?_
  refine sq_box rfl rfl fun r5 => ?_
  refine sq_alloc rfl fun r6 => ?_
  refine sq_q (qt_assign rfl) rfl ?_
  refine sq_end ?_
  refine tr_rseq ?_
  refine sq_q (qt_load rfl (fun w t => t.atO 3 rfl rfl)) rfl ?_
  refine sq_call (val := fun _ : Unit => shpV o) (F := fun _ _ => True) rfl rfl rfl (fun w t => by rw [ho]; exact shape_ret m B w _ (t.mt hm) hlen hrow) fun _ => ?_
  refine sq_q (qt_move rfl) rfl ?_
  refine sq_q (qt_extract rfl rfl) rfl ?_
  refine sq_q (qt_extract rfl rfl) rfl ?_
  refine sq_q (qt_extract rfl rfl) rfl ?_
  refine sq_q (qt_assign rfl) rfl ?_
  refine sq_q (qt_assign rfl) rfl ?_
  refine sq_q (qt_assign rfl) rfl ?_
  refine sq_end ?_
  refine tr_seq ?_
  have hcs : o = none ∨ ∃ r k, o = some (r, k) ∧ (rs.length ≠ cs.length ∨ (rs.length = cs.length ∧ (ascB r rs = false ∨ (ascB r rs = true ∧ (ascB k cs = false ∨ ascB k cs = true))))) := by
    cases o with
    | none => exact .inl rfl
    | some rc =>
      refine .inr ⟨rc.1, rc.2, rfl, ?_⟩
      by_cases h : rs.length = cs.length
      · cases h1 : ascB rc.1 rs
        · exact .inr ⟨h, .inl rfl⟩
        · cases h2 : ascB rc.2 cs
          · exact .inr ⟨h, .inr ⟨rfl, .inl rfl⟩⟩
          · exact .inr ⟨h, .inr ⟨rfl, .inr rfl⟩⟩
      · exact .inl h
  rcases hcs with hn | ⟨r, k, hs, h1 | ⟨h1, h2 | ⟨h2, h3 | h3⟩⟩⟩
  ·
    subst hn
    refine tr_rseq ?_
    refine sq_q (qt_move rfl) rfl ?_
    refine sq_q (qt_not rfl) rfl ?_
    refine sq_q (qt_move rfl) rfl ?_
    refine sq_gF rfl rfl rfl rfl ?_
    refine sq_gF rfl rfl rfl rfl ?_
    refine sq_gF rfl rfl rfl rfl ?_
    refine sq_gF rfl rfl rfl rfl ?_
    refine sq_gF rfl rfl rfl rfl ?_
    refine sq_q (qt_pick rfl rfl) rfl ?_
    refine sq_q (qt_move rfl) rfl ?_
    refine sq_gF rfl rfl rfl rfl ?_
    refine sq_gF rfl rfl rfl rfl ?_
    refine sq_gF rfl rfl rfl rfl ?_
    refine sq_gF rfl rfl rfl rfl ?_
    refine sq_q (qt_pick rfl rfl) rfl ?_
    refine sq_q (qt_move rfl) rfl ?_
    refine sq_gF rfl rfl rfl rfl ?_
    refine sq_gF rfl rfl rfl rfl ?_
    refine sq_gF rfl rfl rfl rfl ?_
    refine sq_gF rfl rfl rfl rfl ?_
    refine sq_q (qt_pick rfl rfl) rfl ?_
    refine sq_end ?_
    refine tr_ifT rfl ?_
    refine tr_rseq ?_
    refine sq_q (qt_build rfl built0) rfl ?_
    refine sq_store 0 rfl rfl rfl rfl (by first | (simp [u32s, Value.cells]; done) | (simp [u32s, Value.cells]; omega) | exact Nat.le_refl 2) rfl rfl ?_
    refine sq_q (qt_assign rfl) rfl ?_
    refine sq_end ?_
    refine tr_ret ?_
    repeat with_reducible first | refine tr_skip ?_ | refine tr_exit ?_ | refine tr_then ?_ | refine tr_inX ?_ | refine tr_thenX ?_ | refine tr_inN ?_ | refine tr_inR ?_ | refine tr_thenR ?_
    exact tr_done (none, 0) (fun a w s t => results_2 rfl (by show ResV _ _ _ _ (iv 0 (none, 0)); rw [iv_zero]; exact resv_cell 0 s t rfl rfl rfl) (resv_tmp s rfl)) (fun w _ _ _ => optZF_none)
  ·
    subst hs
    rw [show minorP (some (r, k)) m.zs rs cs = none from if_neg (fun e => h1 e.1)]
    refine tr_rseq ?_
    refine sq_q (qt_move rfl) rfl ?_
    refine sq_q (qt_not rfl) rfl ?_
    refine sq_q (qt_move rfl) rfl ?_
    refine sq_gT rfl rfl ?_
    refine sq_q (qt_load rfl (fun w t => t.atO 2 rfl rfl)) rfl ?_
    refine sq_gT rfl rfl ?_
    refine sq_q (qt_len rfl) rfl ?_
    refine sq_gT rfl rfl ?_
    refine sq_q (qt_load rfl (fun w t => t.atO 1 rfl rfl)) rfl ?_
    refine sq_gT rfl rfl ?_
    refine sq_q (qt_len rfl) rfl ?_
    refine sq_gT rfl rfl ?_
    refine sq_q (qt_bin rfl rfl (bT bin_neq (by omega))) rfl ?_
    refine sq_q (qt_pick rfl rfl) rfl ?_
    refine sq_q (qt_move rfl) rfl ?_
    refine sq_gF rfl rfl rfl rfl ?_
    refine sq_gF rfl rfl rfl rfl ?_
    refine sq_gF rfl rfl rfl rfl ?_
    refine sq_gF rfl rfl rfl rfl ?_
    refine sq_q (qt_pick rfl rfl) rfl ?_
    refine sq_q (qt_move rfl) rfl ?_
    refine sq_gF rfl rfl rfl rfl ?_
    refine sq_gF rfl rfl rfl rfl ?_
    refine sq_gF rfl rfl rfl rfl ?_
    refine sq_gF rfl rfl rfl rfl ?_
    refine sq_q (qt_pick rfl rfl) rfl ?_
    refine sq_end ?_
    refine tr_ifT rfl ?_
    refine tr_rseq ?_
    refine sq_q (qt_build rfl built0) rfl ?_
    refine sq_store 0 rfl rfl rfl rfl (by first | (simp [u32s, Value.cells]; done) | (simp [u32s, Value.cells]; omega) | exact Nat.le_refl 2) rfl rfl ?_
    refine sq_q (qt_assign rfl) rfl ?_
    refine sq_end ?_
    refine tr_ret ?_
    repeat with_reducible first | refine tr_skip ?_ | refine tr_exit ?_ | refine tr_then ?_ | refine tr_inX ?_ | refine tr_thenX ?_ | refine tr_inN ?_ | refine tr_inR ?_ | refine tr_thenR ?_
    exact tr_done (none, 0) (fun a w s t => results_2 rfl (by show ResV _ _ _ _ (iv 0 (none, 0)); rw [iv_zero]; exact resv_cell 0 s t rfl rfl rfl) (resv_tmp s rfl)) (fun w _ _ _ => optZF_none)
  ·
    subst hs
    rw [show minorP (some (r, k)) m.zs rs cs = none from if_neg (fun e => by rw [e.2.1] at h2; exact absurd h2 (by decide))]
    refine tr_rseq ?_
    refine sq_q (qt_move rfl) rfl ?_
    refine sq_q (qt_not rfl) rfl ?_
    refine sq_q (qt_move rfl) rfl ?_
    refine sq_gT rfl rfl ?_
    refine sq_q (qt_load rfl (fun w t => t.atO 2 rfl rfl)) rfl ?_
    refine sq_gT rfl rfl ?_
    refine sq_q (qt_len rfl) rfl ?_
    refine sq_gT rfl rfl ?_
    refine sq_q (qt_load rfl (fun w t => t.atO 1 rfl rfl)) rfl ?_
    refine sq_gT rfl rfl ?_
    refine sq_q (qt_len rfl) rfl ?_
    refine sq_gT rfl rfl ?_
    refine sq_q (qt_bin rfl rfl (bF bin_neq (by omega))) rfl ?_
    refine sq_q (qt_pick rfl rfl) rfl ?_
    refine sq_q (qt_move rfl) rfl ?_
    refine sq_gT rfl rfl ?_
    refine sq_q (qt_load rfl (fun w t => t.atO 2 rfl rfl)) rfl ?_
    refine sq_gT rfl rfl ?_
    refine sq_q (qt_move rfl) rfl ?_
    refine sq_gT rfl rfl ?_
    refine sq_call (val := fun _ : Unit => .bool false) (F := fun _ _ => True) rfl rfl rfl (fun w t => by have h := fun S' => ascending_ret rs A c r w S' (t.rd hA) hrl; simp only [h2] at h; exact h _) fun _ => ?_
    refine sq_gT rfl rfl ?_
    refine sq_q (qt_not rfl) rfl ?_
    refine sq_q (qt_pick rfl rfl) rfl ?_
    refine sq_q (qt_move rfl) rfl ?_
    refine sq_gF rfl rfl rfl rfl ?_
    refine sq_gF rfl rfl rfl rfl ?_
    refine sq_gF rfl rfl rfl rfl ?_
    refine sq_gF rfl rfl rfl rfl ?_
    refine sq_q (qt_pick rfl rfl) rfl ?_
    refine sq_end ?_
    refine tr_ifT rfl ?_
    refine tr_rseq ?_
    refine sq_q (qt_build rfl built0) rfl ?_
    refine sq_store 0 rfl rfl rfl rfl (by first | (simp [u32s, Value.cells]; done) | (simp [u32s, Value.cells]; omega) | exact Nat.le_refl 2) rfl rfl ?_
    refine sq_q (qt_assign rfl) rfl ?_
    refine sq_end ?_
    refine tr_ret ?_
    repeat with_reducible first | refine tr_skip ?_ | refine tr_exit ?_ | refine tr_then ?_ | refine tr_inX ?_ | refine tr_thenX ?_ | refine tr_inN ?_ | refine tr_inR ?_ | refine tr_thenR ?_
    exact tr_done (none, 0) (fun a w s t => results_2 rfl (by show ResV _ _ _ _ (iv 0 (none, 0)); rw [iv_zero]; exact resv_cell 0 s t rfl rfl rfl) (resv_tmp s rfl)) (fun w _ _ _ => optZF_none)
  ·
    subst hs
    rw [show minorP (some (r, k)) m.zs rs cs = none from if_neg (fun e => by rw [e.2.2] at h3; exact absurd h3 (by decide))]
    refine tr_rseq ?_
    refine sq_q (qt_move rfl) rfl ?_
    refine sq_q (qt_not rfl) rfl ?_
    refine sq_q (qt_move rfl) rfl ?_
    refine sq_gT rfl rfl ?_
    refine sq_q (qt_load rfl (fun w t => t.atO 2 rfl rfl)) rfl ?_
    refine sq_gT rfl rfl ?_
    refine sq_q (qt_len rfl) rfl ?_
    refine sq_gT rfl rfl ?_
    refine sq_q (qt_load rfl (fun w t => t.atO 1 rfl rfl)) rfl ?_
    refine sq_gT rfl rfl ?_
    refine sq_q (qt_len rfl) rfl ?_
    refine sq_gT rfl rfl ?_
    refine sq_q (qt_bin rfl rfl (bF bin_neq (by omega))) rfl ?_
    refine sq_q (qt_pick rfl rfl) rfl ?_
    refine sq_q (qt_move rfl) rfl ?_
    refine sq_gT rfl rfl ?_
    refine sq_q (qt_load rfl (fun w t => t.atO 2 rfl rfl)) rfl ?_
    refine sq_gT rfl rfl ?_
    refine sq_q (qt_move rfl) rfl ?_
    refine sq_gT rfl rfl ?_
    refine sq_call (val := fun _ : Unit => .bool true) (F := fun _ _ => True) rfl rfl rfl (fun w t => by have h := fun S' => ascending_ret rs A c r w S' (t.rd hA) hrl; simp only [h2] at h; exact h _) fun _ => ?_
    refine sq_gT rfl rfl ?_
    refine sq_q (qt_not rfl) rfl ?_
    refine sq_q (qt_pick rfl rfl) rfl ?_
    refine sq_q (qt_move rfl) rfl ?_
    refine sq_gT rfl rfl ?_
    refine sq_q (qt_load rfl (fun w t => t.atO 1 rfl rfl)) rfl ?_
    refine sq_gT rfl rfl ?_
    refine sq_q (qt_move rfl) rfl ?_
    refine sq_gT rfl rfl ?_
    refine sq_call (val := fun _ : Unit => .bool false) (F := fun _ _ => True) rfl rfl rfl (fun w t => by have h := fun S' => ascending_ret cs A' c' k w S' (t.rd hA') hcl; simp only [h3] at h; exact h _) fun _ => ?_
    refine sq_gT rfl rfl ?_
    refine sq_q (qt_not rfl) rfl ?_
    refine sq_q (qt_pick rfl rfl) rfl ?_
    refine sq_end ?_
    refine tr_ifT rfl ?_
    refine tr_rseq ?_
    refine sq_q (qt_build rfl built0) rfl ?_
    refine sq_store 0 rfl rfl rfl rfl (by first | (simp [u32s, Value.cells]; done) | (simp [u32s, Value.cells]; omega) | exact Nat.le_refl 2) rfl rfl ?_
    refine sq_q (qt_assign rfl) rfl ?_
    refine sq_end ?_
    refine tr_ret ?_
    repeat with_reducible first | refine tr_skip ?_ | refine tr_exit ?_ | refine tr_then ?_ | refine tr_inX ?_ | refine tr_thenX ?_ | refine tr_inN ?_ | refine tr_inR ?_ | refine tr_thenR ?_
    exact tr_done (none, 0) (fun a w s t => results_2 rfl (by show ResV _ _ _ _ (iv 0 (none, 0)); rw [iv_zero]; exact resv_cell 0 s t rfl rfl rfl) (resv_tmp s rfl)) (fun w _ _ _ => optZF_none)
  ·
    subst hs
    rw [show minorP (some (r, k)) m.zs rs cs = some (bdet rs.length (ent (grid (sel m.zs rs cs) rs.length cs.length))) from if_pos ⟨h1, h2, h3⟩]
    refine tr_rseq ?_
    refine sq_q (qt_move rfl) rfl ?_
    refine sq_q (qt_not rfl) rfl ?_
    refine sq_q (qt_move rfl) rfl ?_
    refine sq_gT rfl rfl ?_
    refine sq_q (qt_load rfl (fun w t => t.atO 2 rfl rfl)) rfl ?_
    refine sq_gT rfl rfl ?_
    refine sq_q (qt_len rfl) rfl ?_
    refine sq_gT rfl rfl ?_
    refine sq_q (qt_load rfl (fun w t => t.atO 1 rfl rfl)) rfl ?_
    refine sq_gT rfl rfl ?_
    refine sq_q (qt_len rfl) rfl ?_
    refine sq_gT rfl rfl ?_
    refine sq_q (qt_bin rfl rfl (bF bin_neq (by omega))) rfl ?_
    refine sq_q (qt_pick rfl rfl) rfl ?_
    refine sq_q (qt_move rfl) rfl ?_
    refine sq_gT rfl rfl ?_
    refine sq_q (qt_load rfl (fun w t => t.atO 2 rfl rfl)) rfl ?_
    refine sq_gT rfl rfl ?_
    refine sq_q (qt_move rfl) rfl ?_
    refine sq_gT rfl rfl ?_
    refine sq_call (val := fun _ : Unit => .bool true) (F := fun _ _ => True) rfl rfl rfl (fun w t => by have h := fun S' => ascending_ret rs A c r w S' (t.rd hA) hrl; simp only [h2] at h; exact h _) fun _ => ?_
    refine sq_gT rfl rfl ?_
    refine sq_q (qt_not rfl) rfl ?_
    refine sq_q (qt_pick rfl rfl) rfl ?_
    refine sq_q (qt_move rfl) rfl ?_
    refine sq_gT rfl rfl ?_
    refine sq_q (qt_load rfl (fun w t => t.atO 1 rfl rfl)) rfl ?_
    refine sq_gT rfl rfl ?_
    refine sq_q (qt_move rfl) rfl ?_
    refine sq_gT rfl rfl ?_
    refine sq_call (val := fun _ : Unit => .bool true) (F := fun _ _ => True) rfl rfl rfl (fun w t => by have h := fun S' => ascending_ret cs A' c' k w S' (t.rd hA') hcl; simp only [h3] at h; exact h _) fun _ => ?_
    refine sq_gT rfl rfl ?_
    refine sq_q (qt_not rfl) rfl ?_
    refine sq_q (qt_pick rfl rfl) rfl ?_
    refine sq_end ?_
    refine tr_ifF rfl ?_
    refine tr_skip ?_
    repeat with_reducible first | refine tr_skip ?_ | refine tr_exit ?_ | refine tr_then ?_ | refine tr_inX ?_ | refine tr_thenX ?_ | refine tr_inN ?_ | refine tr_inR ?_ | refine tr_thenR ?_
    obtain ⟨q1, q2, q3, q4, q5, q6⟩ := shp_inv ho.symm
    have hn1 := asc_len h2
    have hra := asc_at h2
    have hca := asc_at h3
    rw [m.zs_len] at q1
    have hcol : ∀ q ∈ m.rs, q.l.length = k := fun q hq => by rw [← Rw.zs_len]; exact q6 _ (List.mem_map.2 ⟨q, hq, rfl⟩)
    refine tr_rseq ?_
    refine sq_q (qt_load rfl (fun w t => t.atO 2 rfl rfl)) rfl ?_
    refine sq_q (qt_len rfl) rfl ?_
    refine sq_q (qt_load rfl (fun w t => t.atO 1 rfl rfl)) rfl ?_
    refine sq_q (qt_len rfl) rfl ?_
    refine sq_q (qt_makeFunc rfl) rfl ?_
    refine sq_call Mt.v (fun m' w => m'.okE B w0 w ∧ m'.zs = grid (sel m.zs rs cs) rs.length cs.length) rfl rfl rfl (fun w t => ?_) fun m' => ?_
    · refine (build2_ret (fun z => z.ok B w0) rs.length cs.length B (sel m.zs rs cs) 77 [] [.pointer (some ⟨r3, 0, none⟩), .pointer (some ⟨r4, 0, none⟩), .pointer (some ⟨r5, 0, none⟩)] w _ (by omega) (by omega) (fun i j w' S' hi hj hbel => ?_)).imp fun m' w' h => ⟨⟨h.1.1, h.1.2.1, fun q hq => ⟨(h.1.2.2 q hq).1, (h.1.2.2 q hq).2.1, fun z hz => .inl (h.2.2 q hq z hz)⟩⟩, h.2.1⟩
      have ga := hra.2 i hi
      have gb := hca.2 j hj
      have har : rs[i].toNat < m.rs.length := by omega
      have hbr : cs[j].toNat < (m.rs[rs[i].toNat]).l.length := by rw [hcol _ (List.getElem_mem har)]; omega
      refine (minor1_ret m B rs cs A A' c c' r3 r4 r5 i j rs[i].toNat cs[j].toNat w0 w' S' ((t.mt hm).below hbel) ((t.rd hA).below hbel) ((t.rd hA').below hbel) ((t.atO 3 rfl rfl).below hbel) ((t.atO 2 rfl rfl).below hbel) ((t.atO 1 rfl rfl).below hbel) hi hj (by omega) (by omega) har hbr).mono ?_
      rintro e w'' ⟨_, rfl, hb, _⟩
      have hz0 : (m.rs[rs[i].toNat].l[cs[j].toNat]).ok B w0 := (hm.2.2 _ (List.getElem_mem har)).2.2 _ (List.getElem_mem hbr)
      refine ⟨m.rs[rs[i].toNat].l[cs[j].toNat], rfl, hb, fun _ _ _ => ⟨⟨?_, hz0⟩, .inl ((t.zd hz0))⟩⟩
      unfold sel
      rw [show rs.getD i 0 = rs[i] by simp [List.getD, hi], show cs.getD j 0 = cs[j] by simp [List.getD, hj], ent_at (by rw [m.zs_len]; exact har) (by rw [m.zs_at har, Rw.zs_len]; exact hbr)]
      simp [m.zs_at har, Rw.zs]
    refine sq_have (fun w t => t.r.2.2) fun hgz => ?_
    refine sq_call (iv (bdet rs.length (ent (grid (sel m.zs rs cs) rs.length cs.length)))) (optZF (some (bdet rs.length (ent (grid (sel m.zs rs cs) rs.length cs.length))))) rfl rfl rfl (fun w t => by rw [← hgz]; exact determinant_ret m' B rs.length w _ (t.r.2.1.get t) hB hB1 (grid_rows hgz).1 (by omega) (by omega) (fun q hq => by rw [(grid_rows hgz).2 q hq]; omega)) fun x => ?_
    refine sq_store 0 rfl rfl rfl rfl (by first | (simp [u32s, Value.cells]; done) | (simp [u32s, Value.cells]; omega) | exact Nat.le_refl 2) rfl rfl ?_
    refine sq_q (qt_assign rfl) rfl ?_
    refine sq_end ?_
    refine tr_ret ?_
    repeat with_reducible first | refine tr_skip ?_ | refine tr_exit ?_ | refine tr_then ?_ | refine tr_inX ?_ | refine tr_thenX ?_ | refine tr_inN ?_ | refine tr_inR ?_ | refine tr_thenR ?_
    exact tr_done x (fun a w s t => results_2 rfl (resv_cell 0 s t rfl rfl rfl) (resv_tmp s rfl)) (fun w h _ _ => h.2)
end Go.Qk
end
section
set_option linter.unusedVariables false
namespace Go.Qk
open Go Go.Proofs Go.RowKit
def othI (n i : Nat) : List Int := (oth n i).map fun (k : Nat) => (k : Int)
theorem i64s_othI (n i : Nat) : i64s (othI n i) = ints (oth n i) := by simp [i64s, othI, ints]
theorem othI_length (n i : Nat) : (othI n i).length = (oth n i).length := by simp [othI]
/-- an entry of the adjugate -/
def adjE (L : List (List Int)) (n i j : Nat) : Int := if (i + j) % 2 = 1 then -((minorO L (othI n j) (othI n i)).getD 0) else (minorO L (othI n j) (othI n i)).getD 0
/-- a slot that nobody reads is set, in the tail -/
theorem tx_any {P : Program} {n : Nat} {w0 : World} {X : List Nat} {S : Nat → Prop} {E : Env} {own : Own} {R : World → Prop} {Q : Exit → Act → World → Prop} {ops : Array Oper} {sl : List Nat} {Γ : Ctx} {os : List Oper} {x : Operand} {ty : TypeId} {d : Nat} {pos : String} {af : Array Edge} (hE : noLate sl E = true) (hd : noLate [d] E = true)
    (h : Tx P ops Q n sl Γ os (Sx n w0 X S E own R)) : Tx P ops Q n sl Γ (⟨some d, .assign x, ty, pos, af, none⟩ :: os) (Sx n w0 X S E own R) := by
  refine ⟨Sx n w0 X S E own R, sx_closed hE, fun a w hs hdf hst hl => ⟨rfl, ?_⟩, h⟩
  have e : (execOp a.eval ⟨some d, .assign x, ty, pos, af, none⟩).run P w = .ok (.value (a.eval x)) w := by simp [execOp]
  unfold Oper.wp
  rw [e]
  exact ⟨⟨_, rfl⟩, sx_closed hd a w d _ (List.mem_singleton.2 rfl) hst⟩
theorem minor_call {m : Mt} {B : Nat} {n i j : Nat} {p q : Sv} {w : World} {S : Nat → Prop} (hm : m.ok B w) (hB : B ≤ 8388607) (hB1 : 1 ≤ B) (hlen : m.rs.length = n) (hn : n ≤ 16) (hrow : ∀ r ∈ m.rs, r.l.length = n) (hp : Rd p.1 (ints (oth n j)) w) (hq : Rd q.1 (ints (oth n i)) w) :
    Ret Try.prog 31 [m.v, .slice p.1 (oth n j).length p.2, .slice q.1 (oth n i).length q.2] w S (optZV (minorO m.zs (othI n j) (othI n i))) (optZF (minorO m.zs (othI n j) (othI n i))) := by
  have h1 := oth_length n j
  have h2 := oth_length n i
  have h := minor_ret m B (othI n j) (othI n i) p.1 q.1 p.2 q.2 w S hm hB hB1 (by rw [i64s_othI]; exact hp) (by rw [i64s_othI]; exact hq) (by omega) (fun r hr => by rw [hrow r hr]; omega) (by rw [othI_length]; omega) (by rw [othI_length]; omega)
  rwa [othI_length, othI_length] at h
def adjO (L : List (List Int)) : Option (List (List Int)) := if sqb (shp L) = true then (if L.length = 1 then identO 1 else some (grid (adjE L L.length) L.length L.length)) else none
end Go.Qk
end
section
set_option linter.unusedVariables false
namespace Go.Qk
open Go Go.Proofs Go.RowKit
set_option maxRecDepth 100000
set_option maxHeartbeats 4000000
theorem adj1_ret (m : Mt) (B n b2 b3 i j : Nat) (w : World) (S : Nat → Prop) (hm : m.ok B w) (hB : B ≤ 8388607) (hB1 : 1 ≤ B) (hlen : m.rs.length = n) (hn16 : n ≤ 16) (hrow : ∀ r ∈ m.rs, r.l.length = n) (h2 : At b2 0 m.v w) (h3 : At b3 0 (.int .i64 (n : Int)) w) (hi : i < n) (hj : j < n) :
    Ret Try.prog 79 [.int .i64 (i : Int), .int .i64 (j : Int), .pointer (some ⟨b2, 0, none⟩), .pointer (some ⟨b3, 0, none⟩)] w S (iv (adjE m.zs n i j)) (fun p w => Lz (adjE m.zs n i j).natAbs p w ∧ nl (adjE m.zs n i j).natAbs ≤ 549755813887) := by
  obtain ⟨o, ho⟩ : ∃ o, o = minorO m.zs (othI n j) (othI n i) := ⟨_, rfl⟩
  have hA : adjE m.zs n i j = if (i + j) % 2 = 1 then -(o.getD 0) else o.getD 0 := by rw [ho]; rfl
  rw [hA]
  refine ret_of Try.func79 rfl Try.ntmps79 rfl ?_
  refine tr_rseq ?_
  refine sq_alloc rfl fun r6 => ?_
  refine sq_end ?_
  refine tr_rdraw 12 [10] [19] [0, 1, 2, 3, 6, 7, 18, 24] (by kernel_rfl) ?_
  refine dx_q rfl (qt_load rfl (fun w t => t.atA h2)) rfl ?_
  refine dx_q rfl (qt_load rfl (fun w t => t.atA h3)) rfl ?_
  refine dx_q rfl (qt_move rfl) rfl ?_
  refine dx_call (fun p : Sv => .slice p.1 (oth n j).length p.2) (fun p w => Rd p.1 (ints (oth n j)) w ∧ (oth n j).length ≤ p.2) rfl rfl rfl (fun w t => others_ret n j w _ (by omega)) ?_
  refine dx_q rfl (qt_load rfl (fun w t => t.atA h3)) rfl ?_
  refine dx_q rfl (qt_move rfl) rfl ?_
  refine dx_call (fun p : Sv => .slice p.1 (oth n i).length p.2) (fun p w => Rd p.1 (ints (oth n i)) w ∧ (oth n i).length ≤ p.2) rfl rfl rfl (fun w t => others_ret n i w _ (by omega)) ?_
  refine dx_call2 13 16 (optZV o) (optZF o) rfl rfl rfl (by simp) (by simp) (fun _ _ => rfl) (fun _ _ => rfl) (fun y z w t => by rw [ho]; exact minor_call (t.mt hm) hB hB1 hlen hn16 hrow t.r.1.2.1 t.r.2.1) ?_
  refine dx_q1 17 (optZV o) rfl rfl (fun o ho => mem_looksAt (by rw [ho]; simp [Op.operands])) (fun _ => qt_move rfl) rfl ?_
  refine dx_q1 9 (iv (o.getD 0)) rfl rfl (fun o ho => mem_looksAt (by rw [ho]; simp [Op.operands])) (fun _ => qt_extract rfl rfl) rfl ?_
  refine dx_dead 9 rfl rfl (fun q => ⟨_, _, rfl, rfl⟩) ?_
  refine dx_alloc rfl ?_
  refine dx_nil ?_
  repeat (first | refine es_val rfl ?_ rfl | refine es_skip rfl ?_)
  refine es_res rfl (fun r7 => ?_) rfl
  repeat (first | refine es_val rfl ?_ rfl | refine es_skip rfl ?_)
  refine es_res rfl (fun x18 => ?_) rfl
  repeat (first | refine es_val rfl ?_ rfl | refine es_skip rfl ?_)
  refine es_adopt [zblk r7 z0, zblk r6 z0] (fun w => optZF o x18 w) rfl (fun w t => t.adoptL t.r.1.2.1 t.r.1.2.2.1 t.r.1.2.2.2 (not_u32b_z0 _ _) (fun w h => h.2) ((LimbR.lm _ _).and (LimbR.const _))) ?_
  refine tx_store 0 rfl rfl rfl rfl (Nat.le_refl 2) rfl rfl rfl ?_
  refine tx_any rfl rfl ?_
  refine tx_endk ?_
  refine tr_own [zblk r7 (zd (o.getD 0) x18), zblk r6 z0] rfl ?_
  refine tr_seq ?_
  refine tr_rseq ?_
  refine sq_q (qt_move rfl) rfl ?_
  refine sq_q (qt_move rfl) rfl ?_
  refine sq_q (qt_bin rfl rfl (bin_addI (by omega) (by omega))) rfl ?_
  refine sq_q (qt_bin rfl rfl (bin_rem (by decide) (by omega))) rfl ?_
  refine sq_q (qt_bin rfl rfl bin_eql) rfl ?_
  refine sq_end ?_
  refine tr_if rfl (fun hc => ?_) (fun hc => ?_)
  ·
    have hodd : (i + j) % 2 = 1 := by have h := of_decide_eq_true hc; omega
    rw [if_pos hodd]
    refine tr_rseq ?_
    refine sq_q (qt_load2 rfl (fun w t => t.atO 0 rfl rfl) (fun w t => t.atO 0 rfl rfl)) rfl ?_
    refine sq_call (iv (-(o.getD 0))) (Lz (-(o.getD 0)).natAbs) rfl rfl rfl (fun w t => by have h := fun S' => neg_zd (S := S') (zd_ok t.r.1 t.r.2) (by omega); rw [zd_z] at h; exact h _) fun x => ?_
    refine sq_store 1 rfl rfl rfl rfl (by first | (simp [u32s, Value.cells]; done) | (simp [u32s, Value.cells]; omega) | exact Nat.le_refl 2) rfl rfl ?_
    refine sq_end ?_
    refine tr_ret ?_
    repeat with_reducible first | refine tr_skip ?_ | refine tr_exit ?_ | refine tr_then ?_ | refine tr_inX ?_ | refine tr_thenX ?_ | refine tr_inN ?_ | refine tr_inR ?_ | refine tr_thenR ?_
    exact tr_done x (fun a w s t => results_1 rfl (resv_cell 1 s t rfl rfl rfl)) (fun w h _ _ => ⟨h.2, by rw [Int.natAbs_neg]; exact h.1.2⟩)
  ·
    have hodd : ¬ (i + j) % 2 = 1 := by have h := of_decide_eq_false hc; omega
    rw [if_neg hodd]
    refine tr_skip ?_
    repeat with_reducible first | refine tr_skip ?_ | refine tr_exit ?_ | refine tr_then ?_ | refine tr_inX ?_ | refine tr_thenX ?_ | refine tr_inN ?_ | refine tr_inR ?_ | refine tr_thenR ?_
    refine tr_rseq ?_
    refine sq_q (qt_load2 rfl (fun w t => t.atO 0 rfl rfl) (fun w t => t.atO 0 rfl rfl)) rfl ?_
    refine sq_store 1 rfl rfl rfl rfl (Nat.le_refl 2) rfl rfl ?_
    refine sq_end ?_
    refine tr_ret ?_
    repeat with_reducible first | refine tr_skip ?_ | refine tr_exit ?_ | refine tr_then ?_ | refine tr_inX ?_ | refine tr_thenX ?_ | refine tr_inN ?_ | refine tr_inR ?_ | refine tr_thenR ?_
    exact tr_done x18 (fun a w s t => results_1 rfl (resv_cell 1 s t rfl rfl rfl)) (fun w h _ _ => h)
end Go.Qk
end
section
set_option linter.unusedVariables false
namespace Go.Qk
open Go Go.Proofs Go.RowKit
set_option maxRecDepth 100000
set_option maxHeartbeats 4000000
theorem adjugate_ret (m : Mt) (B : Nat) (w0 : World) (S : Nat → Prop) (hm : m.ok B w0) (hB : B ≤ 8388607) (hB1 : 1 ≤ B) (hlen : m.rs.length ≤ 35184372088832) (hrow : ∀ r ∈ m.rs, r.l.length ≤ 35184372088832) :
    Ret Try.prog 33 [m.v] w0 S (optV (adjO m.zs)) (optF 549755813887 (adjO m.zs)) := by
  obtain ⟨N, hN⟩ : ∃ N : Nat, N = ((shp m.zs).getD (0, 0)).1 := ⟨_, rfl⟩
  obtain ⟨sq, hsq⟩ : ∃ sq, sq = sqb (shp m.zs) := ⟨_, rfl⟩
  refine ret_of Try.func33 rfl Try.ntmps33 rfl ?_
  refine tr_rseq ?_
  refine sq_box rfl rfl fun r1 => ?_
  refine sq_q (qt_assign rfl) rfl ?_
  refine sq_q (qt_assign rfl) rfl ?_
  refine sq_end ?_
  refine tr_rseq ?_
  refine sq_q (qt_load rfl (fun w t => t.atO 0 rfl rfl)) rfl ?_
  refine sq_call (val := fun _ : Unit => .tuple #[.int .i64 (N : Int), .bool sq]) (F := fun _ _ => True) rfl rfl rfl (fun w t => by rw [hN, hsq]; exact square_ret m B w _ (t.mt hm) hlen hrow) fun _ => ?_
  refine sq_q (qt_move rfl) rfl ?_
  refine sq_q (qt_extract rfl rfl) rfl ?_
  refine sq_q (qt_extract rfl rfl) rfl ?_
  refine sq_alloc rfl fun r4 => ?_
  refine sq_store 0 rfl rfl rfl rfl (by first | (simp [u32s, Value.cells]; done) | (simp [u32s, Value.cells]; omega) | exact Nat.le_refl 2) rfl rfl ?_
  refine sq_q (qt_assign rfl) rfl ?_
  refine sq_end ?_
  refine tr_seq ?_
  refine tr_rseq ?_
  refine sq_q (qt_move rfl) rfl ?_
  refine sq_q (qt_not rfl) rfl ?_
  refine sq_end ?_
  refine tr_if rfl (fun hc => ?_) (fun hc => ?_)
  ·
    have hs : sqb (shp m.zs) = false := by rw [← hsq]; simpa using hc
    have e : adjO m.zs = none := by unfold adjO; rw [if_neg (by rw [hs]; decide)]
    rw [e]
    refine tr_rseq ?_
    refine sq_q (qt_assign rfl) rfl ?_
    refine sq_q (qt_assign rfl) rfl ?_
    refine sq_end ?_
    refine tr_ret ?_
    repeat with_reducible first | refine tr_skip ?_ | refine tr_exit ?_ | refine tr_then ?_ | refine tr_inX ?_ | refine tr_thenX ?_ | refine tr_inN ?_ | refine tr_inR ?_ | refine tr_thenR ?_
    exact tr_done ⟨[], (none, 0)⟩ (fun a w s t => results_2 rfl (resv_tmp s rfl) (resv_tmp s rfl)) (fun w _ _ _ => optF_none _ _)
  ·
    have hs : sqb (shp m.zs) = true := by rw [← hsq]; simpa using hc
    obtain ⟨h1, h2, h3⟩ := sqr_rows hs
    have hNm : m.rs.length = N := by
      cases hq : shp m.zs with
      | none => rw [hq] at hs; simp [sqb] at hs
      | some rc =>
        have := (shp_inv (r := rc.1) (c := rc.2) hq).1
        rw [m.zs_len] at this
        rw [hN, hq, this]
        rfl
    refine tr_skip ?_
    repeat with_reducible first | refine tr_skip ?_ | refine tr_exit ?_ | refine tr_then ?_ | refine tr_inX ?_ | refine tr_thenX ?_ | refine tr_inN ?_ | refine tr_inR ?_ | refine tr_thenR ?_
    refine tr_seq ?_
    refine tr_rseq ?_
    refine sq_q (qt_load rfl (fun w t => t.atO 0 rfl rfl)) rfl ?_
    refine sq_q (qt_bin rfl rfl bin_eql) rfl ?_
    refine sq_end ?_
    refine tr_if rfl (fun hc => ?_) (fun hc => ?_)
    ·
      have hn1 : N = 1 := by have := of_decide_eq_true hc; omega
      have e : adjO m.zs = identO 1 := by unfold adjO; rw [if_pos hs, if_pos (by rw [m.zs_len]; omega)]
      rw [e]
      refine tr_rseq ?_
      refine sq_call (optV (identO 1)) (optF 1 (identO 1)) rfl rfl rfl (fun w t => identity_ret 1 w _) fun x => ?_
      refine sq_q (qt_extract rfl rfl) rfl ?_
      refine sq_q (qt_extract rfl rfl) rfl ?_
      refine sq_q (qt_assign rfl) rfl ?_
      refine sq_q (qt_assign rfl) rfl ?_
      refine sq_end ?_
      refine tr_ret ?_
      repeat with_reducible first | refine tr_skip ?_ | refine tr_exit ?_ | refine tr_then ?_ | refine tr_inX ?_ | refine tr_thenX ?_ | refine tr_inN ?_ | refine tr_inR ?_ | refine tr_thenR ?_
      exact tr_done x (fun a w s t => results_2 rfl (resv_tmp s rfl) (resv_tmp s rfl)) (fun w h _ _ => ⟨h.2.1.mono (by omega), h.2.2⟩)
    ·
      have hn1 : N ≠ 1 := by have := of_decide_eq_false hc; omega
      have e : adjO m.zs = some (grid (adjE m.zs N) N N) := by unfold adjO; rw [if_pos hs, if_neg (by rw [m.zs_len]; omega), m.zs_len, hNm]
      rw [e]
      refine tr_skip ?_
      repeat with_reducible first | refine tr_skip ?_ | refine tr_exit ?_ | refine tr_then ?_ | refine tr_inX ?_ | refine tr_thenX ?_ | refine tr_inN ?_ | refine tr_inR ?_ | refine tr_thenR ?_
      refine tr_rseq ?_
      refine sq_q (qt_load rfl (fun w t => t.atO 0 rfl rfl)) rfl ?_
      refine sq_q (qt_load rfl (fun w t => t.atO 0 rfl rfl)) rfl ?_
      refine sq_q (qt_makeFunc rfl) rfl ?_
      refine sq_call Mt.v (fun m' w => m'.ok 549755813887 w ∧ m'.zs = grid (adjE m.zs N) N N ∧ m'.can) rfl rfl rfl (fun w t => ?_) fun m' => ?_
      · exact build_ret N N 549755813887 (adjE m.zs N) 79 [] [.pointer (some ⟨r1, 0, none⟩), .pointer (some ⟨r4, 0, none⟩)] w _ (by omega) (by omega) (fun i j w' S' hi hj hbel => adj1_ret m B N r1 r4 i j w' S' ((t.mt hm).below hbel) hB hB1 hNm (by omega) (fun r hr => by rw [h3 r hr, hNm]) ((t.atO 1 rfl rfl).below hbel) ((t.atO 0 rfl rfl).below hbel) hi hj)
      refine sq_q (qt_assign rfl) rfl ?_
      refine sq_q (qt_assign rfl) rfl ?_
      refine sq_end ?_
      refine tr_ret ?_
      repeat with_reducible first | refine tr_skip ?_ | refine tr_exit ?_ | refine tr_then ?_ | refine tr_inX ?_ | refine tr_thenX ?_ | refine tr_inN ?_ | refine tr_inR ?_ | refine tr_thenR ?_
      exact tr_done m' (fun a w s t => results_2 rfl (resv_tmp s rfl) (resv_tmp s rfl)) (fun w h _ _ => h.2)
end Go.Qk
end
section
set_option linter.unusedVariables false
namespace Go.Qk
open Go Go.Proofs Go.RowKit
def invE (L : List (List Int)) (d : Int) (i j : Nat) : Int := ent ((adjO L).getD []) i j * d
def invO (L : List (List Int)) : Option (List (List Int)) := if sqb (shp L) = true then (if bdet L.length (ent L) = 1 ∨ bdet L.length (ent L) = -1 then some (grid (invE L (bdet L.length (ent L))) L.length L.length) else none) else none
theorem adjO_rows {L : List (List Int)} (h : sqb (shp L) = true) : ∃ g, adjO L = some (grid g L.length L.length) := by
  unfold adjO
  rw [if_pos h]
  by_cases h1 : L.length = 1
  · rw [if_pos h1, h1]
    exact ⟨ident, rfl⟩
  · rw [if_neg h1]
    exact ⟨_, rfl⟩
theorem int64_iv (z : Int) (p : Sv) (w : World) (S : Nat → Prop) (h : Lz z.natAbs p w) (hb : nl z.natAbs ≤ 35184372088832) :
    Ret Try.prog 85 [iv z p] w S (fun _ : Unit => int64V z) (fun _ _ => True) := by
  have h := int64_ret (decide (z < 0)) (limbsOf z.natAbs) p w S h (lim_limbsOf _) hb
  rwa [val_limbsOf, sgn_self] at h
end Go.Qk
end
section
set_option linter.unusedVariables false
namespace Go.Qk
open Go Go.Proofs Go.RowKit
set_option maxRecDepth 100000
set_option maxHeartbeats 4000000
theorem inv1_ret (m : Mt) (B b2 b3 i j : Nat) (d : Int) (w : World) (S : Nat → Prop) (hm : m.ok B w) (hB : B ≤ 35184372088830) (h2 : At b2 0 m.v w) (h3 : At b3 0 (.int .i64 d) w) (hd : In64 d) (hi : i < m.rs.length) (hj : j < m.rs[i].l.length) :
    Ret Try.prog 86 [.int .i64 (i : Int), .int .i64 (j : Int), .pointer (some ⟨b2, 0, none⟩), .pointer (some ⟨b3, 0, none⟩)] w S (iv (ent m.zs i j * d)) (fun p w => Lz (ent m.zs i j * d).natAbs p w ∧ nl (ent m.zs i j * d).natAbs ≤ B + 2) := by
  obtain ⟨ro, oo, evm, hat⟩ := hm.at_ (show 0 < m.rs.length by omega)
  obtain ⟨rr, orr, evr, hatr⟩ := (hm.2.2 _ (List.getElem_mem hi)).at_ (show 0 < m.rs[i].l.length by omega)
  rw [evm] at h2
  have hr := hat i hi
  rw [evr] at hr
  obtain ⟨hz0, hz1⟩ := hatr j hj
  have hzok := (hm.2.2 _ (List.getElem_mem hi)).2.2 _ (List.getElem_mem hj)
  have hent : ent m.zs i j = m.rs[i].l[j].z := by
    rw [ent_at (by rw [m.zs_len]; exact hi) (by rw [m.zs_at hi, Rw.zs_len]; exact hj)]
    simp [m.zs_at hi, Rw.zs]
  rw [hent]
  have hbd : nl (m.rs[i].l[j].z * d).natAbs ≤ B + 2 := by
    have h1 := nl_imul m.rs[i].l[j].z d
    have h2 := nl_zd hzok
    have h3 := nl_64 hd
    omega
  refine ret_of Try.func86 rfl Try.ntmps86 rfl ?_
  refine tr_rseq ?_
  refine sq_alloc rfl fun r6 => ?_
  refine sq_end ?_
  refine tr_rdraw 10 [] [] [0, 1, 2, 3, 6, 16] (by kernel_rfl) ?_
  refine dx_q rfl (qt_load rfl (fun w t => t.atA h2)) rfl ?_
  refine dx_q rfl (qt_move rfl) rfl ?_
  refine dx_q rfl (qt_index (i := i) rfl rfl hi) rfl ?_
  refine dx_q rfl (qt_load rfl (fun w t => t.a1 hr)) rfl ?_
  refine dx_q rfl (qt_move rfl) rfl ?_
  refine dx_q rfl (qt_index (i := j) rfl rfl hj) rfl ?_
  refine dx_q rfl (qt_load2 rfl (fun w t => t.atA hz0) (fun w t => t.atA hz1)) rfl ?_
  refine dx_q rfl (qt_load rfl (fun w t => t.atA h3)) rfl ?_
  refine dx_call (iv d) (Lz d.natAbs) rfl rfl rfl (fun w t => small_ret d w _ hd.1 hd.2) ?_
  refine dx_call1 15 (iv (m.rs[i].l[j].z * d)) (Lz (m.rs[i].l[j].z * d).natAbs) rfl rfl (by simp) rfl (fun _ => rfl) (fun _ => rfl) (fun y w t => by have h := fun S' => mul_zd (S := S') (t.zd hzok) (zd_ok t.r.2 (nl_64 hd)) (by omega); rw [zd_z] at h; exact h _) ?_
  refine dx_nil ?_
  repeat (first | refine es_val rfl ?_ rfl | refine es_skip rfl ?_)
  refine es_res rfl (fun x16 => ?_) rfl
  repeat (first | refine es_val rfl ?_ rfl | refine es_skip rfl ?_)
  refine es_nil rfl ?_
  refine tx_store 0 rfl rfl rfl rfl (by first | (simp [u32s, Value.cells]; done) | (simp [u32s, Value.cells]; omega) | exact Nat.le_refl 2) rfl rfl rfl ?_
  refine tx_endk ?_
  refine tr_ret ?_
  repeat with_reducible first | refine tr_skip ?_ | refine tr_exit ?_ | refine tr_then ?_ | refine tr_inX ?_ | refine tr_thenX ?_ | refine tr_inN ?_ | refine tr_inR ?_ | refine tr_thenR ?_
  exact tr_done x16 (fun a w s t => results_1 rfl (resv_cell 0 s t rfl rfl rfl)) (fun w h _ _ => ⟨h.2, hbd⟩)
end Go.Qk
end
