/- Lemmas and contracts of functions that the law reaches: A2, Oq, La, De1, Mb, A4, A5, Mc, A6, A7, De2, Me, A8, Mf, A9. -/
import Derived.Test.YtencodepmbhpiaaGc6
import Derived.ChangeSame
set_option linter.unusedVariables false
set_option linter.unusedSimpArgs false
section
/- Add of the reference -/
set_option linter.unusedVariables false
namespace Go.Qk
open Go Go.Proofs Go.RowKit
set_option maxRecDepth 100000
set_option maxHeartbeats 4000000

theorem rmadd_ret (m m' : Mt) (B : Nat) (w0 : World) (S : Nat → Prop) (hm : m.ok B w0) (hm' : m'.ok B w0) (hB : B ≤ 35184372088830) (hl : m.rs.length ≤ 35184372088832) (hr : ∀ r ∈ m.rs, r.l.length ≤ 35184372088832) (hl' : m'.rs.length ≤ 35184372088832) (hr' : ∀ r ∈ m'.rs, r.l.length ≤ 35184372088832) :
    Ret Try.prog 47 [m.v, m'.v] w0 S (optV (addO m.zs m'.zs)) (optF (B + 1) (addO m.zs m'.zs)) := by
  obtain ⟨o, ho⟩ : ∃ o, o = shp m.zs := ⟨_, rfl⟩
  obtain ⟨o', ho'⟩ : ∃ o, o = shp m'.zs := ⟨_, rfl⟩
  have hO : addO m.zs m'.zs = addP o o' m.zs m'.zs := by rw [ho, ho']; rfl
  rw [hO]
  clear hO
  refine ret_of Try.func47 rfl Try.ntmps47 rfl ?_
  refine tr_rseq ?_   -- region 0
  refine sq_q (qt_assign rfl) rfl ?_   -- t4
  refine sq_q (qt_assign rfl) rfl ?_   -- t5
  refine sq_end ?_
  refine tr_rseq ?_   -- region 1
  refine sq_q (qt_move rfl) rfl ?_   -- t16
  refine sq_call (val := fun _ : Unit => shpV o) (F := fun _ _ => True) rfl rfl rfl (fun w t => by rw [ho]; exact rshape_ret m B w _ (t.mt hm) hl hr) fun _ => ?_   -- t17
  refine sq_q (qt_move rfl) rfl ?_   -- t15
  refine sq_q (qt_extract rfl rfl) rfl ?_   -- t18
  refine sq_q (qt_extract rfl rfl) rfl ?_   -- t19
  refine sq_q (qt_extract rfl rfl) rfl ?_   -- t20
  refine sq_q (qt_assign rfl) rfl ?_   -- t6
  refine sq_q (qt_assign rfl) rfl ?_   -- t7
  refine sq_q (qt_assign rfl) rfl ?_   -- t8
  refine sq_end ?_
  refine tr_rseq ?_   -- region 2
  refine sq_q (qt_move rfl) rfl ?_   -- t22
  refine sq_call (val := fun _ : Unit => shpV o') (F := fun _ _ => True) rfl rfl rfl (fun w t => by rw [ho']; exact rshape_ret m' B w _ (t.mt hm') hl' hr') fun _ => ?_   -- t23
  refine sq_q (qt_move rfl) rfl ?_   -- t21
  refine sq_q (qt_extract rfl rfl) rfl ?_   -- t24
  refine sq_q (qt_extract rfl rfl) rfl ?_   -- t25
  refine sq_q (qt_extract rfl rfl) rfl ?_   -- t26
  refine sq_q (qt_assign rfl) rfl ?_   -- t9
  refine sq_q (qt_assign rfl) rfl ?_   -- t10
  refine sq_q (qt_assign rfl) rfl ?_   -- t11
  refine sq_end ?_
  refine tr_seq ?_   -- C1
  have hcs : o = none ∨ (∃ r c, o = some (r, c) ∧ o' = none) ∨ (∃ r c r' c', o = some (r, c) ∧ o' = some (r', c') ∧ r ≠ r') ∨ (∃ r c c', o = some (r, c) ∧ o' = some (r, c') ∧ c ≠ c') ∨ (∃ r c, o = some (r, c) ∧ o' = some (r, c)) := by
    cases o with
    | none => exact .inl rfl
    | some x =>
      cases o' with
      | none => exact .inr (.inl ⟨x.1, x.2, rfl, rfl⟩)
      | some y =>
        obtain ⟨r, c⟩ := x
        obtain ⟨r', c'⟩ := y
        by_cases h1 : r = r'
        · subst h1
          by_cases h2 : c = c'
          · subst h2; exact .inr (.inr (.inr (.inr ⟨_, _, rfl, rfl⟩)))
          · exact .inr (.inr (.inr (.inl ⟨_, _, _, rfl, rfl, h2⟩)))
        · exact .inr (.inr (.inl ⟨_, _, _, _, rfl, rfl, h1⟩))
  rcases hcs with h1 | ⟨r, c, h1, h2⟩ | ⟨r, c, r', c', h1, h2, h3⟩ | ⟨r, c, c', h1, h2, h3⟩ | ⟨r, c, h1, h2⟩
  ·
    subst h1
    rw [show addP none o' m.zs m'.zs = none from rfl]
    refine tr_rseq ?_   -- region 3
    refine sq_q (qt_move rfl) rfl ?_   -- t27
    refine sq_q (qt_not rfl) rfl ?_   -- t28
    refine sq_q (qt_move rfl) rfl ?_   -- t29
    refine sq_gF rfl rfl rfl rfl ?_
    refine sq_gF rfl rfl rfl rfl ?_
    refine sq_q (qt_pick rfl rfl) rfl ?_   -- t32
    refine sq_q (qt_move rfl) rfl ?_   -- t33
    refine sq_gF rfl rfl rfl rfl ?_
    refine sq_gF rfl rfl rfl rfl ?_
    refine sq_gF rfl rfl rfl rfl ?_
    refine sq_q (qt_pick rfl rfl) rfl ?_   -- t37
    refine sq_q (qt_move rfl) rfl ?_   -- t38
    refine sq_gF rfl rfl rfl rfl ?_
    refine sq_gF rfl rfl rfl rfl ?_
    refine sq_gF rfl rfl rfl rfl ?_
    refine sq_q (qt_pick rfl rfl) rfl ?_   -- t42
    refine sq_end ?_
    refine tr_ifT rfl ?_
    refine tr_rseq ?_   -- region 4
    refine sq_q (qt_assign rfl) rfl ?_   -- t4
    refine sq_q (qt_assign rfl) rfl ?_   -- t5
    refine sq_end ?_
    refine tr_ret ?_
    repeat (first | (with_reducible refine tr_skip ?_) | (with_reducible refine tr_exit ?_) | (with_reducible refine tr_then ?_) | (with_reducible refine tr_inX ?_) | (with_reducible refine tr_thenX ?_) | (with_reducible refine tr_inN ?_) | (with_reducible refine tr_inR ?_) | (with_reducible refine tr_thenR ?_))
    exact tr_done ⟨[], (none, 0)⟩ (fun a w s t => results_2 rfl (resv_tmp s rfl) (resv_tmp s rfl)) (fun w _ _ _ => optF_none _ _)
  ·
    subst h1
    subst h2
    rw [show addP (some (r, c)) none m.zs m'.zs = none from rfl]
    refine tr_rseq ?_   -- region 3
    refine sq_q (qt_move rfl) rfl ?_   -- t27
    refine sq_q (qt_not rfl) rfl ?_   -- t28
    refine sq_q (qt_move rfl) rfl ?_   -- t29
    refine sq_gT rfl rfl ?_
    refine sq_q (qt_move rfl) rfl ?_   -- t30
    refine sq_gT rfl rfl ?_
    refine sq_q (qt_not rfl) rfl ?_   -- t31
    refine sq_q (qt_pick rfl rfl) rfl ?_   -- t32
    refine sq_q (qt_move rfl) rfl ?_   -- t33
    refine sq_gF rfl rfl rfl rfl ?_
    refine sq_gF rfl rfl rfl rfl ?_
    refine sq_gF rfl rfl rfl rfl ?_
    refine sq_q (qt_pick rfl rfl) rfl ?_   -- t37
    refine sq_q (qt_move rfl) rfl ?_   -- t38
    refine sq_gF rfl rfl rfl rfl ?_
    refine sq_gF rfl rfl rfl rfl ?_
    refine sq_gF rfl rfl rfl rfl ?_
    refine sq_q (qt_pick rfl rfl) rfl ?_   -- t42
    refine sq_end ?_
    refine tr_ifT rfl ?_
    refine tr_rseq ?_   -- region 4
    refine sq_q (qt_assign rfl) rfl ?_   -- t4
    refine sq_q (qt_assign rfl) rfl ?_   -- t5
    refine sq_end ?_
    refine tr_ret ?_
    repeat (first | (with_reducible refine tr_skip ?_) | (with_reducible refine tr_exit ?_) | (with_reducible refine tr_then ?_) | (with_reducible refine tr_inX ?_) | (with_reducible refine tr_thenX ?_) | (with_reducible refine tr_inN ?_) | (with_reducible refine tr_inR ?_) | (with_reducible refine tr_thenR ?_))
    exact tr_done ⟨[], (none, 0)⟩ (fun a w s t => results_2 rfl (resv_tmp s rfl) (resv_tmp s rfl)) (fun w _ _ _ => optF_none _ _)
  ·
    subst h1
    subst h2
    rw [show addP (some (r, c)) (some (r', c')) m.zs m'.zs = none from if_neg (fun h => h3 h.1)]
    refine tr_rseq ?_   -- region 3
    refine sq_q (qt_move rfl) rfl ?_   -- t27
    refine sq_q (qt_not rfl) rfl ?_   -- t28
    refine sq_q (qt_move rfl) rfl ?_   -- t29
    refine sq_gT rfl rfl ?_
    refine sq_q (qt_move rfl) rfl ?_   -- t30
    refine sq_gT rfl rfl ?_
    refine sq_q (qt_not rfl) rfl ?_   -- t31
    refine sq_q (qt_pick rfl rfl) rfl ?_   -- t32
    refine sq_q (qt_move rfl) rfl ?_   -- t33
    refine sq_gT rfl rfl ?_
    refine sq_q (qt_move rfl) rfl ?_   -- t34
    refine sq_gT rfl rfl ?_
    refine sq_q (qt_move rfl) rfl ?_   -- t35
    refine sq_gT rfl rfl ?_
    refine sq_q (qt_bin rfl rfl (bT bin_neq (by simp only [Option.getD_some]; omega))) rfl ?_   -- t36
    refine sq_q (qt_pick rfl rfl) rfl ?_   -- t37
    refine sq_q (qt_move rfl) rfl ?_   -- t38
    refine sq_gF rfl rfl rfl rfl ?_
    refine sq_gF rfl rfl rfl rfl ?_
    refine sq_gF rfl rfl rfl rfl ?_
    refine sq_q (qt_pick rfl rfl) rfl ?_   -- t42
    refine sq_end ?_
    refine tr_ifT rfl ?_
    refine tr_rseq ?_   -- region 4
    refine sq_q (qt_assign rfl) rfl ?_   -- t4
    refine sq_q (qt_assign rfl) rfl ?_   -- t5
    refine sq_end ?_
    refine tr_ret ?_
    repeat (first | (with_reducible refine tr_skip ?_) | (with_reducible refine tr_exit ?_) | (with_reducible refine tr_then ?_) | (with_reducible refine tr_inX ?_) | (with_reducible refine tr_thenX ?_) | (with_reducible refine tr_inN ?_) | (with_reducible refine tr_inR ?_) | (with_reducible refine tr_thenR ?_))
    exact tr_done ⟨[], (none, 0)⟩ (fun a w s t => results_2 rfl (resv_tmp s rfl) (resv_tmp s rfl)) (fun w _ _ _ => optF_none _ _)
  ·
    subst h1
    subst h2
    rw [show addP (some (r, c)) (some (r, c')) m.zs m'.zs = none from if_neg (fun h => h3 h.2)]
    refine tr_rseq ?_   -- region 3
    refine sq_q (qt_move rfl) rfl ?_   -- t27
    refine sq_q (qt_not rfl) rfl ?_   -- t28
    refine sq_q (qt_move rfl) rfl ?_   -- t29
    refine sq_gT rfl rfl ?_
    refine sq_q (qt_move rfl) rfl ?_   -- t30
    refine sq_gT rfl rfl ?_
    refine sq_q (qt_not rfl) rfl ?_   -- t31
    refine sq_q (qt_pick rfl rfl) rfl ?_   -- t32
    refine sq_q (qt_move rfl) rfl ?_   -- t33
    refine sq_gT rfl rfl ?_
    refine sq_q (qt_move rfl) rfl ?_   -- t34
    refine sq_gT rfl rfl ?_
    refine sq_q (qt_move rfl) rfl ?_   -- t35
    refine sq_gT rfl rfl ?_
    refine sq_q (qt_bin rfl rfl (bF bin_neq (by simp only [Option.getD_some]; omega))) rfl ?_   -- t36
    refine sq_q (qt_pick rfl rfl) rfl ?_   -- t37
    refine sq_q (qt_move rfl) rfl ?_   -- t38
    refine sq_gT rfl rfl ?_
    refine sq_q (qt_move rfl) rfl ?_   -- t39
    refine sq_gT rfl rfl ?_
    refine sq_q (qt_move rfl) rfl ?_   -- t40
    refine sq_gT rfl rfl ?_
    refine sq_q (qt_bin rfl rfl (bT bin_neq (by simp only [Option.getD_some]; omega))) rfl ?_   -- t41
    refine sq_q (qt_pick rfl rfl) rfl ?_   -- t42
    refine sq_end ?_
    refine tr_ifT rfl ?_
    refine tr_rseq ?_   -- region 4
    refine sq_q (qt_assign rfl) rfl ?_   -- t4
    refine sq_q (qt_assign rfl) rfl ?_   -- t5
    refine sq_end ?_
    refine tr_ret ?_
    repeat (first | (with_reducible refine tr_skip ?_) | (with_reducible refine tr_exit ?_) | (with_reducible refine tr_then ?_) | (with_reducible refine tr_inX ?_) | (with_reducible refine tr_thenX ?_) | (with_reducible refine tr_inN ?_) | (with_reducible refine tr_inR ?_) | (with_reducible refine tr_thenR ?_))
    exact tr_done ⟨[], (none, 0)⟩ (fun a w s t => results_2 rfl (resv_tmp s rfl) (resv_tmp s rfl)) (fun w _ _ _ => optF_none _ _)
  ·
    subst h1
    subst h2
    rw [show addP (some (r, c)) (some (r, c)) m.zs m'.zs = some (grid (addE m.zs m'.zs) r c) from if_pos ⟨rfl, rfl⟩]
    obtain ⟨g1, g2, g3, g4, g5, g6⟩ := mt_shp ho.symm
    obtain ⟨g1', _, _, _, _, g6'⟩ := mt_shp ho'.symm
    refine tr_rseq ?_   -- region 3
    refine sq_q (qt_move rfl) rfl ?_   -- t27
    refine sq_q (qt_not rfl) rfl ?_   -- t28
    refine sq_q (qt_move rfl) rfl ?_   -- t29
    refine sq_gT rfl rfl ?_
    refine sq_q (qt_move rfl) rfl ?_   -- t30
    refine sq_gT rfl rfl ?_
    refine sq_q (qt_not rfl) rfl ?_   -- t31
    refine sq_q (qt_pick rfl rfl) rfl ?_   -- t32
    refine sq_q (qt_move rfl) rfl ?_   -- t33
    refine sq_gT rfl rfl ?_
    refine sq_q (qt_move rfl) rfl ?_   -- t34
    refine sq_gT rfl rfl ?_
    refine sq_q (qt_move rfl) rfl ?_   -- t35
    refine sq_gT rfl rfl ?_
    refine sq_q (qt_bin rfl rfl (bF bin_neq (by simp only [Option.getD_some]; omega))) rfl ?_   -- t36
    refine sq_q (qt_pick rfl rfl) rfl ?_   -- t37
    refine sq_q (qt_move rfl) rfl ?_   -- t38
    refine sq_gT rfl rfl ?_
    refine sq_q (qt_move rfl) rfl ?_   -- t39
    refine sq_gT rfl rfl ?_
    refine sq_q (qt_move rfl) rfl ?_   -- t40
    refine sq_gT rfl rfl ?_
    refine sq_q (qt_bin rfl rfl (bF bin_neq (by simp only [Option.getD_some]; omega))) rfl ?_   -- t41
    refine sq_q (qt_pick rfl rfl) rfl ?_   -- t42
    refine sq_end ?_
    refine tr_ifF rfl ?_
    refine tr_skip ?_
    repeat (first | (with_reducible refine tr_skip ?_) | (with_reducible refine tr_exit ?_) | (with_reducible refine tr_then ?_) | (with_reducible refine tr_inX ?_) | (with_reducible refine tr_thenX ?_) | (with_reducible refine tr_inN ?_) | (with_reducible refine tr_inR ?_) | (with_reducible refine tr_thenR ?_))
    refine tr_rseq ?_   -- region 5
    refine sq_q (qt_move rfl) rfl ?_   -- t43
    refine sq_q (qt_move rfl) rfl ?_   -- t44
    refine sq_call (fun x : Nat × List Wr => .slice (some ⟨x.1, 0, none⟩) r r) (fun x w' => Fresh w0.heap.size (mown x.1 x.2) w' ∧ x.2.map (·.2) = List.replicate r (List.replicate c z0)) rfl rfl rfl (fun w t => zero_call t r c (by omega) (by omega)) fun x => ?_   -- t45
    refine sq_q (qt_assign rfl) rfl ?_   -- t12
    refine sq_end ?_
    obtain ⟨ob, qs⟩ := x
    refine tr_have (fun w t => t.r.2.2) fun hqs => ?_
    refine tr_adopt0 (mown ob qs) (fun w h => h.2.1) ?_
    obtain ⟨ro, oo, evm, hat⟩ := hm.at_ (show 0 < m.rs.length by omega)
    obtain ⟨ro', oo', evm', hat'⟩ := hm'.at_ (show 0 < m'.rs.length by omega)
    refine tr_seq ?_   -- C2
    refine tr_rseq ?_   -- region 6
    refine sq_q (qt_move rfl) rfl ?_   -- t46
    refine sq_q (qt_len rfl) rfl ?_   -- t47
    refine sq_q (qt_move rfl) rfl ?_   -- t48
    refine sq_end ?_
    refine tr_block ?_
    refine tr_loop2 (fun (i : Nat) (qs : List Wr) => i ≤ r ∧ MG (fun a b => if a < i then addE m.zs m'.zs a b else 0) r c qs ∧ allz Zd.can qs) (fun i qs => [(0, m.v), (1, m'.v), (12, .slice (some ⟨ob, 0, none⟩) r r), (47, .int .i64 (r : Int)), (48, .int .i64 (i : Int))])
      (fun i qs => mown ob qs) (fun i qs w => allz (fun z => z.ok (B + 1) w) qs) (fun i qs => r - i) 0 qs ⟨Nat.zero_le _, (MG.of_zero hqs).congr (fun a b _ _ => by rw [if_neg (by omega)]), allz.of_zero hqs z0_can⟩ ⟨rfl, rfl, rfl, congrArg (fun z => some (Value.int .i64 ((z : Nat) : Int))) g1, rfl, trivial⟩ rfl (fun w _ => allz.of_zero hqs (z0_ok (B + 1) w)) ?_
    clear hqs qs
    rintro i qs ⟨hle, hG, hcan⟩
    refine tr_rseq ?_   -- region 7
    refine sq_q (qt_bin rfl rfl bin_lss) rfl ?_   -- t49
    refine sq_end ?_
    refine tr_seq ?_   -- C3
    refine tr_if rfl (fun hc => ?_) (fun hc => ?_)
    ·
      have hlt : i < r := by have := of_decide_eq_true hc; omega
      have hmi : i < m.rs.length := by omega
      have hmi' : i < m'.rs.length := by omega
      have hcl := g6 _ (List.getElem_mem hmi)
      have hcl' := g6' _ (List.getElem_mem hmi')
      obtain ⟨rr, orr, evr, hatr⟩ := (hm.2.2 _ (List.getElem_mem hmi)).at_ (show 0 < m.rs[i].l.length by omega)
      obtain ⟨rr', orr', evr', hatr'⟩ := (hm'.2.2 _ (List.getElem_mem hmi')).at_ (show 0 < m'.rs[i].l.length by omega)
      have hrw := hat i hmi
      have hrw' := hat' i hmi'
      rw [evr] at hrw
      rw [evr'] at hrw'
      refine tr_sub [(0, .slice (some ⟨ro, oo, none⟩) m.rs.length m.p.2), (1, .slice (some ⟨ro', oo', none⟩) m'.rs.length m'.p.2), (12, .slice (some ⟨ob, 0, none⟩) r r), (47, .int .i64 (r : Int)), (48, .int .i64 (i : Int))] ⟨congrArg some evm, congrArg some evm', rfl, rfl, rfl, trivial⟩ ?_
      refine tr_skip ?_
      repeat (first | (with_reducible refine tr_skip ?_) | (with_reducible refine tr_exit ?_) | (with_reducible refine tr_then ?_) | (with_reducible refine tr_inX ?_) | (with_reducible refine tr_thenX ?_) | (with_reducible refine tr_inN ?_) | (with_reducible refine tr_inR ?_) | (with_reducible refine tr_thenR ?_))
      refine tr_seq ?_   -- C4
      refine tr_block ?_
      refine tr_rseq ?_   -- region 8
      refine sq_q (qt_move rfl) rfl ?_   -- t50
      refine sq_q (qt_assign rfl) rfl ?_   -- t13
      refine sq_end ?_
      refine tr_rseq ?_   -- region 9
      refine sq_q (qt_move rfl) rfl ?_   -- t51
      refine sq_q (qt_move rfl) rfl ?_   -- t52
      refine sq_q (qt_index (i := i) rfl rfl hmi) rfl ?_   -- t53
      refine sq_q (qt_load rfl (fun w t => t.a1 hrw)) rfl ?_   -- t54
      refine sq_q (qt_len rfl) rfl ?_   -- t55
      refine sq_q (qt_move rfl) rfl ?_   -- t56
      refine sq_end ?_
      refine tr_block ?_
      have hG0 : MG (fun a b => if a < i ∨ (a = i ∧ b < 0) then addE m.zs m'.zs a b else 0) r c qs := hG.congr fun a b _ _ => by
        by_cases h : a < i
        · rw [if_pos h, if_pos (.inl h)]
        · rw [if_neg h, if_neg (by omega)]
      refine tr_loop2 (fun (j : Nat) (qs : List Wr) => j ≤ c ∧ MG (fun a b => if a < i ∨ (a = i ∧ b < j) then addE m.zs m'.zs a b else 0) r c qs ∧ allz Zd.can qs) (fun j qs => [(0, .slice (some ⟨ro, oo, none⟩) m.rs.length m.p.2), (1, .slice (some ⟨ro', oo', none⟩) m'.rs.length m'.p.2), (12, .slice (some ⟨ob, 0, none⟩) r r), (13, .int .i64 (i : Int)), (47, .int .i64 (r : Int)), (48, .int .i64 (i : Int)), (55, .int .i64 (c : Int)), (56, .int .i64 (j : Int))])
        (fun j qs => mown ob qs) (fun j qs w => allz (fun z => z.ok (B + 1) w) qs) (fun j qs => c - j) 0 qs ⟨Nat.zero_le _, hG0, hcan⟩ ⟨rfl, rfl, rfl, rfl, rfl, rfl, congrArg (fun z => some (Value.int .i64 ((z : Nat) : Int))) hcl, rfl, trivial⟩ rfl (fun w h => h) ?_
      clear hG0 hG hcan qs
      rintro j qs ⟨hjc, hG, hcan⟩
      refine tr_rseq ?_   -- region 10
      refine sq_q (qt_bin rfl rfl bin_lss) rfl ?_   -- t57
      refine sq_end ?_
      refine tr_seq ?_   -- C5
      refine tr_if rfl (fun hc => ?_) (fun hc => ?_)
      ·
        have hlt2 : j < c := by have := of_decide_eq_true hc; omega
        have hjl : j < m.rs[i].l.length := by omega
        have hjl' : j < m'.rs[i].l.length := by omega
        obtain ⟨hz0, hz1⟩ := hatr j hjl
        obtain ⟨hz0', hz1'⟩ := hatr' j hjl'
        have hzok := (hm.2.2 _ (List.getElem_mem hmi)).2.2 _ (List.getElem_mem hjl)
        have hzok' := (hm'.2.2 _ (List.getElem_mem hmi')).2.2 _ (List.getElem_mem hjl')
        have he : m.rs[i].l[j].z + m'.rs[i].l[j].z = addE m.zs m'.zs i j := by unfold addE; rw [mt_ent hmi hjl, mt_ent hmi' hjl']
        have hbd : nl (addE m.zs m'.zs i j).natAbs ≤ B + 1 := by
          rw [← he]
          have h1 := nl_iadd m.rs[i].l[j].z m'.rs[i].l[j].z
          have h2 := nl_zd hzok
          have h3 := nl_zd hzok'
          omega
        obtain ⟨q, hq, hql⟩ := hG.get hlt
        refine tr_skip ?_
        repeat (first | (with_reducible refine tr_skip ?_) | (with_reducible refine tr_exit ?_) | (with_reducible refine tr_then ?_) | (with_reducible refine tr_inX ?_) | (with_reducible refine tr_thenX ?_) | (with_reducible refine tr_inN ?_) | (with_reducible refine tr_inR ?_) | (with_reducible refine tr_thenR ?_))
        refine tr_seq ?_   -- C6
        refine tr_block ?_
        refine tr_rseq ?_   -- region 11
        refine sq_q (qt_move rfl) rfl ?_   -- t58
        refine sq_q (qt_assign rfl) rfl ?_   -- t14
        refine sq_end ?_
        refine tr_draw 20 [] [] [0, 1, 4, 5, 6, 7, 8, 9, 10, 11, 12, 13, 14, 42, 47, 48, 49, 55, 56, 57, 62, 63, 78] (by kernel_rfl) ?_   -- region 12
        refine dx_q rfl (qt_move rfl) rfl ?_   -- t59
        refine dx_q rfl (qt_move rfl) rfl ?_   -- t60
        refine dx_q rfl (qt_index (i := i) rfl rfl hlt) rfl ?_   -- t61
        refine dx_q rfl (qt_load rfl (fun w t => t.o1 0 rfl (mout_get hq))) rfl ?_   -- t62
        refine dx_q rfl (qt_move rfl) rfl ?_   -- t63
        refine dx_q rfl (qt_move rfl) rfl ?_   -- t64
        refine dx_q rfl (qt_move rfl) rfl ?_   -- t65
        refine dx_q rfl (qt_index (i := i) rfl rfl hmi) rfl ?_   -- t66
        refine dx_q rfl (qt_load rfl (fun w t => t.a1 hrw)) rfl ?_   -- t67
        refine dx_q rfl (qt_move rfl) rfl ?_   -- t68
        refine dx_q rfl (qt_index (i := j) rfl rfl hjl) rfl ?_   -- t69
        refine dx_q rfl (qt_load2 rfl (fun w t => t.atA hz0) (fun w t => t.atA hz1)) rfl ?_   -- t70
        refine dx_q rfl (qt_move rfl) rfl ?_   -- t71
        refine dx_q rfl (qt_move rfl) rfl ?_   -- t72
        refine dx_q rfl (qt_index (i := i) rfl rfl hmi') rfl ?_   -- t73
        refine dx_q rfl (qt_load rfl (fun w t => t.a1 hrw')) rfl ?_   -- t74
        refine dx_q rfl (qt_move rfl) rfl ?_   -- t75
        refine dx_q rfl (qt_index (i := j) rfl rfl hjl') rfl ?_   -- t76
        refine dx_q rfl (qt_load2 rfl (fun w t => t.atA hz0') (fun w t => t.atA hz1')) rfl ?_   -- t77
        refine dx_call (iv (addE m.zs m'.zs i j)) (Lz (addE m.zs m'.zs i j).natAbs) rfl rfl rfl (fun w t => by rw [← he]; exact radd_zd (t.zd hzok) (t.zd hzok') (by omega) (by omega)) ?_   -- t78
        refine dx_nil ?_
        repeat (first | refine es_val rfl ?_ rfl | refine es_skip rfl ?_)
        refine es_res rfl (fun x => ?_) rfl
        repeat (first | refine es_val rfl ?_ rfl | refine es_skip rfl ?_)
        refine es_nil rfl ?_
        refine tx_q (qt_index (i := j) rfl rfl (by omega)) rfl rfl rfl ?_   -- t79
        refine tx_store (i + 1) rfl rfl (mown_at hq) rfl (show 0 + j * 2 + 2 ≤ (zcs q.2).length by rw [zcs_length, hql]; omega) rfl rfl rfl ?_   -- _
        refine tx_end ?_
        repeat (first | (with_reducible refine tr_skip ?_) | (with_reducible refine tr_exit ?_) | (with_reducible refine tr_then ?_) | (with_reducible refine tr_inX ?_) | (with_reducible refine tr_thenX ?_) | (with_reducible refine tr_inN ?_) | (with_reducible refine tr_inR ?_) | (with_reducible refine tr_thenR ?_))
        refine tr_region ?_   -- region 13
        refine sq_q (qt_bin rfl rfl (bin_addI (by omega) (by omega))) rfl ?_   -- t80
        refine sq_q (qt_move rfl) rfl ?_   -- t56
        refine sq_nil ?_
        repeat (first | (with_reducible refine tr_skip ?_) | (with_reducible refine tr_exit ?_) | (with_reducible refine tr_then ?_) | (with_reducible refine tr_inX ?_) | (with_reducible refine tr_thenX ?_) | (with_reducible refine tr_inN ?_) | (with_reducible refine tr_inR ?_) | (with_reducible refine tr_thenR ?_))
        refine tr_own (mown ob (qs.set i (q.1, q.2.set j (zd (addE m.zs m'.zs i j) x)))) (mown_wr (zd (addE m.zs m'.zs i j) x) hq (by omega)) ?_
        refine tr_round2 (j + 1) (qs.set i (q.1, q.2.set j (zd (addE m.zs m'.zs i j) x))) ⟨by omega, (hG.set hq (zd (addE m.zs m'.zs i j) x) (addE m.zs m'.zs i j) (zd_z _ _)).congr (fun a b _ _ => ?_), hcan.set hq (zd_can _ _)⟩ (by omega) ⟨rfl, rfl, rfl, rfl, rfl, rfl, rfl, rfl, trivial⟩ rfl (fun w h => h.1.set hq (zd_ok h.2 hbd))
        unfold gset
        dsimp only
        split
        · rename_i h; rw [if_pos (by omega), h.1, h.2]
        · rename_i h
          by_cases h' : a < i ∨ (a = i ∧ b < j)
          · rw [if_pos h', if_pos (by omega)]
          · rw [if_neg h', if_neg (by omega)]
      ·
        have hje : j = c := by have := of_decide_eq_false hc; omega
        refine tr_exit ?_
        repeat (first | (with_reducible refine tr_skip ?_) | (with_reducible refine tr_exit ?_) | (with_reducible refine tr_then ?_) | (with_reducible refine tr_inX ?_) | (with_reducible refine tr_thenX ?_) | (with_reducible refine tr_inN ?_) | (with_reducible refine tr_inR ?_) | (with_reducible refine tr_thenR ?_))
        refine tr_region ?_   -- region 14
        refine sq_q (qt_bin rfl rfl (bin_addI (by omega) (by omega))) rfl ?_   -- t81
        refine sq_q (qt_move rfl) rfl ?_   -- t48
        refine sq_nil ?_
        repeat (first | (with_reducible refine tr_skip ?_) | (with_reducible refine tr_exit ?_) | (with_reducible refine tr_then ?_) | (with_reducible refine tr_inX ?_) | (with_reducible refine tr_thenX ?_) | (with_reducible refine tr_inN ?_) | (with_reducible refine tr_inR ?_) | (with_reducible refine tr_thenR ?_))
        refine tr_round2 (i + 1) qs ⟨by omega, hG.congr (fun a b ha hb => ?_), hcan⟩ (by omega) ⟨congrArg some evm.symm, congrArg some evm'.symm, rfl, rfl, rfl, trivial⟩ rfl (fun w h => h)
        by_cases h : a < i ∨ (a = i ∧ b < j)
        · rw [if_pos h, if_pos (by omega)]
        · rw [if_neg h, if_neg (by omega)]
    ·
      have hik : i = r := by have := of_decide_eq_false hc; omega
      subst hik
      refine tr_exit ?_
      repeat (first | (with_reducible refine tr_skip ?_) | (with_reducible refine tr_exit ?_) | (with_reducible refine tr_then ?_) | (with_reducible refine tr_inX ?_) | (with_reducible refine tr_thenX ?_) | (with_reducible refine tr_inN ?_) | (with_reducible refine tr_inR ?_) | (with_reducible refine tr_thenR ?_))
      refine tr_rseq ?_   -- region 15
      refine sq_q (qt_move rfl) rfl ?_   -- t82
      refine sq_q (qt_assign rfl) rfl ?_   -- t4
      refine sq_q (qt_assign rfl) rfl ?_   -- t5
      refine sq_end ?_
      refine tr_ret ?_
      repeat (first | (with_reducible refine tr_skip ?_) | (with_reducible refine tr_exit ?_) | (with_reducible refine tr_then ?_) | (with_reducible refine tr_inX ?_) | (with_reducible refine tr_thenX ?_) | (with_reducible refine tr_inN ?_) | (with_reducible refine tr_inR ?_) | (with_reducible refine tr_thenR ?_))
      refine tr_done (mmt ob qs) (fun a w s t => results_2 rfl (resv_tmp s (by rw [mmt_v, hG.1]; rfl)) (resv_tmp s rfl)) (fun w h ho _ => ⟨mmt_ok ho h, ?_, mmt_can hcan⟩)
      rw [mmt_zs, hG.zs]
      show grid _ i c = grid (addE m.zs m'.zs) i c
      unfold grid
      refine List.map_congr_left fun a ha => List.map_congr_left fun b hb => ?_
      have ha := List.mem_range.1 ha
      exact if_pos ha
end Go.Qk
end
section
/- What grids and small lists read as. -/
set_option linter.unusedVariables false
namespace Go.Qk
open Go Go.Proofs Go.RowKit Go.ChangeShapes Go.WideShapes Go.Deep
section
variable {H : Type} {enc : TypeId × Value → H} {w : World} {fuel : Nat} {x : DataW H × List MemPlace} {cs : List Value}
theorem bytes_i8 : Try.prog.bytesOf 106 = 1 := by kernel_rfl
theorem cells_i8 : Try.prog.cellsOf 106 = 1 := by kernel_rfl
theorem cells_u8 : Try.prog.cellsOf 5 = 1 := by kernel_rfl
theorem cells_i8s : Try.prog.cellsOf 29 = 1 := by kernel_rfl
theorem cells_grid : Try.prog.cellsOf 31 = 3 := by kernel_rfl
theorem und_grid : ∃ f0 f1 f2 : Field, Try.prog.underlying 31 = some (.struct #[f0, f1, f2]) ∧ f0.offset = 0 ∧ f1.offset = 1 ∧ f2.offset = 2 ∧ f0.type = 5 ∧ f1.type = 5 ∧ f2.type = 29 := ⟨_, _, _, Try.underlying31, rfl, rfl, rfl, rfl, rfl, rfl⟩
theorem open_i8row (h : DataW.trod enc Try.prog w 0 (fun _ => true) true fuel 29 cs = some x) (hw : ∀ n ∈ x.1.weights Try.prog 29, n ≤ reachBytes) : ∃ (l : List Int) (p : Sv), cs = [.slice p.1 l.length p.2] ∧ Rd p.1 (i8s l) w ∧ l.length ≤ p.2 ∧ (∀ a ∈ l, -128 ≤ a ∧ a < 128) ∧ l.length ≤ 281474976710656 := by
  obtain ⟨zs, p, rfl, h1, h2, h3, h4⟩ := open_row1 Try.underlying29 Try.underlying106 cells_i8 h hw
  refine ⟨zs, p, rfl, h1, h2, fun a ha => wf_i8 (h3 a ha), ?_⟩
  have h5 := Nat.le_trans h4 (Nat.le_refl reachBytes)
  rw [bytes_i8, Nat.mul_one] at h5
  exact Nat.le_trans h5 (by unfold reachBytes; decide)
set_option maxRecDepth 100000 in
theorem open_grid {base : Nat} {v : Value} {d : DataW H} {p : List MemPlace} (hv : Value.okWide Try.prog w .any base 31 v) (h : DataW.Trod enc Try.prog w 0 (fun _ => true) true 31 v d p) (hw : ∀ n ∈ d.weights Try.prog 31, n ≤ reachBytes) : ∃ g : Gd, v = g.v ∧ g.ok w := by
  obtain ⟨f0, f1, f2, hu, o0, o1, o2, t0, t1, t2⟩ := und_grid
  obtain ⟨cs, rfl, hsz⟩ := okWide_struct hu hv
  rw [cells_grid] at hsz
  obtain ⟨fu, hf⟩ := h
  obtain ⟨xs, n, _, hx, _, hxl, hxs⟩ := DataW.trod_struct hu hf
  match cs, hsz with
  | ⟨[c0, c1, c2]⟩, _ =>
    match xs, hxl with
    | [y0, y1, y2], _ =>
      have h0 := hxs 0 f0 rfl
      have h1 := hxs 1 f1 rfl
      have h2 := hxs 2 f2 rfl
      rw [o0, t0, cells_u8] at h0
      rw [o1, t1, cells_u8] at h1
      rw [o2, t2, cells_i8s] at h2
      simp only [Value.cells, List.drop, List.take, List.getElem?_cons_zero, List.getElem?_cons_succ] at h0 h1 h2
      obtain ⟨r, e0, _, r1⟩ := DataW.trod_int Try.underlying5 h0
      obtain ⟨c, e1, _, c1'⟩ := DataW.trod_int Try.underlying5 h1
      obtain ⟨l, q, e2, l1, l2, l3, l4⟩ := open_i8row h2 (fun k hk => hw k (by
        injection hx with hx _
        rw [hx]
        simp only [DataW.weights, hu, List.map_cons, List.map_nil, DataW.weightsEach, t2, List.mem_append]
        exact .inr (.inr (.inl hk))))
      have r2 := wf_u8 r1
      have c2' := wf_u8 c1'
      obtain ⟨rn, rfl⟩ := Int.eq_ofNat_of_zero_le r2.1
      obtain ⟨cn, rfl⟩ := Int.eq_ofNat_of_zero_le c2'.1
      simp only [List.cons.injEq, and_true] at e0 e1 e2
      refine ⟨⟨rn, cn, l, q⟩, ?_, by dsimp only; omega, by dsimp only; omega, l1, l2, l4, l3⟩
      rw [e0, e1, e2]
      rfl
end
end Go.Qk
end
section
/- What the laws compare. -/
set_option linter.unusedVariables false
namespace Go.Qk
open Go Go.Proofs Go.RowKit
theorem bits_of {o : Option (List (List Int))} {m : Mt} {n B : Nat} {w : World} (h : optF B o m w) (h1 : (o.getD []).length ≤ n) (h2 : ∀ q ∈ o.getD [], q.length ≤ n) : m.rs.length ≤ n ∧ ∀ r ∈ m.rs, r.l.length ≤ n := lens_of h.2.1 n h1 h2
/-- two answers of one thing are the same -/
theorem same_opt {o : Option (List (List Int))} {m m' : Mt} {B B' : Nat} {w : World} {S : Nat → Prop} (h : optF B o m w) (h' : optF B' o m' w) (hB : B ≤ 35184372088832) (hB' : B' ≤ 35184372088832) (h1 : (o.getD []).length ≤ 35184372088832) (h2 : ∀ q ∈ o.getD [], q.length ≤ 35184372088832) :
    Ret Try.prog 22 [m.v, m'.v] w S (fun _ : Unit => .bool true) (fun _ _ => True) := by
  obtain ⟨a1, a2⟩ := bits_of h h1 h2
  obtain ⟨b1, b2⟩ := bits_of h' h1 h2
  have hh := same_ret m m' (max B B') w S (h.1.mono (Nat.le_max_left _ _)) (h'.1.mono (Nat.le_max_right _ _)) h.2.2 h'.2.2 (Nat.max_le.2 ⟨hB, hB'⟩) a1 b1 a2 b2
  rw [decide_eq_true (show m.zs = m'.zs by rw [h.2.1, h'.2.1])] at hh
  exact hh
theorem grid_lens (f : Nat → Nat → Int) (r c : Nat) {n : Nat} (hr : r ≤ n) (hc : c ≤ n) : ((some (grid f r c)).getD []).length ≤ n ∧ ∀ q ∈ (some (grid f r c)).getD [], q.length ≤ n := by
  refine ⟨by simpa [grid] using hr, fun q hq => ?_⟩
  simp only [Option.getD_some, grid, List.mem_map] at hq
  obtain ⟨i, _, rfl⟩ := hq
  simpa using hc
theorem none_lens {n : Nat} : ((none : Option (List (List Int))).getD []).length ≤ n ∧ ∀ q ∈ (none : Option (List (List Int))).getD [], q.length ≤ n := ⟨by simp, fun q hq => by simp at hq⟩
theorem addO_lens (L L' : List (List Int)) {n : Nat} (hn : 16 ≤ n) : ((addO L L').getD []).length ≤ n ∧ ∀ q ∈ (addO L L').getD [], q.length ≤ n := by
  unfold addO addP
  split
  · rename_i rc rc' h1 h2
    split
    · obtain ⟨r, c⟩ := rc
      obtain ⟨g1, g2, g3, g4, g5, g6⟩ := shp_inv h1
      exact grid_lens _ _ _ (by dsimp only; omega) (by dsimp only; omega)
    · exact none_lens
  · exact none_lens
/-- the second grid with the first one's shape -/
def Gd.as (x y : Gd) : Gd := ⟨x.r, x.c, y.l, y.p⟩
theorem Gd.as_ok {x y : Gd} {w : World} (hx : x.ok w) (hy : y.ok w) : (x.as y).ok w := ⟨hx.1, hx.2.1, hy.2.2⟩
theorem Gd.lens (g : Gd) (k : Nat) {n : Nat} (h1 : 1 ≤ k) (hk : k ≤ 16) (hn : 16 ≤ n) : (g.zs k).length ≤ n ∧ ∀ q ∈ g.zs k, q.length ≤ n := by
  have h1 := Nat.mod_lt g.r (show 0 < k by omega)
  have h2 := Nat.mod_lt g.c (show 0 < k by omega)
  have := grid_lens (g.e k) (1 + g.r % k) (1 + g.c % k) (n := n) (by omega) (by omega)
  exact this
end Go.Qk
end
section
/- Determinants of integer matrices, as plain functions: expansion along the first row, columns, uniqueness, transposition, products. -/
set_option linter.unusedVariables false
set_option linter.unusedSimpArgs false
namespace Go.Qk
def sumN : Nat → (Nat → Int) → Int
  | 0, _ => 0
  | n + 1, f => sumN n f + f n
theorem sumN_congr {n : Nat} {f g : Nat → Int} (h : ∀ i, i < n → f i = g i) : sumN n f = sumN n g := by
  induction n with
  | zero => rfl
  | succ n ih => rw [sumN, sumN, ih fun i hi => h i (by omega), h n (by omega)]
theorem sumN_zero {n : Nat} {f : Nat → Int} (h : ∀ i, i < n → f i = 0) : sumN n f = 0 := by
  induction n with
  | zero => rfl
  | succ n ih => rw [sumN, ih fun i hi => h i (by omega), h n (by omega)]; rfl
theorem sumN_add (n : Nat) (f g : Nat → Int) : sumN n (fun i => f i + g i) = sumN n f + sumN n g := by
  induction n with
  | zero => rfl
  | succ n ih => simp only [sumN, ih]; omega
theorem sumN_mul (n : Nat) (x : Int) (f : Nat → Int) : sumN n (fun i => x * f i) = x * sumN n f := by
  induction n with
  | zero => simp [sumN]
  | succ n ih => simp only [sumN, ih, Int.mul_add]
theorem sumN_mul_right (n : Nat) (x : Int) (f : Nat → Int) : sumN n (fun i => f i * x) = sumN n f * x := by
  induction n with
  | zero => simp [sumN]
  | succ n ih => simp only [sumN, ih, Int.add_mul]
/-- one term alone -/
theorem sumN_one {n : Nat} {f : Nat → Int} (c : Nat) (hc : c < n) (h : ∀ i, i < n → i ≠ c → f i = 0) : sumN n f = f c := by
  induction n with
  | zero => omega
  | succ n ih =>
    rw [sumN]
    by_cases e : c = n
    · subst e
      rw [sumN_zero fun i hi => h i (by omega) (by omega)]
      omega
    · rw [ih (by omega) (fun i hi hne => h i (by omega) hne), h n (by omega) (fun e' => e e'.symm)]
      omega
/-- two terms alone -/
theorem sumN_two {n : Nat} {f : Nat → Int} (c d : Nat) (hcd : c < d) (hd : d < n) (h : ∀ i, i < n → i ≠ c → i ≠ d → f i = 0) : sumN n f = f c + f d := by
  induction n with
  | zero => omega
  | succ n ih =>
    rw [sumN]
    by_cases e : d = n
    · subst e
      rw [sumN_one c hcd fun i hi hne => h i (by omega) hne (by omega)]
    · rw [ih (by omega) (fun i hi h1 h2 => h i (by omega) h1 h2), h n (by omega) (by omega) (fun e' => e e'.symm)]
      omega
theorem sumN_comm (n m : Nat) (f : Nat → Nat → Int) : sumN n (fun i => sumN m (f i)) = sumN m fun j => sumN n fun i => f i j := by
  induction n with
  | zero => simp only [sumN]; exact (sumN_zero fun _ _ => rfl).symm
  | succ n ih => simp only [sumN, ih, sumN_add]

/-- the places but j -/
def sk (j b : Nat) : Nat := if b < j then b else b + 1
def unsk (j b : Nat) : Nat := if b < j then b else b - 1
theorem sk_ne (j b : Nat) : sk j b ≠ j := by unfold sk; split <;> omega
theorem unsk_sk (j b : Nat) : unsk j (sk j b) = b := by unfold sk unsk; (repeat' split) <;> omega
theorem sk_unsk {j c : Nat} (h : c ≠ j) : sk j (unsk j c) = c := by unfold sk unsk; (repeat' split) <;> omega
theorem sk_lt {j b n : Nat} (h : b < n) : sk j b < n + 1 := by unfold sk; split <;> omega
theorem unsk_lt {j c n : Nat} (hj : j < n + 1) (h : c < n + 1) (hne : c ≠ j) : unsk j c < n := by unfold unsk; split <;> omega
def sg (j : Nat) : Int := if j % 2 = 1 then -1 else 1
theorem sg_succ (j : Nat) : sg (j + 1) = -sg j := by unfold sg; split <;> split <;> omega
theorem sg_add (i j : Nat) : sg (i + j) = sg i * sg j := by unfold sg; split <;> split <;> split <;> omega
theorem sg_sq (j : Nat) : sg j * sg j = 1 := by unfold sg; split <;> rfl
abbrev Mf := Nat → Nat → Int
def mnr (g : Mf) (j : Nat) : Mf := fun a b => g (a + 1) (sk j b)
/-- the determinant, expanded along the first row -/
def lap : Nat → Mf → Int
  | 0, _ => 1
  | n + 1, g => sumN (n + 1) fun j => sg j * g 0 j * lap n (mnr g j)
def cset (g : Mf) (c : Nat) (u : Nat → Int) : Mf := fun a b => if b = c then u a else g a b
def idm : Mf := fun a b => if a = b then 1 else 0
def tr (g : Mf) : Mf := fun a b => g b a

/-- a function of the columns that is linear in each, and zero where two neighbours are equal -/
structure ColAlt (n : Nat) (F : Mf → Int) : Prop where
  congr : ∀ g g', (∀ a b, a < n → b < n → g a b = g' a b) → F g = F g'
  lin : ∀ g c u v x, c < n → F (cset g c fun a => u a + x * v a) = F (cset g c u) + x * F (cset g c v)
  adj : ∀ g c, c + 1 < n → (∀ a, a < n → g a c = g a (c + 1)) → F g = 0

theorem cset_same (g : Mf) (c : Nat) : cset g c (fun a => g a c) = g := by
  funext a b
  unfold cset
  split
  · rename_i h; rw [h]
  · rfl
theorem cset_cset (g : Mf) (c : Nat) (u v : Nat → Int) : cset (cset g c u) c v = cset g c v := by
  funext a b; unfold cset; split <;> rfl
theorem cset_comm (g : Mf) {c d : Nat} (h : c ≠ d) (u v : Nat → Int) : cset (cset g c u) d v = cset (cset g d v) c u := by
  funext a b
  unfold cset
  split
  · rename_i h1; rw [if_neg (by omega)]
  · rfl
def csw (g : Mf) (c d : Nat) : Mf := fun a b => g a (if b = c then d else if b = d then c else b)
theorem csw_eq (g : Mf) {c d : Nat} (h : c ≠ d) : csw g c d = cset (cset g c fun a => g a d) d fun a => g a c := by
  funext a b
  unfold csw cset
  by_cases h1 : b = c
  · subst h1; simp [h]
  · by_cases h2 : b = d
    · subst h2; simp [h1]
    · simp [h1, h2]
section
variable {n : Nat} {F : Mf → Int}
theorem ColAlt.bil (hF : ColAlt n F) (g : Mf) {c d : Nat} (hc : c < n) (hd : d < n) (hcd : c ≠ d) (h0 : ∀ g : Mf, (∀ a, a < n → g a c = g a d) → F g = 0) : F (csw g c d) = -F g := by
  have hz : ∀ u : Nat → Int, F (cset (cset g c u) d u) = 0 := fun u => h0 _ fun a _ => by simp [cset, hcd]
  have key : ∀ u v : Nat → Int, F (cset (cset g c u) d v) + F (cset (cset g c v) d u) = 0 := by
    intro u v
    have h1 := hz fun a => u a + 1 * v a
    rw [hF.lin _ d u v 1 hd, cset_comm _ hcd, hF.lin _ c u v 1 hc, cset_comm _ hcd, hF.lin _ c u v 1 hc] at h1
    rw [cset_comm _ (Ne.symm hcd), cset_comm _ (Ne.symm hcd), cset_comm _ (Ne.symm hcd), cset_comm _ (Ne.symm hcd)] at h1
    rw [hz u, hz v] at h1
    omega
  have h2 := key (fun a => g a c) (fun a => g a d)
  rw [cset_same, cset_same, ← csw_eq g hcd] at h2
  omega
theorem ColAlt.alt (hF : ColAlt n F) : ∀ (m : Nat) (g : Mf) (c : Nat), c + 1 + m < n → (∀ a, a < n → g a c = g a (c + 1 + m)) → F g = 0 := by
  intro m
  induction m with
  | zero => intro g c h1 h2; exact hF.adj g c h1 h2
  | succ m ih =>
    intro g c h1 h2
    have h3 := hF.bil g (c := c + 1 + m) (d := c + 1 + m + 1) (by omega) (by omega) (by omega) (fun g' h => hF.adj g' _ (by omega) h)
    have h4 := ih (csw g (c + 1 + m) (c + 1 + m + 1)) c (by omega) (fun a ha => by
      unfold csw
      rw [if_neg (by omega), if_neg (by omega), if_pos rfl]
      exact h2 a ha)
    omega
theorem ColAlt.alt' (hF : ColAlt n F) {c d : Nat} (hc : c < n) (hd : d < n) (hcd : c ≠ d) (g : Mf) (h : ∀ a, a < n → g a c = g a d) : F g = 0 := by
  rcases Nat.lt_or_ge c d with h1 | h1
  · exact hF.alt (d - c - 1) g c (by omega) (fun a ha => by rw [show c + 1 + (d - c - 1) = d by omega]; exact h a ha)
  · exact hF.alt (c - d - 1) g d (by omega) (fun a ha => by rw [show d + 1 + (c - d - 1) = c by omega]; exact (h a ha).symm)
theorem ColAlt.swap (hF : ColAlt n F) (g : Mf) {c d : Nat} (hc : c < n) (hd : d < n) (hcd : c ≠ d) : F (csw g c d) = -F g :=
  hF.bil g hc hd hcd fun g' h => hF.alt' hc hd hcd g' h
theorem ColAlt.addc (hF : ColAlt n F) (g : Mf) {c d : Nat} (hc : c < n) (hd : d < n) (hcd : c ≠ d) (x : Int) : F (cset g c fun a => g a c + x * g a d) = F g := by
  rw [hF.lin g c _ _ x hc, cset_same, hF.alt' hc hd hcd (cset g c fun a => g a d) (fun a _ => by unfold cset; rw [if_pos rfl, if_neg (Ne.symm hcd)])]
  omega
theorem ColAlt.zero (hF : ColAlt n F) (g : Mf) {c : Nat} (hc : c < n) : F (cset g c fun _ => 0) = 0 := by
  have h := hF.lin g c (fun _ => 0) (fun _ => 0) (-1) hc
  simp only [Int.mul_zero, Int.add_zero] at h
  omega
theorem ColAlt.smul (hF : ColAlt n F) (g : Mf) {c : Nat} (hc : c < n) (x : Int) (v : Nat → Int) : F (cset g c fun a => x * v a) = x * F (cset g c v) := by
  have h := hF.lin g c (fun _ => 0) v x hc
  rw [hF.zero g hc] at h
  simp only [Int.zero_add] at h
  exact h
theorem ColAlt.sum (hF : ColAlt n F) (g : Mf) {c : Nat} (hc : c < n) (m : Nat) (x : Nat → Int) (u : Nat → Nat → Int) : F (cset g c fun a => sumN m fun i => x i * u i a) = sumN m fun i => x i * F (cset g c (u i)) := by
  induction m with
  | zero => exact hF.zero g hc
  | succ m ih =>
    simp only [sumN]
    rw [hF.lin g c _ _ _ hc, ih]
end
/-- a smaller matrix, put in behind a first column that is a unit -/
def emb (i : Nat) (h : Mf) : Mf := fun a b => if b = 0 then (if a = i then 1 else 0) else if a = i then 0 else h (unsk i a) (b - 1)
theorem emb_cset (i : Nat) (h : Mf) (c : Nat) (u : Nat → Int) : emb i (cset h c u) = cset (emb i h) (c + 1) fun a => if a = i then 0 else u (unsk i a) := by
  funext a b
  unfold emb cset
  by_cases h1 : b = 0
  · subst h1; simp
  · by_cases h2 : b = c + 1
    · subst h2; simp
    · have h3 : ¬ b - 1 = c := by omega
      simp [h1, h2, h3]
theorem ColAlt.emb {n : Nat} {F : Mf → Int} (hF : ColAlt (n + 1) F) {i : Nat} (hi : i < n + 1) : ColAlt n fun h => F (emb i h) := by
  refine ⟨fun g g' h => hF.congr _ _ fun a b ha hb => ?_, fun g c u v x hc => ?_, fun g c hc h => ?_⟩
  · unfold Go.Qk.emb
    split
    · rfl
    · split
      · rfl
      · rename_i h1 h2
        exact h _ _ (unsk_lt hi ha h2) (by omega)
  · rw [emb_cset, emb_cset, emb_cset, ← hF.lin _ _ _ _ _ (by omega)]
    congr 2
    funext a
    split
    · simp
    · rfl
  · refine hF.adj _ (c + 1) (by omega) fun a ha => ?_
    unfold Go.Qk.emb
    by_cases h1 : a = i
    · simp [h1]
    · have := h _ (unsk_lt hi ha h1)
      simp [h1]
      exact this
theorem ColAlt.emb_id {n : Nat} {F : Mf → Int} (hF : ColAlt (n + 1) F) : ∀ i, i < n + 1 → F (Go.Qk.emb i idm) = sg i * F idm := by
  intro i
  induction i with
  | zero =>
    intro _
    rw [show sg 0 = 1 from rfl, Int.one_mul]
    refine hF.congr _ _ fun a b _ _ => ?_
    unfold Go.Qk.emb idm unsk
    (repeat' split) <;> omega
  | succ i ih =>
    intro hi
    have h := hF.swap (Go.Qk.emb i idm) (c := 0) (d := i + 1) (by omega) hi (by omega)
    rw [ih (by omega)] at h
    rw [sg_succ, Int.neg_mul, ← h]
    refine hF.congr _ _ fun a b _ _ => ?_
    unfold Go.Qk.emb csw idm unsk
    dsimp only
    by_cases b0 : b = 0
    · subst b0
      simp
      (repeat' split) <;> omega
    · by_cases b1 : b = i + 1
      · subst b1
        simp only [b0, if_false, if_true, Nat.add_sub_cancel]
        (repeat' split) <;> omega
      · simp only [b0, b1, if_false]
        (repeat' split) <;> omega
theorem ColAlt.clear {n : Nat} {F : Mf → Int} (hF : ColAlt (n + 1) F) (g : Mf) {i : Nat} (hi : i < n + 1) : ∀ m, m ≤ n + 1 → F (cset g 0 fun a => if a = i then 1 else 0) = F fun a b => if b = 0 then (if a = i then 1 else 0) else if a = i ∧ b < m then 0 else g a b := by
  intro m
  induction m with
  | zero =>
    intro _
    refine hF.congr _ _ fun a b _ _ => ?_
    unfold cset
    split
    · rfl
    · rw [if_neg (by omega)]
  | succ m ih =>
    intro hm
    rw [ih (by omega)]
    by_cases h0 : m = 0
    · subst h0
      refine hF.congr _ _ fun a b _ _ => ?_
      split
      · rfl
      · rw [if_neg (by omega), if_neg (by omega)]
    · have h := hF.addc (fun a b => if b = 0 then (if a = i then 1 else 0) else if a = i ∧ b < m then 0 else g a b) (c := m) (d := 0) (by omega) (by omega) h0 (-(g i m))
      rw [← h]
      refine hF.congr _ _ fun a b _ _ => ?_
      unfold cset
      by_cases hb : b = m
      · subst hb
        simp only [if_pos, h0, if_false, if_true]
        by_cases ha : a = i
        · subst ha; simp; omega
        · simp [ha]
      · rw [if_neg hb]
        by_cases hb0 : b = 0
        · simp [hb0]
        · simp only [hb0, if_false]
          by_cases ha : a = i ∧ b < m
          · rw [if_pos ha, if_pos (by omega)]
          · rw [if_neg ha, if_neg (by omega)]
/-- a function of the columns is a multiple of the determinant -/
theorem ColAlt.unique : ∀ (n : Nat) (F : Mf → Int), ColAlt n F → ∀ g, F g = F idm * lap n (tr g) := by
  intro n
  induction n with
  | zero =>
    intro F hF g
    rw [show lap 0 (tr g) = 1 from rfl, Int.mul_one]
    exact hF.congr _ _ fun a b ha _ => by omega
  | succ n ih =>
    intro F hF g
    have e1 : F g = F (cset g 0 fun a => sumN (n + 1) fun i => g i 0 * (if a = i then 1 else 0)) := by
      refine hF.congr _ _ fun a b ha _ => ?_
      unfold cset
      split
      · rename_i hb
        subst hb
        show g a 0 = sumN (n + 1) fun i => g i 0 * if a = i then 1 else 0
        rw [sumN_one (f := fun i => g i 0 * if a = i then 1 else 0) a ha fun i _ hne => by simp [Ne.symm hne]]
        simp
      · rfl
    rw [e1, hF.sum g (by omega) (n + 1) (fun i => g i 0) (fun i a => if a = i then 1 else 0), lap, ← sumN_mul]
    refine sumN_congr fun i hi => ?_
    have h2 := hF.clear g hi (n + 1) (Nat.le_refl _)
    rw [h2]
    have h3 := ih _ (hF.emb hi) fun a b => g (sk i a) (b + 1)
    have h4 : F (fun a b => if b = 0 then (if a = i then 1 else 0) else if a = i ∧ b < n + 1 then 0 else g a b) = F (Go.Qk.emb i fun a b => g (sk i a) (b + 1)) := by
      refine hF.congr _ _ fun a b _ hb => ?_
      unfold Go.Qk.emb
      by_cases h1 : b = 0
      · rw [if_pos h1, if_pos h1]
      · rw [if_neg h1, if_neg h1]
        by_cases h2 : a = i
        · rw [if_pos ⟨h2, hb⟩, if_pos h2]
        · rw [if_neg (fun e => h2 e.1), if_neg h2]
          show g a b = g (sk i (unsk i a)) (b - 1 + 1)
          rw [sk_unsk h2, show b - 1 + 1 = b by omega]
    rw [h4, h3, hF.emb_id i hi]
    have h5 : mnr (tr g) i = tr fun a b => g (sk i a) (b + 1) := rfl
    rw [h5, show (tr g) 0 i = g i 0 from rfl]
    simp only [Int.mul_assoc, Int.mul_comm, Int.mul_left_comm]

theorem mnr_cset_eq (g : Mf) (c : Nat) (u : Nat → Int) : mnr (cset g c u) c = mnr g c := by
  funext a b; unfold mnr cset; rw [if_neg (sk_ne c b)]
theorem mnr_cset_ne (g : Mf) {c j : Nat} (h : c ≠ j) (u : Nat → Int) : mnr (cset g c u) j = cset (mnr g j) (unsk j c) fun a => u (a + 1) := by
  funext a b
  unfold mnr cset
  by_cases hb : b = unsk j c
  · rw [if_pos hb, hb, sk_unsk h, if_pos rfl]
  · rw [if_neg hb, if_neg]
    intro e
    apply hb
    rw [← e, unsk_sk]
theorem lap_alt : ∀ n, ColAlt n (lap n) := by
  intro n
  induction n with
  | zero => exact ⟨fun _ _ _ => rfl, fun _ c _ _ _ h => by omega, fun _ c h => by omega⟩
  | succ n ih =>
    refine ⟨fun g g' h => ?_, fun g c u v x hc => ?_, fun g c hc h => ?_⟩
    · rw [lap, lap]
      refine sumN_congr fun j hj => ?_
      rw [h 0 j (by omega) hj, ih.congr (mnr g j) (mnr g' j) fun a b ha hb => h _ _ (by omega) (sk_lt hb)]
    · rw [lap, lap, lap, ← sumN_mul, ← sumN_add]
      refine sumN_congr fun j hj => ?_
      by_cases e : c = j
      · subst e
        rw [mnr_cset_eq, mnr_cset_eq, mnr_cset_eq]
        simp only [cset, if_pos]
        grind
      · rw [mnr_cset_ne _ e, mnr_cset_ne _ e, mnr_cset_ne _ e, ih.lin _ _ _ _ _ (unsk_lt hj hc e)]
        simp only [cset, if_neg (Ne.symm e)]
        grind
    · rw [lap, sumN_two c (c + 1) (by omega) hc]
      · have e : mnr g c = mnr g (c + 1) ∨ True := .inr trivial
        have e2 : lap n (mnr g c) = lap n (mnr g (c + 1)) := by
          refine ih.congr _ _ fun a b ha hb => ?_
          unfold mnr sk
          by_cases h1 : b = c
          · subst h1
            rw [if_neg (by omega), if_pos (by omega)]
            exact (h _ (by omega)).symm
          · by_cases h2 : b < c
            · rw [if_pos h2, if_pos (by omega)]
            · rw [if_neg h2, if_neg (by omega)]
        rw [e2, h 0 (by omega), sg_succ]
        grind
      · intro j hj h1 h2
        have : lap n (mnr g j) = 0 := by
          refine ih.adj _ (unsk j c) ?_ fun a ha => ?_
          · have := unsk_lt (j := j) (c := c + 1) (n := n) hj hc (Ne.symm h2)
            unfold unsk at this ⊢
            split <;> split at this <;> omega
          · unfold mnr
            rw [sk_unsk (Ne.symm h1)]
            have e3 : sk j (unsk j c + 1) = c + 1 := by unfold sk unsk; (repeat' split) <;> omega
            rw [e3]
            exact h _ (by omega)
        rw [this, Int.mul_zero]
theorem lap_id : ∀ n, lap n idm = 1 := by
  intro n
  induction n with
  | zero => rfl
  | succ n ih =>
    rw [lap, sumN_one 0 (by omega)]
    · rw [show mnr idm 0 = idm by funext a b; unfold mnr idm sk; simp, ih]
      rfl
    · intro i _ hi
      rw [show idm 0 i = 0 from if_neg (Ne.symm hi)]
      simp
theorem lap_tr (n : Nat) (g : Mf) : lap n (tr g) = lap n g := by
  have h := ColAlt.unique n _ (lap_alt n) g
  rw [lap_id, Int.one_mul] at h
  exact h.symm
/-- the product of matrices -/
def mmul (n : Nat) (f g : Mf) : Mf := fun a b => sumN n fun k => f a k * g k b
theorem lap_mul (n : Nat) (f g : Mf) : lap n (mmul n f g) = lap n f * lap n g := by
  have hF : ColAlt n fun g => lap n (mmul n f g) := by
    refine ⟨fun g g' h => ?_, fun g c u v x hc => ?_, fun g c hc h => ?_⟩
    · refine (lap_alt n).congr _ _ fun a b _ hb => ?_
      exact sumN_congr fun k hk => by rw [h k b hk hb]
    · have e : ∀ u : Nat → Int, mmul n f (cset g c u) = cset (mmul n f g) c fun a => sumN n fun k => f a k * u k := by
        intro u
        funext a b
        unfold mmul cset
        by_cases hb : b = c
        · simp [hb]
        · simp [hb]
      rw [e, e, e, ← (lap_alt n).lin _ _ _ _ _ hc]
      congr 2
      funext a
      rw [← sumN_mul, ← sumN_add]
      exact sumN_congr fun k _ => by grind
    · exact (lap_alt n).adj _ c hc fun a ha => sumN_congr fun k hk => by rw [h k hk]
  have h := ColAlt.unique n _ hF g
  rw [lap_tr] at h
  rw [h]
  congr 1
  refine (lap_alt n).congr _ _ fun a b _ hb => ?_
  unfold mmul idm
  rw [sumN_one b hb fun i _ hne => by rw [if_neg hne]; simp]
  simp
end Go.Qk
end
section
/- Products and transposes of matrices. -/
set_option linter.unusedVariables false
namespace Go.Qk
open Go Go.Proofs Go.RowKit
def mulP (o o' : Option (Nat × Nat)) (L L' : List (List Int)) : Option (List (List Int)) := match o, o' with
  | some rc, some rc' => if rc.2 = rc'.1 then some (grid (mmul rc.2 (ent L) (ent L')) rc.1 rc'.2) else none
  | _, _ => none
def mulO (L L' : List (List Int)) : Option (List (List Int)) := mulP (shp L) (shp L') L L'
def trP (o : Option (Nat × Nat)) (L : List (List Int)) : Option (List (List Int)) := match o with
  | some rc => some (grid (tr (ent L)) rc.2 rc.1)
  | none => none
def trO (L : List (List Int)) : Option (List (List Int)) := trP (shp L) L
theorem mulO_lens (L L' : List (List Int)) {n : Nat} (hn : 16 ≤ n) : ((mulO L L').getD []).length ≤ n ∧ ∀ q ∈ (mulO L L').getD [], q.length ≤ n := by
  unfold mulO mulP
  split
  · rename_i rc rc' h1 h2
    split
    · obtain ⟨r, c⟩ := rc
      obtain ⟨r', c'⟩ := rc'
      obtain ⟨g1, g2, g3, g4, g5, g6⟩ := shp_inv h1
      obtain ⟨k1, k2, k3, k4, k5, k6⟩ := shp_inv h2
      exact grid_lens _ _ _ (by dsimp only; omega) (by dsimp only; omega)
    · exact none_lens
  · exact none_lens
theorem trO_lens (L : List (List Int)) {n : Nat} (hn : 16 ≤ n) : ((trO L).getD []).length ≤ n ∧ ∀ q ∈ (trO L).getD [], q.length ≤ n := by
  unfold trO trP
  split
  · rename_i rc h1
    obtain ⟨r, c⟩ := rc
    obtain ⟨g1, g2, g3, g4, g5, g6⟩ := shp_inv h1
    exact grid_lens _ _ _ (by dsimp only; omega) (by dsimp only; omega)
  · exact none_lens
theorem nl_sum {f : Nat → Int} {D : Nat} : ∀ {k : Nat}, (∀ i, i < k → nl (f i).natAbs ≤ D) → nl (sumN k f).natAbs ≤ D + k
  | 0, _ => by
    have : nl (sumN 0 f).natAbs = 0 := nl_zero.2 rfl
    omega
  | k + 1, h => by
    have h1 := nl_sum fun i (hi : i < k) => h i (by omega)
    have h2 := h k (by omega)
    have h3 := nl_iadd (sumN k f) (f k)
    show nl (sumN k f + f k).natAbs ≤ _
    omega
theorem zd_zero : zd 0 (none, 0) = z0 := by
  unfold zd z0
  rw [show (0 : Int).natAbs = 0 from rfl, limbsOf_zero]
  rfl
theorem zblk_zero (r : Nat) (f : Nat → Int) : zblk r (zd (sumN 0 f) (none, 0)) = zblk r z0 := by
  rw [show sumN 0 f = 0 from rfl, zd_zero]
theorem rmul_zd {z z' : Zd} {B B' : Nat} {w : World} {S : Nat → Prop} (h : z.ok B w) (h' : z'.ok B' w) (hB : B + B' ≤ 35184372088832) : Ret Try.prog 56 [z.v, z'.v] w S (iv (z.z * z'.z)) (Lz (z.z * z'.z).natAbs) :=
  rmul_ret z.n z'.n z.xs z'.xs z.p z'.p w S h.1 h.2.1 h'.1 h'.2.1 (by have := h.2.2; have := h'.2.2; omega)
theorem add_iv {a b : Int} {p q : Sv} {w : World} {S : Nat → Prop} (h : Lz a.natAbs p w) (h' : Lz b.natAbs q w) (hB : nl a.natAbs < 35184372088832) (hB' : nl b.natAbs < 35184372088832) : Ret Try.prog 93 [iv a p, iv b q] w S (iv (a + b)) (Lz (a + b).natAbs) := by
  have g := add_zd (S := S) (zd_ok h (Nat.le_refl _)) (zd_ok h' (Nat.le_refl _)) hB hB'
  rwa [zd_z, zd_z] at g
theorem radd_iv {a b : Int} {p q : Sv} {w : World} {S : Nat → Prop} (h : Lz a.natAbs p w) (h' : Lz b.natAbs q w) (hB : nl a.natAbs < 35184372088832) (hB' : nl b.natAbs < 35184372088832) : Ret Try.prog 59 [iv a p, iv b q] w S (iv (a + b)) (Lz (a + b).natAbs) := by
  have g := radd_zd (S := S) (zd_ok h (Nat.le_refl _)) (zd_ok h' (Nat.le_refl _)) hB hB'
  rwa [zd_z, zd_z] at g
theorem zd_natAbs (z : Zd) : z.z.natAbs = val z.xs := sgn_natAbs _ _
theorem rnorm_zd {z : Zd} {B : Nat} {w : World} {S : Nat → Prop} (h : z.ok B w) (hB : B ≤ 35184372088832) : Ret Try.prog 91 [z.v] w S (iv z.z) (Lz z.z.natAbs) := by
  have g := rnormalize_ret z.n z.xs z.p w S h.1 h.2.1 (by have := h.2.2; omega)
  rw [zd_natAbs]
  exact g
theorem mt_lens {m : Mt} {f : Nat → Nat → Int} {r c : Nat} (h : m.zs = grid f r c) : m.rs.length = r ∧ ∀ q ∈ m.rs, q.l.length = c := by
  have h1 := congrArg List.length h
  simp only [Mt.zs, grid, List.length_map, List.length_range] at h1
  refine ⟨h1, fun q hq => ?_⟩
  have h2 : q.zs ∈ m.zs := List.mem_map.2 ⟨q, hq, rfl⟩
  rw [h] at h2
  simp only [grid, List.mem_map] at h2
  obtain ⟨i, _, e⟩ := h2
  rw [← Rw.zs_len, ← e]
  simp
theorem mt_ent_grid {m : Mt} {f : Nat → Nat → Int} {r c i j : Nat} (h : m.zs = grid f r c) (hi : i < m.rs.length) (hj : j < m.rs[i].l.length) : m.rs[i].l[j].z = f i j := by
  obtain ⟨h1, h2⟩ := mt_lens h
  have h3 := h2 _ (List.getElem_mem hi)
  rw [← mt_ent hi hj, h]
  unfold ent
  simp [grid, List.getD, show i < r by omega, show j < c by omega]
theorem Mt.ok.at_eq {B : Nat} {m : Mt} {w : World} {r o : Nat} (h : m.ok B w) (e : m.v = .slice (some ⟨r, o, none⟩) m.rs.length m.p.2) {i : Nat} (hi : i < m.rs.length) : At r (o + i) (m.rs[i]).v w := by
  obtain ⟨r', o', e', h'⟩ := h.at_ (by omega)
  rw [e] at e'
  simp only [Value.slice.injEq, Option.some.injEq, Addr.mk.injEq, and_true] at e'
  obtain ⟨rfl, rfl⟩ := e'
  exact h' i hi
end Go.Qk
end
section
/- Entries of products. -/
set_option linter.unusedVariables false
namespace Go.Qk
open Go Go.Proofs Go.RowKit
set_option maxRecDepth 100000
set_option maxHeartbeats 4000000

theorem mul1_ret (m m' : Mt) (n B B' b2 b3 b4 i j : Nat) (w : World) (S : Nat → Prop) (hm : m.ok B w) (hm' : m'.ok B' w) (h1 : 1 ≤ n) (hn : n ≤ 64) (hB : B + B' ≤ 35184372088700) (h2 : At b2 0 (.int .i64 (n : Int)) w) (h3 : At b3 0 m.v w) (h4 : At b4 0 m'.v w) (hi : i < m.rs.length) (hin : m.rs[i].l.length = n) (hn' : m'.rs.length = n) (hj : ∀ q ∈ m'.rs, j < q.l.length) :
    Ret Try.prog 96 [.int .i64 (i : Int), .int .i64 (j : Int), .pointer (some ⟨b2, 0, none⟩), .pointer (some ⟨b3, 0, none⟩), .pointer (some ⟨b4, 0, none⟩)] w S (iv (mmul n (ent m.zs) (ent m'.zs) i j)) (fun p w => Lz (mmul n (ent m.zs) (ent m'.zs) i j).natAbs p w ∧ nl (mmul n (ent m.zs) (ent m'.zs) i j).natAbs ≤ B + B' + n) := by
  obtain ⟨ro, oo, evm, hat⟩ := hm.at_ (show 0 < m.rs.length by omega)
  obtain ⟨rr, orr, evr, hatr⟩ := (hm.2.2 _ (List.getElem_mem hi)).at_ (show 0 < m.rs[i].l.length by omega)
  rw [evm] at h3
  have hr := hat i hi
  rw [evr] at hr
  obtain ⟨ro', oo', evm', hat'⟩ := hm'.at_ (show 0 < m'.rs.length by omega)
  rw [evm'] at h4
  obtain ⟨F, hF⟩ : ∃ F : Nat → Int, F = fun k => ent m.zs i k * ent m'.zs k j := ⟨_, rfl⟩
  rw [show mmul n (ent m.zs) (ent m'.zs) i j = sumN n F by rw [hF]; rfl]
  have hFk : ∀ k (hk : k < n), F k = m.rs[i].l[k].z * (m'.rs[k].l[j]'(hj _ (List.getElem_mem (by omega)))).z := fun k hk => by
    rw [hF]
    show ent m.zs i k * ent m'.zs k j = _
    rw [mt_ent hi (by omega), mt_ent (by omega) (hj _ (List.getElem_mem (by omega)))]
  have hFb : ∀ k, k < n → nl (F k).natAbs ≤ B + B' := fun k hk => by
    rw [hFk k hk]
    have g1 := nl_imul m.rs[i].l[k].z (m'.rs[k].l[j]'(hj _ (List.getElem_mem (by omega)))).z
    have g2 := nl_zd ((hm.2.2 _ (List.getElem_mem hi)).2.2 _ (List.getElem_mem (show k < m.rs[i].l.length by omega)))
    have g3 := nl_zd ((hm'.2.2 _ (List.getElem_mem (show k < m'.rs.length by omega))).2.2 _ (List.getElem_mem (hj _ (List.getElem_mem (show k < m'.rs.length by omega)))))
    omega
  clear hF
  refine ret_of Try.func96 rfl Try.ntmps96 rfl ?_
  refine tr_rseq ?_   -- region 0
  refine sq_alloc rfl fun r7 => ?_   -- t7
  refine sq_end ?_
  refine tr_rseq ?_   -- region 1
  refine sq_alloc rfl fun r8 => ?_   -- t8
  refine sq_end ?_
  refine tr_seq ?_   -- C1
  refine tr_rseq ?_   -- region 2
  refine sq_q (qt_load rfl (fun w t => t.atA h2)) rfl ?_   -- t10
  refine sq_q (qt_move rfl) rfl ?_   -- t11
  refine sq_end ?_
  refine tr_block ?_
  refine tr_own [zblk r8 (zd (sumN 0 F) (none, 0)), zblk r7 z0] (by rw [zblk_zero]; rfl) ?_
  refine tr_loop2 (fun (k : Nat) (p : Sv) => k ≤ n) (fun k p => [(0, .int .i64 (i : Int)), (1, .int .i64 (j : Int)), (3, .pointer (some ⟨b3, 0, none⟩)), (4, .pointer (some ⟨b4, 0, none⟩)), (7, .pointer (some ⟨r7, 0, none⟩)), (8, .pointer (some ⟨r8, 0, none⟩)), (10, .int .i64 (n : Int)), (11, .int .i64 (k : Int))])
    (fun k p => [zblk r8 (zd (sumN k F) p), zblk r7 z0]) (fun k p w => Lz (sumN k F).natAbs p w) (fun k p => n - k) 0 (none, 0) (Nat.zero_le _) ⟨rfl, rfl, rfl, rfl, rfl, rfl, rfl, rfl, trivial⟩ rfl (fun w _ => lz_zero) ?_
  rintro k p hk
  refine tr_rseq ?_   -- region 3
  refine sq_q (qt_bin rfl rfl bin_lss) rfl ?_   -- t12
  refine sq_end ?_
  refine tr_seq ?_   -- C2
  refine tr_if rfl (fun hc => ?_) (fun hc => ?_)
  ·
    have hlt : k < n := by have := of_decide_eq_true hc; omega
    have hkl : k < m.rs[i].l.length := by omega
    have hkm : k < m'.rs.length := by omega
    have hjl : j < m'.rs[k].l.length := hj _ (List.getElem_mem hkm)
    obtain ⟨hz0, hz1⟩ := hatr k hkl
    have hzok := (hm.2.2 _ (List.getElem_mem hi)).2.2 _ (List.getElem_mem hkl)
    obtain ⟨rr', orr', evr', hatr'⟩ := (hm'.2.2 _ (List.getElem_mem hkm)).at_ (show 0 < m'.rs[k].l.length by omega)
    have hr' := hat' k hkm
    rw [evr'] at hr'
    obtain ⟨hz0', hz1'⟩ := hatr' j hjl
    have hzok' := (hm'.2.2 _ (List.getElem_mem hkm)).2.2 _ (List.getElem_mem hjl)
    have hfk := hFk k hlt
    have hb1 := hFb k hlt
    have hb2 := nl_sum (f := F) (k := k) fun i hi => hFb i (by omega)
    refine tr_skip ?_
    repeat (first | (with_reducible refine tr_skip ?_) | (with_reducible refine tr_exit ?_) | (with_reducible refine tr_then ?_) | (with_reducible refine tr_inX ?_) | (with_reducible refine tr_thenX ?_) | (with_reducible refine tr_inN ?_) | (with_reducible refine tr_inR ?_) | (with_reducible refine tr_thenR ?_))
    refine tr_seq ?_   -- C3
    refine tr_block ?_
    refine tr_rseq ?_   -- region 4
    refine sq_q (qt_move rfl) rfl ?_   -- t13
    refine sq_q (qt_assign rfl) rfl ?_   -- t9
    refine sq_end ?_
    refine tr_draw 17 [] [] [0, 1, 2, 3, 4, 7, 8, 9, 10, 11, 12, 30] (by kernel_rfl) ?_   -- region 5
    refine dx_q rfl (qt_load2 rfl (fun w t => t.atO 0 rfl rfl) (fun w t => t.atO 0 rfl rfl)) rfl ?_   -- t14
    refine dx_q rfl (qt_load rfl (fun w t => t.atA h3)) rfl ?_   -- t15
    refine dx_q rfl (qt_move rfl) rfl ?_   -- t16
    refine dx_q rfl (qt_index (i := i) rfl rfl hi) rfl ?_   -- t17
    refine dx_q rfl (qt_load rfl (fun w t => t.a1 hr)) rfl ?_   -- t18
    refine dx_q rfl (qt_move rfl) rfl ?_   -- t19
    refine dx_q rfl (qt_index (i := k) rfl rfl hkl) rfl ?_   -- t20
    refine dx_q rfl (qt_load2 rfl (fun w t => t.atA hz0) (fun w t => t.atA hz1)) rfl ?_   -- t21
    refine dx_q rfl (qt_load rfl (fun w t => t.atA h4)) rfl ?_   -- t22
    refine dx_q rfl (qt_move rfl) rfl ?_   -- t23
    refine dx_q rfl (qt_index (i := k) rfl rfl hkm) rfl ?_   -- t24
    refine dx_q rfl (qt_load rfl (fun w t => t.a1 hr')) rfl ?_   -- t25
    refine dx_q rfl (qt_move rfl) rfl ?_   -- t26
    refine dx_q rfl (qt_index (i := j) rfl rfl hjl) rfl ?_   -- t27
    refine dx_q rfl (qt_load2 rfl (fun w t => t.atA hz0') (fun w t => t.atA hz1')) rfl ?_   -- t28
    refine dx_call (iv (F k)) (Lz (F k).natAbs) rfl rfl rfl (fun w t => by rw [hfk]; exact mul_zd (t.zd hzok) (t.zd hzok') (by omega)) ?_   -- t29
    refine dx_call1 29 (iv (sumN (k + 1) F)) (Lz (sumN (k + 1) F).natAbs) rfl rfl (by simp) rfl (fun _ => rfl) (fun _ => rfl) (fun y w t => add_iv t.r.1 t.r.2 (by omega) (by omega)) ?_   -- t30
    refine dx_nil ?_
    repeat (first | refine es_val rfl ?_ rfl | refine es_skip rfl ?_)
    refine es_res rfl (fun x => ?_) rfl
    repeat (first | refine es_val rfl ?_ rfl | refine es_skip rfl ?_)
    refine es_nil rfl ?_
    refine tx_store 0 rfl rfl rfl rfl (Nat.le_refl 2) rfl rfl rfl ?_   -- _
    refine tx_end ?_
    repeat (first | (with_reducible refine tr_skip ?_) | (with_reducible refine tr_exit ?_) | (with_reducible refine tr_then ?_) | (with_reducible refine tr_inX ?_) | (with_reducible refine tr_thenX ?_) | (with_reducible refine tr_inN ?_) | (with_reducible refine tr_inR ?_) | (with_reducible refine tr_thenR ?_))
    refine tr_region ?_   -- region 6
    refine sq_q (qt_bin rfl rfl (bin_addI (by omega) (by omega))) rfl ?_   -- t31
    refine sq_q (qt_move rfl) rfl ?_   -- t11
    refine sq_nil ?_
    repeat (first | (with_reducible refine tr_skip ?_) | (with_reducible refine tr_exit ?_) | (with_reducible refine tr_then ?_) | (with_reducible refine tr_inX ?_) | (with_reducible refine tr_thenX ?_) | (with_reducible refine tr_inN ?_) | (with_reducible refine tr_inR ?_) | (with_reducible refine tr_thenR ?_))
    refine tr_own [zblk r8 (zd (sumN (k + 1) F) x), zblk r7 z0] rfl ?_
    refine tr_round2 (k + 1) x hlt (by omega) ⟨rfl, rfl, rfl, rfl, rfl, rfl, rfl, rfl, trivial⟩ rfl (fun w h => h.2)
  ·
    have hkn : k = n := by have := of_decide_eq_false hc; omega
    subst hkn
    refine tr_exit ?_
    repeat (first | (with_reducible refine tr_skip ?_) | (with_reducible refine tr_exit ?_) | (with_reducible refine tr_then ?_) | (with_reducible refine tr_inX ?_) | (with_reducible refine tr_thenX ?_) | (with_reducible refine tr_inN ?_) | (with_reducible refine tr_inR ?_) | (with_reducible refine tr_thenR ?_))
    refine tr_rseq ?_   -- region 7
    refine sq_q (qt_load2 rfl (fun w t => t.atO 0 rfl rfl) (fun w t => t.atO 0 rfl rfl)) rfl ?_   -- t32
    refine sq_store 1 rfl rfl rfl rfl (Nat.le_refl 2) rfl rfl ?_   -- R7.1
    refine sq_end ?_
    refine tr_ret ?_
    repeat (first | (with_reducible refine tr_skip ?_) | (with_reducible refine tr_exit ?_) | (with_reducible refine tr_then ?_) | (with_reducible refine tr_inX ?_) | (with_reducible refine tr_thenX ?_) | (with_reducible refine tr_inN ?_) | (with_reducible refine tr_inR ?_) | (with_reducible refine tr_thenR ?_))
    exact tr_done p (fun a w s t => results_1 rfl (resv_cell 1 s t rfl rfl rfl)) (fun w h _ _ => ⟨h, nl_sum hFb⟩)

theorem dot_ret (a b : Rw) (F : Nat → Int) (B B' : Nat) (w : World) (S : Nat → Prop) (ha : a.ok B w) (hb : b.ok B' w) (h1 : 1 ≤ a.l.length) (hn : a.l.length ≤ 64) (hle : a.l.length ≤ b.l.length) (hB : B + B' ≤ 35184372088700) (hF : ∀ k (hk : k < a.l.length) (hk' : k < b.l.length), a.l[k].z * b.l[k].z = F k) :
    Ret Try.prog 94 [a.v, b.v] w S (iv (sumN a.l.length F)) (fun p w => Lz (sumN a.l.length F).natAbs p w ∧ nl (sumN a.l.length F).natAbs ≤ B + B' + a.l.length) := by
  obtain ⟨rr, orr, evr, hatr⟩ := ha.at_ (show 0 < a.l.length by omega)
  obtain ⟨rr', orr', evr', hatr'⟩ := hb.at_ (show 0 < b.l.length by omega)
  obtain ⟨n, hln⟩ : ∃ n, n = a.l.length := ⟨_, rfl⟩
  have hFb : ∀ k, k < n → nl (F k).natAbs ≤ B + B' := fun k hk => by
    rw [← hF k (by omega) (by omega)]
    have g1 := nl_imul (a.l[k]'(by omega)).z (b.l[k]'(by omega)).z
    have g2 := nl_zd (ha.2.2 _ (List.getElem_mem (show k < a.l.length by omega)))
    have g3 := nl_zd (hb.2.2 _ (List.getElem_mem (show k < b.l.length by omega)))
    omega
  rw [evr, evr', ← hln]
  refine ret_of Try.func94 rfl Try.ntmps94 rfl ?_
  refine tr_rseq ?_   -- region 0
  refine sq_alloc rfl fun r4 => ?_   -- t4
  refine sq_end ?_
  refine tr_rseq ?_   -- region 1
  refine sq_q (qt_build rfl built0) rfl ?_   -- t7
  refine sq_alloc rfl fun r5 => ?_   -- t5
  refine sq_store 0 rfl rfl rfl rfl (Nat.le_refl 2) rfl rfl ?_   -- R1.2
  refine sq_end ?_
  refine tr_seq ?_   -- C1
  refine tr_rseq ?_   -- region 2
  refine sq_q (qt_move rfl) rfl ?_   -- t8
  refine sq_q (qt_len rfl) rfl ?_   -- t9
  refine sq_q (qt_move rfl) rfl ?_   -- t10
  refine sq_end ?_
  refine tr_block ?_
  refine tr_own [zblk r5 (zd (sumN 0 F) (none, 0)), zblk r4 z0] (by rw [zblk_zero]; rfl) ?_
  refine tr_loop2 (fun (k : Nat) (p : Sv) => k ≤ n) (fun k p => [(0, .slice (some ⟨rr, orr, none⟩) n a.p.2), (1, .slice (some ⟨rr', orr', none⟩) b.l.length b.p.2), (4, .pointer (some ⟨r4, 0, none⟩)), (5, .pointer (some ⟨r5, 0, none⟩)), (9, .int .i64 (n : Int)), (10, .int .i64 (k : Int))])
    (fun k p => [zblk r5 (zd (sumN k F) p), zblk r4 z0]) (fun k p w => Lz (sumN k F).natAbs p w) (fun k p => n - k) 0 (none, 0) (Nat.zero_le _) ⟨rfl, rfl, rfl, rfl, rfl, rfl, trivial⟩ rfl (fun w _ => lz_zero) ?_
  rintro k p hk
  refine tr_rseq ?_   -- region 3
  refine sq_q (qt_bin rfl rfl bin_lss) rfl ?_   -- t11
  refine sq_end ?_
  refine tr_seq ?_   -- C2
  refine tr_if rfl (fun hc => ?_) (fun hc => ?_)
  ·
    have hlt : k < n := by have := of_decide_eq_true hc; omega
    have hkl : k < a.l.length := by omega
    have hkl' : k < b.l.length := by omega
    obtain ⟨hz0, hz1⟩ := hatr k hkl
    have hzok := ha.2.2 _ (List.getElem_mem hkl)
    obtain ⟨hz0', hz1'⟩ := hatr' k hkl'
    have hzok' := hb.2.2 _ (List.getElem_mem hkl')
    have hfk := hF k hkl hkl'
    have hb1 := hFb k hlt
    have hb2 := nl_sum (f := F) (k := k) fun i hi => hFb i (by omega)
    refine tr_skip ?_
    repeat (first | (with_reducible refine tr_skip ?_) | (with_reducible refine tr_exit ?_) | (with_reducible refine tr_then ?_) | (with_reducible refine tr_inX ?_) | (with_reducible refine tr_thenX ?_) | (with_reducible refine tr_inN ?_) | (with_reducible refine tr_inR ?_) | (with_reducible refine tr_thenR ?_))
    refine tr_seq ?_   -- C3
    refine tr_block ?_
    refine tr_rseq ?_   -- region 4
    refine sq_q (qt_move rfl) rfl ?_   -- t12
    refine sq_q (qt_assign rfl) rfl ?_   -- t6
    refine sq_end ?_
    refine tr_draw 11 [] [] [0, 1, 4, 5, 6, 9, 10, 11, 23] (by kernel_rfl) ?_   -- region 5
    refine dx_q rfl (qt_load2 rfl (fun w t => t.atO 0 rfl rfl) (fun w t => t.atO 0 rfl rfl)) rfl ?_   -- t13
    refine dx_q rfl (qt_move rfl) rfl ?_   -- t14
    refine dx_q rfl (qt_move rfl) rfl ?_   -- t15
    refine dx_q rfl (qt_index (i := k) rfl rfl hlt) rfl ?_   -- t16
    refine dx_q rfl (qt_load2 rfl (fun w t => t.atA hz0) (fun w t => t.atA hz1)) rfl ?_   -- t17
    refine dx_q rfl (qt_move rfl) rfl ?_   -- t18
    refine dx_q rfl (qt_move rfl) rfl ?_   -- t19
    refine dx_q rfl (qt_index (i := k) rfl rfl hkl') rfl ?_   -- t20
    refine dx_q rfl (qt_load2 rfl (fun w t => t.atA hz0') (fun w t => t.atA hz1')) rfl ?_   -- t21
    refine dx_call (iv (F k)) (Lz (F k).natAbs) rfl rfl rfl (fun w t => by rw [← hfk]; exact rmul_zd (t.zd hzok) (t.zd hzok') (by omega)) ?_   -- t22
    refine dx_call1 22 (iv (sumN (k + 1) F)) (Lz (sumN (k + 1) F).natAbs) rfl rfl (by simp) rfl (fun _ => rfl) (fun _ => rfl) (fun y w t => radd_iv t.r.1 t.r.2 (by omega) (by omega)) ?_   -- t23
    refine dx_nil ?_
    repeat (first | refine es_val rfl ?_ rfl | refine es_skip rfl ?_)
    refine es_res rfl (fun x => ?_) rfl
    repeat (first | refine es_val rfl ?_ rfl | refine es_skip rfl ?_)
    refine es_nil rfl ?_
    refine tx_store 0 rfl rfl rfl rfl (Nat.le_refl 2) rfl rfl rfl ?_   -- _
    refine tx_end ?_
    repeat (first | (with_reducible refine tr_skip ?_) | (with_reducible refine tr_exit ?_) | (with_reducible refine tr_then ?_) | (with_reducible refine tr_inX ?_) | (with_reducible refine tr_thenX ?_) | (with_reducible refine tr_inN ?_) | (with_reducible refine tr_inR ?_) | (with_reducible refine tr_thenR ?_))
    refine tr_region ?_   -- region 6
    refine sq_q (qt_bin rfl rfl (bin_addI (by omega) (by omega))) rfl ?_   -- t24
    refine sq_q (qt_move rfl) rfl ?_   -- t10
    refine sq_nil ?_
    repeat (first | (with_reducible refine tr_skip ?_) | (with_reducible refine tr_exit ?_) | (with_reducible refine tr_then ?_) | (with_reducible refine tr_inX ?_) | (with_reducible refine tr_thenX ?_) | (with_reducible refine tr_inN ?_) | (with_reducible refine tr_inR ?_) | (with_reducible refine tr_thenR ?_))
    refine tr_own [zblk r5 (zd (sumN (k + 1) F) x), zblk r4 z0] rfl ?_
    refine tr_round2 (k + 1) x hlt (by omega) ⟨rfl, rfl, rfl, rfl, rfl, rfl, trivial⟩ rfl (fun w h => h.2)
  ·
    have hkn : k = n := by have := of_decide_eq_false hc; omega
    rw [hkn]
    refine tr_exit ?_
    repeat (first | (with_reducible refine tr_skip ?_) | (with_reducible refine tr_exit ?_) | (with_reducible refine tr_then ?_) | (with_reducible refine tr_inX ?_) | (with_reducible refine tr_thenX ?_) | (with_reducible refine tr_inN ?_) | (with_reducible refine tr_inR ?_) | (with_reducible refine tr_thenR ?_))
    refine tr_rseq ?_   -- region 7
    refine sq_q (qt_load2 rfl (fun w t => t.atO 0 rfl rfl) (fun w t => t.atO 0 rfl rfl)) rfl ?_   -- t25
    refine sq_store 1 rfl rfl rfl rfl (Nat.le_refl 2) rfl rfl ?_   -- R7.1
    refine sq_end ?_
    refine tr_ret ?_
    repeat (first | (with_reducible refine tr_skip ?_) | (with_reducible refine tr_exit ?_) | (with_reducible refine tr_then ?_) | (with_reducible refine tr_inX ?_) | (with_reducible refine tr_thenX ?_) | (with_reducible refine tr_inN ?_) | (with_reducible refine tr_inR ?_) | (with_reducible refine tr_thenR ?_))
    exact tr_done p (fun a w s t => results_1 rfl (resv_cell 1 s t rfl rfl rfl)) (fun w h _ _ => ⟨h, nl_sum hFb⟩)
end Go.Qk
end
section
/- Transposes. -/
set_option linter.unusedVariables false
namespace Go.Qk
open Go Go.Proofs Go.RowKit
set_option maxRecDepth 100000
set_option maxHeartbeats 4000000

theorem transpose1_ret (m : Mt) (B b2 i j : Nat) (w : World) (S : Nat → Prop) (hm : m.ok B w) (hB : B ≤ 35184372088832) (h2 : At b2 0 m.v w) (hj : j < m.rs.length) (hi : i < m.rs[j].l.length) :
    Ret Try.prog 89 [.int .i64 (i : Int), .int .i64 (j : Int), .pointer (some ⟨b2, 0, none⟩)] w S (iv (tr (ent m.zs) i j)) (fun p w => Lz (tr (ent m.zs) i j).natAbs p w ∧ nl (tr (ent m.zs) i j).natAbs ≤ B) := by
  obtain ⟨ro, oo, evm, hat⟩ := hm.at_ (show 0 < m.rs.length by omega)
  obtain ⟨rr, orr, evr, hatr⟩ := (hm.2.2 _ (List.getElem_mem hj)).at_ (show 0 < m.rs[j].l.length by omega)
  rw [evm] at h2
  have hr := hat j hj
  rw [evr] at hr
  obtain ⟨hz0, hz1⟩ := hatr i hi
  have hzok := (hm.2.2 _ (List.getElem_mem hj)).2.2 _ (List.getElem_mem hi)
  rw [show tr (ent m.zs) i j = m.rs[j].l[i].z from mt_ent hj hi]
  have hbd := nl_zd hzok
  refine ret_of Try.func89 rfl Try.ntmps89 rfl ?_
  refine tr_rseq ?_   -- region 0
  refine sq_alloc rfl fun r5 => ?_   -- t5
  refine sq_end ?_
  refine tr_rseq ?_   -- region 1
  refine sq_q (qt_load rfl (fun w t => t.atA h2)) rfl ?_   -- t6
  refine sq_q (qt_move rfl) rfl ?_   -- t7
  refine sq_q (qt_index (i := j) rfl rfl hj) rfl ?_   -- t8
  refine sq_q (qt_load rfl (fun w t => t.a1 hr)) rfl ?_   -- t9
  refine sq_q (qt_move rfl) rfl ?_   -- t10
  refine sq_q (qt_index (i := i) rfl rfl hi) rfl ?_   -- t11
  refine sq_q (qt_load2 rfl (fun w t => t.atA hz0) (fun w t => t.atA hz1)) rfl ?_   -- t12
  refine sq_call (iv m.rs[j].l[i].z) (Lz m.rs[j].l[i].z.natAbs) rfl rfl rfl (fun w t => norm_zd (t.zd hzok) hB) fun x => ?_   -- t13
  refine sq_store 0 rfl rfl rfl rfl (Nat.le_refl 2) rfl rfl ?_   -- R1.8
  refine sq_end ?_
  refine tr_ret ?_
  repeat (first | (with_reducible refine tr_skip ?_) | (with_reducible refine tr_exit ?_) | (with_reducible refine tr_then ?_) | (with_reducible refine tr_inX ?_) | (with_reducible refine tr_thenX ?_) | (with_reducible refine tr_inN ?_) | (with_reducible refine tr_inR ?_) | (with_reducible refine tr_thenR ?_))
  exact tr_done x (fun a w s t => results_1 rfl (resv_cell 0 s t rfl rfl rfl)) (fun w h _ _ => ⟨h.2, hbd⟩)

theorem transpose_ret (m : Mt) (B : Nat) (w0 : World) (S : Nat → Prop) (hm : m.ok B w0) (hB : B ≤ 35184372088832) (hl : m.rs.length ≤ 35184372088832) (hr : ∀ r ∈ m.rs, r.l.length ≤ 35184372088832) :
    Ret Try.prog 44 [m.v] w0 S (optV (trO m.zs)) (optF B (trO m.zs)) := by
  obtain ⟨o, ho⟩ : ∃ o, o = shp m.zs := ⟨_, rfl⟩
  have hO : trO m.zs = trP o m.zs := by rw [ho]; rfl
  rw [hO]
  clear hO
  refine ret_of Try.func44 rfl Try.ntmps44 rfl ?_
  refine tr_rseq ?_   -- region 0
  refine sq_box rfl rfl fun r1 => ?_   -- t1
  refine sq_q (qt_assign rfl) rfl ?_   -- t2
  refine sq_q (qt_assign rfl) rfl ?_   -- t3
  refine sq_end ?_
  refine tr_rseq ?_   -- region 1
  refine sq_q (qt_load rfl (fun w t => t.atO 0 rfl rfl)) rfl ?_   -- t8
  refine sq_call (val := fun _ : Unit => shpV o) (F := fun _ _ => True) rfl rfl rfl (fun w t => by rw [ho]; exact shape_ret m B w _ (t.mt hm) hl hr) fun _ => ?_   -- t9
  refine sq_q (qt_move rfl) rfl ?_   -- t7
  refine sq_q (qt_extract rfl rfl) rfl ?_   -- t10
  refine sq_q (qt_extract rfl rfl) rfl ?_   -- t11
  refine sq_q (qt_extract rfl rfl) rfl ?_   -- t12
  refine sq_q (qt_assign rfl) rfl ?_   -- t4
  refine sq_q (qt_assign rfl) rfl ?_   -- t5
  refine sq_q (qt_assign rfl) rfl ?_   -- t6
  refine sq_end ?_
  refine tr_seq ?_   -- C1
  rcases (show o = none ∨ ∃ r c, o = some (r, c) by cases o with | none => exact .inl rfl | some x => exact .inr ⟨x.1, x.2, rfl⟩) with h1 | ⟨r, c, h1⟩
  ·
    subst h1
    rw [show trP none m.zs = none from rfl]
    refine tr_rseq ?_   -- region 2
    refine sq_q (qt_move rfl) rfl ?_   -- t13
    refine sq_q (qt_not rfl) rfl ?_   -- t14
    refine sq_end ?_
    refine tr_ifT rfl ?_
    refine tr_rseq ?_   -- region 3
    refine sq_q (qt_assign rfl) rfl ?_   -- t2
    refine sq_q (qt_assign rfl) rfl ?_   -- t3
    refine sq_end ?_
    refine tr_ret ?_
    repeat (first | (with_reducible refine tr_skip ?_) | (with_reducible refine tr_exit ?_) | (with_reducible refine tr_then ?_) | (with_reducible refine tr_inX ?_) | (with_reducible refine tr_thenX ?_) | (with_reducible refine tr_inN ?_) | (with_reducible refine tr_inR ?_) | (with_reducible refine tr_thenR ?_))
    exact tr_done ⟨[], (none, 0)⟩ (fun a w s t => results_2 rfl (resv_tmp s rfl) (resv_tmp s rfl)) (fun w _ _ _ => optF_none _ _)
  ·
    subst h1
    rw [show trP (some (r, c)) m.zs = some (grid (tr (ent m.zs)) c r) from rfl]
    obtain ⟨g1, g2, g3, g4, g5, g6⟩ := mt_shp ho.symm
    refine tr_rseq ?_   -- region 2
    refine sq_q (qt_move rfl) rfl ?_   -- t13
    refine sq_q (qt_not rfl) rfl ?_   -- t14
    refine sq_end ?_
    refine tr_ifF rfl ?_
    refine tr_skip ?_
    repeat (first | (with_reducible refine tr_skip ?_) | (with_reducible refine tr_exit ?_) | (with_reducible refine tr_then ?_) | (with_reducible refine tr_inX ?_) | (with_reducible refine tr_thenX ?_) | (with_reducible refine tr_inN ?_) | (with_reducible refine tr_inR ?_) | (with_reducible refine tr_thenR ?_))
    refine tr_rseq ?_   -- region 4
    refine sq_q (qt_move rfl) rfl ?_   -- t15
    refine sq_q (qt_move rfl) rfl ?_   -- t16
    refine sq_q (qt_makeFunc rfl) rfl ?_   -- t17
    refine sq_call Mt.v (fun x w => x.ok B w ∧ x.zs = grid (tr (ent m.zs)) c r ∧ x.can) rfl rfl rfl (fun w t => ?_) fun x => ?_
    · exact build_ret c r B (tr (ent m.zs)) 89 [] [.pointer (some ⟨r1, 0, none⟩)] w _ (by omega) (by omega) (fun i j w' S' hi hj hbel => transpose1_ret m B r1 i j w' S' ((t.mt hm).below hbel) hB ((t.atO 0 rfl rfl).below hbel) (by omega) (by rw [g6 _ (List.getElem_mem _)]; exact hi))   -- t18
    refine sq_q (qt_assign rfl) rfl ?_   -- t2
    refine sq_q (qt_assign rfl) rfl ?_   -- t3
    refine sq_end ?_
    refine tr_ret ?_
    repeat (first | (with_reducible refine tr_skip ?_) | (with_reducible refine tr_exit ?_) | (with_reducible refine tr_then ?_) | (with_reducible refine tr_inX ?_) | (with_reducible refine tr_thenX ?_) | (with_reducible refine tr_inN ?_) | (with_reducible refine tr_inR ?_) | (with_reducible refine tr_thenR ?_))
    exact tr_done x (fun a w s t => results_2 rfl (resv_tmp s rfl) (resv_tmp s rfl)) (fun w h _ _ => h.2)

theorem rtranspose_ret (m : Mt) (B : Nat) (w0 : World) (S : Nat → Prop) (hm : m.ok B w0) (hB : B ≤ 35184372088832) (hl : m.rs.length ≤ 35184372088832) (hr : ∀ r ∈ m.rs, r.l.length ≤ 35184372088832) :
    Ret Try.prog 45 [m.v] w0 S (optV (trO m.zs)) (optF B (trO m.zs)) := by
  obtain ⟨o, ho⟩ : ∃ o, o = shp m.zs := ⟨_, rfl⟩
  have hO : trO m.zs = trP o m.zs := by rw [ho]; rfl
  rw [hO]
  clear hO
  refine ret_of Try.func45 rfl Try.ntmps45 rfl ?_
  refine tr_rseq ?_   -- region 0
  refine sq_q (qt_assign rfl) rfl ?_   -- t2
  refine sq_q (qt_assign rfl) rfl ?_   -- t3
  refine sq_end ?_
  refine tr_rseq ?_   -- region 1
  refine sq_q (qt_move rfl) rfl ?_   -- t11
  refine sq_call (val := fun _ : Unit => shpV o) (F := fun _ _ => True) rfl rfl rfl (fun w t => by rw [ho]; exact rshape_ret m B w _ (t.mt hm) hl hr) fun _ => ?_   -- t12
  refine sq_q (qt_move rfl) rfl ?_   -- t10
  refine sq_q (qt_extract rfl rfl) rfl ?_   -- t13
  refine sq_q (qt_extract rfl rfl) rfl ?_   -- t14
  refine sq_q (qt_extract rfl rfl) rfl ?_   -- t15
  refine sq_q (qt_assign rfl) rfl ?_   -- t4
  refine sq_q (qt_assign rfl) rfl ?_   -- t5
  refine sq_q (qt_assign rfl) rfl ?_   -- t6
  refine sq_end ?_
  refine tr_seq ?_   -- C1
  rcases (show o = none ∨ ∃ r c, o = some (r, c) by cases o with | none => exact .inl rfl | some x => exact .inr ⟨x.1, x.2, rfl⟩) with h1 | ⟨r, c, h1⟩
  ·
    subst h1
    rw [show trP none m.zs = none from rfl]
    refine tr_rseq ?_   -- region 2
    refine sq_q (qt_move rfl) rfl ?_   -- t16
    refine sq_q (qt_not rfl) rfl ?_   -- t17
    refine sq_end ?_
    refine tr_ifT rfl ?_
    refine tr_rseq ?_   -- region 3
    refine sq_q (qt_assign rfl) rfl ?_   -- t2
    refine sq_q (qt_assign rfl) rfl ?_   -- t3
    refine sq_end ?_
    refine tr_ret ?_
    repeat (first | (with_reducible refine tr_skip ?_) | (with_reducible refine tr_exit ?_) | (with_reducible refine tr_then ?_) | (with_reducible refine tr_inX ?_) | (with_reducible refine tr_thenX ?_) | (with_reducible refine tr_inN ?_) | (with_reducible refine tr_inR ?_) | (with_reducible refine tr_thenR ?_))
    exact tr_done ⟨[], (none, 0)⟩ (fun a w s t => results_2 rfl (resv_tmp s rfl) (resv_tmp s rfl)) (fun w _ _ _ => optF_none _ _)
  ·
    subst h1
    rw [show trP (some (r, c)) m.zs = some (grid (tr (ent m.zs)) c r) from rfl]
    obtain ⟨g1, g2, g3, g4, g5, g6⟩ := mt_shp ho.symm
    refine tr_rseq ?_   -- region 2
    refine sq_q (qt_move rfl) rfl ?_   -- t16
    refine sq_q (qt_not rfl) rfl ?_   -- t17
    refine sq_end ?_
    refine tr_ifF rfl ?_
    refine tr_skip ?_
    repeat (first | (with_reducible refine tr_skip ?_) | (with_reducible refine tr_exit ?_) | (with_reducible refine tr_then ?_) | (with_reducible refine tr_inX ?_) | (with_reducible refine tr_thenX ?_) | (with_reducible refine tr_inN ?_) | (with_reducible refine tr_inR ?_) | (with_reducible refine tr_thenR ?_))
    refine tr_rseq ?_   -- region 4
    refine sq_q (qt_move rfl) rfl ?_   -- t18
    refine sq_q (qt_move rfl) rfl ?_   -- t19
    refine sq_call (fun x : Nat × List Wr => .slice (some ⟨x.1, 0, none⟩) c c) (fun x w' => Fresh w0.heap.size (mown x.1 x.2) w' ∧ x.2.map (·.2) = List.replicate c (List.replicate r z0)) rfl rfl rfl (fun w t => zero_call t c r (by omega) (by omega)) fun x => ?_   -- t20
    refine sq_q (qt_assign rfl) rfl ?_   -- t7
    refine sq_end ?_
    obtain ⟨ob, qs⟩ := x
    refine tr_have (fun w t => t.r.2.2) fun hqs => ?_
    refine tr_adopt0 (mown ob qs) (fun w h => h.2.1) ?_
    obtain ⟨ro, oo, evm, hat⟩ := hm.at_ (show 0 < m.rs.length by omega)
    refine tr_seq ?_   -- C2
    refine tr_rseq ?_   -- region 5
    refine sq_q (qt_move rfl) rfl ?_   -- t21
    refine sq_q (qt_len rfl) rfl ?_   -- t22
    refine sq_q (qt_move rfl) rfl ?_   -- t23
    refine sq_end ?_
    refine tr_block ?_
    refine tr_loop2 (fun (i : Nat) (qs : List Wr) => i ≤ r ∧ MG (fun a b => if b < i then ent m.zs b a else 0) c r qs ∧ allz Zd.can qs) (fun i qs => [(0, m.v), (7, .slice (some ⟨ob, 0, none⟩) c c), (22, .int .i64 (r : Int)), (23, .int .i64 (i : Int))])
      (fun i qs => mown ob qs) (fun i qs w => allz (fun z => z.ok B w) qs) (fun i qs => r - i) 0 qs ⟨Nat.zero_le _, (MG.of_zero hqs).congr (fun a b _ _ => by rw [if_neg (by omega)]), allz.of_zero hqs z0_can⟩ ⟨rfl, rfl, congrArg (fun z => some (Value.int .i64 ((z : Nat) : Int))) g1, rfl, trivial⟩ rfl (fun w _ => allz.of_zero hqs (z0_ok B w)) ?_
    clear hqs qs
    rintro i qs ⟨hle, hG, hcan⟩
    refine tr_rseq ?_   -- region 6
    refine sq_q (qt_bin rfl rfl bin_lss) rfl ?_   -- t24
    refine sq_end ?_
    refine tr_seq ?_   -- C3
    refine tr_if rfl (fun hc => ?_) (fun hc => ?_)
    ·
      have hlt : i < r := by have := of_decide_eq_true hc; omega
      have hmi : i < m.rs.length := by omega
      have hcl := g6 _ (List.getElem_mem hmi)
      obtain ⟨rr, orr, evr, hatr⟩ := (hm.2.2 _ (List.getElem_mem hmi)).at_ (show 0 < m.rs[i].l.length by omega)
      have hrw := hat i hmi
      rw [evr] at hrw
      refine tr_sub [(0, .slice (some ⟨ro, oo, none⟩) m.rs.length m.p.2), (7, .slice (some ⟨ob, 0, none⟩) c c), (22, .int .i64 (r : Int)), (23, .int .i64 (i : Int))] ⟨congrArg some evm, rfl, rfl, rfl, trivial⟩ ?_
      refine tr_skip ?_
      repeat (first | (with_reducible refine tr_skip ?_) | (with_reducible refine tr_exit ?_) | (with_reducible refine tr_then ?_) | (with_reducible refine tr_inX ?_) | (with_reducible refine tr_thenX ?_) | (with_reducible refine tr_inN ?_) | (with_reducible refine tr_inR ?_) | (with_reducible refine tr_thenR ?_))
      refine tr_seq ?_   -- C4
      refine tr_block ?_
      refine tr_rseq ?_   -- region 7
      refine sq_q (qt_move rfl) rfl ?_   -- t25
      refine sq_q (qt_assign rfl) rfl ?_   -- t8
      refine sq_end ?_
      refine tr_rseq ?_   -- region 8
      refine sq_q (qt_move rfl) rfl ?_   -- t26
      refine sq_q (qt_move rfl) rfl ?_   -- t27
      refine sq_q (qt_index (i := i) rfl rfl hmi) rfl ?_   -- t28
      refine sq_q (qt_load rfl (fun w t => t.a1 hrw)) rfl ?_   -- t29
      refine sq_q (qt_len rfl) rfl ?_   -- t30
      refine sq_q (qt_move rfl) rfl ?_   -- t31
      refine sq_end ?_
      refine tr_block ?_
      have hG0 : MG (fun a b => if b < i ∨ (b = i ∧ a < 0) then ent m.zs b a else 0) c r qs := hG.congr fun a b _ _ => by
        by_cases h : b < i
        · rw [if_pos h, if_pos (.inl h)]
        · rw [if_neg h, if_neg (by omega)]
      refine tr_loop2 (fun (j : Nat) (qs : List Wr) => j ≤ c ∧ MG (fun a b => if b < i ∨ (b = i ∧ a < j) then ent m.zs b a else 0) c r qs ∧ allz Zd.can qs) (fun j qs => [(0, .slice (some ⟨ro, oo, none⟩) m.rs.length m.p.2), (7, .slice (some ⟨ob, 0, none⟩) c c), (8, .int .i64 (i : Int)), (22, .int .i64 (r : Int)), (23, .int .i64 (i : Int)), (30, .int .i64 (c : Int)), (31, .int .i64 (j : Int))])
        (fun j qs => mown ob qs) (fun j qs w => allz (fun z => z.ok B w) qs) (fun j qs => c - j) 0 qs ⟨Nat.zero_le _, hG0, hcan⟩ ⟨rfl, rfl, rfl, rfl, rfl, congrArg (fun z => some (Value.int .i64 ((z : Nat) : Int))) hcl, rfl, trivial⟩ rfl (fun w h => h) ?_
      clear hG0 hG hcan qs
      rintro j qs ⟨hjc, hG, hcan⟩
      refine tr_rseq ?_   -- region 9
      refine sq_q (qt_bin rfl rfl bin_lss) rfl ?_   -- t32
      refine sq_end ?_
      refine tr_seq ?_   -- C5
      refine tr_if rfl (fun hc => ?_) (fun hc => ?_)
      ·
        have hlt2 : j < c := by have := of_decide_eq_true hc; omega
        have hjl : j < m.rs[i].l.length := by omega
        obtain ⟨hz0, hz1⟩ := hatr j hjl
        have hzok := (hm.2.2 _ (List.getElem_mem hmi)).2.2 _ (List.getElem_mem hjl)
        have he : m.rs[i].l[j].z = ent m.zs i j := (mt_ent hmi hjl).symm
        have hbd : nl (ent m.zs i j).natAbs ≤ B := by rw [← he]; exact nl_zd hzok
        obtain ⟨q, hq, hql⟩ := hG.get hlt2
        refine tr_skip ?_
        repeat (first | (with_reducible refine tr_skip ?_) | (with_reducible refine tr_exit ?_) | (with_reducible refine tr_then ?_) | (with_reducible refine tr_inX ?_) | (with_reducible refine tr_thenX ?_) | (with_reducible refine tr_inN ?_) | (with_reducible refine tr_inR ?_) | (with_reducible refine tr_thenR ?_))
        refine tr_seq ?_   -- C6
        refine tr_block ?_
        refine tr_rseq ?_   -- region 10
        refine sq_q (qt_move rfl) rfl ?_   -- t33
        refine sq_q (qt_assign rfl) rfl ?_   -- t9
        refine sq_end ?_
        refine tr_draw 13 [] [] [0, 2, 3, 4, 5, 6, 7, 8, 9, 17, 22, 23, 24, 30, 31, 32, 37, 38, 46] (by kernel_rfl) ?_   -- region 11
        refine dx_q rfl (qt_move rfl) rfl ?_   -- t34
        refine dx_q rfl (qt_move rfl) rfl ?_   -- t35
        refine dx_q rfl (qt_index (i := j) rfl rfl hlt2) rfl ?_   -- t36
        refine dx_q rfl (qt_load rfl (fun w t => t.o1 0 rfl (mout_get hq))) rfl ?_   -- t37
        refine dx_q rfl (qt_move rfl) rfl ?_   -- t38
        refine dx_q rfl (qt_move rfl) rfl ?_   -- t39
        refine dx_q rfl (qt_move rfl) rfl ?_   -- t40
        refine dx_q rfl (qt_index (i := i) rfl rfl hmi) rfl ?_   -- t41
        refine dx_q rfl (qt_load rfl (fun w t => t.a1 hrw)) rfl ?_   -- t42
        refine dx_q rfl (qt_move rfl) rfl ?_   -- t43
        refine dx_q rfl (qt_index (i := j) rfl rfl hjl) rfl ?_   -- t44
        refine dx_q rfl (qt_load2 rfl (fun w t => t.atA hz0) (fun w t => t.atA hz1)) rfl ?_   -- t45
        refine dx_call (iv (ent m.zs i j)) (Lz (ent m.zs i j).natAbs) rfl rfl rfl (fun w t => by rw [← he]; exact rnorm_zd (t.zd hzok) hB) ?_   -- t46
        refine dx_nil ?_
        repeat (first | refine es_val rfl ?_ rfl | refine es_skip rfl ?_)
        refine es_res rfl (fun x => ?_) rfl
        repeat (first | refine es_val rfl ?_ rfl | refine es_skip rfl ?_)
        refine es_nil rfl ?_
        refine tx_q (qt_index (i := i) rfl rfl (by omega)) rfl rfl rfl ?_   -- t47
        refine tx_store (j + 1) rfl rfl (mown_at hq) rfl (show 0 + i * 2 + 2 ≤ (zcs q.2).length by rw [zcs_length, hql]; omega) rfl rfl rfl ?_   -- _
        refine tx_end ?_
        repeat (first | (with_reducible refine tr_skip ?_) | (with_reducible refine tr_exit ?_) | (with_reducible refine tr_then ?_) | (with_reducible refine tr_inX ?_) | (with_reducible refine tr_thenX ?_) | (with_reducible refine tr_inN ?_) | (with_reducible refine tr_inR ?_) | (with_reducible refine tr_thenR ?_))
        refine tr_region ?_   -- region 12
        refine sq_q (qt_bin rfl rfl (bin_addI (by omega) (by omega))) rfl ?_   -- t48
        refine sq_q (qt_move rfl) rfl ?_   -- t31
        refine sq_nil ?_
        repeat (first | (with_reducible refine tr_skip ?_) | (with_reducible refine tr_exit ?_) | (with_reducible refine tr_then ?_) | (with_reducible refine tr_inX ?_) | (with_reducible refine tr_thenX ?_) | (with_reducible refine tr_inN ?_) | (with_reducible refine tr_inR ?_) | (with_reducible refine tr_thenR ?_))
        refine tr_own (mown ob (qs.set j (q.1, q.2.set i (zd (ent m.zs i j) x)))) (mown_wr (zd (ent m.zs i j) x) hq (by omega)) ?_
        refine tr_round2 (j + 1) (qs.set j (q.1, q.2.set i (zd (ent m.zs i j) x))) ⟨by omega, (hG.set hq (zd (ent m.zs i j) x) (ent m.zs i j) (zd_z _ _)).congr (fun a b _ _ => ?_), hcan.set hq (zd_can _ _)⟩ (by omega) ⟨rfl, rfl, rfl, rfl, rfl, rfl, rfl, trivial⟩ rfl (fun w h => h.1.set hq (zd_ok h.2 hbd))
        unfold gset
        dsimp only
        split
        · rename_i h; rw [if_pos (by omega), h.1, h.2]
        · rename_i h
          by_cases h' : b < i ∨ (b = i ∧ a < j)
          · rw [if_pos h', if_pos (by omega)]
          · rw [if_neg h', if_neg (by omega)]
      ·
        have hje : j = c := by have := of_decide_eq_false hc; omega
        refine tr_exit ?_
        repeat (first | (with_reducible refine tr_skip ?_) | (with_reducible refine tr_exit ?_) | (with_reducible refine tr_then ?_) | (with_reducible refine tr_inX ?_) | (with_reducible refine tr_thenX ?_) | (with_reducible refine tr_inN ?_) | (with_reducible refine tr_inR ?_) | (with_reducible refine tr_thenR ?_))
        refine tr_region ?_   -- region 13
        refine sq_q (qt_bin rfl rfl (bin_addI (by omega) (by omega))) rfl ?_   -- t49
        refine sq_q (qt_move rfl) rfl ?_   -- t23
        refine sq_nil ?_
        repeat (first | (with_reducible refine tr_skip ?_) | (with_reducible refine tr_exit ?_) | (with_reducible refine tr_then ?_) | (with_reducible refine tr_inX ?_) | (with_reducible refine tr_thenX ?_) | (with_reducible refine tr_inN ?_) | (with_reducible refine tr_inR ?_) | (with_reducible refine tr_thenR ?_))
        refine tr_round2 (i + 1) qs ⟨by omega, hG.congr (fun a b ha hb => ?_), hcan⟩ (by omega) ⟨congrArg some evm.symm, rfl, rfl, rfl, trivial⟩ rfl (fun w h => h)
        by_cases h : b < i ∨ (b = i ∧ a < j)
        · rw [if_pos h, if_pos (by omega)]
        · rw [if_neg h, if_neg (by omega)]
    ·
      have hik : i = r := by have := of_decide_eq_false hc; omega
      subst hik
      refine tr_exit ?_
      repeat (first | (with_reducible refine tr_skip ?_) | (with_reducible refine tr_exit ?_) | (with_reducible refine tr_then ?_) | (with_reducible refine tr_inX ?_) | (with_reducible refine tr_thenX ?_) | (with_reducible refine tr_inN ?_) | (with_reducible refine tr_inR ?_) | (with_reducible refine tr_thenR ?_))
      refine tr_rseq ?_   -- region 14
      refine sq_q (qt_move rfl) rfl ?_   -- t50
      refine sq_q (qt_assign rfl) rfl ?_   -- t2
      refine sq_q (qt_assign rfl) rfl ?_   -- t3
      refine sq_end ?_
      refine tr_ret ?_
      repeat (first | (with_reducible refine tr_skip ?_) | (with_reducible refine tr_exit ?_) | (with_reducible refine tr_then ?_) | (with_reducible refine tr_inX ?_) | (with_reducible refine tr_thenX ?_) | (with_reducible refine tr_inN ?_) | (with_reducible refine tr_inR ?_) | (with_reducible refine tr_thenR ?_))
      refine tr_done (mmt ob qs) (fun a w s t => results_2 rfl (resv_tmp s (by rw [mmt_v, hG.1]; rfl)) (resv_tmp s rfl)) (fun w h ho _ => ⟨mmt_ok ho h, ?_, mmt_can hcan⟩)
      rw [mmt_zs, hG.zs]
      show grid _ c i = grid (tr (ent m.zs)) c i
      unfold grid
      refine List.map_congr_left fun a ha => List.map_congr_left fun b hb => ?_
      have hb := List.mem_range.1 hb
      exact if_pos hb
end Go.Qk
end
section
/- A call that hands out fresh blocks. -/
set_option linter.unusedVariables false
namespace Go.Qk
open Go Go.Proofs Go.RowKit
section
variable {P : Program} {n : Nat} {w0 : World} {X : List Nat} {S : Nat → Prop} {E : Env} {own : Own} {R : World → Prop} {Q : Exit → Act → World → Prop} {ops : Array Oper} {rest : List Oper}
theorem SS.give {w w' : World} (t : SS w0 X S own R w) (hb : Below w.heap.size w w') {ad : Own} (hf : Fresh w.heap.size ad w') : SS w0 X S (ad ++ own) R w' := by
  have g := t.grow hb
  have hlt : ∀ p ∈ ad, p.1 < w'.heap.size := fun p hp => (Array.getElem?_eq_some_iff.1 (hf.2 p hp).2).1
  refine ⟨g.os, g.tape, g.output, g.size, g.pres, ?_, ?_, ?_, ?_⟩
  · intro p hp
    rcases List.mem_append.1 hp with h | h
    · exact ⟨hlt p h, .inr (Nat.le_trans t.size (hf.2 p h).1)⟩
    · exact g.lt p h
  · intro p hp
    rcases List.mem_append.1 hp with h | h
    · exact (hf.2 p h).2
    · exact g.has p h
  · refine List.pairwise_append.2 ⟨hf.1, g.nd, fun p hp q hq e => ?_⟩
    have h1 := (hf.2 p hp).1
    have h2 := (t.lt q hq).1
    omega
  · intro w'' hs hk
    refine t.keep w'' (Nat.le_trans hb.size hs) fun k h1 h2 h3 => ?_
    rw [hk k h1 (Nat.lt_of_lt_of_le h2 hb.size) fun p hp e => ?_, hb.block k h2]
    rcases List.mem_append.1 hp with h | h
    · have := (hf.2 p h).1; omega
    · exact h3 p h e
theorem sq_callA {α : Type} {c : Operand} {f : FuncId} {pre cap : List Value} {xs : List Operand} {vs : List Value} {ats : Array TypeId} {ty : TypeId} {d : Nat} {pos : String} {af : Array Edge} (val : α → Value) (ad : α → Own) (p : α → Prop) [hB : FnB P f]
    (hc : fnv (look E) c f pre cap) (hxs : evs (look E) xs = some vs) (hd : Nat.blt d n = true)
    (hcall : ∀ w, SS w0 X S own R w → Ret P f (pre ++ vs ++ cap) w (Nn w0 S own w) val (fun x w' => Fresh w.heap.size (ad x) w' ∧ p x))
    (h : ∀ x, p x → Sq P ops Q n w0 X S rest ((d, val x) :: E) (ad x ++ own) R) :
    Sq P ops Q n w0 X S (⟨some d, .call { callee := .value c, args := xs.toArray, argTypes := ats }, ty, pos, af, none⟩ :: rest) E own R := by
  intro a w s t'
  refine wpList_plain rfl fun K hK => ?_
  unfold Oper.wp
  rw [run_call s.agr hc hxs, Oper.upon_enter]
  refine (hcall w t').mono ?_
  rintro e w' ⟨x, rfl, hb, hf⟩
  exact hK _ _ (h x hf.now.2 _ _ (s.put hd _) (t'.give hb hf.now.1))
end
theorem Mt.ok.row_at {B : Nat} {m : Mt} {w : World} {r o : Nat} (h : m.ok B w) (e : m.v = .slice (some ⟨r, o, none⟩) m.rs.length m.p.2) {i : Nat} (hi : i < m.rs.length) : At r (o + i * 1) (m.rs[i]).v w := by
  rw [Nat.mul_one]
  exact h.at_eq e hi
/-- the second grid with as many rows as the first has columns -/
def Gd.by_ (x y : Gd) : Gd := ⟨x.c, y.c, y.l, y.p⟩
theorem Gd.by_ok {x y : Gd} {w : World} (hx : x.ok w) (hy : y.ok w) : (x.by_ y).ok w := ⟨hx.2.1, hy.2.1, hy.2.2⟩
end Go.Qk
end
section
/- Products. -/
set_option linter.unusedVariables false
namespace Go.Qk
open Go Go.Proofs Go.RowKit
set_option maxRecDepth 100000
set_option maxHeartbeats 4000000

theorem mmul_ret (m m' : Mt) (B B' : Nat) (w0 : World) (S : Nat → Prop) (hm : m.ok B w0) (hm' : m'.ok B' w0) (hB : B + B' ≤ 35184372088700) (hl : m.rs.length ≤ 35184372088832) (hr : ∀ r ∈ m.rs, r.l.length ≤ 35184372088832) (hl' : m'.rs.length ≤ 35184372088832) (hr' : ∀ r ∈ m'.rs, r.l.length ≤ 35184372088832) :
    Ret Try.prog 52 [m.v, m'.v] w0 S (optV (mulO m.zs m'.zs)) (optF (B + B' + 16) (mulO m.zs m'.zs)) := by
  obtain ⟨o, ho⟩ : ∃ o, o = shp m.zs := ⟨_, rfl⟩
  obtain ⟨o', ho'⟩ : ∃ o, o = shp m'.zs := ⟨_, rfl⟩
  have hO : mulO m.zs m'.zs = mulP o o' m.zs m'.zs := by rw [ho, ho']; rfl
  rw [hO]
  clear hO
  refine ret_of Try.func52 rfl Try.ntmps52 rfl ?_
  refine tr_rseq ?_   -- region 0
  refine sq_box rfl rfl fun r2 => ?_   -- t2
  refine sq_box rfl rfl fun r3 => ?_   -- t3
  refine sq_q (qt_assign rfl) rfl ?_   -- t4
  refine sq_q (qt_assign rfl) rfl ?_   -- t5
  refine sq_end ?_
  refine tr_rseq ?_   -- region 1
  refine sq_q (qt_load rfl (fun w t => t.atO 1 rfl rfl)) rfl ?_   -- t13
  refine sq_call (val := fun _ : Unit => shpV o) (F := fun _ _ => True) rfl rfl rfl (fun w t => by rw [ho]; exact shape_ret m B w _ (t.mt hm) hl hr) fun _ => ?_   -- t14
  refine sq_q (qt_move rfl) rfl ?_   -- t12
  refine sq_q (qt_extract rfl rfl) rfl ?_   -- t15
  refine sq_q (qt_extract rfl rfl) rfl ?_   -- t16
  refine sq_q (qt_extract rfl rfl) rfl ?_   -- t17
  refine sq_alloc rfl fun r7 => ?_   -- t7
  refine sq_q (qt_assign rfl) rfl ?_   -- t6
  refine sq_store 0 rfl rfl rfl rfl (Nat.le_refl 1) rfl rfl ?_   -- R1.8
  refine sq_q (qt_assign rfl) rfl ?_   -- t8
  refine sq_end ?_
  refine tr_rseq ?_   -- region 2
  refine sq_q (qt_load rfl (fun w t => t.atO 1 rfl rfl)) rfl ?_   -- t19
  refine sq_call (val := fun _ : Unit => shpV o') (F := fun _ _ => True) rfl rfl rfl (fun w t => by rw [ho']; exact shape_ret m' B' w _ (t.mt hm') hl' hr') fun _ => ?_   -- t20
  refine sq_q (qt_move rfl) rfl ?_   -- t18
  refine sq_q (qt_extract rfl rfl) rfl ?_   -- t21
  refine sq_q (qt_extract rfl rfl) rfl ?_   -- t22
  refine sq_q (qt_extract rfl rfl) rfl ?_   -- t23
  refine sq_q (qt_assign rfl) rfl ?_   -- t9
  refine sq_q (qt_assign rfl) rfl ?_   -- t10
  refine sq_q (qt_assign rfl) rfl ?_   -- t11
  refine sq_end ?_
  refine tr_seq ?_   -- C1
  have hcs : o = none ∨ (∃ r c, o = some (r, c) ∧ o' = none) ∨ (∃ r c r' c', o = some (r, c) ∧ o' = some (r', c') ∧ c ≠ r') ∨ (∃ r c c', o = some (r, c) ∧ o' = some (c, c')) := by
    cases o with
    | none => exact .inl rfl
    | some x =>
      cases o' with
      | none => exact .inr (.inl ⟨x.1, x.2, rfl, rfl⟩)
      | some y =>
        obtain ⟨r, c⟩ := x
        obtain ⟨r', c'⟩ := y
        by_cases h1 : c = r'
        · subst h1; exact .inr (.inr (.inr ⟨_, _, _, rfl, rfl⟩))
        · exact .inr (.inr (.inl ⟨_, _, _, _, rfl, rfl, h1⟩))
  rcases hcs with h1 | ⟨r, c, h1, h2⟩ | ⟨r, c, r', c', h1, h2, h3⟩ | ⟨r, c, c', h1, h2⟩
  ·
    subst h1
    rw [show mulP none o' m.zs m'.zs = none from rfl]
    refine tr_rseq ?_   -- region 3
    refine sq_q (qt_move rfl) rfl ?_   -- t24
    refine sq_q (qt_not rfl) rfl ?_   -- t25
    refine sq_q (qt_move rfl) rfl ?_   -- t26
    refine sq_gF rfl rfl rfl rfl ?_
    refine sq_gF rfl rfl rfl rfl ?_
    refine sq_q (qt_pick rfl rfl) rfl ?_   -- t29
    refine sq_q (qt_move rfl) rfl ?_   -- t30
    refine sq_gF rfl rfl rfl rfl ?_
    refine sq_gF rfl rfl rfl rfl ?_
    refine sq_gF rfl rfl rfl rfl ?_
    refine sq_q (qt_pick rfl rfl) rfl ?_   -- t34
    refine sq_end ?_
    refine tr_ifT rfl ?_
    refine tr_rseq ?_   -- region 4
    refine sq_q (qt_assign rfl) rfl ?_   -- t4
    refine sq_q (qt_assign rfl) rfl ?_   -- t5
    refine sq_end ?_
    refine tr_ret ?_
    repeat (first | (with_reducible refine tr_skip ?_) | (with_reducible refine tr_exit ?_) | (with_reducible refine tr_then ?_) | (with_reducible refine tr_inX ?_) | (with_reducible refine tr_thenX ?_) | (with_reducible refine tr_inN ?_) | (with_reducible refine tr_inR ?_) | (with_reducible refine tr_thenR ?_))
    exact tr_done ⟨[], (none, 0)⟩ (fun a w s t => results_2 rfl (resv_tmp s rfl) (resv_tmp s rfl)) (fun w _ _ _ => optF_none _ _)
  ·
    subst h1
    subst h2
    rw [show mulP (some (r, c)) none m.zs m'.zs = none from rfl]
    refine tr_rseq ?_   -- region 3
    refine sq_q (qt_move rfl) rfl ?_   -- t24
    refine sq_q (qt_not rfl) rfl ?_   -- t25
    refine sq_q (qt_move rfl) rfl ?_   -- t26
    refine sq_gT rfl rfl ?_
    refine sq_q (qt_move rfl) rfl ?_   -- t27
    refine sq_gT rfl rfl ?_
    refine sq_q (qt_not rfl) rfl ?_   -- t28
    refine sq_q (qt_pick rfl rfl) rfl ?_   -- t29
    refine sq_q (qt_move rfl) rfl ?_   -- t30
    refine sq_gF rfl rfl rfl rfl ?_
    refine sq_gF rfl rfl rfl rfl ?_
    refine sq_gF rfl rfl rfl rfl ?_
    refine sq_q (qt_pick rfl rfl) rfl ?_   -- t34
    refine sq_end ?_
    refine tr_ifT rfl ?_
    refine tr_rseq ?_   -- region 4
    refine sq_q (qt_assign rfl) rfl ?_   -- t4
    refine sq_q (qt_assign rfl) rfl ?_   -- t5
    refine sq_end ?_
    refine tr_ret ?_
    repeat (first | (with_reducible refine tr_skip ?_) | (with_reducible refine tr_exit ?_) | (with_reducible refine tr_then ?_) | (with_reducible refine tr_inX ?_) | (with_reducible refine tr_thenX ?_) | (with_reducible refine tr_inN ?_) | (with_reducible refine tr_inR ?_) | (with_reducible refine tr_thenR ?_))
    exact tr_done ⟨[], (none, 0)⟩ (fun a w s t => results_2 rfl (resv_tmp s rfl) (resv_tmp s rfl)) (fun w _ _ _ => optF_none _ _)
  ·
    subst h1
    subst h2
    rw [show mulP (some (r, c)) (some (r', c')) m.zs m'.zs = none from if_neg h3]
    refine tr_rseq ?_   -- region 3
    refine sq_q (qt_move rfl) rfl ?_   -- t24
    refine sq_q (qt_not rfl) rfl ?_   -- t25
    refine sq_q (qt_move rfl) rfl ?_   -- t26
    refine sq_gT rfl rfl ?_
    refine sq_q (qt_move rfl) rfl ?_   -- t27
    refine sq_gT rfl rfl ?_
    refine sq_q (qt_not rfl) rfl ?_   -- t28
    refine sq_q (qt_pick rfl rfl) rfl ?_   -- t29
    refine sq_q (qt_move rfl) rfl ?_   -- t30
    refine sq_gT rfl rfl ?_
    refine sq_q (qt_load rfl (fun w t => t.atO 0 rfl rfl)) rfl ?_   -- t31
    refine sq_gT rfl rfl ?_
    refine sq_q (qt_move rfl) rfl ?_   -- t32
    refine sq_gT rfl rfl ?_
    refine sq_q (qt_bin rfl rfl (bT bin_neq (by simp only [Option.getD_some]; omega))) rfl ?_   -- t33
    refine sq_q (qt_pick rfl rfl) rfl ?_   -- t34
    refine sq_end ?_
    refine tr_ifT rfl ?_
    refine tr_rseq ?_   -- region 4
    refine sq_q (qt_assign rfl) rfl ?_   -- t4
    refine sq_q (qt_assign rfl) rfl ?_   -- t5
    refine sq_end ?_
    refine tr_ret ?_
    repeat (first | (with_reducible refine tr_skip ?_) | (with_reducible refine tr_exit ?_) | (with_reducible refine tr_then ?_) | (with_reducible refine tr_inX ?_) | (with_reducible refine tr_thenX ?_) | (with_reducible refine tr_inN ?_) | (with_reducible refine tr_inR ?_) | (with_reducible refine tr_thenR ?_))
    exact tr_done ⟨[], (none, 0)⟩ (fun a w s t => results_2 rfl (resv_tmp s rfl) (resv_tmp s rfl)) (fun w _ _ _ => optF_none _ _)
  ·
    subst h1
    subst h2
    rw [show mulP (some (r, c)) (some (c, c')) m.zs m'.zs = some (grid (mmul c (ent m.zs) (ent m'.zs)) r c') from if_pos rfl]
    obtain ⟨g1, g2, g3, g4, g5, g6⟩ := mt_shp ho.symm
    obtain ⟨g1', g2', g3', g4', g5', g6'⟩ := mt_shp ho'.symm
    refine tr_rseq ?_   -- region 3
    refine sq_q (qt_move rfl) rfl ?_   -- t24
    refine sq_q (qt_not rfl) rfl ?_   -- t25
    refine sq_q (qt_move rfl) rfl ?_   -- t26
    refine sq_gT rfl rfl ?_
    refine sq_q (qt_move rfl) rfl ?_   -- t27
    refine sq_gT rfl rfl ?_
    refine sq_q (qt_not rfl) rfl ?_   -- t28
    refine sq_q (qt_pick rfl rfl) rfl ?_   -- t29
    refine sq_q (qt_move rfl) rfl ?_   -- t30
    refine sq_gT rfl rfl ?_
    refine sq_q (qt_load rfl (fun w t => t.atO 0 rfl rfl)) rfl ?_   -- t31
    refine sq_gT rfl rfl ?_
    refine sq_q (qt_move rfl) rfl ?_   -- t32
    refine sq_gT rfl rfl ?_
    refine sq_q (qt_bin rfl rfl (bF bin_neq (by simp only [Option.getD_some]; omega))) rfl ?_   -- t33
    refine sq_q (qt_pick rfl rfl) rfl ?_   -- t34
    refine sq_end ?_
    refine tr_ifF rfl ?_
    refine tr_skip ?_
    repeat (first | (with_reducible refine tr_skip ?_) | (with_reducible refine tr_exit ?_) | (with_reducible refine tr_then ?_) | (with_reducible refine tr_inX ?_) | (with_reducible refine tr_thenX ?_) | (with_reducible refine tr_inN ?_) | (with_reducible refine tr_inR ?_) | (with_reducible refine tr_thenR ?_))
    refine tr_rseq ?_   -- region 5
    refine sq_q (qt_move rfl) rfl ?_   -- t35
    refine sq_q (qt_move rfl) rfl ?_   -- t36
    refine sq_q (qt_makeFunc rfl) rfl ?_   -- t37
    refine sq_call Mt.v (fun x w => x.ok (B + B' + 16) w ∧ x.zs = grid (mmul c (ent m.zs) (ent m'.zs)) r c' ∧ x.can) rfl rfl rfl (fun w t => ?_) fun x => ?_
    · exact build_ret r c' (B + B' + 16) (mmul c (ent m.zs) (ent m'.zs)) 96 [] [.pointer (some ⟨r7, 0, none⟩), .pointer (some ⟨r2, 0, none⟩), .pointer (some ⟨r3, 0, none⟩)] w _ (by omega) (by omega) (fun i j w' S' hi hj hbel => (mul1_ret m m' c B B' r7 r2 r3 i j w' S' ((t.mt hm).below hbel) ((t.mt hm').below hbel) (by omega) (by omega) hB ((t.atO 0 rfl rfl).below hbel) ((t.atO 2 rfl rfl).below hbel) ((t.atO 1 rfl rfl).below hbel) (by omega) (g6 _ (List.getElem_mem _)) g1' (fun q hq => by rw [g6' q hq]; exact hj)).imp fun p w h => ⟨h.1, by have := h.2; omega⟩)   -- t38
    refine sq_q (qt_assign rfl) rfl ?_   -- t4
    refine sq_q (qt_assign rfl) rfl ?_   -- t5
    refine sq_end ?_
    refine tr_ret ?_
    repeat (first | (with_reducible refine tr_skip ?_) | (with_reducible refine tr_exit ?_) | (with_reducible refine tr_then ?_) | (with_reducible refine tr_inX ?_) | (with_reducible refine tr_thenX ?_) | (with_reducible refine tr_inN ?_) | (with_reducible refine tr_inR ?_) | (with_reducible refine tr_thenR ?_))
    exact tr_done x (fun a w s t => results_2 rfl (resv_tmp s rfl) (resv_tmp s rfl)) (fun w h _ _ => h.2)

theorem rmmul_ret (m m' : Mt) (B B' : Nat) (w0 : World) (S : Nat → Prop) (hm : m.ok B w0) (hm' : m'.ok B' w0) (hB : B + B' ≤ 35184372088700) (hl : m.rs.length ≤ 35184372088832) (hr : ∀ r ∈ m.rs, r.l.length ≤ 35184372088832) (hl' : m'.rs.length ≤ 35184372088832) (hr' : ∀ r ∈ m'.rs, r.l.length ≤ 35184372088832) :
    Ret Try.prog 53 [m.v, m'.v] w0 S (optV (mulO m.zs m'.zs)) (optF (B + B' + 16) (mulO m.zs m'.zs)) := by
  obtain ⟨o, ho⟩ : ∃ o, o = shp m.zs := ⟨_, rfl⟩
  obtain ⟨o', ho'⟩ : ∃ o, o = shp m'.zs := ⟨_, rfl⟩
  have hO : mulO m.zs m'.zs = mulP o o' m.zs m'.zs := by rw [ho, ho']; rfl
  rw [hO]
  clear hO
  refine ret_of Try.func53 rfl Try.ntmps53 rfl ?_
  refine tr_rseq ?_   -- region 0
  refine sq_q (qt_assign rfl) rfl ?_   -- t4
  refine sq_q (qt_assign rfl) rfl ?_   -- t5
  refine sq_end ?_
  refine tr_rseq ?_   -- region 1
  refine sq_q (qt_move rfl) rfl ?_   -- t15
  refine sq_call (val := fun _ : Unit => shpV o) (F := fun _ _ => True) rfl rfl rfl (fun w t => by rw [ho]; exact rshape_ret m B w _ (t.mt hm) hl hr) fun _ => ?_   -- t16
  refine sq_q (qt_move rfl) rfl ?_   -- t14
  refine sq_q (qt_extract rfl rfl) rfl ?_   -- t17
  refine sq_q (qt_extract rfl rfl) rfl ?_   -- t18
  refine sq_q (qt_extract rfl rfl) rfl ?_   -- t19
  refine sq_q (qt_assign rfl) rfl ?_   -- t6
  refine sq_q (qt_assign rfl) rfl ?_   -- t7
  refine sq_q (qt_assign rfl) rfl ?_   -- t8
  refine sq_end ?_
  refine tr_rseq ?_   -- region 2
  refine sq_q (qt_move rfl) rfl ?_   -- t21
  refine sq_call (optV (trP o' m'.zs)) (optF B' (trP o' m'.zs)) rfl rfl rfl (fun w t => by rw [ho']; exact rtranspose_ret m' B' w _ (t.mt hm') (by omega) hl' hr') fun m9 => ?_   -- t22
  refine sq_q (qt_move rfl) rfl ?_   -- t20
  refine sq_q (qt_extract rfl rfl) rfl ?_   -- t23
  refine sq_q (qt_extract rfl rfl) rfl ?_   -- t24
  refine sq_q (qt_assign rfl) rfl ?_   -- t9
  refine sq_q (qt_assign rfl) rfl ?_   -- t10
  refine sq_end ?_
  refine tr_seq ?_   -- C1
  have hcs : o = none ∨ (∃ r c, o = some (r, c) ∧ o' = none) ∨ (∃ r c r' c', o = some (r, c) ∧ o' = some (r', c') ∧ c ≠ r') ∨ (∃ r c c', o = some (r, c) ∧ o' = some (c, c')) := by
    cases o with
    | none => exact .inl rfl
    | some x =>
      cases o' with
      | none => exact .inr (.inl ⟨x.1, x.2, rfl, rfl⟩)
      | some y =>
        obtain ⟨r, c⟩ := x
        obtain ⟨r', c'⟩ := y
        by_cases h1 : c = r'
        · subst h1; exact .inr (.inr (.inr ⟨_, _, _, rfl, rfl⟩))
        · exact .inr (.inr (.inl ⟨_, _, _, _, rfl, rfl, h1⟩))
  rcases hcs with h1 | ⟨r, c, h1, h2⟩ | ⟨r, c, r', c', h1, h2, h3⟩ | ⟨r, c, c', h1, h2⟩
  ·
    subst h1
    rw [show mulP none o' m.zs m'.zs = none from rfl]
    refine tr_rseq ?_   -- region 3
    refine sq_q (qt_move rfl) rfl ?_   -- t25
    refine sq_q (qt_not rfl) rfl ?_   -- t26
    refine sq_q (qt_move rfl) rfl ?_   -- t27
    refine sq_gF rfl rfl rfl rfl ?_
    refine sq_gF rfl rfl rfl rfl ?_
    refine sq_q (qt_pick rfl rfl) rfl ?_   -- t30
    refine sq_q (qt_move rfl) rfl ?_   -- t31
    refine sq_gF rfl rfl rfl rfl ?_
    refine sq_gF rfl rfl rfl rfl ?_
    refine sq_gF rfl rfl rfl rfl ?_
    refine sq_gF rfl rfl rfl rfl ?_
    refine sq_q (qt_pick rfl rfl) rfl ?_   -- t36
    refine sq_end ?_
    refine tr_ifT rfl ?_
    refine tr_rseq ?_   -- region 4
    refine sq_q (qt_assign rfl) rfl ?_   -- t4
    refine sq_q (qt_assign rfl) rfl ?_   -- t5
    refine sq_end ?_
    refine tr_ret ?_
    repeat (first | (with_reducible refine tr_skip ?_) | (with_reducible refine tr_exit ?_) | (with_reducible refine tr_then ?_) | (with_reducible refine tr_inX ?_) | (with_reducible refine tr_thenX ?_) | (with_reducible refine tr_inN ?_) | (with_reducible refine tr_inR ?_) | (with_reducible refine tr_thenR ?_))
    exact tr_done ⟨[], (none, 0)⟩ (fun a w s t => results_2 rfl (resv_tmp s rfl) (resv_tmp s rfl)) (fun w _ _ _ => optF_none _ _)
  ·
    subst h1
    subst h2
    rw [show mulP (some (r, c)) none m.zs m'.zs = none from rfl]
    refine tr_rseq ?_   -- region 3
    refine sq_q (qt_move rfl) rfl ?_   -- t25
    refine sq_q (qt_not rfl) rfl ?_   -- t26
    refine sq_q (qt_move rfl) rfl ?_   -- t27
    refine sq_gT rfl rfl ?_
    refine sq_q (qt_move rfl) rfl ?_   -- t28
    refine sq_gT rfl rfl ?_
    refine sq_q (qt_not rfl) rfl ?_   -- t29
    refine sq_q (qt_pick rfl rfl) rfl ?_   -- t30
    refine sq_q (qt_move rfl) rfl ?_   -- t31
    refine sq_gF rfl rfl rfl rfl ?_
    refine sq_gF rfl rfl rfl rfl ?_
    refine sq_gF rfl rfl rfl rfl ?_
    refine sq_gF rfl rfl rfl rfl ?_
    refine sq_q (qt_pick rfl rfl) rfl ?_   -- t36
    refine sq_end ?_
    refine tr_ifT rfl ?_
    refine tr_rseq ?_   -- region 4
    refine sq_q (qt_assign rfl) rfl ?_   -- t4
    refine sq_q (qt_assign rfl) rfl ?_   -- t5
    refine sq_end ?_
    refine tr_ret ?_
    repeat (first | (with_reducible refine tr_skip ?_) | (with_reducible refine tr_exit ?_) | (with_reducible refine tr_then ?_) | (with_reducible refine tr_inX ?_) | (with_reducible refine tr_thenX ?_) | (with_reducible refine tr_inN ?_) | (with_reducible refine tr_inR ?_) | (with_reducible refine tr_thenR ?_))
    exact tr_done ⟨[], (none, 0)⟩ (fun a w s t => results_2 rfl (resv_tmp s rfl) (resv_tmp s rfl)) (fun w _ _ _ => optF_none _ _)
  ·
    subst h1
    subst h2
    rw [show mulP (some (r, c)) (some (r', c')) m.zs m'.zs = none from if_neg h3]
    obtain ⟨g1', g2', g3', g4', g5', g6'⟩ := mt_shp ho'.symm
    refine tr_rseq ?_   -- region 3
    refine sq_q (qt_move rfl) rfl ?_   -- t25
    refine sq_q (qt_not rfl) rfl ?_   -- t26
    refine sq_q (qt_move rfl) rfl ?_   -- t27
    refine sq_gT rfl rfl ?_
    refine sq_q (qt_move rfl) rfl ?_   -- t28
    refine sq_gT rfl rfl ?_
    refine sq_q (qt_not rfl) rfl ?_   -- t29
    refine sq_q (qt_pick rfl rfl) rfl ?_   -- t30
    refine sq_q (qt_move rfl) rfl ?_   -- t31
    refine sq_gT rfl rfl ?_
    refine sq_q (qt_move rfl) rfl ?_   -- t32
    refine sq_gT rfl rfl ?_
    refine sq_q (qt_len rfl) rfl ?_   -- t33
    refine sq_gT rfl rfl ?_
    refine sq_q (qt_move rfl) rfl ?_   -- t34
    refine sq_gT rfl rfl ?_
    refine sq_q (qt_bin rfl rfl (bT bin_neq (by simp only [Option.getD_some]; omega))) rfl ?_   -- t35
    refine sq_q (qt_pick rfl rfl) rfl ?_   -- t36
    refine sq_end ?_
    refine tr_ifT rfl ?_
    refine tr_rseq ?_   -- region 4
    refine sq_q (qt_assign rfl) rfl ?_   -- t4
    refine sq_q (qt_assign rfl) rfl ?_   -- t5
    refine sq_end ?_
    refine tr_ret ?_
    repeat (first | (with_reducible refine tr_skip ?_) | (with_reducible refine tr_exit ?_) | (with_reducible refine tr_then ?_) | (with_reducible refine tr_inX ?_) | (with_reducible refine tr_thenX ?_) | (with_reducible refine tr_inN ?_) | (with_reducible refine tr_inR ?_) | (with_reducible refine tr_thenR ?_))
    exact tr_done ⟨[], (none, 0)⟩ (fun a w s t => results_2 rfl (resv_tmp s rfl) (resv_tmp s rfl)) (fun w _ _ _ => optF_none _ _)
  ·
    subst h1
    subst h2
    rw [show mulP (some (r, c)) (some (c, c')) m.zs m'.zs = some (grid (mmul c (ent m.zs) (ent m'.zs)) r c') from if_pos rfl]
    obtain ⟨g1, g2, g3, g4, g5, g6⟩ := mt_shp ho.symm
    obtain ⟨g1', g2', g3', g4', g5', g6'⟩ := mt_shp ho'.symm
    refine tr_rseq ?_   -- region 3
    refine sq_q (qt_move rfl) rfl ?_   -- t25
    refine sq_q (qt_not rfl) rfl ?_   -- t26
    refine sq_q (qt_move rfl) rfl ?_   -- t27
    refine sq_gT rfl rfl ?_
    refine sq_q (qt_move rfl) rfl ?_   -- t28
    refine sq_gT rfl rfl ?_
    refine sq_q (qt_not rfl) rfl ?_   -- t29
    refine sq_q (qt_pick rfl rfl) rfl ?_   -- t30
    refine sq_q (qt_move rfl) rfl ?_   -- t31
    refine sq_gT rfl rfl ?_
    refine sq_q (qt_move rfl) rfl ?_   -- t32
    refine sq_gT rfl rfl ?_
    refine sq_q (qt_len rfl) rfl ?_   -- t33
    refine sq_gT rfl rfl ?_
    refine sq_q (qt_move rfl) rfl ?_   -- t34
    refine sq_gT rfl rfl ?_
    refine sq_q (qt_bin rfl rfl (bF bin_neq (by simp only [Option.getD_some]; omega))) rfl ?_   -- t35
    refine sq_q (qt_pick rfl rfl) rfl ?_   -- t36
    refine sq_end ?_
    refine tr_ifF rfl ?_
    refine tr_skip ?_
    repeat (first | (with_reducible refine tr_skip ?_) | (with_reducible refine tr_exit ?_) | (with_reducible refine tr_then ?_) | (with_reducible refine tr_inX ?_) | (with_reducible refine tr_thenX ?_) | (with_reducible refine tr_inN ?_) | (with_reducible refine tr_inR ?_) | (with_reducible refine tr_thenR ?_))
    refine tr_have (fun w t => t.r.2.2.1) fun (hz9 : m9.zs = grid (tr (ent m'.zs)) c' c) => ?_
    obtain ⟨k1, k6⟩ := mt_lens hz9
    refine tr_have (p := ∃ r9 o9, m9.v = .slice (some ⟨r9, o9, none⟩) m9.rs.length m9.p.2) (fun w t => by obtain ⟨r9, o9, e9, _⟩ := t.r.2.1.at_ (show 0 < m9.rs.length by omega); exact ⟨r9, o9, e9⟩) fun ⟨r9, o9, ev9⟩ => ?_
    subst g1
    subst k1
    refine tr_rseq ?_   -- region 5
    refine sq_q (qt_move rfl) rfl ?_   -- t37
    refine sq_q (qt_len rfl) rfl ?_   -- t38
    refine sq_q (qt_move rfl) rfl ?_   -- t39
    refine sq_q (qt_len rfl) rfl ?_   -- t40
    refine sq_callA (fun x : Nat × List Wr => .slice (some ⟨x.1, 0, none⟩) m.rs.length m.rs.length) (fun x => mown x.1 x.2) (fun x => x.2.map (·.2) = List.replicate m.rs.length (List.replicate m9.rs.length z0)) rfl rfl rfl (fun w t => zero_ret m.rs.length m9.rs.length w _ (by omega) (by omega)) fun x hqs => ?_   -- t41
    refine sq_q (qt_assign rfl) rfl ?_   -- t11
    refine sq_end ?_
    obtain ⟨ob, qs⟩ := x
    refine tr_own (mown ob qs) (List.append_nil _) ?_
    obtain ⟨ro, oo, evm, hat⟩ := hm.at_ (show 0 < m.rs.length by omega)
    refine tr_seq ?_   -- C2
    refine tr_rseq ?_   -- region 6
    refine sq_q (qt_move rfl) rfl ?_   -- t42
    refine sq_q (qt_len rfl) rfl ?_   -- t43
    refine sq_q (qt_move rfl) rfl ?_   -- t44
    refine sq_end ?_
    refine tr_block ?_
    refine tr_loop2 (fun (i : Nat) (qs : List Wr) => i ≤ m.rs.length ∧ MG (fun a b => if a < i then mmul c (ent m.zs) (ent m'.zs) a b else 0) m.rs.length m9.rs.length qs ∧ allz Zd.can qs) (fun i qs => [(0, m.v), (9, m9.v), (11, .slice (some ⟨ob, 0, none⟩) m.rs.length m.rs.length), (43, .int .i64 (m.rs.length : Int)), (44, .int .i64 (i : Int))])
      (fun i qs => mown ob qs) (fun i qs w => allz (fun z => z.ok (B + B' + 16) w) qs ∧ m9.ok B' w) (fun i qs => m.rs.length - i) 0 qs ⟨Nat.zero_le _, (MG.of_zero hqs).congr (fun a b _ _ => by rw [if_neg (by omega)]), allz.of_zero hqs z0_can⟩ ⟨rfl, rfl, rfl, rfl, rfl, trivial⟩ rfl (fun w h => ⟨allz.of_zero hqs (z0_ok (B + B' + 16) w), h.2.1⟩) ?_
    clear hqs qs
    rintro i qs ⟨hle, hG, hcan⟩
    refine tr_rseq ?_   -- region 7
    refine sq_q (qt_bin rfl rfl bin_lss) rfl ?_   -- t45
    refine sq_end ?_
    refine tr_seq ?_   -- C3
    refine tr_if rfl (fun hc => ?_) (fun hc => ?_)
    ·
      have hlt : i < m.rs.length := by have := of_decide_eq_true hc; omega
      refine tr_sub [(0, .slice (some ⟨ro, oo, none⟩) m.rs.length m.p.2), (9, .slice (some ⟨r9, o9, none⟩) m9.rs.length m9.p.2), (11, .slice (some ⟨ob, 0, none⟩) m.rs.length m.rs.length), (43, .int .i64 (m.rs.length : Int)), (44, .int .i64 (i : Int))] ⟨congrArg some evm, congrArg some ev9, rfl, rfl, rfl, trivial⟩ ?_
      refine tr_skip ?_
      repeat (first | (with_reducible refine tr_skip ?_) | (with_reducible refine tr_exit ?_) | (with_reducible refine tr_then ?_) | (with_reducible refine tr_inX ?_) | (with_reducible refine tr_thenX ?_) | (with_reducible refine tr_inN ?_) | (with_reducible refine tr_inR ?_) | (with_reducible refine tr_thenR ?_))
      refine tr_seq ?_   -- C4
      refine tr_block ?_
      refine tr_rseq ?_   -- region 8
      refine sq_q (qt_move rfl) rfl ?_   -- t46
      refine sq_q (qt_assign rfl) rfl ?_   -- t12
      refine sq_end ?_
      refine tr_rseq ?_   -- region 9
      refine sq_q (qt_move rfl) rfl ?_   -- t47
      refine sq_q (qt_len rfl) rfl ?_   -- t48
      refine sq_q (qt_move rfl) rfl ?_   -- t49
      refine sq_end ?_
      refine tr_block ?_
      have hG0 : MG (fun a b => if a < i ∨ (a = i ∧ b < 0) then mmul c (ent m.zs) (ent m'.zs) a b else 0) m.rs.length m9.rs.length qs := hG.congr fun a b _ _ => by
        by_cases h : a < i
        · rw [if_pos h, if_pos (.inl h)]
        · rw [if_neg h, if_neg (by omega)]
      refine tr_loop2 (fun (j : Nat) (qs : List Wr) => j ≤ m9.rs.length ∧ MG (fun a b => if a < i ∨ (a = i ∧ b < j) then mmul c (ent m.zs) (ent m'.zs) a b else 0) m.rs.length m9.rs.length qs ∧ allz Zd.can qs) (fun j qs => [(0, .slice (some ⟨ro, oo, none⟩) m.rs.length m.p.2), (9, .slice (some ⟨r9, o9, none⟩) m9.rs.length m9.p.2), (11, .slice (some ⟨ob, 0, none⟩) m.rs.length m.rs.length), (12, .int .i64 (i : Int)), (43, .int .i64 (m.rs.length : Int)), (44, .int .i64 (i : Int)), (48, .int .i64 (m9.rs.length : Int)), (49, .int .i64 (j : Int))])
        (fun j qs => mown ob qs) (fun j qs w => allz (fun z => z.ok (B + B' + 16) w) qs ∧ m9.ok B' w) (fun j qs => m9.rs.length - j) 0 qs ⟨Nat.zero_le _, hG0, hcan⟩ ⟨rfl, rfl, rfl, rfl, rfl, rfl, rfl, rfl, trivial⟩ rfl (fun w h => h) ?_
      clear hG0 hG hcan qs
      rintro j qs ⟨hjc, hG, hcan⟩
      refine tr_rseq ?_   -- region 10
      refine sq_q (qt_bin rfl rfl bin_lss) rfl ?_   -- t50
      refine sq_end ?_
      refine tr_seq ?_   -- C5
      refine tr_if rfl (fun hc => ?_) (fun hc => ?_)
      ·
        have hlt2 : j < m9.rs.length := by have := of_decide_eq_true hc; omega
        have hml : m.rs[i].l.length = c := g6 _ (List.getElem_mem hlt)
        have hml9 : m9.rs[j].l.length = c := k6 _ (List.getElem_mem hlt2)
        obtain ⟨q, hq, hql⟩ := hG.get hlt
        refine tr_skip ?_
        repeat (first | (with_reducible refine tr_skip ?_) | (with_reducible refine tr_exit ?_) | (with_reducible refine tr_then ?_) | (with_reducible refine tr_inX ?_) | (with_reducible refine tr_thenX ?_) | (with_reducible refine tr_inN ?_) | (with_reducible refine tr_inR ?_) | (with_reducible refine tr_thenR ?_))
        refine tr_seq ?_   -- C6
        refine tr_block ?_
        refine tr_rseq ?_   -- region 11
        refine sq_q (qt_move rfl) rfl ?_   -- t51
        refine sq_q (qt_assign rfl) rfl ?_   -- t13
        refine sq_end ?_
        refine tr_draw 14 [] [] [0, 1, 4, 5, 7, 8, 9, 10, 11, 12, 13, 36, 43, 44, 45, 48, 49, 50, 55, 56, 65] (by kernel_rfl) ?_   -- region 12
        refine dx_q rfl (qt_move rfl) rfl ?_   -- t52
        refine dx_q rfl (qt_move rfl) rfl ?_   -- t53
        refine dx_q rfl (qt_index (i := i) rfl rfl hlt) rfl ?_   -- t54
        refine dx_q rfl (qt_load rfl (fun w t => t.o1 0 rfl (mout_get hq))) rfl ?_   -- t55
        refine dx_q rfl (qt_move rfl) rfl ?_   -- t56
        refine dx_q rfl (qt_move rfl) rfl ?_   -- t57
        refine dx_q rfl (qt_move rfl) rfl ?_   -- t58
        refine dx_q rfl (qt_index (i := i) rfl rfl hlt) rfl ?_   -- t59
        refine dx_q rfl (qt_load rfl (fun w t => t.a1 (hat i hlt))) rfl ?_   -- t60
        refine dx_q rfl (qt_move rfl) rfl ?_   -- t61
        refine dx_q rfl (qt_move rfl) rfl ?_   -- t62
        refine dx_q rfl (qt_index (i := j) rfl rfl hlt2) rfl ?_   -- t63
        refine dx_q rfl (qt_load rfl (fun w t => t.r.2.row_at ev9 hlt2)) rfl ?_   -- t64
        refine dx_call (iv (mmul c (ent m.zs) (ent m'.zs) i j)) (fun p w => Lz (mmul c (ent m.zs) (ent m'.zs) i j).natAbs p w ∧ nl (mmul c (ent m.zs) (ent m'.zs) i j).natAbs ≤ B + B' + 16) rfl rfl rfl (fun w t => by
          have h := fun S' => dot_ret m.rs[i] m9.rs[j] (fun k => ent m.zs i k * ent m'.zs k j) B B' w S' (t.rw (hm.2.2 _ (List.getElem_mem hlt))) (t.r.2.2.2 _ (List.getElem_mem hlt2)) (by omega) (by omega) (by omega) hB (fun k hk hk' => by rw [mt_ent_grid hz9 hlt2 hk', ← mt_ent hlt hk]; rfl)
          rw [hml] at h
          exact (h _).imp fun p w h => ⟨h.1, by have h2 := h.2; exact Nat.le_trans h2 (by omega)⟩) ?_   -- t65
        refine dx_nil ?_
        repeat (first | refine es_val rfl ?_ rfl | refine es_skip rfl ?_)
        refine es_res rfl (fun x => ?_) rfl
        repeat (first | refine es_val rfl ?_ rfl | refine es_skip rfl ?_)
        refine es_nil rfl ?_
        refine tx_q (qt_index (i := j) rfl rfl (by omega)) rfl rfl rfl ?_   -- t66
        refine tx_store (i + 1) rfl rfl (mown_at hq) rfl (show 0 + j * 2 + 2 ≤ (zcs q.2).length by rw [zcs_length, hql]; omega) rfl rfl rfl ?_   -- _
        refine tx_end ?_
        repeat (first | (with_reducible refine tr_skip ?_) | (with_reducible refine tr_exit ?_) | (with_reducible refine tr_then ?_) | (with_reducible refine tr_inX ?_) | (with_reducible refine tr_thenX ?_) | (with_reducible refine tr_inN ?_) | (with_reducible refine tr_inR ?_) | (with_reducible refine tr_thenR ?_))
        refine tr_region ?_   -- region 13
        refine sq_q (qt_bin rfl rfl (bin_addI (by omega) (by omega))) rfl ?_   -- t67
        refine sq_q (qt_move rfl) rfl ?_   -- t49
        refine sq_nil ?_
        repeat (first | (with_reducible refine tr_skip ?_) | (with_reducible refine tr_exit ?_) | (with_reducible refine tr_then ?_) | (with_reducible refine tr_inX ?_) | (with_reducible refine tr_thenX ?_) | (with_reducible refine tr_inN ?_) | (with_reducible refine tr_inR ?_) | (with_reducible refine tr_thenR ?_))
        refine tr_own (mown ob (qs.set i (q.1, q.2.set j (zd (mmul c (ent m.zs) (ent m'.zs) i j) x)))) (mown_wr (zd (mmul c (ent m.zs) (ent m'.zs) i j) x) hq (by omega)) ?_
        refine tr_round2 (j + 1) (qs.set i (q.1, q.2.set j (zd (mmul c (ent m.zs) (ent m'.zs) i j) x))) ⟨by omega, (hG.set hq (zd (mmul c (ent m.zs) (ent m'.zs) i j) x) (mmul c (ent m.zs) (ent m'.zs) i j) (zd_z _ _)).congr (fun a b _ _ => ?_), hcan.set hq (zd_can _ _)⟩ (by omega) ⟨rfl, rfl, rfl, rfl, rfl, rfl, rfl, rfl, trivial⟩ rfl (fun w h => ⟨h.1.1.set hq (zd_ok h.2.1 h.2.2), h.1.2⟩)
        unfold gset
        dsimp only
        split
        · rename_i h; rw [if_pos (by omega), h.1, h.2]
        · rename_i h
          by_cases h' : a < i ∨ (a = i ∧ b < j)
          · rw [if_pos h', if_pos (by omega)]
          · rw [if_neg h', if_neg (by omega)]
      ·
        have hje : j = m9.rs.length := by have := of_decide_eq_false hc; omega
        refine tr_exit ?_
        repeat (first | (with_reducible refine tr_skip ?_) | (with_reducible refine tr_exit ?_) | (with_reducible refine tr_then ?_) | (with_reducible refine tr_inX ?_) | (with_reducible refine tr_thenX ?_) | (with_reducible refine tr_inN ?_) | (with_reducible refine tr_inR ?_) | (with_reducible refine tr_thenR ?_))
        refine tr_region ?_   -- region 14
        refine sq_q (qt_bin rfl rfl (bin_addI (by omega) (by omega))) rfl ?_   -- t68
        refine sq_q (qt_move rfl) rfl ?_   -- t44
        refine sq_nil ?_
        repeat (first | (with_reducible refine tr_skip ?_) | (with_reducible refine tr_exit ?_) | (with_reducible refine tr_then ?_) | (with_reducible refine tr_inX ?_) | (with_reducible refine tr_thenX ?_) | (with_reducible refine tr_inN ?_) | (with_reducible refine tr_inR ?_) | (with_reducible refine tr_thenR ?_))
        refine tr_round2 (i + 1) qs ⟨by omega, hG.congr (fun a b ha hb => ?_), hcan⟩ (by omega) ⟨congrArg some evm.symm, congrArg some ev9.symm, rfl, rfl, rfl, trivial⟩ rfl (fun w h => h)
        by_cases h : a < i ∨ (a = i ∧ b < j)
        · rw [if_pos h, if_pos (by omega)]
        · rw [if_neg h, if_neg (by omega)]
    ·
      have hik : i = m.rs.length := by have := of_decide_eq_false hc; omega
      refine tr_exit ?_
      repeat (first | (with_reducible refine tr_skip ?_) | (with_reducible refine tr_exit ?_) | (with_reducible refine tr_then ?_) | (with_reducible refine tr_inX ?_) | (with_reducible refine tr_thenX ?_) | (with_reducible refine tr_inN ?_) | (with_reducible refine tr_inR ?_) | (with_reducible refine tr_thenR ?_))
      refine tr_rseq ?_   -- region 15
      refine sq_q (qt_move rfl) rfl ?_   -- t69
      refine sq_q (qt_assign rfl) rfl ?_   -- t4
      refine sq_q (qt_assign rfl) rfl ?_   -- t5
      refine sq_end ?_
      refine tr_ret ?_
      repeat (first | (with_reducible refine tr_skip ?_) | (with_reducible refine tr_exit ?_) | (with_reducible refine tr_then ?_) | (with_reducible refine tr_inX ?_) | (with_reducible refine tr_thenX ?_) | (with_reducible refine tr_inN ?_) | (with_reducible refine tr_inR ?_) | (with_reducible refine tr_thenR ?_))
      refine tr_done (mmt ob qs) (fun a w s t => results_2 rfl (resv_tmp s (by rw [mmt_v, hG.1]; rfl)) (resv_tmp s rfl)) (fun w h ho _ => ⟨mmt_ok ho h.1, ?_, mmt_can hcan⟩)
      rw [mmt_zs, hG.zs]
      show grid _ m.rs.length m9.rs.length = grid (mmul c (ent m.zs) (ent m'.zs)) m.rs.length m9.rs.length
      unfold grid
      refine List.map_congr_left fun a ha => List.map_congr_left fun b hb => ?_
      have ha := List.mem_range.1 ha
      exact if_pos (by omega)
end Go.Qk
end
section
/- The walk of MatrixMultiplies. -/
set_option linter.unusedVariables false
namespace Go.Qk
open Go Go.Proofs Go.RowKit
set_option maxRecDepth 100000
set_option maxHeartbeats 4000000

theorem matrixMultiplies_ret (m m' : Mt) (gx gy : Gd) (w0 : World) (S : Nat → Prop) (hm : m.ok RB w0) (hlen : m.rs.length ≤ RB) (hrow : ∀ r ∈ m.rs, r.l.length ≤ RB) (hm' : m'.ok RB w0) (hlen' : m'.rs.length ≤ RB) (hrow' : ∀ r ∈ m'.rs, r.l.length ≤ RB) (hx : gx.ok w0) (hy : gy.ok w0) :
    Ret Try.prog 14 [m.v, m'.v, gx.v, gy.v] w0 S (fun _ : Unit => .bool true) (fun _ _ => True) := by
  refine ret_of Try.func14 rfl Try.ntmps14 rfl ?_
  refine tr_rseq ?_   -- region 0
  refine sq_box rfl rfl fun r6 => ?_   -- t6
  refine sq_box rfl rfl fun r7 => ?_   -- t7
  refine sq_q (qt_assign rfl) rfl ?_   -- t8
  refine sq_end ?_
  refine tr_seq ?_   -- C1
  refine tr_cut (ι := Bool) (fun c => c = false → smallM m ∧ smallM m') (fun c => [(0, m.v), (1, m'.v), (6, .pointer (some ⟨r6, 0, none⟩)), (7, .pointer (some ⟨r7, 0, none⟩)), (22, .bool c)]) (fun _ => [(r7, .cells gy.v.cells 31 (0, 0)), (r6, .cells gx.v.cells 31 (0, 0))]) (fun _ _ => True) ?_ (fun cc hb => ?_)
  · refine tr_region ?_
    refine sq_q (qt_move rfl) rfl ?_
    refine sq_call (fun b : Bool => .bool b) (fun b _ => b = false → smallM m) rfl rfl rfl (fun w t => large_ret m w _ (t.mt hm) hlen hrow) fun b => ?_
    refine sq_have (fun w t => t.r.2) fun hb => ?_
    refine sq_q (qt_move rfl) rfl ?_
    cases b with
    | true =>
      refine sq_gF rfl rfl rfl rfl ?_
      refine sq_gF rfl rfl rfl rfl ?_
      refine sq_q (qt_pick rfl rfl) rfl ?_
      refine sq_end ?_
      exact tr_mid true (fun h => nomatch h) ⟨rfl, rfl, rfl, rfl, rfl, trivial⟩ rfl (fun _ _ => trivial)
    | false =>
      refine sq_gT rfl rfl ?_
      refine sq_q (qt_move rfl) rfl ?_
      refine sq_gT rfl rfl ?_
      refine sq_call (fun b : Bool => .bool b) (fun b _ => b = false → smallM m') rfl rfl rfl (fun w t => large_ret m' w _ (t.mt hm') hlen' hrow') fun b => ?_
      refine sq_have (fun w t => t.r.2) fun hb' => ?_
      refine sq_q (qt_pick rfl rfl) rfl ?_
      refine sq_end ?_
      exact tr_mid b (fun h => ⟨hb rfl, hb' h⟩) ⟨rfl, rfl, rfl, rfl, rfl, trivial⟩ rfl (fun _ _ => trivial)
  refine tr_if rfl (fun hc => ?_) (fun hc => ?_)
  ·
    clear hb
    refine tr_rseq ?_   -- region 2
    refine sq_call (val := fun _ : Unit => .bool true) (F := fun _ _ => True) rfl rfl rfl (fun w t => awake_ret w _) fun _ => ?_   -- t23
    refine sq_q (qt_assign rfl) rfl ?_   -- t8
    refine sq_end ?_
    refine tr_ret ?_
    repeat (first | (with_reducible refine tr_skip ?_) | (with_reducible refine tr_exit ?_) | (with_reducible refine tr_then ?_) | (with_reducible refine tr_inX ?_) | (with_reducible refine tr_thenX ?_) | (with_reducible refine tr_inN ?_) | (with_reducible refine tr_inR ?_) | (with_reducible refine tr_thenR ?_))
    exact tr_done () (fun a w s t => results_1 rfl (resv_tmp s rfl)) (fun _ _ _ _ => trivial)
  ·
    obtain ⟨hs, hs'⟩ := hb hc
    obtain ⟨o, ho⟩ : ∃ o, o = mulO m.zs m'.zs := ⟨_, rfl⟩
    obtain ⟨ol, oq⟩ := mulO_lens m.zs m'.zs (n := 35184372088832) (by omega)
    rw [← ho] at ol oq
    obtain ⟨u, hu⟩ : ∃ u, u = mulO (gx.zs 8) ((gx.by_ gy).zs 8) := ⟨_, rfl⟩
    obtain ⟨ul, uq⟩ := mulO_lens (gx.zs 8) ((gx.by_ gy).zs 8) (n := 35184372088832) (by omega)
    rw [← hu] at ul uq
    obtain ⟨xl, xq⟩ := gx.lens 8 (n := 35184372088832) (by omega) (by omega) (by omega)
    obtain ⟨yl, yq⟩ := (gx.by_ gy).lens 8 (n := 35184372088832) (by omega) (by omega) (by omega)
    have hl1 := hs.1
    have hr1 := fun r hr => (hs.2 r hr).1
    have hl2 := hs'.1
    have hr2 := fun r hr => (hs'.2 r hr).1
    refine tr_skip ?_
    repeat (first | (with_reducible refine tr_skip ?_) | (with_reducible refine tr_exit ?_) | (with_reducible refine tr_then ?_) | (with_reducible refine tr_inX ?_) | (with_reducible refine tr_thenX ?_) | (with_reducible refine tr_inN ?_) | (with_reducible refine tr_inR ?_) | (with_reducible refine tr_thenR ?_))
    refine tr_rseq ?_   -- region 3
    refine sq_q (qt_move rfl) rfl ?_   -- t25
    refine sq_q (qt_move rfl) rfl ?_   -- t26
    refine sq_call (optV o) (optF (600 + 600 + 16) o) rfl rfl rfl (fun w t => by rw [ho]; exact mmul_ret m m' 600 600 w _ (hs.ok (t.mt hm)) (hs'.ok (t.mt hm')) (by omega) (by omega) (fun r hr => by have := hr1 r hr; omega) (by omega) (fun r hr => by have := hr2 r hr; omega)) fun m3 => ?_   -- t27
    refine sq_q (qt_move rfl) rfl ?_   -- t24
    refine sq_q (qt_extract rfl rfl) rfl ?_   -- t28
    refine sq_q (qt_extract rfl rfl) rfl ?_   -- t29
    refine sq_q (qt_assign rfl) rfl ?_   -- t9
    refine sq_q (qt_assign rfl) rfl ?_   -- t10
    refine sq_end ?_
    refine tr_rseq ?_   -- region 4
    refine sq_q (qt_move rfl) rfl ?_   -- t31
    refine sq_q (qt_move rfl) rfl ?_   -- t32
    refine sq_call (optV o) (optF (600 + 600 + 16) o) rfl rfl rfl (fun w t => by rw [ho]; exact rmmul_ret m m' 600 600 w _ (hs.ok (t.mt hm)) (hs'.ok (t.mt hm')) (by omega) (by omega) (fun r hr => by have := hr1 r hr; omega) (by omega) (fun r hr => by have := hr2 r hr; omega)) fun m4 => ?_   -- t33
    refine sq_q (qt_move rfl) rfl ?_   -- t30
    refine sq_q (qt_extract rfl rfl) rfl ?_   -- t34
    refine sq_q (qt_extract rfl rfl) rfl ?_   -- t35
    refine sq_q (qt_assign rfl) rfl ?_   -- t11
    refine sq_q (qt_assign rfl) rfl ?_   -- t12
    refine sq_end ?_
    refine tr_rseq ?_   -- region 5
    refine sq_q (qt_fieldAddr rfl) rfl ?_   -- t36
    refine sq_q (qt_load rfl (fun w t => t.atO 1 rfl rfl)) rfl ?_   -- t37
    refine sq_q (qt_fieldAddr rfl) rfl ?_   -- t38
    refine sq_store 0 rfl rfl rfl rfl (show 0 + 0 + 1 ≤ 3 by omega) rfl rfl ?_   -- R5.3
    refine sq_end ?_
    refine tr_own [(r7, .cells (gx.by_ gy).v.cells 31 (0, 0)), (r6, .cells gx.v.cells 31 (0, 0))] rfl ?_
    refine tr_rdraw0 [0, 1, 2, 3, 6, 7, 8, 9, 10, 11, 12, 13, 14, 15, 16, 22] (by kernel_rfl) ?_   -- region 6
    refine dx_q rfl (qt_load_agg (vs := [.int .u8 (gx.r : Int), .int .u8 (gx.c : Int), .slice gx.p.1 gx.l.length gx.p.2]) rfl rfl (fun w t j v hv => by rw [Nat.zero_add]; exact t.atO 1 rfl hv)) rfl ?_   -- t40
    refine dx_call Mt.v (fun m w => m.ok 2 w ∧ m.zs = gx.zs 8 ∧ m.can) rfl rfl rfl (fun w t => gmatrix_ret gx 8 w _ (t.gd hx) (by omega) (by omega)) ?_   -- t41
    refine dx_q rfl (qt_load_agg (vs := [.int .u8 (gx.c : Int), .int .u8 (gy.c : Int), .slice gy.p.1 gy.l.length gy.p.2]) rfl rfl (fun w t j v hv => by rw [Nat.zero_add]; exact t.atO 0 rfl hv)) rfl ?_   -- t42
    refine dx_call Mt.v (fun m w => m.ok 2 w ∧ m.zs = (gx.by_ gy).zs 8 ∧ m.can) rfl rfl rfl (fun w t => gmatrix_ret (gx.by_ gy) 8 w _ (t.gd (Gd.by_ok hx hy)) (by omega) (by omega)) ?_   -- t43
    refine dx_call2 41 43 (optV u) (optF (2 + 2 + 16) u) rfl rfl rfl (by simp) (by simp) (fun _ _ => rfl) (fun _ _ => rfl) (fun a b w t => by
      obtain ⟨a1, a2⟩ := lens_of t.r.1.2.2.1 _ xl xq
      obtain ⟨b1, b2⟩ := lens_of t.r.2.2.1 _ yl yq
      have h := fun S' => mmul_ret a b 2 2 w S' t.r.1.2.1 t.r.2.1 (by omega) a1 a2 b1 b2
      rw [t.r.1.2.2.1, t.r.2.2.1, ← hu] at h
      exact h _) ?_   -- t44
    refine dx_q1 44 (optV u) rfl rfl (fun o ho => mem_looksAt (by rw [ho]; simp [Op.operands])) (fun _ => qt_move rfl) rfl ?_   -- t39
    refine dx_q1 39 Mt.v rfl rfl (fun o ho => mem_looksAt (by rw [ho]; simp [Op.operands])) (fun _ => qt_extract rfl rfl) rfl ?_   -- t45
    refine dx_q1 39 (fun _ => .bool u.isSome) rfl rfl (fun o ho => mem_looksAt (by rw [ho]; simp [Op.operands])) (fun _ => qt_extract rfl rfl) rfl ?_   -- t46
    refine dx_q1 45 Mt.v rfl rfl (fun o ho => mem_looksAt (by rw [ho]; simp [Op.operands])) (fun _ => qt_assign rfl) rfl ?_   -- t13
    refine dx_q1 46 (fun _ => .bool u.isSome) rfl rfl (fun o ho => mem_looksAt (by rw [ho]; simp [Op.operands])) (fun _ => qt_assign rfl) rfl ?_   -- t14
    refine dx_nil ?_
    repeat (first | refine es_val rfl ?_ rfl | refine es_skip rfl ?_)
    refine es_res rfl (fun m5 => ?_) rfl
    refine es_res rfl (fun m5' => ?_) rfl
    repeat (first | refine es_val rfl ?_ rfl | refine es_skip rfl ?_)
    refine es_nil rfl ?_
    refine tx_endk ?_
    refine tr_rdraw0 [0, 1, 2, 3, 6, 7, 8, 9, 10, 11, 12, 13, 14, 15, 16, 22] (by kernel_rfl) ?_   -- region 7
    refine dx_q rfl (qt_load_agg (vs := [.int .u8 (gx.r : Int), .int .u8 (gx.c : Int), .slice gx.p.1 gx.l.length gx.p.2]) rfl rfl (fun w t j v hv => by rw [Nat.zero_add]; exact t.atO 1 rfl hv)) rfl ?_   -- t48
    refine dx_call Mt.v (fun m w => m.ok 2 w ∧ m.zs = gx.zs 8 ∧ m.can) rfl rfl rfl (fun w t => gmatrix_ret gx 8 w _ (t.gd hx) (by omega) (by omega)) ?_   -- t49
    refine dx_q rfl (qt_load_agg (vs := [.int .u8 (gx.c : Int), .int .u8 (gy.c : Int), .slice gy.p.1 gy.l.length gy.p.2]) rfl rfl (fun w t j v hv => by rw [Nat.zero_add]; exact t.atO 0 rfl hv)) rfl ?_   -- t50
    refine dx_call Mt.v (fun m w => m.ok 2 w ∧ m.zs = (gx.by_ gy).zs 8 ∧ m.can) rfl rfl rfl (fun w t => gmatrix_ret (gx.by_ gy) 8 w _ (t.gd (Gd.by_ok hx hy)) (by omega) (by omega)) ?_   -- t51
    refine dx_call2 49 51 (optV u) (optF (2 + 2 + 16) u) rfl rfl rfl (by simp) (by simp) (fun _ _ => rfl) (fun _ _ => rfl) (fun a b w t => by
      obtain ⟨a1, a2⟩ := lens_of t.r.1.2.2.1 _ xl xq
      obtain ⟨b1, b2⟩ := lens_of t.r.2.2.1 _ yl yq
      have h := fun S' => rmmul_ret a b 2 2 w S' t.r.1.2.1 t.r.2.1 (by omega) a1 a2 b1 b2
      rw [t.r.1.2.2.1, t.r.2.2.1, ← hu] at h
      exact h _) ?_   -- t52
    refine dx_q1 52 (optV u) rfl rfl (fun o ho => mem_looksAt (by rw [ho]; simp [Op.operands])) (fun _ => qt_move rfl) rfl ?_   -- t47
    refine dx_q1 47 Mt.v rfl rfl (fun o ho => mem_looksAt (by rw [ho]; simp [Op.operands])) (fun _ => qt_extract rfl rfl) rfl ?_   -- t53
    refine dx_q1 47 (fun _ => .bool u.isSome) rfl rfl (fun o ho => mem_looksAt (by rw [ho]; simp [Op.operands])) (fun _ => qt_extract rfl rfl) rfl ?_   -- t54
    refine dx_q1 53 Mt.v rfl rfl (fun o ho => mem_looksAt (by rw [ho]; simp [Op.operands])) (fun _ => qt_assign rfl) rfl ?_   -- t15
    refine dx_q1 54 (fun _ => .bool u.isSome) rfl rfl (fun o ho => mem_looksAt (by rw [ho]; simp [Op.operands])) (fun _ => qt_assign rfl) rfl ?_   -- t16
    refine dx_nil ?_
    repeat (first | refine es_val rfl ?_ rfl | refine es_skip rfl ?_)
    refine es_res rfl (fun m6 => ?_) rfl
    refine es_res rfl (fun m6' => ?_) rfl
    repeat (first | refine es_val rfl ?_ rfl | refine es_skip rfl ?_)
    refine es_nil rfl ?_
    refine tx_endk ?_
    clear hx
    ·
      refine tr_rseq ?_   -- region 8
      refine sq_q (qt_move rfl) rfl ?_   -- t55
      refine sq_q (qt_move rfl) rfl ?_   -- t56
      refine sq_q (qt_binB (r := .bool true) rfl rfl (bin_eqlBr boolT _)) rfl ?_   -- t57
      refine sq_q (qt_move rfl) rfl ?_   -- t58
      refine sq_gT rfl rfl ?_
      refine sq_q (qt_move rfl) rfl ?_   -- t59
      refine sq_gT rfl rfl ?_
      refine sq_q (qt_move rfl) rfl ?_   -- t60
      refine sq_gT rfl rfl ?_
      refine sq_call (val := fun _ : Unit => .bool true) (F := fun _ _ => True) rfl rfl rfl (fun w t => same_opt t.r.1.1.1.1.1.2 t.r.1.1.1.1.2 (by omega) (by omega) ol oq) fun _ => ?_   -- t61
      refine sq_q (qt_pick rfl rfl) rfl ?_   -- t62
      refine sq_q (qt_move rfl) rfl ?_   -- t63
      refine sq_gT rfl rfl ?_
      refine sq_q (qt_move rfl) rfl ?_   -- t64
      refine sq_gT rfl rfl ?_
      refine sq_q (qt_move rfl) rfl ?_   -- t65
      refine sq_gT rfl rfl ?_
      refine sq_q (qt_binB (r := .bool true) rfl rfl (bin_eqlBr boolT _)) rfl ?_   -- t66
      refine sq_q (qt_pick rfl rfl) rfl ?_   -- t67
      refine sq_q (qt_move rfl) rfl ?_   -- t68
      refine sq_gT rfl rfl ?_
      refine sq_q (qt_move rfl) rfl ?_   -- t69
      refine sq_gT rfl rfl ?_
      refine sq_q (qt_move rfl) rfl ?_   -- t70
      refine sq_gT rfl rfl ?_
      refine sq_call (val := fun _ : Unit => .bool true) (F := fun _ _ => True) rfl rfl rfl (fun w t => same_opt t.r.1.1.1.1.2 t.r.1.1.2 (by omega) (by omega) ul uq) fun _ => ?_   -- t71
      refine sq_q (qt_pick rfl rfl) rfl ?_   -- t72
      refine sq_q (qt_move rfl) rfl ?_   -- t73
      refine sq_gT rfl rfl ?_
      refine sq_call (val := fun _ : Unit => .bool true) (F := fun _ _ => True) rfl rfl rfl (fun w t => awake_ret w _) fun _ => ?_   -- t74
      refine sq_q (qt_pick rfl rfl) rfl ?_   -- t75
      refine sq_q (qt_assign rfl) rfl ?_   -- t8
      refine sq_end ?_
      refine tr_ret ?_
      repeat (first | (with_reducible refine tr_skip ?_) | (with_reducible refine tr_exit ?_) | (with_reducible refine tr_then ?_) | (with_reducible refine tr_inX ?_) | (with_reducible refine tr_thenX ?_) | (with_reducible refine tr_inN ?_) | (with_reducible refine tr_inR ?_) | (with_reducible refine tr_thenR ?_))
      exact tr_done () (fun a w s t => results_1 rfl (resv_tmp s rfl)) (fun _ _ _ _ => trivial)
end Go.Qk
end
section
/- The elimination without fractions answers the determinant. -/
set_option linter.unusedVariables false
set_option linter.unusedSimpArgs false
namespace Go.Qk
theorem cset_at (g : Mf) (c : Nat) (u : Nat → Int) (a : Nat) : cset g c u a c = u a := by simp [cset]
theorem cset_ne (g : Mf) {c b : Nat} (u : Nat → Int) (a : Nat) (h : b ≠ c) : cset g c u a b = g a b := by simp [cset, h]
theorem sumN_cut {k m : Nat} {f : Nat → Int} (h : ∀ j, k ≤ j → j < k + m → f j = 0) : sumN (k + m) f = sumN k f := by
  induction m with
  | zero => rfl
  | succ m ih =>
    rw [show k + (m + 1) = (k + m) + 1 by omega, sumN, ih fun j h1 h2 => h j h1 (by omega), h (k + m) (by omega) (by omega)]
    omega
theorem lap_congr {n : Nat} {g g' : Mf} (h : ∀ a b, a < n → b < n → g a b = g' a b) : lap n g = lap n g' := (lap_alt n).congr g g' h
def rset (g : Mf) (r : Nat) (u : Nat → Int) : Mf := fun a b => if a = r then u b else g a b
theorem tr_rset (g : Mf) (r : Nat) (u : Nat → Int) : tr (rset g r u) = cset (tr g) r u := rfl
theorem lap_ralt {n : Nat} {g : Mf} {r s : Nat} (hr : r < n) (hs : s < n) (hrs : r ≠ s) (h : ∀ b, b < n → g r b = g s b) : lap n g = 0 := by
  rw [← lap_tr]
  exact (lap_alt n).alt' hr hs hrs (tr g) h
theorem lap_rswap {n : Nat} {g : Mf} {r s : Nat} (hr : r < n) (hs : s < n) (hrs : r ≠ s) : lap n (fun a b => g (if a = r then s else if a = s then r else a) b) = -lap n g := by
  rw [← lap_tr n g, ← (lap_alt n).swap (tr g) hr hs hrs, ← lap_tr]
  rfl
theorem lap_rlin {n : Nat} (g : Mf) {r : Nat} (hr : r < n) (u v : Nat → Int) (x : Int) : lap n (rset g r fun b => u b + x * v b) = lap n (rset g r u) + x * lap n (rset g r v) := by
  rw [← lap_tr, tr_rset, (lap_alt n).lin _ _ _ _ _ hr, ← tr_rset, ← tr_rset, lap_tr, lap_tr]
/-- without row k and column j -/
def dl (g : Mf) (k j : Nat) : Mf := fun a b => g (sk k a) (sk j b)
def rtop (g : Mf) (k : Nat) : Mf := fun a b => g (if a = 0 then k else sk k (a - 1)) b
theorem lap_rtop {n : Nat} (g : Mf) : ∀ k, k < n + 1 → lap (n + 1) (rtop g k) = sg k * lap (n + 1) g := by
  intro k
  induction k with
  | zero =>
    intro _
    rw [show sg 0 = 1 from rfl, Int.one_mul]
    refine lap_congr fun a b _ _ => ?_
    unfold rtop sk
    split
    · rename_i h; rw [h]
    · rw [if_neg (by omega), show a - 1 + 1 = a by omega]
  | succ k ih =>
    intro hk
    have h := lap_rswap (g := rtop g k) (n := n + 1) (r := 0) (s := k + 1) (by omega) hk (by omega)
    rw [ih (by omega)] at h
    rw [sg_succ, Int.neg_mul, ← h]
    refine lap_congr fun a b _ _ => ?_
    unfold rtop
    congr 1
    unfold sk
    by_cases h0 : a = 0
    · subst h0; simp
    · by_cases h1 : a = k + 1
      · subst h1; simp
      · simp only [h0, h1, if_false]
        (repeat' split) <;> omega
/-- expansion along any row -/
theorem lap_row {n : Nat} (g : Mf) {k : Nat} (hk : k < n + 1) : lap (n + 1) g = sumN (n + 1) fun j => sg (k + j) * g k j * lap n (dl g k j) := by
  have h := lap_rtop g k hk
  have h2 : lap (n + 1) (rtop g k) = sumN (n + 1) fun j => sg j * g k j * lap n (dl g k j) := by
    rw [lap]
    refine sumN_congr fun j _ => ?_
    rfl
  have h3 : lap (n + 1) g = sg k * lap (n + 1) (rtop g k) := by rw [h, ← Int.mul_assoc, sg_sq, Int.one_mul]
  rw [h3, h2, ← sumN_mul]
  refine sumN_congr fun j _ => ?_
  rw [sg_add]
  simp only [Int.mul_assoc]
/-- an expansion with another row's numbers -/
theorem lap_row_ne {n : Nat} (g : Mf) {k i : Nat} (hk : k < n + 1) (hi : i < n + 1) (hik : i ≠ k) : (sumN (n + 1) fun j => sg (k + j) * g i j * lap n (dl g k j)) = 0 := by
  have h := lap_row (rset g k (g i)) hk
  have h0 : lap (n + 1) (rset g k (g i)) = 0 := lap_ralt hk hi (Ne.symm hik) fun b _ => by unfold rset; rw [if_pos rfl, if_neg hik]
  rw [h0] at h
  rw [h]
  refine sumN_congr fun j _ => ?_
  have e : dl (rset g k (g i)) k j = dl g k j := by funext a b; unfold dl rset; rw [if_neg (sk_ne k a)]
  rw [e]
  unfold rset
  rw [if_pos rfl]
theorem lap_block : ∀ (k m : Nat) (g : Mf), (∀ a b, a < k → k ≤ b → b < k + m → g a b = 0) → lap (k + m) g = lap k g * lap m fun a b => g (k + a) (k + b) := by
  intro k
  induction k with
  | zero =>
    intro m g _
    rw [show lap 0 g = 1 from rfl, Int.one_mul, Nat.zero_add]
    exact lap_congr fun a b _ _ => by rw [Nat.zero_add, Nat.zero_add]
  | succ k ih =>
    intro m g h
    rw [show k + 1 + m = (k + m) + 1 by omega, lap, show k + m + 1 = (k + 1) + m by omega, sumN_cut (k := k + 1) fun j h1 h2 => by rw [h 0 j (by omega) h1 h2]; simp]
    rw [lap, ← sumN_mul_right]
    refine sumN_congr fun j hj => ?_
    rw [ih m (mnr g j) fun a b ha hb hb' => by
      unfold mnr sk
      rw [if_neg (by omega)]
      exact h _ _ (by omega) (by omega) (by omega)]
    have e : lap m (fun a b => mnr g j (k + a) (k + b)) = lap m fun a b => g (k + 1 + a) (k + 1 + b) := by
      refine lap_congr fun a b _ _ => ?_
      unfold mnr sk
      rw [if_neg (by omega), show k + a + 1 = k + 1 + a by omega, show k + b + 1 = k + 1 + b by omega]
    rw [e]
    simp only [Int.mul_assoc]
/-- a column with multiples of columns ahead of it added -/
theorem lap_comb {n : Nat} (g : Mf) {c m : Nat} (hc : c < n) (hm : m ≤ c) (x : Int) (d : Nat → Int) : lap n (cset g c fun a => x * g a c + sumN m fun l => d l * g a l) = x * lap n g := by
  have hA := lap_alt n
  have h1 := hA.lin g c (fun a => x * g a c) (fun a => sumN m fun l => d l * g a l) 1 hc
  simp only [Int.one_mul] at h1
  rw [h1, hA.smul g hc x fun a => g a c, cset_same, hA.sum g hc m d fun l a => g a l, sumN_zero]
  · omega
  · intro l hl
    rw [hA.alt' hc (show l < n by omega) (by omega) (cset g c fun a => g a l) (fun a _ => by unfold cset; rw [if_pos rfl, if_neg (by omega)])]
    simp
/-- the corner of A with one more row and column -/
def brd (A : Mf) (k i j : Nat) : Mf := fun a b => A (if a < k then a else i) (if b < k then b else j)
def bm (A : Mf) (k i j : Nat) : Int := lap (k + 1) (brd A k i j)
theorem bm_low {A : Mf} {k i j : Nat} (h : i < k) : bm A k i j = 0 := by
  refine lap_ralt (r := i) (s := k) (by omega) (by omega) (by omega) fun b _ => ?_
  unfold brd
  rw [if_pos h, if_neg (Nat.lt_irrefl k)]
theorem bm_comb (A : Mf) (k j : Nat) : ∃ d : Nat → Int, ∀ i, bm A k i j = lap k A * A i j + sumN k fun l => d l * A i l := by
  refine ⟨fun l => sg (k + l) * lap k (dl (brd A k 0 j) k l), fun i => ?_⟩
  unfold bm
  rw [lap_row (brd A k i j) (k := k) (by omega), sumN]
  have e : ∀ l, lap k (dl (brd A k i j) k l) = lap k (dl (brd A k 0 j) k l) := fun l => lap_congr fun a b ha hb => by
    unfold dl brd sk
    rw [if_pos ha, if_pos ha, if_pos ha]
  have e2 : lap k (dl (brd A k i j) k k) = lap k A := lap_congr fun a b ha hb => by
    unfold dl brd sk
    rw [if_pos ha, if_pos ha, if_pos hb, if_pos hb]
  have e3 : brd A k i j k k = A i j := by unfold brd; rw [if_neg (Nat.lt_irrefl k), if_neg (Nat.lt_irrefl k)]
  rw [e2, e3, show sg (k + k) = 1 by rw [sg_add, sg_sq], Int.one_mul, Int.add_comm, Int.mul_comm (A i j)]
  congr 1
  refine sumN_congr fun l hl => ?_
  rw [e l]
  have e4 : brd A k i j k l = A i l := by unfold brd; rw [if_neg (Nat.lt_irrefl k), if_pos hl]
  rw [e4]
  grind
theorem lap_two (g : Mf) : lap 2 g = g 0 0 * g 1 1 - g 0 1 * g 1 0 := by
  simp [lap, sumN, mnr, sk, sg]
  grind
/-- the step of the elimination -/
theorem bm_step (A : Mf) (k i j : Nat) (hP : lap k A ≠ 0) : lap k A * bm A (k + 1) i j = bm A k k k * bm A k i j - bm A k i k * bm A k k j := by
  obtain ⟨d1, h1⟩ := bm_comb A k k
  obtain ⟨d2, h2⟩ := bm_comb A k j
  obtain ⟨M, hM⟩ : ∃ M, M = brd A (k + 1) i j := ⟨_, rfl⟩
  have hbm : bm A (k + 1) i j = lap (k + 2) M := by rw [hM]; rfl
  have hMl : ∀ a l, l < k + 1 → M a l = A (if a < k + 1 then a else i) l := fun a l hl => by rw [hM]; unfold brd; rw [if_pos hl]
  have hMr : ∀ a, M a (k + 1) = A (if a < k + 1 then a else i) j := fun a => by rw [hM]; unfold brd; rw [if_neg (Nat.lt_irrefl _)]
  have c1 := lap_comb (n := k + 2) M (c := k) (m := k) (by omega) (Nat.le_refl k) (lap k A) d1
  obtain ⟨M1, hM1⟩ : ∃ M1, M1 = cset M k fun a => lap k A * M a k + sumN k fun l => d1 l * M a l := ⟨_, rfl⟩
  rw [← hM1] at c1
  have c2 := lap_comb (n := k + 2) M1 (c := k + 1) (m := k) (by omega) (by omega) (lap k A) d2
  obtain ⟨M2, hM2⟩ : ∃ M2, M2 = cset M1 (k + 1) fun a => lap k A * M1 a (k + 1) + sumN k fun l => d2 l * M1 a l := ⟨_, rfl⟩
  rw [← hM2] at c2
  have v1 : ∀ a, M2 a k = bm A k (if a < k + 1 then a else i) k := fun a => by
    rw [hM2, cset_ne _ _ _ (by omega), hM1, cset_at, hMl a k (by omega), h1]
    congr 1
    exact sumN_congr fun l hl => by rw [hMl a l (by omega)]
  have v2 : ∀ a, M2 a (k + 1) = bm A k (if a < k + 1 then a else i) j := fun a => by
    rw [hM2, cset_at, hM1, cset_ne _ _ _ (by omega), hMr a, h2]
    congr 1
    exact sumN_congr fun l hl => by rw [cset_ne _ _ _ (by omega), hMl a l (by omega)]
  have v0 : ∀ a l, a < k → l < k → M2 a l = A a l := fun a l ha hl => by
    rw [hM2, cset_ne _ _ _ (by omega), hM1, cset_ne _ _ _ (by omega), hMl a l (by omega), if_pos (by omega)]
  have hb := lap_block k 2 M2 fun a b ha hb hb' => by
    rcases (show b = k ∨ b = k + 1 by omega) with e | e
    · rw [e, v1, if_pos (by omega)]; exact bm_low ha
    · rw [e, v2, if_pos (by omega)]; exact bm_low ha
  rw [lap_two, lap_congr v0] at hb
  simp only [Nat.add_zero, v1, v2] at hb
  rw [if_pos (by omega), if_neg (by omega)] at hb
  rw [c2, c1, ← hbm] at hb
  have := Int.eq_of_mul_eq_mul_left hP hb
  rw [this]
  grind
theorem piv_spec (g : Mf) (k : Nat) : ∀ m p, p ≤ piv g k m p ∧ piv g k m p ≤ p + m ∧ (∀ i, p ≤ i → i < piv g k m p → g i k = 0) ∧ (piv g k m p < p + m → g (piv g k m p) k ≠ 0) := by
  intro m
  induction m with
  | zero => intro p; exact ⟨Nat.le_refl _, Nat.le_refl _, fun i h1 h2 => by have : piv g k 0 p = p := rfl; omega, fun h => by have : piv g k 0 p = p := rfl; omega⟩
  | succ m ih =>
    intro p
    unfold piv
    split
    · rename_i h0
      obtain ⟨h1, h2, h3, h4⟩ := ih (p + 1)
      refine ⟨by omega, by omega, fun i hi hi' => ?_, fun h => h4 (by omega)⟩
      by_cases e : i = p
      · rw [e]; exact h0
      · exact h3 i (by omega) hi'
    · rename_i h0
      exact ⟨Nat.le_refl _, by omega, fun i h1 h2 => by omega, fun _ => h0⟩
theorem bar_lap (n : Nat) : ∀ (m k : Nat) (g : Mf) (prev : Int) (neg : Bool) (A : Mf), m + k = n → prev = lap k A → prev ≠ 0 → (∀ i j, k ≤ i → i < n → k ≤ j → j < n → g i j = bm A k i j) → bar n m k g prev neg = (if neg = true then -lap n A else lap n A) := by
  intro m
  induction m with
  | zero =>
    intro k g prev neg A hk hp _ _
    have : k = n := by omega
    rw [bar, hp, this]
  | succ m ih =>
    intro k g prev neg A hk hp h0 hg
    have hkn : k < n := by omega
    obtain ⟨p1, p2, p3, p4⟩ := piv_spec g k (n - k) k
    generalize hpe : piv g k (n - k) k = p at *
    unfold bar
    rw [hpe]
    -- one step with a pivot that is not 0
    have step : ∀ (g' : Mf) (A' : Mf) (neg' : Bool), prev = lap k A' → (∀ i j, k ≤ i → i < n → k ≤ j → j < n → g' i j = bm A' k i j) → g' k k ≠ 0 → bar n m (k + 1) (elim g' k prev) (g' k k) neg' = (if neg' = true then -lap n A' else lap n A') := by
      intro g' A' neg' hp' hg' hne
      refine ih (k + 1) _ _ neg' A' (by omega) ?_ hne fun i j hi hin hj hjn => ?_
      · rw [hg' k k (Nat.le_refl _) hkn (Nat.le_refl _) hkn]
        refine lap_congr fun a b ha hb => ?_
        unfold brd
        congr 1
        · split <;> omega
        · split <;> omega
      · have hP : lap k A' ≠ 0 := by rw [← hp']; exact h0
        have hs := bm_step A' k i j hP
        unfold elim elm
        rw [if_pos ⟨by omega, by omega⟩, hg' k k (Nat.le_refl _) hkn (Nat.le_refl _) hkn, hg' i j (by omega) hin (by omega) hjn, hg' i k (by omega) hin (Nat.le_refl _) hkn, hg' k j (Nat.le_refl _) hkn (by omega) hjn, ← hs, hp']
        exact Int.mul_ediv_cancel_left _ hP
    by_cases hpn : p = n
    · rw [if_pos hpn]
      obtain ⟨d, hd⟩ := bm_comb A k k
      have h1 := lap_comb (n := n) A hkn (Nat.le_refl k) (lap k A) d
      have h2 : lap n (cset A k fun a => lap k A * A a k + sumN k fun l => d l * A a l) = 0 := by
        rw [← (lap_alt n).zero A hkn]
        refine lap_congr fun a b ha _ => ?_
        unfold cset
        split
        · show (lap k A * A a k + sumN k fun l => d l * A a l) = 0
          rw [← hd a]
          by_cases hak : a < k
          · exact bm_low hak
          · rw [← hg a k (by omega) ha (Nat.le_refl _) hkn]
            exact p3 a (by omega) (by omega)
        · rfl
      rw [h2] at h1
      have h3 : lap n A = 0 := by
        rcases Int.mul_eq_zero.1 h1.symm with h | h
        · rw [← hp] at h; exact absurd h h0
        · exact h
      rw [h3]
      split <;> rfl
    · rw [if_neg hpn]
      have hne : g p k ≠ 0 := p4 (by omega)
      by_cases hpk : p = k
      · rw [if_pos hpk]
        exact step g A neg hp hg (by rw [hpk] at hne; exact hne)
      · rw [if_neg hpk]
        have hs := lap_rswap (n := n) (g := A) (r := p) (s := k) (by omega) hkn hpk
        rw [step (swp g p k) (fun a b => A (if a = p then k else if a = k then p else a) b) (!neg) ?_ ?_ ?_]
        · rw [hs]
          cases neg <;> simp
        · rw [hp]
          exact lap_congr fun a b ha _ => by rw [if_neg (by omega), if_neg (by omega)]
        · intro i j hi hin hj hjn
          unfold swp
          rw [hg _ j (by split <;> (try split) <;> omega) (by split <;> (try split) <;> omega) hj hjn]
          refine lap_congr fun a b ha hb => ?_
          unfold brd
          congr 1
          by_cases hak : a < k
          · simp only [if_pos hak]
            rw [if_neg (by omega), if_neg (by omega)]
          · simp only [if_neg hak]
        · unfold swp
          rw [if_neg (Ne.symm hpk), if_pos rfl]
          exact hne
/-- the elimination answers the determinant -/
theorem bdet_lap (n : Nat) (g : Mf) : bdet n g = lap n g := by
  have h := bar_lap n n 0 g 1 false g (by omega) rfl (by decide) fun i j _ _ _ _ => by simp [bm, lap, sumN, brd, sg]
  unfold bdet
  rw [h]
  rfl
end Go.Qk
end
section
/- Products of square grids. -/
set_option linter.unusedVariables false
namespace Go.Qk
open Go Go.Proofs Go.RowKit
theorem ent_grid {f : Nat → Nat → Int} {r c i j : Nat} (hi : i < r) (hj : j < c) : ent (grid f r c) i j = f i j := by
  unfold ent
  simp [grid, List.getD, hi, hj]
theorem grid_congr {f g : Nat → Nat → Int} {r c : Nat} (h : ∀ i j, i < r → j < c → f i j = g i j) : grid f r c = grid g r c := by
  unfold grid
  exact List.map_congr_left fun a ha => List.map_congr_left fun b hb => h a b (List.mem_range.1 ha) (List.mem_range.1 hb)
theorem mmul_assoc (n : Nat) (a b c : Mf) : mmul n (mmul n a b) c = mmul n a (mmul n b c) := by
  funext i j
  show (sumN n fun k => (sumN n fun l => a i l * b l k) * c k j) = sumN n fun l => a i l * sumN n fun k => b l k * c k j
  have e1 : (sumN n fun k => (sumN n fun l => a i l * b l k) * c k j) = sumN n fun k => sumN n fun l => a i l * (b l k * c k j) := sumN_congr fun k _ => by
    rw [← sumN_mul_right]
    exact sumN_congr fun l _ => Int.mul_assoc _ _ _
  rw [e1, sumN_comm]
  exact sumN_congr fun l _ => sumN_mul _ _ _
theorem mmul_tr (n : Nat) (a b : Mf) : mmul n (tr b) (tr a) = tr (mmul n a b) := by
  funext i j
  exact sumN_congr fun k _ => Int.mul_comm _ _
theorem mulO_grid {n : Nat} (hn : 1 ≤ n) (hn16 : n ≤ 16) (a b : Mf) : mulO (grid a n n) (grid b n n) = some (grid (mmul n a b) n n) := by
  unfold mulO
  rw [shp_grid a hn hn16 hn hn16, shp_grid b hn hn16 hn hn16]
  refine (if_pos rfl).trans (congrArg some (grid_congr fun i j hi hj => sumN_congr fun k hk => ?_))
  rw [ent_grid hi hk, ent_grid hk hj]
theorem trO_grid {n : Nat} (hn : 1 ≤ n) (hn16 : n ≤ 16) (a : Mf) : trO (grid a n n) = some (grid (tr a) n n) := by
  unfold trO
  rw [shp_grid a hn hn16 hn hn16]
  exact congrArg some (grid_congr fun i j hi hj => ent_grid hj hi)
theorem grid_length (a : Mf) (r c : Nat) : (grid a r c).length = r := by simp [grid]
theorem detO_grid {n : Nat} (hn : 1 ≤ n) (hn16 : n ≤ 16) (a : Mf) : detO (grid a n n) = some (lap n a) := by
  unfold detO
  rw [shp_grid a hn hn16 hn hn16, if_pos (by simp [sqb]), grid_length, bdet_lap]
  exact congrArg some (lap_congr fun i j hi hj => ent_grid hi hj)
section
variable {m m' : Mt} {n B B' : Nat} {a b : Mf} {w : World} {S : Nat → Prop}
theorem optF_lens (h : optF B (some (grid a n n)) m w) (hn16 : n ≤ 16) : m.rs.length = n ∧ m.rs.length ≤ 35184372088832 ∧ ∀ r ∈ m.rs, r.l.length ≤ 35184372088832 := by
  obtain ⟨h1, h2⟩ := mt_lens (show m.zs = grid a n n from h.2.1)
  exact ⟨h1, by omega, fun r hr => by have := h2 r hr; omega⟩
theorem mmul_g (h : optF B (some (grid a n n)) m w) (h' : optF B' (some (grid b n n)) m' w) (hn : 1 ≤ n) (hn16 : n ≤ 16) (hB : B + B' ≤ 35184372088700) :
    Ret Try.prog 52 [m.v, m'.v] w S (optV (some (grid (mmul n a b) n n))) (optF (B + B' + 16) (some (grid (mmul n a b) n n))) := by
  obtain ⟨_, a1, a2⟩ := optF_lens h hn16
  obtain ⟨_, b1, b2⟩ := optF_lens h' hn16
  have g := mmul_ret m m' B B' w S h.1 h'.1 hB a1 a2 b1 b2
  rw [show m.zs = grid a n n from h.2.1, show m'.zs = grid b n n from h'.2.1, mulO_grid hn hn16] at g
  exact g
theorem transpose_g (h : optF B (some (grid a n n)) m w) (hn : 1 ≤ n) (hn16 : n ≤ 16) (hB : B ≤ 35184372088832) :
    Ret Try.prog 44 [m.v] w S (optV (some (grid (tr a) n n))) (optF B (some (grid (tr a) n n))) := by
  obtain ⟨_, a1, a2⟩ := optF_lens h hn16
  have g := transpose_ret m B w S h.1 hB a1 a2
  rw [show m.zs = grid a n n from h.2.1, trO_grid hn hn16] at g
  exact g
theorem det_g (h : optF B (some (grid a n n)) m w) (hn : 1 ≤ n) (hn16 : n ≤ 16) (hB : B ≤ 8388607) (hB1 : 1 ≤ B) :
    Ret Try.prog 25 [m.v] w S (optZV (some (lap n a))) (optZF (some (lap n a))) := by
  obtain ⟨_, a1, a2⟩ := optF_lens h hn16
  have g := det_ret m B w S h.1 hB hB1 a1 a2
  rw [show m.zs = grid a n n from h.2.1, detO_grid hn hn16] at g
  exact g
end
theorem rmul_iv {a b : Int} {p q : Sv} {w : World} {S : Nat → Prop} (h : Lz a.natAbs p w) (h' : Lz b.natAbs q w) (hB : nl a.natAbs + nl b.natAbs ≤ 35184372088832) : Ret Try.prog 56 [iv a p, iv b q] w S (iv (a * b)) (Lz (a * b).natAbs) := by
  have g := rmul_zd (S := S) (zd_ok h (Nat.le_refl _)) (zd_ok h' (Nat.le_refl _)) hB
  rwa [zd_z, zd_z] at g
/-- the second grid with the first one's count of rows -/
def Gd.rw_ (x y : Gd) : Gd := ⟨x.r, y.c, y.l, y.p⟩
theorem Gd.rw_ok {x y : Gd} {w : World} (hx : x.ok w) (hy : y.ok w) : (x.rw_ y).ok w := ⟨hx.1, hy.2.1, hy.2.2⟩
end Go.Qk
end
section
/- The walk of MatrixMultiplicative. -/
set_option linter.unusedVariables false
namespace Go.Qk
open Go Go.Proofs Go.RowKit
set_option maxRecDepth 100000
set_option maxHeartbeats 4000000

theorem matrixMultiplicative_ret (gx gy gz : Gd) (w0 : World) (S : Nat → Prop) (hx : gx.ok w0) (hy : gy.ok w0) (hz : gz.ok w0) :
    Ret Try.prog 16 [gx.v, gy.v, gz.v] w0 S (fun _ : Unit => .bool true) (fun _ _ => True) := by
  obtain ⟨n, hn⟩ : ∃ n, n = 1 + gx.r % 4 := ⟨_, rfl⟩
  have hn1 : 1 ≤ n := by omega
  have hn4 : n ≤ 4 := by have := Nat.mod_lt gx.r (show 0 < 4 by omega); omega
  have hn16 : n ≤ 16 := by omega
  obtain ⟨a, ha⟩ : ∃ a : Mf, a = gx.sq.e 4 := ⟨_, rfl⟩
  obtain ⟨b, hb⟩ : ∃ b : Mf, b = (gx.rw_ gy).sq.e 4 := ⟨_, rfl⟩
  obtain ⟨c, hc⟩ : ∃ c : Mf, c = (gx.rw_ gz).sq.e 4 := ⟨_, rfl⟩
  have hA : gx.sq.zs 4 = grid a n n := by rw [ha, hn]; rfl
  have hB : (gx.rw_ gy).sq.zs 4 = grid b n n := by rw [hb, hn]; rfl
  have hC : (gx.rw_ gz).sq.zs 4 = grid c n n := by rw [hc, hn]; rfl
  clear ha hb hc hn
  have e1 := mmul_assoc n a b c
  have e2 := mmul_tr n a b
  have e3 : lap n (mmul n a b) = lap n a * lap n b := lap_mul n a b
  refine ret_of Try.func16 rfl Try.ntmps16 rfl ?_
  refine tr_rseq ?_   -- region 0
  refine sq_box rfl rfl fun r3 => ?_   -- t3
  refine sq_box rfl rfl fun r4 => ?_   -- t4
  refine sq_box rfl rfl fun r5 => ?_   -- t5
  refine sq_q (qt_assign rfl) rfl ?_   -- t6
  refine sq_end ?_
  refine tr_cut (ι := Unit) (fun _ => True) (fun _ => [(3, .pointer (some ⟨r3, 0, none⟩)), (4, .pointer (some ⟨r4, 0, none⟩)), (5, .pointer (some ⟨r5, 0, none⟩))]) (fun _ => [(r5, .cells (gx.rw_ gz).v.cells 31 (0, 0)), (r4, .cells (gx.rw_ gy).v.cells 31 (0, 0)), (r3, .cells gx.v.cells 31 (0, 0))]) (fun _ _ => True) ?_ (fun _ _ => ?_)
  · refine tr_sc ?_
    refine sc_take 0 rfl (by kernel_rfl) (by repeat (first | exact pk_body | refine pk_then ?_ | refine pk_in ?_)) (qt_fieldAddr rfl) rfl ?_
    refine sc_take 2 rfl (by kernel_rfl) (by repeat (first | exact pk_body | refine pk_then ?_ | refine pk_in ?_)) (qt_fieldAddr rfl) rfl ?_
    refine sc_two 1 3 (by kernel_rfl) ?_ ?_
    · refine so_q rfl (qt_load (v := .int .u8 (gx.r : Int)) rfl (fun w t => t.atO 2 rfl rfl)) rfl ?_
      refine sc_take 4 rfl (by kernel_rfl) (by repeat (first | exact pk_body | refine pk_then ?_ | refine pk_in ?_)) (qt_fieldAddr rfl) rfl ?_
      refine sc_two 3 5 (by kernel_rfl) ?_ ?_
      · refine so_q rfl (qt_load (v := .int .u8 (gx.r : Int)) rfl (fun w t => t.atO 2 rfl rfl)) rfl ?_
        refine sc_one 5 (by kernel_rfl) ?_
        refine so_store 1 rfl rfl rfl rfl rfl (show 0 + 0 + 1 ≤ 3 by omega) rfl rfl ?_
        refine sc_one 6 (by kernel_rfl) ?_
        refine so_q rfl (qt_fieldAddr rfl) rfl ?_
        refine sc_one 7 (by kernel_rfl) ?_
        refine so_store 0 rfl rfl rfl rfl rfl (show 0 + 0 + 1 ≤ 3 by omega) rfl rfl ?_
        refine sc_end (by kernel_rfl) ?_
        exact tr_mid () trivial ⟨rfl, rfl, rfl, trivial⟩ rfl (fun _ _ => trivial)
      · refine so_store 1 rfl rfl rfl rfl rfl (show 0 + 0 + 1 ≤ 3 by omega) rfl rfl ?_
        refine sc_one 3 (by kernel_rfl) ?_
        refine so_q rfl (qt_load (v := .int .u8 (gx.r : Int)) rfl (fun w t => t.atO 2 rfl rfl)) rfl ?_
        refine sc_one 6 (by kernel_rfl) ?_
        refine so_q rfl (qt_fieldAddr rfl) rfl ?_
        refine sc_one 7 (by kernel_rfl) ?_
        refine so_store 0 rfl rfl rfl rfl rfl (show 0 + 0 + 1 ≤ 3 by omega) rfl rfl ?_
        refine sc_end (by kernel_rfl) ?_
        exact tr_mid () trivial ⟨rfl, rfl, rfl, trivial⟩ rfl (fun _ _ => trivial)
    · refine so_q rfl (qt_load (v := .int .u8 (gx.r : Int)) rfl (fun w t => t.atO 2 rfl rfl)) rfl ?_
      refine sc_one 1 (by kernel_rfl) ?_
      refine so_q rfl (qt_load (v := .int .u8 (gx.r : Int)) rfl (fun w t => t.atO 2 rfl rfl)) rfl ?_
      refine sc_one 4 (by kernel_rfl) ?_
      refine so_q rfl (qt_fieldAddr rfl) rfl ?_
      refine sc_one 5 (by kernel_rfl) ?_
      refine so_store 1 rfl rfl rfl rfl rfl (show 0 + 0 + 1 ≤ 3 by omega) rfl rfl ?_
      refine sc_one 6 (by kernel_rfl) ?_
      refine so_q rfl (qt_fieldAddr rfl) rfl ?_
      refine sc_one 7 (by kernel_rfl) ?_
      refine so_store 0 rfl rfl rfl rfl rfl (show 0 + 0 + 1 ≤ 3 by omega) rfl rfl ?_
      refine sc_end (by kernel_rfl) ?_
      exact tr_mid () trivial ⟨rfl, rfl, rfl, trivial⟩ rfl (fun _ _ => trivial)
  refine tr_rdraw0 [0, 1, 2, 3, 4, 5, 6, 7, 8, 9, 10, 11, 12, 13, 14, 16, 18, 20, 22, 24, 26, 28, 30, 31] (by kernel_rfl) ?_   -- region 2
  refine dx_q rfl (qt_load_agg (vs := [.int .u8 (gx.r : Int), .int .u8 (gx.c : Int), .slice gx.p.1 gx.l.length gx.p.2]) rfl rfl (fun w t j v hv => by rw [Nat.zero_add]; exact t.atO 2 rfl hv)) rfl ?_   -- t38
  refine dx_call Mt.v (optF 2 (some (grid a n n))) rfl rfl rfl (fun w t => (gsquare_ret gx 4 w _ (t.gd hx) (by omega) (by omega)).imp fun m w h => by rw [hA] at h; exact h) ?_   -- t39
  refine dx_q rfl (qt_load_agg (vs := [.int .u8 (gx.r : Int), .int .u8 (gy.c : Int), .slice gy.p.1 gy.l.length gy.p.2]) rfl rfl (fun w t j v hv => by rw [Nat.zero_add]; exact t.atO 1 rfl hv)) rfl ?_   -- t40
  refine dx_call Mt.v (optF 2 (some (grid b n n))) rfl rfl rfl (fun w t => (gsquare_ret (gx.rw_ gy) 4 w _ (t.gd (Gd.rw_ok hx hy)) (by omega) (by omega)).imp fun m w h => by rw [hB] at h; exact h) ?_   -- t41
  refine dx_q rfl (qt_load_agg (vs := [.int .u8 (gx.r : Int), .int .u8 (gz.c : Int), .slice gz.p.1 gz.l.length gz.p.2]) rfl rfl (fun w t j v hv => by rw [Nat.zero_add]; exact t.atO 0 rfl hv)) rfl ?_   -- t42
  refine dx_call Mt.v (optF 2 (some (grid c n n))) rfl rfl rfl (fun w t => (gsquare_ret (gx.rw_ gz) 4 w _ (t.gd (Gd.rw_ok hx hz)) (by omega) (by omega)).imp fun m w h => by rw [hC] at h; exact h) ?_   -- t43
  refine dx_q1 39 Mt.v rfl rfl (fun o ho => mem_looksAt (by rw [ho]; simp [Op.operands])) (fun _ => qt_assign rfl) rfl ?_   -- t7
  refine dx_q1 41 Mt.v rfl rfl (fun o ho => mem_looksAt (by rw [ho]; simp [Op.operands])) (fun _ => qt_assign rfl) rfl ?_   -- t8
  refine dx_q1 43 Mt.v rfl rfl (fun o ho => mem_looksAt (by rw [ho]; simp [Op.operands])) (fun _ => qt_assign rfl) rfl ?_   -- t9
  refine dx_nil ?_
  repeat (first | refine es_val rfl ?_ rfl | refine es_skip rfl ?_)
  refine es_res rfl (fun mA => ?_) rfl
  refine es_res rfl (fun mB => ?_) rfl
  refine es_res rfl (fun mC => ?_) rfl
  repeat (first | refine es_val rfl ?_ rfl | refine es_skip rfl ?_)
  refine es_nil rfl ?_
  refine tx_endk ?_
  refine tr_rseq ?_   -- region 3
  refine sq_q (qt_move rfl) rfl ?_   -- t45
  refine sq_q (qt_move rfl) rfl ?_   -- t46
  refine sq_call (optV (some (grid (mmul n a b) n n))) (optF (2 + 2 + 16) (some (grid (mmul n a b) n n))) rfl rfl rfl (fun w t => mmul_g (t.r.1.1.2) (t.r.1.2) hn1 hn16 (by omega)) fun m10 => ?_   -- t47
  refine sq_q (qt_move rfl) rfl ?_   -- t44
  refine sq_q (qt_extract rfl rfl) rfl ?_   -- t48
  refine sq_q (qt_extract rfl rfl) rfl ?_   -- t49
  refine sq_q (qt_assign rfl) rfl ?_   -- t10
  refine sq_q (qt_assign rfl) rfl ?_   -- t11
  refine sq_end ?_
  refine tr_rseq ?_   -- region 4
  refine sq_q (qt_move rfl) rfl ?_   -- t51
  refine sq_q (qt_move rfl) rfl ?_   -- t52
  refine sq_call (optV (some (grid (mmul n b c) n n))) (optF (2 + 2 + 16) (some (grid (mmul n b c) n n))) rfl rfl rfl (fun w t => mmul_g (t.r.1.1.2) (t.r.1.2) hn1 hn16 (by omega)) fun m12 => ?_   -- t53
  refine sq_q (qt_move rfl) rfl ?_   -- t50
  refine sq_q (qt_extract rfl rfl) rfl ?_   -- t54
  refine sq_q (qt_extract rfl rfl) rfl ?_   -- t55
  refine sq_q (qt_assign rfl) rfl ?_   -- t12
  refine sq_q (qt_assign rfl) rfl ?_   -- t13
  refine sq_end ?_
  refine tr_rseq ?_   -- region 5
  refine sq_q (qt_move rfl) rfl ?_   -- t57
  refine sq_q (qt_move rfl) rfl ?_   -- t58
  refine sq_call (optV (some (grid (mmul n (mmul n a b) c) n n))) (optF ((2 + 2 + 16) + 2 + 16) (some (grid (mmul n (mmul n a b) c) n n))) rfl rfl rfl (fun w t => mmul_g (t.r.1.2) (t.r.1.1.2) hn1 hn16 (by omega)) fun m14 => ?_   -- t59
  refine sq_q (qt_move rfl) rfl ?_   -- t56
  refine sq_q (qt_extract rfl rfl) rfl ?_   -- t60
  refine sq_q (qt_extract rfl rfl) rfl ?_   -- t61
  refine sq_q (qt_assign rfl) rfl ?_   -- t14
  refine sq_q (qt_assign rfl) rfl ?_   -- t15
  refine sq_end ?_
  refine tr_rseq ?_   -- region 6
  refine sq_q (qt_move rfl) rfl ?_   -- t63
  refine sq_q (qt_move rfl) rfl ?_   -- t64
  refine sq_call (optV (some (grid (mmul n (mmul n a b) c) n n))) (optF (2 + (2 + 2 + 16) + 16) (some (grid (mmul n (mmul n a b) c) n n))) rfl rfl rfl (fun w t => by rw [e1]; exact mmul_g (t.r.1.1.1.1.1.2) (t.r.1.2) hn1 hn16 (by omega)) fun m16 => ?_   -- t65
  refine sq_q (qt_move rfl) rfl ?_   -- t62
  refine sq_q (qt_extract rfl rfl) rfl ?_   -- t66
  refine sq_q (qt_extract rfl rfl) rfl ?_   -- t67
  refine sq_q (qt_assign rfl) rfl ?_   -- t16
  refine sq_q (qt_assign rfl) rfl ?_   -- t17
  refine sq_end ?_
  refine tr_rseq ?_   -- region 7
  refine sq_q (qt_move rfl) rfl ?_   -- t69
  refine sq_call (optV (some (grid (tr a) n n))) (optF (2) (some (grid (tr a) n n))) rfl rfl rfl (fun w t => transpose_g (t.r.1.1.1.1.1.1.2) hn1 hn16 (by omega)) fun m18 => ?_   -- t70
  refine sq_q (qt_move rfl) rfl ?_   -- t68
  refine sq_q (qt_extract rfl rfl) rfl ?_   -- t71
  refine sq_q (qt_extract rfl rfl) rfl ?_   -- t72
  refine sq_q (qt_assign rfl) rfl ?_   -- t18
  refine sq_q (qt_assign rfl) rfl ?_   -- t19
  refine sq_end ?_
  refine tr_rseq ?_   -- region 8
  refine sq_q (qt_move rfl) rfl ?_   -- t74
  refine sq_call (optV (some (grid (tr b) n n))) (optF (2) (some (grid (tr b) n n))) rfl rfl rfl (fun w t => transpose_g (t.r.1.1.1.1.1.1.2) hn1 hn16 (by omega)) fun m20 => ?_   -- t75
  refine sq_q (qt_move rfl) rfl ?_   -- t73
  refine sq_q (qt_extract rfl rfl) rfl ?_   -- t76
  refine sq_q (qt_extract rfl rfl) rfl ?_   -- t77
  refine sq_q (qt_assign rfl) rfl ?_   -- t20
  refine sq_q (qt_assign rfl) rfl ?_   -- t21
  refine sq_end ?_
  refine tr_rseq ?_   -- region 9
  refine sq_q (qt_move rfl) rfl ?_   -- t79
  refine sq_call (optV (some (grid (tr (mmul n a b)) n n))) (optF (2 + 2 + 16) (some (grid (tr (mmul n a b)) n n))) rfl rfl rfl (fun w t => transpose_g (t.r.1.1.1.1.1.2) hn1 hn16 (by omega)) fun m22 => ?_   -- t80
  refine sq_q (qt_move rfl) rfl ?_   -- t78
  refine sq_q (qt_extract rfl rfl) rfl ?_   -- t81
  refine sq_q (qt_extract rfl rfl) rfl ?_   -- t82
  refine sq_q (qt_assign rfl) rfl ?_   -- t22
  refine sq_q (qt_assign rfl) rfl ?_   -- t23
  refine sq_end ?_
  refine tr_rseq ?_   -- region 10
  refine sq_q (qt_move rfl) rfl ?_   -- t84
  refine sq_q (qt_move rfl) rfl ?_   -- t85
  refine sq_call (optV (some (grid (tr (mmul n a b)) n n))) (optF (2 + 2 + 16) (some (grid (tr (mmul n a b)) n n))) rfl rfl rfl (fun w t => by rw [← e2]; exact mmul_g (t.r.1.2) (t.r.1.1.2) hn1 hn16 (by omega)) fun m24 => ?_   -- t86
  refine sq_q (qt_move rfl) rfl ?_   -- t83
  refine sq_q (qt_extract rfl rfl) rfl ?_   -- t87
  refine sq_q (qt_extract rfl rfl) rfl ?_   -- t88
  refine sq_q (qt_assign rfl) rfl ?_   -- t24
  refine sq_q (qt_assign rfl) rfl ?_   -- t25
  refine sq_end ?_
  refine tr_rseq ?_   -- region 11
  refine sq_q (qt_move rfl) rfl ?_   -- t90
  refine sq_call (optZV (some (lap n (a)))) (optZF (some (lap n (a)))) rfl rfl rfl (fun w t => det_g (t.r.1.1.1.1.1.1.1.1.1.1.2) hn1 hn16 (by omega) (by omega)) fun p26 => ?_   -- t91
  refine sq_q (qt_move rfl) rfl ?_   -- t89
  refine sq_q (qt_extract rfl rfl) rfl ?_   -- t92
  refine sq_q (qt_extract rfl rfl) rfl ?_   -- t93
  refine sq_alloc rfl fun r26 => ?_   -- t26
  refine sq_store 0 rfl rfl rfl rfl (Nat.le_refl 2) rfl rfl ?_   -- R11.6
  refine sq_q (qt_assign rfl) rfl ?_   -- t27
  refine sq_end ?_
  refine tr_rseq ?_   -- region 12
  refine sq_q (qt_move rfl) rfl ?_   -- t95
  refine sq_call (optZV (some (lap n (b)))) (optZF (some (lap n (b)))) rfl rfl rfl (fun w t => det_g (t.r.1.1.1.1.1.1.1.1.1.1.2) hn1 hn16 (by omega) (by omega)) fun p28 => ?_   -- t96
  refine sq_q (qt_move rfl) rfl ?_   -- t94
  refine sq_q (qt_extract rfl rfl) rfl ?_   -- t97
  refine sq_q (qt_extract rfl rfl) rfl ?_   -- t98
  refine sq_alloc rfl fun r28 => ?_   -- t28
  refine sq_store 0 rfl rfl rfl rfl (Nat.le_refl 2) rfl rfl ?_   -- R12.6
  refine sq_q (qt_assign rfl) rfl ?_   -- t29
  refine sq_end ?_
  refine tr_rseq ?_   -- region 13
  refine sq_q (qt_move rfl) rfl ?_   -- t100
  refine sq_call (optZV (some (lap n (mmul n a b)))) (optZF (some (lap n (mmul n a b)))) rfl rfl rfl (fun w t => det_g (t.r.1.1.1.1.1.1.1.1.1.2) hn1 hn16 (by omega) (by omega)) fun p30 => ?_   -- t101
  refine sq_q (qt_move rfl) rfl ?_   -- t99
  refine sq_q (qt_extract rfl rfl) rfl ?_   -- t102
  refine sq_q (qt_extract rfl rfl) rfl ?_   -- t103
  refine sq_alloc rfl fun r30 => ?_   -- t30
  refine sq_store 0 rfl rfl rfl rfl (Nat.le_refl 2) rfl rfl ?_   -- R13.6
  refine sq_q (qt_assign rfl) rfl ?_   -- t31
  refine sq_end ?_
  refine tr_have (fun w t => (⟨(optF_lens (t.r.1.1.1.1.1.1.1.1.2) hn16).1, (optF_lens (t.r.1.1.1.1.1.1.1.1.1.1.1.1.1.2) hn16).1⟩ : m14.rs.length = n ∧ mA.rs.length = n)) fun ⟨hl14, hlA⟩ => ?_
  obtain ⟨ol, oq⟩ := grid_lens (mmul n (mmul n a b) c) n n (n := 35184372088832) (by omega) (by omega)
  obtain ⟨ul, uq⟩ := grid_lens (tr (mmul n a b)) n n (n := 35184372088832) (by omega) (by omega)
  refine tr_rdraw0 [0, 1, 2, 3, 4, 5, 6, 7, 8, 9, 10, 11, 12, 13, 14, 16, 18, 20, 22, 24, 26, 28, 30, 31] (by kernel_rfl) ?_   -- region 14
  refine dx_q rfl (qt_move rfl) rfl ?_   -- t104
  refine dx_q rfl (qt_move rfl) rfl ?_   -- t105
  refine dx_gT rfl rfl rfl ?_
  refine dx_q rfl (qt_move rfl) rfl ?_   -- t106
  refine dx_q rfl (qt_pick rfl rfl) rfl ?_   -- t107
  refine dx_q rfl (qt_move rfl) rfl ?_   -- t108
  refine dx_gT rfl rfl rfl ?_
  refine dx_q rfl (qt_move rfl) rfl ?_   -- t109
  refine dx_q rfl (qt_pick rfl rfl) rfl ?_   -- t110
  refine dx_q rfl (qt_move rfl) rfl ?_   -- t111
  refine dx_gT rfl rfl rfl ?_
  refine dx_q rfl (qt_move rfl) rfl ?_   -- t112
  refine dx_gT rfl rfl rfl ?_
  refine dx_q rfl (qt_len rfl) rfl ?_   -- t113
  refine dx_gT rfl rfl rfl ?_
  refine dx_q rfl (qt_move rfl) rfl ?_   -- t114
  refine dx_gT rfl rfl rfl ?_
  refine dx_q rfl (qt_len rfl) rfl ?_   -- t115
  refine dx_gT rfl rfl rfl ?_
  refine dx_q rfl (qt_bin rfl rfl (bT bin_eql (by omega))) rfl ?_   -- t116
  refine dx_q rfl (qt_pick rfl rfl) rfl ?_   -- t117
  refine dx_q rfl (qt_move rfl) rfl ?_   -- t118
  refine dx_gT rfl rfl rfl ?_
  refine dx_q rfl (qt_move rfl) rfl ?_   -- t119
  refine dx_gT rfl rfl rfl ?_
  refine dx_q rfl (qt_move rfl) rfl ?_   -- t120
  refine dx_gT rfl rfl rfl ?_
  refine dx_callv (v := .bool true) (F := fun _ _ => True) rfl rfl rfl (fun w t => same_opt (t.r.1.1.1.1.1.1.1.1.2) (t.r.1.1.1.1.1.1.1.2) (by omega) (by omega) ol oq) ?_   -- t121
  refine dx_q rfl (qt_pick rfl rfl) rfl ?_   -- t122
  refine dx_q rfl (qt_move rfl) rfl ?_   -- t123
  refine dx_gT rfl rfl rfl ?_
  refine dx_q rfl (qt_move rfl) rfl ?_   -- t124
  refine dx_gT rfl rfl rfl ?_
  refine dx_q rfl (qt_move rfl) rfl ?_   -- t125
  refine dx_gT rfl rfl rfl ?_
  refine dx_callv (v := .bool true) (F := fun _ _ => True) rfl rfl rfl (fun w t => same_opt (t.r.1.1.1.1.2) (t.r.1.1.1.2) (by omega) (by omega) ul uq) ?_   -- t126
  refine dx_q rfl (qt_pick rfl rfl) rfl ?_   -- t127
  refine dx_q rfl (qt_move rfl) rfl ?_   -- t128
  refine dx_gT rfl rfl rfl ?_
  refine dx_q rfl (qt_load2 rfl (fun w t => t.atO 0 rfl rfl) (fun w t => t.atO 0 rfl rfl)) rfl ?_   -- t129
  refine dx_gT rfl rfl rfl ?_
  refine dx_q rfl (qt_load2 rfl (fun w t => t.atO 2 rfl rfl) (fun w t => t.atO 2 rfl rfl)) rfl ?_   -- t130
  refine dx_gT rfl rfl rfl ?_
  refine dx_q rfl (qt_load2 rfl (fun w t => t.atO 1 rfl rfl) (fun w t => t.atO 1 rfl rfl)) rfl ?_   -- t131
  refine dx_gT rfl rfl rfl ?_
  refine dx_call (iv (lap n a * lap n b)) (Lz (lap n a * lap n b).natAbs) rfl rfl rfl (fun w t => rmul_iv (t.r.1.1.2).1 (t.r.1.2).1 (by have h1 := (t.r.1.1.2).2; have h2 := (t.r.1.2).2; simp only [Option.getD_some] at h1 h2; show nl (lap n a).natAbs + nl (lap n b).natAbs ≤ 35184372088832; omega)) ?_   -- t132
  refine dx_gT rfl rfl rfl ?_
  refine dx_callv1 132 (v := .bool true) (F := fun _ _ => True) rfl rfl (by simp) (fun _ => rfl) (fun _ => rfl) (fun y w t => by
    have h1 := (t.r.1.1.1.2).2
    have h2 := (t.r.1.1.2).2
    have h3 := nl_imul (lap n a) (lap n b)
    have h4 := (t.r.1.2).2
    simp only [Option.getD_some] at h1 h2 h4
    have h := fun S' => rsame_ret (lap n (mmul n a b)) (lap n a * lap n b) p30 y w S' (t.r.1.2).1 t.r.2 (by omega) (by omega)
    rw [decide_eq_true e3] at h
    exact h _) ?_   -- t133
  refine dx_q rfl (qt_pick rfl rfl) rfl ?_   -- t134
  refine dx_q rfl (qt_move rfl) rfl ?_   -- t135
  refine dx_gT rfl rfl rfl ?_
  refine dx_callv (v := .bool true) (F := fun _ _ => True) rfl rfl rfl (fun w t => awake_ret w _) ?_   -- t136
  refine dx_q rfl (qt_pick rfl rfl) rfl ?_   -- t137
  refine dx_q rfl (qt_assign rfl) rfl ?_   -- t6
  refine dx_nil ?_
  repeat (first | refine es_val rfl ?_ rfl | refine es_res rfl (fun x => ?_) rfl | refine es_skip rfl ?_)
  refine es_nil rfl ?_
  refine tx_endk ?_
  refine tr_ret ?_
  repeat (first | (with_reducible refine tr_skip ?_) | (with_reducible refine tr_exit ?_) | (with_reducible refine tr_then ?_) | (with_reducible refine tr_inX ?_) | (with_reducible refine tr_thenX ?_) | (with_reducible refine tr_inN ?_) | (with_reducible refine tr_inR ?_) | (with_reducible refine tr_thenR ?_))
  exact tr_done () (fun a w s t => results_1 rfl (resv_tmp s rfl)) (fun _ _ _ _ => trivial)
end Go.Qk
end
section
/- Rows that are grown, vectors, matrices applied. -/
set_option linter.unusedVariables false
namespace Go.Qk
open Go Go.Proofs Go.RowKit
/-- what a grid's tape reads as, n numbers from the k-th on -/
def vec (l : List Int) (n : Nat) : List Int := (List.range n).map fun j => l.getD j 0
theorem vec_length (l : List Int) (n : Nat) : (vec l n).length = n := by simp [vec]
theorem vec_succ (l : List Int) (n : Nat) : vec l (n + 1) = vec l n ++ [l.getD n 0] := by
  unfold vec
  rw [List.range_succ, List.map_append]
  rfl
theorem Rd.get_at {A : Option Addr} {vs : List Value} {w : World} {r o i : Nat} {v : Value} (h : Rd A vs w) (e : A = some ⟨r, o, none⟩) (hv : vs[i]? = some v) : At r (o + i * 1) v w := by
  obtain ⟨r', o', e', h'⟩ := h.at_ hv
  rw [e] at e'
  simp only [Option.some.injEq, Addr.mk.injEq, and_true] at e'
  obtain ⟨rfl, rfl⟩ := e'
  rw [Nat.mul_one]
  exact h'
theorem Rd.some_at {A : Option Addr} {vs : List Value} {w : World} (h : Rd A vs w) (h0 : 0 < vs.length) : ∃ r o, A = some ⟨r, o, none⟩ := by
  obtain ⟨r, o, e, _⟩ := h.at_ (List.getElem?_eq_getElem h0)
  exact ⟨r, o, e⟩
theorem i64s_get' {l : List Int} {i : Nat} (h : i < l.length) : (i64s l)[i]? = some (.int .i64 l[i]) := by simp [i64s, h]
theorem in8_getD {l : List Int} (h : ∀ a ∈ l, -128 ≤ a ∧ a < 128) (i : Nat) : -128 ≤ l.getD i 0 ∧ l.getD i 0 < 128 := by
  rw [List.getD_eq_getElem?_getD]
  cases hq : l[i]? with
  | none => simp
  | some a => exact h a (List.mem_of_getElem? hq)
theorem vec_in8 {l : List Int} (h : ∀ a ∈ l, -128 ≤ a ∧ a < 128) (n : Nat) : ∀ a ∈ vec l n, -128 ≤ a ∧ a < 128 := fun a ha => by
  obtain ⟨j, _, rfl⟩ := List.mem_map.1 ha
  exact in8_getD h j
theorem zcs_one (z : Zd) : zcs [z] = z.cs := by simp [zcs]
def apP (o : Option (Nat × Nat)) (L : List (List Int)) (v : List Int) : Option (List Int) := match o with
  | some rc => if v.length = rc.2 then some ((List.range rc.1).map fun i => sumN rc.2 fun k => ent L i k * v.getD k 0) else none
  | none => none
def apO (L : List (List Int)) (v : List Int) : Option (List Int) := apP (shp L) L v
def rowV (o : Option (List Int)) (r : Rw) : Value := .tuple #[r.v, .bool o.isSome]
def rowF (B : Nat) (o : Option (List Int)) (r : Rw) (w : World) : Prop := r.ok B w ∧ r.zs = o.getD [] ∧ r.can
theorem rowF_none (B : Nat) (w : World) : rowF B none ⟨[], (none, 0)⟩ w := ⟨⟨Rd.nil _ _, Nat.le_refl _, by simp⟩, rfl, by simp [Rw.can]⟩
theorem rw_ent {r : Rw} {k : Nat} (hk : k < r.l.length) : r.zs.getD k 0 = r.l[k].z := by
  simp [Rw.zs, List.getD, hk]
theorem apO_len (L : List (List Int)) (v : List Int) {n : Nat} (hn : 16 ≤ n) : ((apO L v).getD []).length ≤ n := by
  unfold apO apP
  split
  · rename_i rc h1
    obtain ⟨r, c⟩ := rc
    obtain ⟨g1, g2, g3, g4, g5, g6⟩ := shp_inv h1
    split
    · simp; omega
    · simp
  · simp
theorem row_len {B : Nat} {o : Option (List Int)} {r : Rw} {w : World} (h : rowF B o r w) {n : Nat} (hn : (o.getD []).length ≤ n) : r.l.length ≤ n := by
  rw [← Rw.zs_len, h.2.1]
  exact hn
theorem same_row {o : Option (List Int)} {r r' : Rw} {B B' : Nat} {w : World} {S : Nat → Prop} (h : rowF B o r w) (h' : rowF B' o r' w) (hB : B ≤ 35184372088832) (hB' : B' ≤ 35184372088832) (h1 : (o.getD []).length ≤ 35184372088832) :
    Ret Try.prog 51 [r.v, r'.v] w S (fun _ : Unit => .bool true) (fun _ _ => True) := by
  have hh := samelist_ret r r' (max B B') w S (h.1.mono (Nat.le_max_left _ _)) (h'.1.mono (Nat.le_max_right _ _)) h.2.2 h'.2.2 (Nat.max_le.2 ⟨hB, hB'⟩) (row_len h h1) (row_len h' h1)
  rw [decide_eq_true (show r.zs = r'.zs by rw [h.2.1, h'.2.1])] at hh
  exact hh
end Go.Qk
end
section
/- Vectors. -/
set_option linter.unusedVariables false
namespace Go.Qk
open Go Go.Proofs Go.RowKit
set_option maxRecDepth 100000
set_option maxHeartbeats 4000000

theorem vector_ret (l : List Int) (p : Sv) (n : Nat) (w0 : World) (S : Nat → Prop) (hL : Rd p.1 (i8s l) w0) (hll : l.length ≤ 281474976710656) (hin : ∀ a ∈ l, -128 ≤ a ∧ a < 128) (hn : n ≤ 65536) :
    Ret Try.prog 95 [.slice p.1 l.length p.2, .int .i64 (n : Int)] w0 S Xr.v (fun r w => r.ok w ∧ r.l = vec l n) := by
  refine ret_of Try.func95 rfl Try.ntmps95 rfl ?_
  refine tr_rseq ?_   -- region 0
  refine sq_q (qt_assign rfl) rfl ?_   -- t4
  refine sq_end ?_
  refine tr_rseq ?_   -- region 1
  refine sq_q (qt_move rfl) rfl ?_   -- t8
  refine sq_q (qt_build rfl (builtTape _ _ _)) rfl ?_   -- t9
  refine sq_box rfl rfl fun r10 => ?_   -- t10
  refine sq_q (qt_assign rfl) rfl ?_   -- t5
  refine sq_end ?_
  refine tr_rseq ?_   -- region 2
  refine sq_q (qt_move rfl) rfl ?_   -- t11
  refine sq_make (c := n) rfl rfl (by omega) (by omega) rfl fun r12 => ?_   -- t12
  refine sq_q (qt_assign rfl) rfl ?_   -- t6
  refine sq_end ?_
  refine tr_seq ?_   -- C1
  refine tr_rseq ?_   -- region 3
  refine sq_q (qt_move rfl) rfl ?_   -- t13
  refine sq_q (qt_len rfl) rfl ?_   -- t14
  refine sq_q (qt_move rfl) rfl ?_   -- t15
  refine sq_end ?_
  refine tr_block ?_
  refine tr_loop (fun vs : List Int => vs.length ≤ n ∧ vs = vec l vs.length) (fun vs => [(5, .pointer (some ⟨r10, 0, none⟩)), (6, .slice (some ⟨r12, 0, none⟩) n n), (14, .int .i64 (n : Int)), (15, .int .i64 (vs.length : Int))])
    (fun vs => [(r12, .cells (i64s (vs ++ List.replicate (n - vs.length) 0)).toArray 2 (0, 0)), (r10, tapeO p.1 l p.2 (min vs.length l.length))]) (fun _ _ => True) (fun vs => n - vs.length) [] ⟨Nat.zero_le _, rfl⟩ ⟨rfl, rfl, rfl, rfl, trivial⟩ (by rw [made_i64]; simp; rfl) (fun _ _ => trivial) ?_
  rintro vs ⟨hle, hvs⟩
  refine tr_rseq ?_   -- region 4
  refine sq_q (qt_bin rfl rfl bin_lss) rfl ?_   -- t16
  refine sq_end ?_
  refine tr_seq ?_   -- C2
  refine tr_if rfl (fun hc => ?_) (fun hc => ?_)
  ·
    have hlt : vs.length < n := by have := of_decide_eq_true hc; omega
    obtain ⟨v, hv⟩ : ∃ v, v = l.getD vs.length 0 := ⟨_, rfl⟩
    have hnext : ∀ (w : World) (_ : w.os = w0.os) {own : Own} {Rr : World → Prop} (t : SS w0 [] S own Rr w) (_ : w.heap[r10]? = some (tapeO p.1 l p.2 (min vs.length l.length))) (_ : r10 < w.heap.size ∧ (r10 ∈ ([] : List Nat) ∨ w0.heap.size ≤ r10)), RetU Try.prog 84 [.pointer (some ⟨r10, 0, none⟩)] w r10 (fun _ : Unit => .int .i64 v) (fun _ => tapeO p.1 l p.2 (min (vs.length + 1) l.length)) (fun _ => True) := by
      intro w _ own Rr t ho hlt12
      have h := next_ret l p.1 p.2 (min vs.length l.length) r10 w (t.rd hL) (fun h0 r' o e => by
        obtain ⟨r'', o'', e', ha⟩ := hL.at_ (i8s_get h0)
        rw [e] at e'
        injection e' with e'
        injection e' with e1 _ _
        have h1 := ha.lt
        have h2 := hlt12.2.resolve_left (by simp)
        omega) hll (by omega) hin ho
      have e1 : l.getD (min vs.length l.length) 0 = v := by
        rw [hv]
        by_cases hh : vs.length ≤ l.length
        · rw [Nat.min_eq_left hh]
        · rw [List.getD_eq_getElem?_getD, List.getD_eq_getElem?_getD, List.getElem?_eq_none (by omega), List.getElem?_eq_none (by omega)]
      have e2 : min (min vs.length l.length + 1) l.length = min (vs.length + 1) l.length := by omega
      rw [e1, e2] at h
      exact h
    refine tr_skip ?_
    repeat (first | (with_reducible refine tr_skip ?_) | (with_reducible refine tr_exit ?_) | (with_reducible refine tr_then ?_) | (with_reducible refine tr_inX ?_) | (with_reducible refine tr_thenX ?_) | (with_reducible refine tr_inN ?_) | (with_reducible refine tr_inR ?_) | (with_reducible refine tr_thenR ?_))
    refine tr_seq ?_   -- C3
    refine tr_block ?_
    refine tr_rseq ?_   -- region 5
    refine sq_q (qt_move rfl) rfl ?_   -- t17
    refine sq_q (qt_assign rfl) rfl ?_   -- t7
    refine sq_end ?_
    refine tr_region ?_   -- region 6
    refine sq_q (qt_move rfl) rfl ?_   -- t18
    refine sq_q (qt_move rfl) rfl ?_   -- t19
    refine sq_q (qt_move rfl) rfl ?_   -- t20
    refine sq_callU 1 (fun _ : Unit => .int .i64 v) (fun _ => tapeO p.1 l p.2 (min (vs.length + 1) l.length)) (fun _ => True) rfl rfl rfl rfl (fun w t => hnext w t.os t (t.has _ (ownAt_mem (i := 1) rfl)) (t.lt _ (ownAt_mem (i := 1) rfl))) fun _ _ => ?_   -- t21
    refine sq_q (qt_index (i := vs.length) rfl rfl hlt) rfl ?_   -- t22
    refine sq_store 0 rfl rfl rfl rfl (show 0 + vs.length * 1 + 1 ≤ (i64s (vs ++ List.replicate (n - vs.length) 0)).length by simp [i64s]; omega) rfl rfl ?_   -- R6.5
    refine sq_nil ?_
    repeat (first | (with_reducible refine tr_skip ?_) | (with_reducible refine tr_exit ?_) | (with_reducible refine tr_then ?_) | (with_reducible refine tr_inX ?_) | (with_reducible refine tr_thenX ?_) | (with_reducible refine tr_inN ?_) | (with_reducible refine tr_inR ?_) | (with_reducible refine tr_thenR ?_))
    refine tr_region ?_   -- region 7
    refine sq_q (qt_bin rfl rfl (bin_addI (by omega) (by omega))) rfl ?_   -- t23
    refine sq_q (qt_move rfl) rfl ?_   -- t15
    refine sq_nil ?_
    repeat (first | (with_reducible refine tr_skip ?_) | (with_reducible refine tr_exit ?_) | (with_reducible refine tr_then ?_) | (with_reducible refine tr_inX ?_) | (with_reducible refine tr_thenX ?_) | (with_reducible refine tr_inN ?_) | (with_reducible refine tr_inR ?_) | (with_reducible refine tr_thenR ?_))
    refine tr_own [(r12, .cells (i64s ((vs ++ [v]) ++ List.replicate (n - (vs.length + 1)) 0)).toArray 2 (0, 0)), (r10, tapeO p.1 l p.2 (min (vs.length + 1) l.length))] ?_ ?_
    · refine own1c ?_
      have e : n - vs.length = (n - (vs.length + 1)) + 1 := by omega
      have := next_set vs (n - (vs.length + 1)) 0 v
      rw [← e] at this
      rw [← this, ← i64s_set, Nat.zero_add, Nat.mul_one]
      rfl
    refine tr_round (vs ++ [v]) ⟨by simp; omega, ?_⟩ (by simp; omega) ⟨rfl, rfl, rfl, by rw [List.length_append]; rfl, trivial⟩ (by rw [List.length_append, List.length_singleton]) (fun _ h => h)
    rw [List.length_append, List.length_singleton, vec_succ, ← hvs, hv]
  ·
    have hve : vs.length = n := by have := of_decide_eq_false hc; omega
    refine tr_exit ?_
    repeat (first | (with_reducible refine tr_skip ?_) | (with_reducible refine tr_exit ?_) | (with_reducible refine tr_then ?_) | (with_reducible refine tr_inX ?_) | (with_reducible refine tr_thenX ?_) | (with_reducible refine tr_inN ?_) | (with_reducible refine tr_inR ?_) | (with_reducible refine tr_thenR ?_))
    refine tr_rseq ?_   -- region 8
    refine sq_q (qt_move rfl) rfl ?_   -- t24
    refine sq_q (qt_assign rfl) rfl ?_   -- t4
    refine sq_end ?_
    refine tr_ret ?_
    repeat (first | (with_reducible refine tr_skip ?_) | (with_reducible refine tr_exit ?_) | (with_reducible refine tr_then ?_) | (with_reducible refine tr_inX ?_) | (with_reducible refine tr_thenX ?_) | (with_reducible refine tr_inN ?_) | (with_reducible refine tr_inR ?_) | (with_reducible refine tr_thenR ?_))
    refine tr_done ⟨vs, (some ⟨r12, 0, none⟩, n)⟩ (fun a w s t => results_1 rfl (resv_tmp s ?_)) (fun w h ho _ => ⟨⟨?_, Nat.le_of_eq hve, ?_⟩, ?_⟩)
    · unfold Xr.v
      rw [hve]
      rfl
    · have h3 := ho _ (ownAt_mem (i := 0) rfl)
      rw [hve, Nat.sub_self, List.replicate_zero, List.append_nil] at h3
      exact Rd.own h3
    · intro a ha
      have ha : a ∈ vs := ha
      rw [hvs] at ha
      have := vec_in8 hin _ a ha
      unfold In64
      omega
    · show vs = _
      rw [hvs, hve]

theorem column_ret (l : List Int) (p : Sv) (n : Nat) (w0 : World) (S : Nat → Prop) (hL : Rd p.1 (i8s l) w0) (hll : l.length ≤ 281474976710656) (hin : ∀ a ∈ l, -128 ≤ a ∧ a < 128) (hn : n ≤ 65536) :
    Ret Try.prog 50 [.slice p.1 l.length p.2, .int .i64 (n : Int)] w0 S Rw.v (fun r w => r.ok 2 w ∧ r.zs = vec l n ∧ r.can) := by
  refine ret_of Try.func50 rfl Try.ntmps50 rfl ?_
  refine tr_rseq ?_   -- region 0
  refine sq_q (qt_assign rfl) rfl ?_   -- t4
  refine sq_end ?_
  refine tr_rseq ?_   -- region 1
  refine sq_q (qt_assign rfl) rfl ?_   -- t5
  refine sq_end ?_
  refine tr_seq ?_   -- C1
  refine tr_rseq ?_   -- region 2
  refine sq_q (qt_move rfl) rfl ?_   -- t8
  refine sq_q (qt_move rfl) rfl ?_   -- t9
  refine sq_call Xr.v (fun r w => r.ok w ∧ r.l = vec l n) rfl rfl rfl (fun w t => vector_ret l p n w _ (t.rd hL) hll hin hn) fun x => ?_
  refine sq_have (fun w t => t.r.2.2) fun hx => ?_
  have hxl : x.l.length = n := by rw [hx, vec_length]   -- t10
  refine sq_q (qt_len rfl) rfl ?_   -- t11
  refine sq_q (qt_move rfl) rfl ?_   -- t12
  refine sq_end ?_
  refine tr_block ?_
  refine tr_loop2 (fun (zs : List Zd) (q : Gr) => zs.length ≤ n ∧ zs.map Zd.z = vec l zs.length ∧ (∀ z ∈ zs, z.can) ∧ grOk 2 zs.length (zcs zs) q) (fun zs q => [(5, grV zs.length q), (10, x.v), (11, .int .i64 (n : Int)), (12, .int .i64 (zs.length : Int))]) (fun zs q => grO 35 (zcs zs) q) (fun zs q w => x.ok w ∧ ∀ z ∈ zs, z.ok 2 w) (fun zs q => n - zs.length) [] none ⟨Nat.zero_le _, rfl, by simp, rfl, rfl⟩ ⟨rfl, rfl, congrArg (fun z => some (Value.int .i64 ((z : Nat) : Int))) hxl, rfl, trivial⟩ rfl (fun w h => ⟨h.2.1, by simp⟩) ?_
  rintro zs q ⟨hle, hzs, hcan, hok⟩
  refine tr_rseq ?_   -- region 3
  refine sq_q (qt_bin rfl rfl bin_lss) rfl ?_   -- t13
  refine sq_end ?_
  refine tr_seq ?_   -- C2
  refine tr_if rfl (fun hc => ?_) (fun hc => ?_)
  ·
    have hlt : zs.length < n := by have := of_decide_eq_true hc; omega
    have hlx : zs.length < x.l.length := by omega
    refine tr_have (p := ∃ r o, x.p.1 = some ⟨r, o, none⟩) (fun w t => t.r.1.1.some_at (by simp [i64s]; omega)) fun ⟨rx, ox, ex⟩ => ?_
    obtain ⟨v, hv⟩ : ∃ v, v = x.l[zs.length] := ⟨_, rfl⟩
    have hv' : v = l.getD zs.length 0 := by
      rw [hv]
      simp only [hx]
      simp [vec]
    have hv8 := in8_getD hin zs.length
    rw [← hv'] at hv8
    refine tr_sub [(5, grV zs.length q), (10, .slice (some ⟨rx, ox, none⟩) x.l.length x.p.2), (11, .int .i64 (n : Int)), (12, .int .i64 (zs.length : Int))] ⟨rfl, by show some x.v = _; unfold Xr.v; rw [ex], rfl, rfl, trivial⟩ ?_
    refine tr_skip ?_
    repeat (first | (with_reducible refine tr_skip ?_) | (with_reducible refine tr_exit ?_) | (with_reducible refine tr_then ?_) | (with_reducible refine tr_inX ?_) | (with_reducible refine tr_thenX ?_) | (with_reducible refine tr_inN ?_) | (with_reducible refine tr_inR ?_) | (with_reducible refine tr_thenR ?_))
    refine tr_seq ?_   -- C3
    refine tr_block ?_
    refine tr_rseq ?_   -- region 4
    refine sq_q (qt_index (i := zs.length) rfl rfl hlx) rfl ?_   -- t14
    refine sq_q (qt_load (v := .int .i64 v) rfl (fun w t => by rw [hv]; exact t.r.1.1.get_at ex (i64s_get' hlx))) rfl ?_   -- t15
    refine sq_q (qt_assign rfl) rfl ?_   -- t7
    refine sq_end ?_
    refine tr_region ?_   -- region 5
    refine sq_q (qt_move rfl) rfl ?_   -- t16
    refine sq_q (qt_move rfl) rfl ?_   -- t17
    refine sq_call (iv v) (Lz v.natAbs) rfl rfl rfl (fun w t => rsmall_ret v w _ (by omega) (by omega)) fun y => ?_   -- t18
    refine sq_lit (vs := [(0, iv v y)]) (cells := zcs [zd v y]) rfl rfl rfl (by simp [Instr.fill, Value.cells, iv, ig, zcs, Zd.cs, zd, show Array.range 2 = #[0, 1] from by decide]) rfl fun r19 => ?_   -- t19
    refine sq_own ((r19, .cells (zcs [zd v y]).toArray 35 (0, 0)) :: (grO 35 (zcs zs) q ++ [])) (by rw [List.append_nil]) ?_
    refine sq_grow (p := q) (k := zs.length) (m := 1) (xs := zcs zs) (news := zcs [zd v y]) (own' := []) rfl rfl hok rfl (by omega) (by omega) (by omega) rfl rfl rfl rfl fun q' hok' => ?_
    rw [List.append_nil]   -- t20
    refine sq_q (qt_assign rfl) rfl ?_   -- t5
    refine sq_nil ?_
    repeat (first | (with_reducible refine tr_skip ?_) | (with_reducible refine tr_exit ?_) | (with_reducible refine tr_then ?_) | (with_reducible refine tr_inX ?_) | (with_reducible refine tr_thenX ?_) | (with_reducible refine tr_inN ?_) | (with_reducible refine tr_inR ?_) | (with_reducible refine tr_thenR ?_))
    refine tr_region ?_   -- region 6
    refine sq_q (qt_bin rfl rfl (bin_addI (by omega) (by omega))) rfl ?_   -- t21
    refine sq_q (qt_move rfl) rfl ?_   -- t12
    refine sq_nil ?_
    repeat (first | (with_reducible refine tr_skip ?_) | (with_reducible refine tr_exit ?_) | (with_reducible refine tr_then ?_) | (with_reducible refine tr_inX ?_) | (with_reducible refine tr_thenX ?_) | (with_reducible refine tr_inN ?_) | (with_reducible refine tr_inR ?_) | (with_reducible refine tr_thenR ?_))
    have e3 : (zs ++ [zd v y]).length = zs.length + 1 := by simp
    refine tr_round2 (zs ++ [zd v y]) q' ⟨by omega, ?_, ?_, ?_⟩ (by omega) ⟨by rw [e3]; rfl, congrArg some (by unfold Xr.v; rw [ex]), rfl, by rw [e3]; rfl, trivial⟩ (by rw [zcs_append]) (fun w h => ⟨h.1.1, fun z hz => ?_⟩)
    · rw [e3, vec_succ, List.map_append, hzs, ← hv']
      simp [zd_z]
    · intro z hz
      rcases List.mem_append.1 hz with h | h
      · exact hcan z h
      · rw [List.mem_singleton.1 h]; exact zd_can _ _
    · rw [e3, zcs_append]; exact hok'
    · rcases List.mem_append.1 hz with h' | h'
      · exact h.1.2 z h'
      · rw [List.mem_singleton.1 h']
        exact zd_ok h.2 (Nat.le_trans (nl_64 (a := v) (by unfold In64; omega)) (by decide))
  ·
    have hzn : zs.length = n := by have := of_decide_eq_false hc; omega
    refine tr_exit ?_
    repeat (first | (with_reducible refine tr_skip ?_) | (with_reducible refine tr_exit ?_) | (with_reducible refine tr_then ?_) | (with_reducible refine tr_inX ?_) | (with_reducible refine tr_thenX ?_) | (with_reducible refine tr_inN ?_) | (with_reducible refine tr_inR ?_) | (with_reducible refine tr_thenR ?_))
    refine tr_rseq ?_   -- region 7
    refine sq_q (qt_move rfl) rfl ?_   -- t22
    refine sq_q (qt_assign rfl) rfl ?_   -- t4
    refine sq_end ?_
    refine tr_ret ?_
    repeat (first | (with_reducible refine tr_skip ?_) | (with_reducible refine tr_exit ?_) | (with_reducible refine tr_then ?_) | (with_reducible refine tr_inX ?_) | (with_reducible refine tr_thenX ?_) | (with_reducible refine tr_inN ?_) | (with_reducible refine tr_inR ?_) | (with_reducible refine tr_thenR ?_))
    refine tr_done ⟨zs, grP q⟩ (fun a w s t => results_1 rfl (resv_tmp s (by show some (grV zs.length q) = some (Rw.v ⟨zs, grP q⟩); rw [grP_v hok]; rfl))) (fun w h ho _ => ⟨⟨(grP_rd hok ho).1, (grP_rd hok ho).2, h.2⟩, ?_, hcan⟩)
    show zs.map Zd.z = _
    rw [hzs, hzn]
end Go.Qk
end
