/- Lemmas and contracts of functions that the law reaches: A2, Oq, La, A3. -/
import Derived.Test.YtencodepmbhpiaaGa6
import Derived.ChangeSame
set_option linter.unusedVariables false
set_option linter.unusedSimpArgs false
section
/- Add of the reference -/
set_option linter.unusedVariables false
namespace Go.Qk
open Go Go.Proofs Go.RowKit
set_option maxRecDepth 100000
set_option maxHeartbeats 4000000

theorem rmadd_ret (m m' : Mt) (B : Nat) (w0 : World) (S : Nat → Prop) (hm : m.ok B w0) (hm' : m'.ok B w0) (hB : B ≤ 1099511627774) (hl : m.rs.length ≤ 1099511627776) (hr : ∀ r ∈ m.rs, r.l.length ≤ 1099511627776) (hl' : m'.rs.length ≤ 1099511627776) (hr' : ∀ r ∈ m'.rs, r.l.length ≤ 1099511627776) :
    Ret Try.prog 47 [m.v, m'.v] w0 S (optV (addO m.zs m'.zs)) (optF (B + 1) (addO m.zs m'.zs)) := by
  obtain ⟨o, ho⟩ : ∃ o, o = shp m.zs := ⟨_, rfl⟩
  obtain ⟨o', ho'⟩ : ∃ o, o = shp m'.zs := ⟨_, rfl⟩
  have hO : addO m.zs m'.zs = addP o o' m.zs m'.zs := by rw [ho, ho']; rfl
  rw [hO]
  clear hO
  refine ret_of Try.func47 rfl Try.ntmps47 rfl ?_
  refine tr_rseq ?_   -- region 0
  refine sq_q (qt_assign rfl) rfl ?_   -- t4
  refine sq_q (qt_assign rfl) rfl ?_   -- t5
  refine sq_end ?_
  refine tr_rseq ?_   -- region 1
  refine sq_q (qt_move rfl) rfl ?_   -- t16
  refine sq_call (val := fun _ : Unit => shpV o) (F := fun _ _ => True) rfl rfl rfl (fun w t => by rw [ho]; exact rshape_ret m B w _ (t.mt hm) hl hr) fun _ => ?_   -- t17
  refine sq_q (qt_move rfl) rfl ?_   -- t15
  refine sq_q (qt_extract rfl rfl) rfl ?_   -- t18
  refine sq_q (qt_extract rfl rfl) rfl ?_   -- t19
  refine sq_q (qt_extract rfl rfl) rfl ?_   -- t20
  refine sq_q (qt_assign rfl) rfl ?_   -- t6
  refine sq_q (qt_assign rfl) rfl ?_   -- t7
  refine sq_q (qt_assign rfl) rfl ?_   -- t8
  refine sq_end ?_
  refine tr_rseq ?_   -- region 2
  refine sq_q (qt_move rfl) rfl ?_   -- t22
  refine sq_call (val := fun _ : Unit => shpV o') (F := fun _ _ => True) rfl rfl rfl (fun w t => by rw [ho']; exact rshape_ret m' B w _ (t.mt hm') hl' hr') fun _ => ?_   -- t23
  refine sq_q (qt_move rfl) rfl ?_   -- t21
  refine sq_q (qt_extract rfl rfl) rfl ?_   -- t24
  refine sq_q (qt_extract rfl rfl) rfl ?_   -- t25
  refine sq_q (qt_extract rfl rfl) rfl ?_   -- t26
  refine sq_q (qt_assign rfl) rfl ?_   -- t9
  refine sq_q (qt_assign rfl) rfl ?_   -- t10
  refine sq_q (qt_assign rfl) rfl ?_   -- t11
  refine sq_end ?_
  refine tr_seq ?_   -- C1
  have hcs : o = none ∨ (∃ r c, o = some (r, c) ∧ o' = none) ∨ (∃ r c r' c', o = some (r, c) ∧ o' = some (r', c') ∧ r ≠ r') ∨ (∃ r c c', o = some (r, c) ∧ o' = some (r, c') ∧ c ≠ c') ∨ (∃ r c, o = some (r, c) ∧ o' = some (r, c)) := by
    cases o with
    | none => exact .inl rfl
    | some x =>
      cases o' with
      | none => exact .inr (.inl ⟨x.1, x.2, rfl, rfl⟩)
      | some y =>
        obtain ⟨r, c⟩ := x
        obtain ⟨r', c'⟩ := y
        by_cases h1 : r = r'
        · subst h1
          by_cases h2 : c = c'
          · subst h2; exact .inr (.inr (.inr (.inr ⟨_, _, rfl, rfl⟩)))
          · exact .inr (.inr (.inr (.inl ⟨_, _, _, rfl, rfl, h2⟩)))
        · exact .inr (.inr (.inl ⟨_, _, _, _, rfl, rfl, h1⟩))
  rcases hcs with h1 | ⟨r, c, h1, h2⟩ | ⟨r, c, r', c', h1, h2, h3⟩ | ⟨r, c, c', h1, h2, h3⟩ | ⟨r, c, h1, h2⟩
  ·
    subst h1
    rw [show addP none o' m.zs m'.zs = none from rfl]
    refine tr_rseq ?_   -- region 3
    refine sq_q (qt_move rfl) rfl ?_   -- t27
    refine sq_q (qt_not rfl) rfl ?_   -- t28
    refine sq_q (qt_move rfl) rfl ?_   -- t29
    refine sq_gF rfl rfl rfl rfl ?_
    refine sq_gF rfl rfl rfl rfl ?_
    refine sq_q (qt_pick rfl rfl) rfl ?_   -- t32
    refine sq_q (qt_move rfl) rfl ?_   -- t33
    refine sq_gF rfl rfl rfl rfl ?_
    refine sq_gF rfl rfl rfl rfl ?_
    refine sq_gF rfl rfl rfl rfl ?_
    refine sq_q (qt_pick rfl rfl) rfl ?_   -- t37
    refine sq_q (qt_move rfl) rfl ?_   -- t38
    refine sq_gF rfl rfl rfl rfl ?_
    refine sq_gF rfl rfl rfl rfl ?_
    refine sq_gF rfl rfl rfl rfl ?_
    refine sq_q (qt_pick rfl rfl) rfl ?_   -- t42
    refine sq_end ?_
    refine tr_ifT rfl ?_
    refine tr_rseq ?_   -- region 4
    refine sq_q (qt_assign rfl) rfl ?_   -- t4
    refine sq_q (qt_assign rfl) rfl ?_   -- t5
    refine sq_end ?_
    refine tr_ret ?_
    repeat (first | (with_reducible refine tr_skip ?_) | (with_reducible refine tr_exit ?_) | (with_reducible refine tr_then ?_) | (with_reducible refine tr_inX ?_) | (with_reducible refine tr_thenX ?_) | (with_reducible refine tr_inN ?_) | (with_reducible refine tr_inR ?_) | (with_reducible refine tr_thenR ?_))
    exact tr_done ⟨[], (none, 0)⟩ (fun a w s t => results_2 rfl (resv_tmp s rfl) (resv_tmp s rfl)) (fun w _ _ _ => optF_none _ _)
  ·
    subst h1
    subst h2
    rw [show addP (some (r, c)) none m.zs m'.zs = none from rfl]
    refine tr_rseq ?_   -- region 3
    refine sq_q (qt_move rfl) rfl ?_   -- t27
    refine sq_q (qt_not rfl) rfl ?_   -- t28
    refine sq_q (qt_move rfl) rfl ?_   -- t29
    refine sq_gT rfl rfl ?_
    refine sq_q (qt_move rfl) rfl ?_   -- t30
    refine sq_gT rfl rfl ?_
    refine sq_q (qt_not rfl) rfl ?_   -- t31
    refine sq_q (qt_pick rfl rfl) rfl ?_   -- t32
    refine sq_q (qt_move rfl) rfl ?_   -- t33
    refine sq_gF rfl rfl rfl rfl ?_
    refine sq_gF rfl rfl rfl rfl ?_
    refine sq_gF rfl rfl rfl rfl ?_
    refine sq_q (qt_pick rfl rfl) rfl ?_   -- t37
    refine sq_q (qt_move rfl) rfl ?_   -- t38
    refine sq_gF rfl rfl rfl rfl ?_
    refine sq_gF rfl rfl rfl rfl ?_
    refine sq_gF rfl rfl rfl rfl ?_
    refine sq_q (qt_pick rfl rfl) rfl ?_   -- t42
    refine sq_end ?_
    refine tr_ifT rfl ?_
    refine tr_rseq ?_   -- region 4
    refine sq_q (qt_assign rfl) rfl ?_   -- t4
    refine sq_q (qt_assign rfl) rfl ?_   -- t5
    refine sq_end ?_
    refine tr_ret ?_
    repeat (first | (with_reducible refine tr_skip ?_) | (with_reducible refine tr_exit ?_) | (with_reducible refine tr_then ?_) | (with_reducible refine tr_inX ?_) | (with_reducible refine tr_thenX ?_) | (with_reducible refine tr_inN ?_) | (with_reducible refine tr_inR ?_) | (with_reducible refine tr_thenR ?_))
    exact tr_done ⟨[], (none, 0)⟩ (fun a w s t => results_2 rfl (resv_tmp s rfl) (resv_tmp s rfl)) (fun w _ _ _ => optF_none _ _)
  ·
    subst h1
    subst h2
    rw [show addP (some (r, c)) (some (r', c')) m.zs m'.zs = none from if_neg (fun h => h3 h.1)]
    refine tr_rseq ?_   -- region 3
    refine sq_q (qt_move rfl) rfl ?_   -- t27
    refine sq_q (qt_not rfl) rfl ?_   -- t28
    refine sq_q (qt_move rfl) rfl ?_   -- t29
    refine sq_gT rfl rfl ?_
    refine sq_q (qt_move rfl) rfl ?_   -- t30
    refine sq_gT rfl rfl ?_
    refine sq_q (qt_not rfl) rfl ?_   -- t31
    refine sq_q (qt_pick rfl rfl) rfl ?_   -- t32
    refine sq_q (qt_move rfl) rfl ?_   -- t33
    refine sq_gT rfl rfl ?_
    refine sq_q (qt_move rfl) rfl ?_   -- t34
    refine sq_gT rfl rfl ?_
    refine sq_q (qt_move rfl) rfl ?_   -- t35
    refine sq_gT rfl rfl ?_
    refine sq_q (qt_bin rfl rfl (bT bin_neq (by simp only [Option.getD_some]; omega))) rfl ?_   -- t36
    refine sq_q (qt_pick rfl rfl) rfl ?_   -- t37
    refine sq_q (qt_move rfl) rfl ?_   -- t38
    refine sq_gF rfl rfl rfl rfl ?_
    refine sq_gF rfl rfl rfl rfl ?_
    refine sq_gF rfl rfl rfl rfl ?_
    refine sq_q (qt_pick rfl rfl) rfl ?_   -- t42
    refine sq_end ?_
    refine tr_ifT rfl ?_
    refine tr_rseq ?_   -- region 4
    refine sq_q (qt_assign rfl) rfl ?_   -- t4
    refine sq_q (qt_assign rfl) rfl ?_   -- t5
    refine sq_end ?_
    refine tr_ret ?_
    repeat (first | (with_reducible refine tr_skip ?_) | (with_reducible refine tr_exit ?_) | (with_reducible refine tr_then ?_) | (with_reducible refine tr_inX ?_) | (with_reducible refine tr_thenX ?_) | (with_reducible refine tr_inN ?_) | (with_reducible refine tr_inR ?_) | (with_reducible refine tr_thenR ?_))
    exact tr_done ⟨[], (none, 0)⟩ (fun a w s t => results_2 rfl (resv_tmp s rfl) (resv_tmp s rfl)) (fun w _ _ _ => optF_none _ _)
  ·
    subst h1
    subst h2
    rw [show addP (some (r, c)) (some (r, c')) m.zs m'.zs = none from if_neg (fun h => h3 h.2)]
    refine tr_rseq ?_   -- region 3
    refine sq_q (qt_move rfl) rfl ?_   -- t27
    refine sq_q (qt_not rfl) rfl ?_   -- t28
    refine sq_q (qt_move rfl) rfl ?_   -- t29
    refine sq_gT rfl rfl ?_
    refine sq_q (qt_move rfl) rfl ?_   -- t30
    refine sq_gT rfl rfl ?_
    refine sq_q (qt_not rfl) rfl ?_   -- t31
    refine sq_q (qt_pick rfl rfl) rfl ?_   -- t32
    refine sq_q (qt_move rfl) rfl ?_   -- t33
    refine sq_gT rfl rfl ?_
    refine sq_q (qt_move rfl) rfl ?_   -- t34
    refine sq_gT rfl rfl ?_
    refine sq_q (qt_move rfl) rfl ?_   -- t35
    refine sq_gT rfl rfl ?_
    refine sq_q (qt_bin rfl rfl (bF bin_neq (by simp only [Option.getD_some]; omega))) rfl ?_   -- t36
    refine sq_q (qt_pick rfl rfl) rfl ?_   -- t37
    refine sq_q (qt_move rfl) rfl ?_   -- t38
    refine sq_gT rfl rfl ?_
    refine sq_q (qt_move rfl) rfl ?_   -- t39
    refine sq_gT rfl rfl ?_
    refine sq_q (qt_move rfl) rfl ?_   -- t40
    refine sq_gT rfl rfl ?_
    refine sq_q (qt_bin rfl rfl (bT bin_neq (by simp only [Option.getD_some]; omega))) rfl ?_   -- t41
    refine sq_q (qt_pick rfl rfl) rfl ?_   -- t42
    refine sq_end ?_
    refine tr_ifT rfl ?_
    refine tr_rseq ?_   -- region 4
    refine sq_q (qt_assign rfl) rfl ?_   -- t4
    refine sq_q (qt_assign rfl) rfl ?_   -- t5
    refine sq_end ?_
    refine tr_ret ?_
    repeat (first | (with_reducible refine tr_skip ?_) | (with_reducible refine tr_exit ?_) | (with_reducible refine tr_then ?_) | (with_reducible refine tr_inX ?_) | (with_reducible refine tr_thenX ?_) | (with_reducible refine tr_inN ?_) | (with_reducible refine tr_inR ?_) | (with_reducible refine tr_thenR ?_))
    exact tr_done ⟨[], (none, 0)⟩ (fun a w s t => results_2 rfl (resv_tmp s rfl) (resv_tmp s rfl)) (fun w _ _ _ => optF_none _ _)
  ·
    subst h1
    subst h2
    rw [show addP (some (r, c)) (some (r, c)) m.zs m'.zs = some (grid (addE m.zs m'.zs) r c) from if_pos ⟨rfl, rfl⟩]
    obtain ⟨g1, g2, g3, g4, g5, g6⟩ := mt_shp ho.symm
    obtain ⟨g1', _, _, _, _, g6'⟩ := mt_shp ho'.symm
    refine tr_rseq ?_   -- region 3
    refine sq_q (qt_move rfl) rfl ?_   -- t27
    refine sq_q (qt_not rfl) rfl ?_   -- t28
    refine sq_q (qt_move rfl) rfl ?_   -- t29
    refine sq_gT rfl rfl ?_
    refine sq_q (qt_move rfl) rfl ?_   -- t30
    refine sq_gT rfl rfl ?_
    refine sq_q (qt_not rfl) rfl ?_   -- t31
    refine sq_q (qt_pick rfl rfl) rfl ?_   -- t32
    refine sq_q (qt_move rfl) rfl ?_   -- t33
    refine sq_gT rfl rfl ?_
    refine sq_q (qt_move rfl) rfl ?_   -- t34
    refine sq_gT rfl rfl ?_
    refine sq_q (qt_move rfl) rfl ?_   -- t35
    refine sq_gT rfl rfl ?_
    refine sq_q (qt_bin rfl rfl (bF bin_neq (by simp only [Option.getD_some]; omega))) rfl ?_   -- t36
    refine sq_q (qt_pick rfl rfl) rfl ?_   -- t37
    refine sq_q (qt_move rfl) rfl ?_   -- t38
    refine sq_gT rfl rfl ?_
    refine sq_q (qt_move rfl) rfl ?_   -- t39
    refine sq_gT rfl rfl ?_
    refine sq_q (qt_move rfl) rfl ?_   -- t40
    refine sq_gT rfl rfl ?_
    refine sq_q (qt_bin rfl rfl (bF bin_neq (by simp only [Option.getD_some]; omega))) rfl ?_   -- t41
    refine sq_q (qt_pick rfl rfl) rfl ?_   -- t42
    refine sq_end ?_
    refine tr_ifF rfl ?_
    refine tr_skip ?_
    repeat (first | (with_reducible refine tr_skip ?_) | (with_reducible refine tr_exit ?_) | (with_reducible refine tr_then ?_) | (with_reducible refine tr_inX ?_) | (with_reducible refine tr_thenX ?_) | (with_reducible refine tr_inN ?_) | (with_reducible refine tr_inR ?_) | (with_reducible refine tr_thenR ?_))
    refine tr_rseq ?_   -- region 5
    refine sq_q (qt_move rfl) rfl ?_   -- t43
    refine sq_q (qt_move rfl) rfl ?_   -- t44
    refine sq_call (fun x : Nat × List Wr => .slice (some ⟨x.1, 0, none⟩) r r) (fun x w' => Fresh w0.heap.size (mown x.1 x.2) w' ∧ x.2.map (·.2) = List.replicate r (List.replicate c z0)) rfl rfl rfl (fun w t => zero_call t r c (by omega) (by omega)) fun x => ?_   -- t45
    refine sq_q (qt_assign rfl) rfl ?_   -- t12
    refine sq_end ?_
    obtain ⟨ob, qs⟩ := x
    refine tr_have (fun w t => t.r.2.2) fun hqs => ?_
    refine tr_adopt0 (mown ob qs) (fun w h => h.2.1) ?_
    obtain ⟨ro, oo, evm, hat⟩ := hm.at_ (show 0 < m.rs.length by omega)
    obtain ⟨ro', oo', evm', hat'⟩ := hm'.at_ (show 0 < m'.rs.length by omega)
    refine tr_seq ?_   -- C2
    refine tr_rseq ?_   -- region 6
    refine sq_q (qt_move rfl) rfl ?_   -- t46
    refine sq_q (qt_len rfl) rfl ?_   -- t47
    refine sq_q (qt_move rfl) rfl ?_   -- t48
    refine sq_end ?_
    refine tr_block ?_
    refine tr_loop2 (fun (i : Nat) (qs : List Wr) => i ≤ r ∧ MG (fun a b => if a < i then addE m.zs m'.zs a b else 0) r c qs ∧ allz Zd.can qs) (fun i qs => [(0, m.v), (1, m'.v), (12, .slice (some ⟨ob, 0, none⟩) r r), (47, .int .i64 (r : Int)), (48, .int .i64 (i : Int))])
      (fun i qs => mown ob qs) (fun i qs w => allz (fun z => z.ok (B + 1) w) qs) (fun i qs => r - i) 0 qs ⟨Nat.zero_le _, (MG.of_zero hqs).congr (fun a b _ _ => by rw [if_neg (by omega)]), allz.of_zero hqs z0_can⟩ ⟨rfl, rfl, rfl, congrArg (fun z => some (Value.int .i64 ((z : Nat) : Int))) g1, rfl, trivial⟩ rfl (fun w _ => allz.of_zero hqs (z0_ok (B + 1) w)) ?_
    clear hqs qs
    rintro i qs ⟨hle, hG, hcan⟩
    refine tr_rseq ?_   -- region 7
    refine sq_q (qt_bin rfl rfl bin_lss) rfl ?_   -- t49
    refine sq_end ?_
    refine tr_seq ?_   -- C3
    refine tr_if rfl (fun hc => ?_) (fun hc => ?_)
    ·
      have hlt : i < r := by have := of_decide_eq_true hc; omega
      have hmi : i < m.rs.length := by omega
      have hmi' : i < m'.rs.length := by omega
      have hcl := g6 _ (List.getElem_mem hmi)
      have hcl' := g6' _ (List.getElem_mem hmi')
      obtain ⟨rr, orr, evr, hatr⟩ := (hm.2.2 _ (List.getElem_mem hmi)).at_ (show 0 < m.rs[i].l.length by omega)
      obtain ⟨rr', orr', evr', hatr'⟩ := (hm'.2.2 _ (List.getElem_mem hmi')).at_ (show 0 < m'.rs[i].l.length by omega)
      have hrw := hat i hmi
      have hrw' := hat' i hmi'
      rw [evr] at hrw
      rw [evr'] at hrw'
      refine tr_sub [(0, .slice (some ⟨ro, oo, none⟩) m.rs.length m.p.2), (1, .slice (some ⟨ro', oo', none⟩) m'.rs.length m'.p.2), (12, .slice (some ⟨ob, 0, none⟩) r r), (47, .int .i64 (r : Int)), (48, .int .i64 (i : Int))] ⟨congrArg some evm, congrArg some evm', rfl, rfl, rfl, trivial⟩ ?_
      refine tr_skip ?_
      repeat (first | (with_reducible refine tr_skip ?_) | (with_reducible refine tr_exit ?_) | (with_reducible refine tr_then ?_) | (with_reducible refine tr_inX ?_) | (with_reducible refine tr_thenX ?_) | (with_reducible refine tr_inN ?_) | (with_reducible refine tr_inR ?_) | (with_reducible refine tr_thenR ?_))
      refine tr_seq ?_   -- C4
      refine tr_block ?_
      refine tr_rseq ?_   -- region 8
      refine sq_q (qt_move rfl) rfl ?_   -- t50
      refine sq_q (qt_assign rfl) rfl ?_   -- t13
      refine sq_end ?_
      refine tr_rseq ?_   -- region 9
      refine sq_q (qt_move rfl) rfl ?_   -- t51
      refine sq_q (qt_move rfl) rfl ?_   -- t52
      refine sq_q (qt_index (i := i) rfl rfl hmi) rfl ?_   -- t53
      refine sq_q (qt_load rfl (fun w t => t.a1 hrw)) rfl ?_   -- t54
      refine sq_q (qt_len rfl) rfl ?_   -- t55
      refine sq_q (qt_move rfl) rfl ?_   -- t56
      refine sq_end ?_
      refine tr_block ?_
      have hG0 : MG (fun a b => if a < i ∨ (a = i ∧ b < 0) then addE m.zs m'.zs a b else 0) r c qs := hG.congr fun a b _ _ => by
        by_cases h : a < i
        · rw [if_pos h, if_pos (.inl h)]
        · rw [if_neg h, if_neg (by omega)]
      refine tr_loop2 (fun (j : Nat) (qs : List Wr) => j ≤ c ∧ MG (fun a b => if a < i ∨ (a = i ∧ b < j) then addE m.zs m'.zs a b else 0) r c qs ∧ allz Zd.can qs) (fun j qs => [(0, .slice (some ⟨ro, oo, none⟩) m.rs.length m.p.2), (1, .slice (some ⟨ro', oo', none⟩) m'.rs.length m'.p.2), (12, .slice (some ⟨ob, 0, none⟩) r r), (13, .int .i64 (i : Int)), (47, .int .i64 (r : Int)), (48, .int .i64 (i : Int)), (55, .int .i64 (c : Int)), (56, .int .i64 (j : Int))])
        (fun j qs => mown ob qs) (fun j qs w => allz (fun z => z.ok (B + 1) w) qs) (fun j qs => c - j) 0 qs ⟨Nat.zero_le _, hG0, hcan⟩ ⟨rfl, rfl, rfl, rfl, rfl, rfl, congrArg (fun z => some (Value.int .i64 ((z : Nat) : Int))) hcl, rfl, trivial⟩ rfl (fun w h => h) ?_
      clear hG0 hG hcan qs
      rintro j qs ⟨hjc, hG, hcan⟩
      refine tr_rseq ?_   -- region 10
      refine sq_q (qt_bin rfl rfl bin_lss) rfl ?_   -- t57
      refine sq_end ?_
      refine tr_seq ?_   -- C5
      refine tr_if rfl (fun hc => ?_) (fun hc => ?_)
      ·
        have hlt2 : j < c := by have := of_decide_eq_true hc; omega
        have hjl : j < m.rs[i].l.length := by omega
        have hjl' : j < m'.rs[i].l.length := by omega
        obtain ⟨hz0, hz1⟩ := hatr j hjl
        obtain ⟨hz0', hz1'⟩ := hatr' j hjl'
        have hzok := (hm.2.2 _ (List.getElem_mem hmi)).2.2 _ (List.getElem_mem hjl)
        have hzok' := (hm'.2.2 _ (List.getElem_mem hmi')).2.2 _ (List.getElem_mem hjl')
        have he : m.rs[i].l[j].z + m'.rs[i].l[j].z = addE m.zs m'.zs i j := by unfold addE; rw [mt_ent hmi hjl, mt_ent hmi' hjl']
        have hbd : nl (addE m.zs m'.zs i j).natAbs ≤ B + 1 := by
          rw [← he]
          have h1 := nl_iadd m.rs[i].l[j].z m'.rs[i].l[j].z
          have h2 := nl_zd hzok
          have h3 := nl_zd hzok'
          omega
        obtain ⟨q, hq, hql⟩ := hG.get hlt
        refine tr_skip ?_
        repeat (first | (with_reducible refine tr_skip ?_) | (with_reducible refine tr_exit ?_) | (with_reducible refine tr_then ?_) | (with_reducible refine tr_inX ?_) | (with_reducible refine tr_thenX ?_) | (with_reducible refine tr_inN ?_) | (with_reducible refine tr_inR ?_) | (with_reducible refine tr_thenR ?_))
        refine tr_seq ?_   -- C6
        refine tr_block ?_
        refine tr_rseq ?_   -- region 11
        refine sq_q (qt_move rfl) rfl ?_   -- t58
        refine sq_q (qt_assign rfl) rfl ?_   -- t14
        refine sq_end ?_
        refine tr_draw 20 [] [] [0, 1, 4, 5, 6, 7, 8, 9, 10, 11, 12, 13, 14, 42, 47, 48, 49, 55, 56, 57, 62, 63, 78] (by kernel_rfl) ?_   -- region 12
        refine dx_q rfl (qt_move rfl) rfl ?_   -- t59
        refine dx_q rfl (qt_move rfl) rfl ?_   -- t60
        refine dx_q rfl (qt_index (i := i) rfl rfl hlt) rfl ?_   -- t61
        refine dx_q rfl (qt_load rfl (fun w t => t.o1 0 rfl (mout_get hq))) rfl ?_   -- t62
        refine dx_q rfl (qt_move rfl) rfl ?_   -- t63
        refine dx_q rfl (qt_move rfl) rfl ?_   -- t64
        refine dx_q rfl (qt_move rfl) rfl ?_   -- t65
        refine dx_q rfl (qt_index (i := i) rfl rfl hmi) rfl ?_   -- t66
        refine dx_q rfl (qt_load rfl (fun w t => t.a1 hrw)) rfl ?_   -- t67
        refine dx_q rfl (qt_move rfl) rfl ?_   -- t68
        refine dx_q rfl (qt_index (i := j) rfl rfl hjl) rfl ?_   -- t69
        refine dx_q rfl (qt_load2 rfl (fun w t => t.atA hz0) (fun w t => t.atA hz1)) rfl ?_   -- t70
        refine dx_q rfl (qt_move rfl) rfl ?_   -- t71
        refine dx_q rfl (qt_move rfl) rfl ?_   -- t72
        refine dx_q rfl (qt_index (i := i) rfl rfl hmi') rfl ?_   -- t73
        refine dx_q rfl (qt_load rfl (fun w t => t.a1 hrw')) rfl ?_   -- t74
        refine dx_q rfl (qt_move rfl) rfl ?_   -- t75
        refine dx_q rfl (qt_index (i := j) rfl rfl hjl') rfl ?_   -- t76
        refine dx_q rfl (qt_load2 rfl (fun w t => t.atA hz0') (fun w t => t.atA hz1')) rfl ?_   -- t77
        refine dx_call (iv (addE m.zs m'.zs i j)) (Lz (addE m.zs m'.zs i j).natAbs) rfl rfl rfl (fun w t => by rw [← he]; exact radd_zd (t.zd hzok) (t.zd hzok') (by omega) (by omega)) ?_   -- t78
        refine dx_nil ?_
        repeat (first | refine es_val rfl ?_ rfl | refine es_skip rfl ?_)
        refine es_res rfl (fun x => ?_) rfl
        repeat (first | refine es_val rfl ?_ rfl | refine es_skip rfl ?_)
        refine es_nil rfl ?_
        refine tx_q (qt_index (i := j) rfl rfl (by omega)) rfl rfl rfl ?_   -- t79
        refine tx_store (i + 1) rfl rfl (mown_at hq) rfl (show 0 + j * 2 + 2 ≤ (zcs q.2).length by rw [zcs_length, hql]; omega) rfl rfl rfl ?_   -- _
        refine tx_end ?_
        repeat (first | (with_reducible refine tr_skip ?_) | (with_reducible refine tr_exit ?_) | (with_reducible refine tr_then ?_) | (with_reducible refine tr_inX ?_) | (with_reducible refine tr_thenX ?_) | (with_reducible refine tr_inN ?_) | (with_reducible refine tr_inR ?_) | (with_reducible refine tr_thenR ?_))
        refine tr_region ?_   -- region 13
        refine sq_q (qt_bin rfl rfl (bin_addI (by omega) (by omega))) rfl ?_   -- t80
        refine sq_q (qt_move rfl) rfl ?_   -- t56
        refine sq_nil ?_
        repeat (first | (with_reducible refine tr_skip ?_) | (with_reducible refine tr_exit ?_) | (with_reducible refine tr_then ?_) | (with_reducible refine tr_inX ?_) | (with_reducible refine tr_thenX ?_) | (with_reducible refine tr_inN ?_) | (with_reducible refine tr_inR ?_) | (with_reducible refine tr_thenR ?_))
        refine tr_own (mown ob (qs.set i (q.1, q.2.set j (zd (addE m.zs m'.zs i j) x)))) (mown_wr (zd (addE m.zs m'.zs i j) x) hq (by omega)) ?_
        refine tr_round2 (j + 1) (qs.set i (q.1, q.2.set j (zd (addE m.zs m'.zs i j) x))) ⟨by omega, (hG.set hq (zd (addE m.zs m'.zs i j) x) (addE m.zs m'.zs i j) (zd_z _ _)).congr (fun a b _ _ => ?_), hcan.set hq (zd_can _ _)⟩ (by omega) ⟨rfl, rfl, rfl, rfl, rfl, rfl, rfl, rfl, trivial⟩ rfl (fun w h => h.1.set hq (zd_ok h.2 hbd))
        unfold gset
        dsimp only
        split
        · rename_i h; rw [if_pos (by omega), h.1, h.2]
        · rename_i h
          by_cases h' : a < i ∨ (a = i ∧ b < j)
          · rw [if_pos h', if_pos (by omega)]
          · rw [if_neg h', if_neg (by omega)]
      ·
        have hje : j = c := by have := of_decide_eq_false hc; omega
        refine tr_exit ?_
        repeat (first | (with_reducible refine tr_skip ?_) | (with_reducible refine tr_exit ?_) | (with_reducible refine tr_then ?_) | (with_reducible refine tr_inX ?_) | (with_reducible refine tr_thenX ?_) | (with_reducible refine tr_inN ?_) | (with_reducible refine tr_inR ?_) | (with_reducible refine tr_thenR ?_))
        refine tr_region ?_   -- region 14
        refine sq_q (qt_bin rfl rfl (bin_addI (by omega) (by omega))) rfl ?_   -- t81
        refine sq_q (qt_move rfl) rfl ?_   -- t48
        refine sq_nil ?_
        repeat (first | (with_reducible refine tr_skip ?_) | (with_reducible refine tr_exit ?_) | (with_reducible refine tr_then ?_) | (with_reducible refine tr_inX ?_) | (with_reducible refine tr_thenX ?_) | (with_reducible refine tr_inN ?_) | (with_reducible refine tr_inR ?_) | (with_reducible refine tr_thenR ?_))
        refine tr_round2 (i + 1) qs ⟨by omega, hG.congr (fun a b ha hb => ?_), hcan⟩ (by omega) ⟨congrArg some evm.symm, congrArg some evm'.symm, rfl, rfl, rfl, trivial⟩ rfl (fun w h => h)
        by_cases h : a < i ∨ (a = i ∧ b < j)
        · rw [if_pos h, if_pos (by omega)]
        · rw [if_neg h, if_neg (by omega)]
    ·
      have hik : i = r := by have := of_decide_eq_false hc; omega
      subst hik
      refine tr_exit ?_
      repeat (first | (with_reducible refine tr_skip ?_) | (with_reducible refine tr_exit ?_) | (with_reducible refine tr_then ?_) | (with_reducible refine tr_inX ?_) | (with_reducible refine tr_thenX ?_) | (with_reducible refine tr_inN ?_) | (with_reducible refine tr_inR ?_) | (with_reducible refine tr_thenR ?_))
      refine tr_rseq ?_   -- region 15
      refine sq_q (qt_move rfl) rfl ?_   -- t82
      refine sq_q (qt_assign rfl) rfl ?_   -- t4
      refine sq_q (qt_assign rfl) rfl ?_   -- t5
      refine sq_end ?_
      refine tr_ret ?_
      repeat (first | (with_reducible refine tr_skip ?_) | (with_reducible refine tr_exit ?_) | (with_reducible refine tr_then ?_) | (with_reducible refine tr_inX ?_) | (with_reducible refine tr_thenX ?_) | (with_reducible refine tr_inN ?_) | (with_reducible refine tr_inR ?_) | (with_reducible refine tr_thenR ?_))
      refine tr_done (mmt ob qs) (fun a w s t => results_2 rfl (resv_tmp s (by rw [mmt_v, hG.1]; rfl)) (resv_tmp s rfl)) (fun w h ho _ => ⟨mmt_ok ho h, ?_, mmt_can hcan⟩)
      rw [mmt_zs, hG.zs]
      show grid _ i c = grid (addE m.zs m'.zs) i c
      unfold grid
      refine List.map_congr_left fun a ha => List.map_congr_left fun b hb => ?_
      have ha := List.mem_range.1 ha
      exact if_pos ha
end Go.Qk
end
section
/- What grids and small lists read as. -/
set_option linter.unusedVariables false
namespace Go.Qk
open Go Go.Proofs Go.RowKit Go.ChangeShapes Go.WideShapes Go.Deep
section
variable {H : Type} {enc : TypeId × Value → H} {w : World} {fuel : Nat} {x : DataW H × List MemPlace} {cs : List Value}
theorem bytes_i8 : Try.prog.bytesOf 106 = 1 := by kernel_rfl
theorem cells_i8 : Try.prog.cellsOf 106 = 1 := by kernel_rfl
theorem cells_u8 : Try.prog.cellsOf 5 = 1 := by kernel_rfl
theorem cells_i8s : Try.prog.cellsOf 29 = 1 := by kernel_rfl
theorem cells_grid : Try.prog.cellsOf 31 = 3 := by kernel_rfl
theorem und_grid : ∃ f0 f1 f2 : Field, Try.prog.underlying 31 = some (.struct #[f0, f1, f2]) ∧ f0.offset = 0 ∧ f1.offset = 1 ∧ f2.offset = 2 ∧ f0.type = 5 ∧ f1.type = 5 ∧ f2.type = 29 := ⟨_, _, _, Try.underlying31, rfl, rfl, rfl, rfl, rfl, rfl⟩
theorem open_i8row (h : DataW.trod enc Try.prog w 0 (fun _ => true) true fuel 29 cs = some x) (hw : ∀ n ∈ x.1.weights Try.prog 29, n ≤ reachBytes) : ∃ (l : List Int) (p : Sv), cs = [.slice p.1 l.length p.2] ∧ Rd p.1 (i8s l) w ∧ l.length ≤ p.2 ∧ (∀ a ∈ l, -128 ≤ a ∧ a < 128) ∧ l.length ≤ 281474976710656 := by
  obtain ⟨zs, p, rfl, h1, h2, h3, h4⟩ := open_row1 Try.underlying29 Try.underlying106 cells_i8 h hw
  refine ⟨zs, p, rfl, h1, h2, fun a ha => wf_i8 (h3 a ha), ?_⟩
  have h5 := Nat.le_trans h4 (Nat.le_refl reachBytes)
  rw [bytes_i8, Nat.mul_one] at h5
  exact Nat.le_trans h5 (by unfold reachBytes; decide)
set_option maxRecDepth 100000 in
theorem open_grid {base : Nat} {v : Value} {d : DataW H} {p : List MemPlace} (hv : Value.okWide Try.prog w .any base 31 v) (h : DataW.Trod enc Try.prog w 0 (fun _ => true) true 31 v d p) (hw : ∀ n ∈ d.weights Try.prog 31, n ≤ reachBytes) : ∃ g : Gd, v = g.v ∧ g.ok w := by
  obtain ⟨f0, f1, f2, hu, o0, o1, o2, t0, t1, t2⟩ := und_grid
  obtain ⟨cs, rfl, hsz⟩ := okWide_struct hu hv
  rw [cells_grid] at hsz
  obtain ⟨fu, hf⟩ := h
  obtain ⟨xs, n, _, hx, _, hxl, hxs⟩ := DataW.trod_struct hu hf
  match cs, hsz with
  | ⟨[c0, c1, c2]⟩, _ =>
    match xs, hxl with
    | [y0, y1, y2], _ =>
      have h0 := hxs 0 f0 rfl
      have h1 := hxs 1 f1 rfl
      have h2 := hxs 2 f2 rfl
      rw [o0, t0, cells_u8] at h0
      rw [o1, t1, cells_u8] at h1
      rw [o2, t2, cells_i8s] at h2
      simp only [Value.cells, List.drop, List.take, List.getElem?_cons_zero, List.getElem?_cons_succ] at h0 h1 h2
      obtain ⟨r, e0, _, r1⟩ := DataW.trod_int Try.underlying5 h0
      obtain ⟨c, e1, _, c1'⟩ := DataW.trod_int Try.underlying5 h1
      obtain ⟨l, q, e2, l1, l2, l3, l4⟩ := open_i8row h2 (fun k hk => hw k (by
        injection hx with hx _
        rw [hx]
        simp only [DataW.weights, hu, List.map_cons, List.map_nil, DataW.weightsEach, t2, List.mem_append]
        exact .inr (.inr (.inl hk))))
      have r2 := wf_u8 r1
      have c2' := wf_u8 c1'
      obtain ⟨rn, rfl⟩ := Int.eq_ofNat_of_zero_le r2.1
      obtain ⟨cn, rfl⟩ := Int.eq_ofNat_of_zero_le c2'.1
      simp only [List.cons.injEq, and_true] at e0 e1 e2
      refine ⟨⟨rn, cn, l, q⟩, ?_, by dsimp only; omega, by dsimp only; omega, l1, l2, l4, l3⟩
      rw [e0, e1, e2]
      rfl
end
end Go.Qk
end
section
/- What the laws compare. -/
set_option linter.unusedVariables false
namespace Go.Qk
open Go Go.Proofs Go.RowKit
theorem bits_of {o : Option (List (List Int))} {m : Mt} {n B : Nat} {w : World} (h : optF B o m w) (h1 : (o.getD []).length ≤ n) (h2 : ∀ q ∈ o.getD [], q.length ≤ n) : m.rs.length ≤ n ∧ ∀ r ∈ m.rs, r.l.length ≤ n := lens_of h.2.1 n h1 h2
/-- two answers of one thing are the same -/
theorem same_opt {o : Option (List (List Int))} {m m' : Mt} {B B' : Nat} {w : World} {S : Nat → Prop} (h : optF B o m w) (h' : optF B' o m' w) (hB : B ≤ 1099511627776) (hB' : B' ≤ 1099511627776) (h1 : (o.getD []).length ≤ 1099511627776) (h2 : ∀ q ∈ o.getD [], q.length ≤ 1099511627776) :
    Ret Try.prog 22 [m.v, m'.v] w S (fun _ : Unit => .bool true) (fun _ _ => True) := by
  obtain ⟨a1, a2⟩ := bits_of h h1 h2
  obtain ⟨b1, b2⟩ := bits_of h' h1 h2
  have hh := same_ret m m' (max B B') w S (h.1.mono (Nat.le_max_left _ _)) (h'.1.mono (Nat.le_max_right _ _)) h.2.2 h'.2.2 (Nat.max_le.2 ⟨hB, hB'⟩) a1 b1 a2 b2
  rw [decide_eq_true (show m.zs = m'.zs by rw [h.2.1, h'.2.1])] at hh
  exact hh
theorem grid_lens (f : Nat → Nat → Int) (r c : Nat) {n : Nat} (hr : r ≤ n) (hc : c ≤ n) : ((some (grid f r c)).getD []).length ≤ n ∧ ∀ q ∈ (some (grid f r c)).getD [], q.length ≤ n := by
  refine ⟨by simpa [grid] using hr, fun q hq => ?_⟩
  simp only [Option.getD_some, grid, List.mem_map] at hq
  obtain ⟨i, _, rfl⟩ := hq
  simpa using hc
theorem none_lens {n : Nat} : ((none : Option (List (List Int))).getD []).length ≤ n ∧ ∀ q ∈ (none : Option (List (List Int))).getD [], q.length ≤ n := ⟨by simp, fun q hq => by simp at hq⟩
theorem addO_lens (L L' : List (List Int)) {n : Nat} (hn : 16 ≤ n) : ((addO L L').getD []).length ≤ n ∧ ∀ q ∈ (addO L L').getD [], q.length ≤ n := by
  unfold addO addP
  split
  · rename_i rc rc' h1 h2
    split
    · obtain ⟨r, c⟩ := rc
      obtain ⟨g1, g2, g3, g4, g5, g6⟩ := shp_inv h1
      exact grid_lens _ _ _ (by dsimp only; omega) (by dsimp only; omega)
    · exact none_lens
  · exact none_lens
/-- the second grid with the first one's shape -/
def Gd.as (x y : Gd) : Gd := ⟨x.r, x.c, y.l, y.p⟩
theorem Gd.as_ok {x y : Gd} {w : World} (hx : x.ok w) (hy : y.ok w) : (x.as y).ok w := ⟨hx.1, hx.2.1, hy.2.2⟩
theorem Gd.lens (g : Gd) (k : Nat) {n : Nat} (h1 : 1 ≤ k) (hk : k ≤ 16) (hn : 16 ≤ n) : (g.zs k).length ≤ n ∧ ∀ q ∈ g.zs k, q.length ≤ n := by
  have h1 := Nat.mod_lt g.r (show 0 < k by omega)
  have h2 := Nat.mod_lt g.c (show 0 < k by omega)
  have := grid_lens (g.e k) (1 + g.r % k) (1 + g.c % k) (n := n) (by omega) (by omega)
  exact this
end Go.Qk
end
section
/- The walk of MatrixAdds. -/
set_option linter.unusedVariables false
namespace Go.Qk
open Go Go.Proofs Go.RowKit
set_option maxRecDepth 100000
set_option maxHeartbeats 4000000

theorem matrixAdds_ret (m m' : Mt) (gx gy : Gd) (w0 : World) (S : Nat → Prop) (hm : m.ok RB w0) (hlen : m.rs.length ≤ RB) (hrow : ∀ r ∈ m.rs, r.l.length ≤ RB) (hm' : m'.ok RB w0) (hlen' : m'.rs.length ≤ RB) (hrow' : ∀ r ∈ m'.rs, r.l.length ≤ RB) (hx : gx.ok w0) (hy : gy.ok w0) :
    Ret Try.prog 12 [m.v, m'.v, gx.v, gy.v] w0 S (fun _ : Unit => .bool true) (fun _ _ => True) := by
  refine ret_of Try.func12 rfl Try.ntmps12 rfl ?_
  refine tr_rseq ?_   -- region 0
  refine sq_box rfl rfl fun r6 => ?_   -- t6
  refine sq_box rfl rfl fun r7 => ?_   -- t7
  refine sq_q (qt_assign rfl) rfl ?_   -- t8
  refine sq_end ?_
  refine tr_seq ?_   -- C1
  refine tr_cut (ι := Bool) (fun c => c = false → smallM m ∧ smallM m') (fun c => [(0, m.v), (1, m'.v), (6, .pointer (some ⟨r6, 0, none⟩)), (7, .pointer (some ⟨r7, 0, none⟩)), (22, .bool c)]) (fun _ => [(r7, .cells gy.v.cells 31 (0, 0)), (r6, .cells gx.v.cells 31 (0, 0))]) (fun _ _ => True) ?_ (fun cc hb => ?_)
  · refine tr_region ?_
    refine sq_q (qt_move rfl) rfl ?_
    refine sq_call (fun b : Bool => .bool b) (fun b _ => b = false → smallM m) rfl rfl rfl (fun w t => large_ret m w _ (t.mt hm) hlen hrow) fun b => ?_
    refine sq_have (fun w t => t.r.2) fun hb => ?_
    refine sq_q (qt_move rfl) rfl ?_
    cases b with
    | true =>
      refine sq_gF rfl rfl rfl rfl ?_
      refine sq_gF rfl rfl rfl rfl ?_
      refine sq_q (qt_pick rfl rfl) rfl ?_
      refine sq_end ?_
      exact tr_mid true (fun h => nomatch h) ⟨rfl, rfl, rfl, rfl, rfl, trivial⟩ rfl (fun _ _ => trivial)
    | false =>
      refine sq_gT rfl rfl ?_
      refine sq_q (qt_move rfl) rfl ?_
      refine sq_gT rfl rfl ?_
      refine sq_call (fun b : Bool => .bool b) (fun b _ => b = false → smallM m') rfl rfl rfl (fun w t => large_ret m' w _ (t.mt hm') hlen' hrow') fun b => ?_
      refine sq_have (fun w t => t.r.2) fun hb' => ?_
      refine sq_q (qt_pick rfl rfl) rfl ?_
      refine sq_end ?_
      exact tr_mid b (fun h => ⟨hb rfl, hb' h⟩) ⟨rfl, rfl, rfl, rfl, rfl, trivial⟩ rfl (fun _ _ => trivial)
  refine tr_if rfl (fun hc => ?_) (fun hc => ?_)
  ·
    clear hb
    refine tr_rseq ?_   -- region 2
    refine sq_call (val := fun _ : Unit => .bool true) (F := fun _ _ => True) rfl rfl rfl (fun w t => awake_ret w _) fun _ => ?_   -- t23
    refine sq_q (qt_assign rfl) rfl ?_   -- t8
    refine sq_end ?_
    refine tr_ret ?_
    repeat (first | (with_reducible refine tr_skip ?_) | (with_reducible refine tr_exit ?_) | (with_reducible refine tr_then ?_) | (with_reducible refine tr_inX ?_) | (with_reducible refine tr_thenX ?_) | (with_reducible refine tr_inN ?_) | (with_reducible refine tr_inR ?_) | (with_reducible refine tr_thenR ?_))
    exact tr_done () (fun a w s t => results_1 rfl (resv_tmp s rfl)) (fun _ _ _ _ => trivial)
  ·
    obtain ⟨hs, hs'⟩ := hb hc
    obtain ⟨o, ho⟩ : ∃ o, o = addO m.zs m'.zs := ⟨_, rfl⟩
    obtain ⟨ol, oq⟩ := addO_lens m.zs m'.zs (n := 1099511627776) (by omega)
    rw [← ho] at ol oq
    obtain ⟨u, hu⟩ : ∃ u, u = addO (gx.zs 8) ((gx.as gy).zs 8) := ⟨_, rfl⟩
    obtain ⟨ul, uq⟩ := addO_lens (gx.zs 8) ((gx.as gy).zs 8) (n := 1099511627776) (by omega)
    rw [← hu] at ul uq
    obtain ⟨xl, xq⟩ := gx.lens 8 (n := 1099511627776) (by omega) (by omega) (by omega)
    obtain ⟨yl, yq⟩ := (gx.as gy).lens 8 (n := 1099511627776) (by omega) (by omega) (by omega)
    have hl1 := hs.1
    have hr1 := fun r hr => (hs.2 r hr).1
    have hl2 := hs'.1
    have hr2 := fun r hr => (hs'.2 r hr).1
    refine tr_skip ?_
    repeat (first | (with_reducible refine tr_skip ?_) | (with_reducible refine tr_exit ?_) | (with_reducible refine tr_then ?_) | (with_reducible refine tr_inX ?_) | (with_reducible refine tr_thenX ?_) | (with_reducible refine tr_inN ?_) | (with_reducible refine tr_inR ?_) | (with_reducible refine tr_thenR ?_))
    refine tr_rseq ?_   -- region 3
    refine sq_q (qt_move rfl) rfl ?_   -- t25
    refine sq_q (qt_move rfl) rfl ?_   -- t26
    refine sq_call (optV o) (optF 601 o) rfl rfl rfl (fun w t => by rw [ho]; exact madd_ret m m' 600 w _ (hs.ok (t.mt hm)) (hs'.ok (t.mt hm')) (by omega) (by omega) (fun r hr => by have := hr1 r hr; omega) (by omega) (fun r hr => by have := hr2 r hr; omega)) fun m3 => ?_   -- t27
    refine sq_q (qt_move rfl) rfl ?_   -- t24
    refine sq_q (qt_extract rfl rfl) rfl ?_   -- t28
    refine sq_q (qt_extract rfl rfl) rfl ?_   -- t29
    refine sq_q (qt_assign rfl) rfl ?_   -- t9
    refine sq_q (qt_assign rfl) rfl ?_   -- t10
    refine sq_end ?_
    refine tr_rseq ?_   -- region 4
    refine sq_q (qt_move rfl) rfl ?_   -- t31
    refine sq_q (qt_move rfl) rfl ?_   -- t32
    refine sq_call (optV o) (optF 601 o) rfl rfl rfl (fun w t => by rw [ho]; exact rmadd_ret m m' 600 w _ (hs.ok (t.mt hm)) (hs'.ok (t.mt hm')) (by omega) (by omega) (fun r hr => by have := hr1 r hr; omega) (by omega) (fun r hr => by have := hr2 r hr; omega)) fun m4 => ?_   -- t33
    refine sq_q (qt_move rfl) rfl ?_   -- t30
    refine sq_q (qt_extract rfl rfl) rfl ?_   -- t34
    refine sq_q (qt_extract rfl rfl) rfl ?_   -- t35
    refine sq_q (qt_assign rfl) rfl ?_   -- t11
    refine sq_q (qt_assign rfl) rfl ?_   -- t12
    refine sq_end ?_
    refine tr_cut (ι := Unit) (fun _ => True) (fun _ => [(6, .pointer (some ⟨r6, 0, none⟩)), (7, .pointer (some ⟨r7, 0, none⟩)), (9, m3.v), (10, .bool o.isSome), (11, m4.v), (12, .bool o.isSome)]) (fun _ => [(r7, .cells (gx.as gy).v.cells 31 (0, 0)), (r6, .cells gx.v.cells 31 (0, 0))]) (fun _ w => optF 601 o m3 w ∧ optF 601 o m4 w) ?_ (fun _ _ => ?_)
    · refine tr_sc ?_
      refine sc_take 0 rfl (by kernel_rfl) (by repeat (first | exact pk_body | refine pk_then ?_ | refine pk_in ?_)) (qt_fieldAddr rfl) rfl ?_
      refine sc_take 2 rfl (by kernel_rfl) (by repeat (first | exact pk_body | refine pk_then ?_ | refine pk_in ?_)) (qt_fieldAddr rfl) rfl ?_
      refine sc_two 1 3 (by kernel_rfl) ?_ ?_
      · refine so_q rfl (qt_load (v := .int .u8 (gx.r : Int)) rfl (fun w t => t.atO 1 rfl rfl)) rfl ?_
        refine sc_take 4 rfl (by kernel_rfl) (by repeat (first | exact pk_body | refine pk_then ?_ | refine pk_in ?_)) (qt_fieldAddr rfl) rfl ?_
        refine sc_two 3 5 (by kernel_rfl) ?_ ?_
        · refine so_q rfl (qt_load (v := .int .u8 (gx.c : Int)) rfl (fun w t => t.atO 1 rfl rfl)) rfl ?_
          refine sc_one 5 (by kernel_rfl) ?_
          refine so_store 0 rfl rfl rfl rfl rfl (show 0 + 0 + 1 ≤ 3 by omega) rfl rfl ?_
          refine sc_one 6 (by kernel_rfl) ?_
          refine so_q rfl (qt_fieldAddr rfl) rfl ?_
          refine sc_one 7 (by kernel_rfl) ?_
          refine so_store 0 rfl rfl rfl rfl rfl (show 0 + 1 + 1 ≤ 3 by omega) rfl rfl ?_
          refine sc_end (by kernel_rfl) ?_
          exact tr_mid () trivial ⟨rfl, rfl, rfl, rfl, rfl, rfl, trivial⟩ rfl (fun _ h => ⟨h.1.2, h.2⟩)
        · refine so_store 0 rfl rfl rfl rfl rfl (show 0 + 0 + 1 ≤ 3 by omega) rfl rfl ?_
          refine sc_one 3 (by kernel_rfl) ?_
          refine so_q rfl (qt_load (v := .int .u8 (gx.c : Int)) rfl (fun w t => t.atO 1 rfl rfl)) rfl ?_
          refine sc_one 6 (by kernel_rfl) ?_
          refine so_q rfl (qt_fieldAddr rfl) rfl ?_
          refine sc_one 7 (by kernel_rfl) ?_
          refine so_store 0 rfl rfl rfl rfl rfl (show 0 + 1 + 1 ≤ 3 by omega) rfl rfl ?_
          refine sc_end (by kernel_rfl) ?_
          exact tr_mid () trivial ⟨rfl, rfl, rfl, rfl, rfl, rfl, trivial⟩ rfl (fun _ h => ⟨h.1.2, h.2⟩)
      · refine so_q rfl (qt_load (v := .int .u8 (gx.c : Int)) rfl (fun w t => t.atO 1 rfl rfl)) rfl ?_
        refine sc_one 1 (by kernel_rfl) ?_
        refine so_q rfl (qt_load (v := .int .u8 (gx.r : Int)) rfl (fun w t => t.atO 1 rfl rfl)) rfl ?_
        refine sc_one 4 (by kernel_rfl) ?_
        refine so_q rfl (qt_fieldAddr rfl) rfl ?_
        refine sc_one 5 (by kernel_rfl) ?_
        refine so_store 0 rfl rfl rfl rfl rfl (show 0 + 0 + 1 ≤ 3 by omega) rfl rfl ?_
        refine sc_one 6 (by kernel_rfl) ?_
        refine so_q rfl (qt_fieldAddr rfl) rfl ?_
        refine sc_one 7 (by kernel_rfl) ?_
        refine so_store 0 rfl rfl rfl rfl rfl (show 0 + 1 + 1 ≤ 3 by omega) rfl rfl ?_
        refine sc_end (by kernel_rfl) ?_
        exact tr_mid () trivial ⟨rfl, rfl, rfl, rfl, rfl, rfl, trivial⟩ rfl (fun _ h => ⟨h.1.2, h.2⟩)
    refine tr_rdraw0 [0, 1, 2, 3, 6, 7, 8, 9, 10, 11, 12, 13, 14, 15, 16, 22] (by kernel_rfl) ?_   -- region 6
    refine dx_q rfl (qt_load_agg (vs := [.int .u8 (gx.r : Int), .int .u8 (gx.c : Int), .slice gx.p.1 gx.l.length gx.p.2]) rfl rfl (fun w t j v hv => by rw [Nat.zero_add]; exact t.atO 1 rfl hv)) rfl ?_   -- t43
    refine dx_call Mt.v (fun m w => m.ok 2 w ∧ m.zs = gx.zs 8 ∧ m.can) rfl rfl rfl (fun w t => gmatrix_ret gx 8 w _ (t.gd hx) (by omega) (by omega)) ?_   -- t44
    refine dx_q rfl (qt_load_agg (vs := [.int .u8 (gx.r : Int), .int .u8 (gx.c : Int), .slice gy.p.1 gy.l.length gy.p.2]) rfl rfl (fun w t j v hv => by rw [Nat.zero_add]; exact t.atO 0 rfl hv)) rfl ?_   -- t45
    refine dx_call Mt.v (fun m w => m.ok 2 w ∧ m.zs = (gx.as gy).zs 8 ∧ m.can) rfl rfl rfl (fun w t => gmatrix_ret (gx.as gy) 8 w _ (t.gd (Gd.as_ok hx hy)) (by omega) (by omega)) ?_   -- t46
    refine dx_call2 44 46 (optV u) (optF 3 u) rfl rfl rfl (by simp) (by simp) (fun _ _ => rfl) (fun _ _ => rfl) (fun a b w t => by
      obtain ⟨a1, a2⟩ := lens_of t.r.1.2.2.1 _ xl xq
      obtain ⟨b1, b2⟩ := lens_of t.r.2.2.1 _ yl yq
      have h := fun S' => madd_ret a b 2 w S' t.r.1.2.1 t.r.2.1 (by omega) a1 a2 b1 b2
      rw [t.r.1.2.2.1, t.r.2.2.1, ← hu] at h
      exact h _) ?_   -- t47
    refine dx_q1 47 (optV u) rfl rfl (fun o ho => mem_looksAt (by rw [ho]; simp [Op.operands])) (fun _ => qt_move rfl) rfl ?_   -- t42
    refine dx_q1 42 Mt.v rfl rfl (fun o ho => mem_looksAt (by rw [ho]; simp [Op.operands])) (fun _ => qt_extract rfl rfl) rfl ?_   -- t48
    refine dx_q1 42 (fun _ => .bool u.isSome) rfl rfl (fun o ho => mem_looksAt (by rw [ho]; simp [Op.operands])) (fun _ => qt_extract rfl rfl) rfl ?_   -- t49
    refine dx_q1 48 Mt.v rfl rfl (fun o ho => mem_looksAt (by rw [ho]; simp [Op.operands])) (fun _ => qt_assign rfl) rfl ?_   -- t13
    refine dx_q1 49 (fun _ => .bool u.isSome) rfl rfl (fun o ho => mem_looksAt (by rw [ho]; simp [Op.operands])) (fun _ => qt_assign rfl) rfl ?_   -- t14
    refine dx_nil ?_
    repeat (first | refine es_val rfl ?_ rfl | refine es_skip rfl ?_)
    refine es_res rfl (fun m5 => ?_) rfl
    refine es_res rfl (fun m5' => ?_) rfl
    repeat (first | refine es_val rfl ?_ rfl | refine es_skip rfl ?_)
    refine es_nil rfl ?_
    refine tx_endk ?_
    refine tr_rdraw0 [0, 1, 2, 3, 6, 7, 8, 9, 10, 11, 12, 13, 14, 15, 16, 22] (by kernel_rfl) ?_   -- region 7
    refine dx_q rfl (qt_load_agg (vs := [.int .u8 (gx.r : Int), .int .u8 (gx.c : Int), .slice gx.p.1 gx.l.length gx.p.2]) rfl rfl (fun w t j v hv => by rw [Nat.zero_add]; exact t.atO 1 rfl hv)) rfl ?_   -- t51
    refine dx_call Mt.v (fun m w => m.ok 2 w ∧ m.zs = gx.zs 8 ∧ m.can) rfl rfl rfl (fun w t => gmatrix_ret gx 8 w _ (t.gd hx) (by omega) (by omega)) ?_   -- t52
    refine dx_q rfl (qt_load_agg (vs := [.int .u8 (gx.r : Int), .int .u8 (gx.c : Int), .slice gy.p.1 gy.l.length gy.p.2]) rfl rfl (fun w t j v hv => by rw [Nat.zero_add]; exact t.atO 0 rfl hv)) rfl ?_   -- t53
    refine dx_call Mt.v (fun m w => m.ok 2 w ∧ m.zs = (gx.as gy).zs 8 ∧ m.can) rfl rfl rfl (fun w t => gmatrix_ret (gx.as gy) 8 w _ (t.gd (Gd.as_ok hx hy)) (by omega) (by omega)) ?_   -- t54
    refine dx_call2 52 54 (optV u) (optF 3 u) rfl rfl rfl (by simp) (by simp) (fun _ _ => rfl) (fun _ _ => rfl) (fun a b w t => by
      obtain ⟨a1, a2⟩ := lens_of t.r.1.2.2.1 _ xl xq
      obtain ⟨b1, b2⟩ := lens_of t.r.2.2.1 _ yl yq
      have h := fun S' => rmadd_ret a b 2 w S' t.r.1.2.1 t.r.2.1 (by omega) a1 a2 b1 b2
      rw [t.r.1.2.2.1, t.r.2.2.1, ← hu] at h
      exact h _) ?_   -- t55
    refine dx_q1 55 (optV u) rfl rfl (fun o ho => mem_looksAt (by rw [ho]; simp [Op.operands])) (fun _ => qt_move rfl) rfl ?_   -- t50
    refine dx_q1 50 Mt.v rfl rfl (fun o ho => mem_looksAt (by rw [ho]; simp [Op.operands])) (fun _ => qt_extract rfl rfl) rfl ?_   -- t56
    refine dx_q1 50 (fun _ => .bool u.isSome) rfl rfl (fun o ho => mem_looksAt (by rw [ho]; simp [Op.operands])) (fun _ => qt_extract rfl rfl) rfl ?_   -- t57
    refine dx_q1 56 Mt.v rfl rfl (fun o ho => mem_looksAt (by rw [ho]; simp [Op.operands])) (fun _ => qt_assign rfl) rfl ?_   -- t15
    refine dx_q1 57 (fun _ => .bool u.isSome) rfl rfl (fun o ho => mem_looksAt (by rw [ho]; simp [Op.operands])) (fun _ => qt_assign rfl) rfl ?_   -- t16
    refine dx_nil ?_
    repeat (first | refine es_val rfl ?_ rfl | refine es_skip rfl ?_)
    refine es_res rfl (fun m6 => ?_) rfl
    refine es_res rfl (fun m6' => ?_) rfl
    repeat (first | refine es_val rfl ?_ rfl | refine es_skip rfl ?_)
    refine es_nil rfl ?_
    refine tx_endk ?_
    clear hx
    ·
      refine tr_rseq ?_   -- region 8
      refine sq_q (qt_move rfl) rfl ?_   -- t58
      refine sq_q (qt_move rfl) rfl ?_   -- t59
      refine sq_q (qt_binB (r := .bool true) rfl rfl (bin_eqlBr boolT _)) rfl ?_   -- t60
      refine sq_q (qt_move rfl) rfl ?_   -- t61
      refine sq_gT rfl rfl ?_
      refine sq_q (qt_move rfl) rfl ?_   -- t62
      refine sq_gT rfl rfl ?_
      refine sq_q (qt_move rfl) rfl ?_   -- t63
      refine sq_gT rfl rfl ?_
      refine sq_call (val := fun _ : Unit => .bool true) (F := fun _ _ => True) rfl rfl rfl (fun w t => same_opt t.r.1.1.1.1.1 t.r.1.1.1.1.2 (by omega) (by omega) ol oq) fun _ => ?_   -- t64
      refine sq_q (qt_pick rfl rfl) rfl ?_   -- t65
      refine sq_q (qt_move rfl) rfl ?_   -- t66
      refine sq_gT rfl rfl ?_
      refine sq_q (qt_move rfl) rfl ?_   -- t67
      refine sq_gT rfl rfl ?_
      refine sq_q (qt_move rfl) rfl ?_   -- t68
      refine sq_gT rfl rfl ?_
      refine sq_q (qt_binB (r := .bool true) rfl rfl (bin_eqlBr boolT _)) rfl ?_   -- t69
      refine sq_q (qt_pick rfl rfl) rfl ?_   -- t70
      refine sq_q (qt_move rfl) rfl ?_   -- t71
      refine sq_gT rfl rfl ?_
      refine sq_q (qt_move rfl) rfl ?_   -- t72
      refine sq_gT rfl rfl ?_
      refine sq_q (qt_move rfl) rfl ?_   -- t73
      refine sq_gT rfl rfl ?_
      refine sq_call (val := fun _ : Unit => .bool true) (F := fun _ _ => True) rfl rfl rfl (fun w t => same_opt t.r.1.1.1.1.2 t.r.1.1.2 (by omega) (by omega) ul uq) fun _ => ?_   -- t74
      refine sq_q (qt_pick rfl rfl) rfl ?_   -- t75
      refine sq_q (qt_move rfl) rfl ?_   -- t76
      refine sq_gT rfl rfl ?_
      refine sq_call (val := fun _ : Unit => .bool true) (F := fun _ _ => True) rfl rfl rfl (fun w t => awake_ret w _) fun _ => ?_   -- t77
      refine sq_q (qt_pick rfl rfl) rfl ?_   -- t78
      refine sq_q (qt_assign rfl) rfl ?_   -- t8
      refine sq_end ?_
      refine tr_ret ?_
      repeat (first | (with_reducible refine tr_skip ?_) | (with_reducible refine tr_exit ?_) | (with_reducible refine tr_then ?_) | (with_reducible refine tr_inX ?_) | (with_reducible refine tr_thenX ?_) | (with_reducible refine tr_inN ?_) | (with_reducible refine tr_inR ?_) | (with_reducible refine tr_thenR ?_))
      exact tr_done () (fun a w s t => results_1 rfl (resv_tmp s rfl)) (fun _ _ _ _ => trivial)
end Go.Qk
end
