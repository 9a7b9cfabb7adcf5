/- Lemmas and contracts of functions that the law reaches: B1, B5, Mj, B6, B7, B8, Mp, B9. -/
import Derived.Test.YtencodepmbhpiaaGc7
set_option linter.unusedVariables false
set_option linter.unusedSimpArgs false
section
/- A matrix applied to a row. -/
set_option linter.unusedVariables false
namespace Go.Qk
open Go Go.Proofs Go.RowKit
set_option maxRecDepth 100000
set_option maxHeartbeats 4000000

theorem apply_ret (m : Mt) (v : Rw) (B B' : Nat) (w0 : World) (S : Nat → Prop) (hm : m.ok B w0) (hv : v.ok B' w0) (hB : B + B' ≤ 35184372088700) (hl : m.rs.length ≤ 35184372088832) (hr : ∀ r ∈ m.rs, r.l.length ≤ 35184372088832) :
    Ret Try.prog 48 [m.v, v.v] w0 S (rowV (apO m.zs v.zs)) (rowF (B + B' + 16) (apO m.zs v.zs)) := by
  obtain ⟨o, ho⟩ : ∃ o, o = shp m.zs := ⟨_, rfl⟩
  have hO : apO m.zs v.zs = apP o m.zs v.zs := by rw [ho]; rfl
  rw [hO]
  clear hO
  refine ret_of Try.func48 rfl Try.ntmps48 rfl ?_
  refine tr_rseq ?_   -- region 0
  refine sq_q (qt_assign rfl) rfl ?_   -- t4
  refine sq_q (qt_assign rfl) rfl ?_   -- t5
  refine sq_end ?_
  refine tr_rseq ?_   -- region 1
  refine sq_q (qt_move rfl) rfl ?_   -- t13
  refine sq_call (val := fun _ : Unit => shpV o) (F := fun _ _ => True) rfl rfl rfl (fun w t => by rw [ho]; exact shape_ret m B w _ (t.mt hm) hl hr) fun _ => ?_   -- t14
  refine sq_q (qt_move rfl) rfl ?_   -- t12
  refine sq_q (qt_extract rfl rfl) rfl ?_   -- t15
  refine sq_q (qt_extract rfl rfl) rfl ?_   -- t16
  refine sq_q (qt_extract rfl rfl) rfl ?_   -- t17
  refine sq_q (qt_assign rfl) rfl ?_   -- t6
  refine sq_q (qt_assign rfl) rfl ?_   -- t7
  refine sq_q (qt_assign rfl) rfl ?_   -- t8
  refine sq_end ?_
  refine tr_seq ?_   -- C1
  have hcs : o = none ∨ (∃ r c, o = some (r, c) ∧ v.l.length ≠ c) ∨ (∃ r, o = some (r, v.l.length)) := by
    cases o with
    | none => exact .inl rfl
    | some x =>
      obtain ⟨r, c⟩ := x
      by_cases h1 : v.l.length = c
      · subst h1; exact .inr (.inr ⟨_, rfl⟩)
      · exact .inr (.inl ⟨_, _, rfl, h1⟩)
  rcases hcs with h1 | ⟨r, c, h1, h2⟩ | ⟨r, h1⟩
  ·
    subst h1
    rw [show apP none m.zs v.zs = none from rfl]
    refine tr_rseq ?_   -- region 2
    refine sq_q (qt_move rfl) rfl ?_   -- t18
    refine sq_q (qt_not rfl) rfl ?_   -- t19
    refine sq_q (qt_move rfl) rfl ?_   -- t20
    refine sq_gF rfl rfl rfl rfl ?_
    refine sq_gF rfl rfl rfl rfl ?_
    refine sq_gF rfl rfl rfl rfl ?_
    refine sq_gF rfl rfl rfl rfl ?_
    refine sq_q (qt_pick rfl rfl) rfl ?_   -- t25
    refine sq_end ?_
    refine tr_ifT rfl ?_
    refine tr_rseq ?_   -- region 3
    refine sq_q (qt_assign rfl) rfl ?_   -- t4
    refine sq_q (qt_assign rfl) rfl ?_   -- t5
    refine sq_end ?_
    refine tr_ret ?_
    repeat (first | (with_reducible refine tr_skip ?_) | (with_reducible refine tr_exit ?_) | (with_reducible refine tr_then ?_) | (with_reducible refine tr_inX ?_) | (with_reducible refine tr_thenX ?_) | (with_reducible refine tr_inN ?_) | (with_reducible refine tr_inR ?_) | (with_reducible refine tr_thenR ?_))
    exact tr_done ⟨[], (none, 0)⟩ (fun a w s t => results_2 rfl (resv_tmp s rfl) (resv_tmp s rfl)) (fun w _ _ _ => rowF_none _ _)
  ·
    subst h1
    rw [show apP (some (r, c)) m.zs v.zs = none from if_neg (by rw [Rw.zs_len]; exact h2)]
    refine tr_rseq ?_   -- region 2
    refine sq_q (qt_move rfl) rfl ?_   -- t18
    refine sq_q (qt_not rfl) rfl ?_   -- t19
    refine sq_q (qt_move rfl) rfl ?_   -- t20
    refine sq_gT rfl rfl ?_
    refine sq_q (qt_move rfl) rfl ?_   -- t21
    refine sq_gT rfl rfl ?_
    refine sq_q (qt_len rfl) rfl ?_   -- t22
    refine sq_gT rfl rfl ?_
    refine sq_q (qt_move rfl) rfl ?_   -- t23
    refine sq_gT rfl rfl ?_
    refine sq_q (qt_bin rfl rfl (bT bin_neq (by simp only [Option.getD_some]; omega))) rfl ?_   -- t24
    refine sq_q (qt_pick rfl rfl) rfl ?_   -- t25
    refine sq_end ?_
    refine tr_ifT rfl ?_
    refine tr_rseq ?_   -- region 3
    refine sq_q (qt_assign rfl) rfl ?_   -- t4
    refine sq_q (qt_assign rfl) rfl ?_   -- t5
    refine sq_end ?_
    refine tr_ret ?_
    repeat (first | (with_reducible refine tr_skip ?_) | (with_reducible refine tr_exit ?_) | (with_reducible refine tr_then ?_) | (with_reducible refine tr_inX ?_) | (with_reducible refine tr_thenX ?_) | (with_reducible refine tr_inN ?_) | (with_reducible refine tr_inR ?_) | (with_reducible refine tr_thenR ?_))
    exact tr_done ⟨[], (none, 0)⟩ (fun a w s t => results_2 rfl (resv_tmp s rfl) (resv_tmp s rfl)) (fun w _ _ _ => rowF_none _ _)
  ·
    subst h1
    obtain ⟨c, hc0⟩ : ∃ c, c = v.l.length := ⟨_, rfl⟩
    rw [← hc0] at ho
    rw [← hc0]
    obtain ⟨G, hG⟩ : ∃ G : Nat → Nat → Int, G = fun i k => ent m.zs i k * v.zs.getD k 0 := ⟨_, rfl⟩
    rw [show apP (some (r, c)) m.zs v.zs = some ((List.range r).map fun i => sumN c (G i)) from by rw [hG]; exact if_pos (by rw [Rw.zs_len]; exact hc0.symm)]
    obtain ⟨g1, g2, g3, g4, g5, g6⟩ := mt_shp ho.symm
    obtain ⟨ro, oo, evm, hat⟩ := hm.at_ (show 0 < m.rs.length by omega)
    obtain ⟨rv, ov, evv, hatv⟩ := hv.at_ (show 0 < v.l.length by omega)
    have hGb : ∀ i, i < r → ∀ k, k < c → nl (G i k).natAbs ≤ B + B' := fun i hi k hk => by
      have hi' : i < m.rs.length := by omega
      have hk' : k < m.rs[i].l.length := by rw [g6 _ (List.getElem_mem hi')]; exact hk
      rw [hG]
      show nl (ent m.zs i k * v.zs.getD k 0).natAbs ≤ _
      rw [mt_ent hi' hk', rw_ent (show k < v.l.length by omega)]
      have q1 := nl_imul m.rs[i].l[k].z (v.l[k]'(by omega)).z
      have q2 := nl_zd ((hm.2.2 _ (List.getElem_mem hi')).2.2 _ (List.getElem_mem hk'))
      have q3 := nl_zd (hv.2.2 _ (List.getElem_mem (show k < v.l.length by omega)))
      omega
    refine tr_rseq ?_   -- region 2
    refine sq_q (qt_move rfl) rfl ?_   -- t18
    refine sq_q (qt_not rfl) rfl ?_   -- t19
    refine sq_q (qt_move rfl) rfl ?_   -- t20
    refine sq_gT rfl rfl ?_
    refine sq_q (qt_move rfl) rfl ?_   -- t21
    refine sq_gT rfl rfl ?_
    refine sq_q (qt_len rfl) rfl ?_   -- t22
    refine sq_gT rfl rfl ?_
    refine sq_q (qt_move rfl) rfl ?_   -- t23
    refine sq_gT rfl rfl ?_
    refine sq_q (qt_bin rfl rfl (bF bin_neq (by simp only [Option.getD_some]; omega))) rfl ?_   -- t24
    refine sq_q (qt_pick rfl rfl) rfl ?_   -- t25
    refine sq_end ?_
    refine tr_ifF rfl ?_
    refine tr_skip ?_
    repeat (first | (with_reducible refine tr_skip ?_) | (with_reducible refine tr_exit ?_) | (with_reducible refine tr_then ?_) | (with_reducible refine tr_inX ?_) | (with_reducible refine tr_thenX ?_) | (with_reducible refine tr_inN ?_) | (with_reducible refine tr_inR ?_) | (with_reducible refine tr_thenR ?_))
    refine tr_rseq ?_   -- region 4
    refine sq_q (qt_move rfl) rfl ?_   -- t26
    refine sq_make (c := r) rfl rfl (by omega) (by omega) rfl fun r27 => ?_   -- t27
    refine sq_q (qt_assign rfl) rfl ?_   -- t9
    refine sq_end ?_
    refine tr_seq ?_   -- C2
    refine tr_rseq ?_   -- region 5
    refine sq_q (qt_move rfl) rfl ?_   -- t28
    refine sq_q (qt_len rfl) rfl ?_   -- t29
    refine sq_q (qt_move rfl) rfl ?_   -- t30
    refine sq_end ?_
    refine tr_block ?_
    refine tr_loop2 (fun (i : Nat) (l : List Zd) => i ≤ r ∧ l.length = r ∧ ∀ a z, l[a]? = some z → z.can ∧ z.z = if a < i then sumN c (G a) else 0) (fun i l => [(0, .slice (some ⟨ro, oo, none⟩) m.rs.length m.p.2), (1, .slice (some ⟨rv, ov, none⟩) v.l.length v.p.2), (9, .slice (some ⟨r27, 0, none⟩) r r), (29, .int .i64 (r : Int)), (30, .int .i64 (i : Int))])
      (fun i l => [mrow (r27, l)]) (fun i l w => ∀ z ∈ l, z.ok (B + B' + 16) w) (fun i l => r - i) 0 (List.replicate r z0) ⟨Nat.zero_le _, by simp, fun a z hz => by rw [if_neg (by omega)]; obtain ⟨_, e⟩ := List.getElem?_eq_some_iff.1 hz; simp at e; subst e; exact ⟨z0_can, rfl⟩⟩ ⟨congrArg some evm, congrArg some evv, rfl, rfl, rfl, trivial⟩ (by rw [made_z]; rfl) (fun w _ z hz => by rw [List.eq_of_mem_replicate hz]; exact z0_ok _ _) ?_
    rintro i l ⟨hle, hll, hinv⟩
    refine tr_rseq ?_   -- region 6
    refine sq_q (qt_bin rfl rfl bin_lss) rfl ?_   -- t31
    refine sq_end ?_
    refine tr_seq ?_   -- C3
    refine tr_if rfl (fun hc => ?_) (fun hc => ?_)
    ·
      have hlt : i < r := by have := of_decide_eq_true hc; omega
      have hmi : i < m.rs.length := by omega
      have hcl := g6 _ (List.getElem_mem hmi)
      obtain ⟨rr, orr, evr, hatr⟩ := (hm.2.2 _ (List.getElem_mem hmi)).at_ (show 0 < m.rs[i].l.length by omega)
      have hrw := hat i hmi
      rw [evr] at hrw
      refine tr_skip ?_
      repeat (first | (with_reducible refine tr_skip ?_) | (with_reducible refine tr_exit ?_) | (with_reducible refine tr_then ?_) | (with_reducible refine tr_inX ?_) | (with_reducible refine tr_thenX ?_) | (with_reducible refine tr_inN ?_) | (with_reducible refine tr_inR ?_) | (with_reducible refine tr_thenR ?_))
      refine tr_seq ?_   -- C4
      refine tr_block ?_
      refine tr_rseq ?_   -- region 7
      refine sq_q (qt_move rfl) rfl ?_   -- t32
      refine sq_q (qt_assign rfl) rfl ?_   -- t10
      refine sq_end ?_
      refine tr_rseq ?_   -- region 8
      refine sq_q (qt_move rfl) rfl ?_   -- t33
      refine sq_q (qt_len rfl) rfl ?_   -- t34
      refine sq_q (qt_move rfl) rfl ?_   -- t35
      refine sq_end ?_
      refine tr_block ?_
      refine tr_loop2 (fun (j : Nat) (l : List Zd) => j ≤ c ∧ l.length = r ∧ ∀ a z, l[a]? = some z → z.can ∧ z.z = if a < i then sumN c (G a) else if a = i then sumN j (G a) else 0) (fun j l => [(0, .slice (some ⟨ro, oo, none⟩) m.rs.length m.p.2), (1, .slice (some ⟨rv, ov, none⟩) v.l.length v.p.2), (9, .slice (some ⟨r27, 0, none⟩) r r), (10, .int .i64 (i : Int)), (29, .int .i64 (r : Int)), (30, .int .i64 (i : Int)), (34, .int .i64 (c : Int)), (35, .int .i64 (j : Int))])
        (fun j l => [mrow (r27, l)]) (fun j l w => ∀ z ∈ l, z.ok (B + B' + 16) w) (fun j l => c - j) 0 l ⟨Nat.zero_le _, hll, fun a z hz => by
          obtain ⟨h1, h2⟩ := hinv a z hz
          refine ⟨h1, h2.trans ?_⟩
          by_cases h : a < i
          · rw [if_pos h, if_pos h]
          · rw [if_neg h, if_neg h]
            split <;> rfl⟩ ⟨rfl, rfl, rfl, rfl, rfl, rfl, congrArg (fun z => some (Value.int .i64 ((z : Nat) : Int))) hc0.symm, rfl, trivial⟩ rfl (fun w h => h) ?_
      clear hinv hll l
      rintro j l ⟨hjc, hll, hinv⟩
      refine tr_rseq ?_   -- region 9
      refine sq_q (qt_bin rfl rfl bin_lss) rfl ?_   -- t36
      refine sq_end ?_
      refine tr_seq ?_   -- C5
      refine tr_if rfl (fun hc => ?_) (fun hc => ?_)
      ·
        have hlt2 : j < c := by have := of_decide_eq_true hc; omega
        have hjl : j < m.rs[i].l.length := by omega
        have hjv : j < v.l.length := by omega
        obtain ⟨hz0, hz1⟩ := hatr j hjl
        obtain ⟨hy0, hy1⟩ := hatv j hjv
        have hzok := (hm.2.2 _ (List.getElem_mem hmi)).2.2 _ (List.getElem_mem hjl)
        have hyok := hv.2.2 _ (List.getElem_mem hjv)
        have hil : i < l.length := by omega
        obtain ⟨z, hz⟩ : ∃ z, l[i]? = some z := ⟨_, List.getElem?_eq_getElem hil⟩
        have hzm : z ∈ l := List.mem_of_getElem? hz
        obtain ⟨hzc, hzz⟩ := hinv i z hz
        rw [if_neg (by omega), if_pos rfl] at hzz
        have hg : m.rs[i].l[j].z * v.l[j].z = G i j := by rw [hG]; show _ = ent m.zs i j * v.zs.getD j 0; rw [mt_ent hmi hjl, rw_ent hjv]
        have hgb := hGb i hlt
        refine tr_skip ?_
        repeat (first | (with_reducible refine tr_skip ?_) | (with_reducible refine tr_exit ?_) | (with_reducible refine tr_then ?_) | (with_reducible refine tr_inX ?_) | (with_reducible refine tr_thenX ?_) | (with_reducible refine tr_inN ?_) | (with_reducible refine tr_inR ?_) | (with_reducible refine tr_thenR ?_))
        refine tr_seq ?_   -- C6
        refine tr_block ?_
        refine tr_rseq ?_   -- region 10
        refine sq_q (qt_move rfl) rfl ?_   -- t37
        refine sq_q (qt_assign rfl) rfl ?_   -- t11
        refine sq_end ?_
        refine tr_draw 19 [] [] [0, 1, 4, 5, 6, 7, 8, 9, 10, 11, 25, 29, 30, 31, 34, 35, 36, 38, 39, 56] (by kernel_rfl) ?_   -- region 11
        refine dx_q rfl (qt_move rfl) rfl ?_   -- t38
        refine dx_q rfl (qt_move rfl) rfl ?_   -- t39
        refine dx_q rfl (qt_move rfl) rfl ?_   -- t40
        refine dx_q rfl (qt_move rfl) rfl ?_   -- t41
        refine dx_q rfl (qt_index (i := i) rfl rfl hlt) rfl ?_   -- t42
        refine dx_q rfl (qt_load2 rfl (fun w t => t.mz0 0 (q := (r27, l)) rfl hz) (fun w t => t.mz1 0 (q := (r27, l)) rfl hz)) rfl ?_   -- t43
        refine dx_q rfl (qt_move rfl) rfl ?_   -- t44
        refine dx_q rfl (qt_move rfl) rfl ?_   -- t45
        refine dx_q rfl (qt_index (i := i) rfl rfl hmi) rfl ?_   -- t46
        refine dx_q rfl (qt_load rfl (fun w t => t.a1 hrw)) rfl ?_   -- t47
        refine dx_q rfl (qt_move rfl) rfl ?_   -- t48
        refine dx_q rfl (qt_index (i := j) rfl rfl hjl) rfl ?_   -- t49
        refine dx_q rfl (qt_load2 rfl (fun w t => t.atA hz0) (fun w t => t.atA hz1)) rfl ?_   -- t50
        refine dx_q rfl (qt_move rfl) rfl ?_   -- t51
        refine dx_q rfl (qt_move rfl) rfl ?_   -- t52
        refine dx_q rfl (qt_index (i := j) rfl rfl hjv) rfl ?_   -- t53
        refine dx_q rfl (qt_load2 rfl (fun w t => t.atA hy0) (fun w t => t.atA hy1)) rfl ?_   -- t54
        refine dx_call (iv (G i j)) (Lz (G i j).natAbs) rfl rfl rfl (fun w t => by rw [← hg]; exact mul_zd (t.zd hzok) (t.zd hyok) (by omega)) ?_   -- t55
        refine dx_call1 55 (iv (sumN (j + 1) (G i))) (Lz (sumN (j + 1) (G i)).natAbs) rfl rfl (by simp) rfl (fun _ => rfl) (fun _ => rfl) (fun y w t => by
          have h := fun S' => add_zd (S := S') (t.r.1 z hzm) (zd_ok (B := B + B') t.r.2 (hgb j hlt2)) (by omega) (by omega)
          rw [zd_z, hzz] at h
          exact h _) ?_   -- t56
        refine dx_nil ?_
        repeat (first | refine es_val rfl ?_ rfl | refine es_skip rfl ?_)
        refine es_res rfl (fun x => ?_) rfl
        repeat (first | refine es_val rfl ?_ rfl | refine es_skip rfl ?_)
        refine es_nil rfl ?_
        refine tx_q (qt_index (i := i) rfl rfl hlt) rfl rfl rfl ?_   -- t57
        refine tx_store 0 rfl rfl rfl rfl (show 0 + i * 2 + 2 ≤ (zcs l).length by rw [zcs_length, hll]; omega) rfl rfl rfl ?_   -- _
        refine tx_end ?_
        repeat (first | (with_reducible refine tr_skip ?_) | (with_reducible refine tr_exit ?_) | (with_reducible refine tr_then ?_) | (with_reducible refine tr_inX ?_) | (with_reducible refine tr_thenX ?_) | (with_reducible refine tr_inN ?_) | (with_reducible refine tr_inR ?_) | (with_reducible refine tr_thenR ?_))
        refine tr_region ?_   -- region 12
        refine sq_q (qt_bin rfl rfl (bin_addI (by omega) (by omega))) rfl ?_   -- t58
        refine sq_q (qt_move rfl) rfl ?_   -- t35
        refine sq_nil ?_
        repeat (first | (with_reducible refine tr_skip ?_) | (with_reducible refine tr_exit ?_) | (with_reducible refine tr_then ?_) | (with_reducible refine tr_inX ?_) | (with_reducible refine tr_thenX ?_) | (with_reducible refine tr_inN ?_) | (with_reducible refine tr_inR ?_) | (with_reducible refine tr_thenR ?_))
        have hbd : nl (sumN (j + 1) (G i)).natAbs ≤ B + B' + 16 := by have := nl_sum (f := G i) (k := j + 1) (D := B + B') (fun k hk => hgb k (by omega)); omega
        refine tr_own [mrow (r27, l.set i (zd (sumN (j + 1) (G i)) x))] (by show [(r27, Obj.cells (wr (zcs l) (0 + i * 2) (zd (sumN (j + 1) (G i)) x).v.cells.toList).toArray 35 (0, 0))] = _; rw [zcs_set _ hil]; rfl) ?_
        refine tr_round2 (j + 1) (l.set i (zd (sumN (j + 1) (G i)) x)) ⟨hlt2, by rw [List.length_set]; exact hll, fun a z' hz' => ?_⟩ (by omega) ⟨rfl, rfl, rfl, rfl, rfl, rfl, rfl, rfl, trivial⟩ rfl (fun w h z' hz' => ?_)
        · rw [List.getElem?_set] at hz'
          by_cases h : i = a
          · subst h
            rw [if_pos rfl, if_pos hil] at hz'
            obtain rfl := Option.some.inj hz'
            rw [if_neg (by omega), if_pos rfl]
            exact ⟨zd_can _ _, zd_z _ _⟩
          · rw [if_neg h] at hz'
            obtain ⟨q1, q2⟩ := hinv a z' hz'
            refine ⟨q1, q2.trans ?_⟩
            by_cases h' : a < i
            · rw [if_pos h', if_pos h']
            · rw [if_neg h', if_neg h', if_neg (by omega), if_neg (by omega)]
        · rcases List.mem_or_eq_of_mem_set hz' with q1 | q1
          · exact h.1 z' q1
          · rw [q1]; exact zd_ok h.2 hbd
      ·
        have hje : j = c := by have := of_decide_eq_false hc; omega
        refine tr_exit ?_
        repeat (first | (with_reducible refine tr_skip ?_) | (with_reducible refine tr_exit ?_) | (with_reducible refine tr_then ?_) | (with_reducible refine tr_inX ?_) | (with_reducible refine tr_thenX ?_) | (with_reducible refine tr_inN ?_) | (with_reducible refine tr_inR ?_) | (with_reducible refine tr_thenR ?_))
        refine tr_region ?_   -- region 13
        refine sq_q (qt_bin rfl rfl (bin_addI (by omega) (by omega))) rfl ?_   -- t59
        refine sq_q (qt_move rfl) rfl ?_   -- t30
        refine sq_nil ?_
        repeat (first | (with_reducible refine tr_skip ?_) | (with_reducible refine tr_exit ?_) | (with_reducible refine tr_then ?_) | (with_reducible refine tr_inX ?_) | (with_reducible refine tr_thenX ?_) | (with_reducible refine tr_inN ?_) | (with_reducible refine tr_inR ?_) | (with_reducible refine tr_thenR ?_))
        refine tr_round2 (i + 1) l ⟨by omega, hll, fun a z hz => ?_⟩ (by omega) ⟨rfl, rfl, rfl, rfl, rfl, trivial⟩ rfl (fun w h => h)
        obtain ⟨q1, q2⟩ := hinv a z hz
        refine ⟨q1, q2.trans ?_⟩
        by_cases h : a < i
        · rw [if_pos h, if_pos (by omega)]
        · rw [if_neg h]
          by_cases h' : a = i
          · rw [if_pos h', if_pos (by omega), hje]
          · rw [if_neg h', if_neg (by omega)]
    ·
      have hir : i = r := by have := of_decide_eq_false hc; omega
      refine tr_exit ?_
      repeat (first | (with_reducible refine tr_skip ?_) | (with_reducible refine tr_exit ?_) | (with_reducible refine tr_then ?_) | (with_reducible refine tr_inX ?_) | (with_reducible refine tr_thenX ?_) | (with_reducible refine tr_inN ?_) | (with_reducible refine tr_inR ?_) | (with_reducible refine tr_thenR ?_))
      refine tr_rseq ?_   -- region 14
      refine sq_q (qt_move rfl) rfl ?_   -- t60
      refine sq_q (qt_assign rfl) rfl ?_   -- t4
      refine sq_q (qt_assign rfl) rfl ?_   -- t5
      refine sq_end ?_
      refine tr_ret ?_
      repeat (first | (with_reducible refine tr_skip ?_) | (with_reducible refine tr_exit ?_) | (with_reducible refine tr_then ?_) | (with_reducible refine tr_inX ?_) | (with_reducible refine tr_thenX ?_) | (with_reducible refine tr_inN ?_) | (with_reducible refine tr_inR ?_) | (with_reducible refine tr_thenR ?_))
      refine tr_done ⟨l, (some ⟨r27, 0, none⟩, r)⟩ (fun a w s t => results_2 rfl (resv_tmp s (by show some (Value.slice (some ⟨r27, 0, none⟩) r r) = some (Rw.v ⟨l, (some ⟨r27, 0, none⟩, r)⟩); unfold Rw.v; rw [hll])) (resv_tmp s rfl)) (fun w h ho _ => ⟨⟨Rd.own (ho _ (ownAt_mem (i := 0) rfl)), Nat.le_of_eq hll, h⟩, ?_, fun z hz => ?_⟩)
      · show l.map Zd.z = (List.range r).map fun i => sumN c (G i)
        refine List.ext_getElem (by simp [hll]) fun a h1 h2 => ?_
        have h3 : a < l.length := by simpa using h1
        have := (hinv a l[a] (List.getElem?_eq_getElem h3)).2
        rw [if_pos (by omega)] at this
        simp [this]
      · obtain ⟨a, ha, rfl⟩ := List.getElem_of_mem hz
        exact (hinv a _ (List.getElem?_eq_getElem ha)).1
end Go.Qk
end
section
/- The reference's Apply. -/
set_option linter.unusedVariables false
namespace Go.Qk
open Go Go.Proofs Go.RowKit
set_option maxRecDepth 100000
set_option maxHeartbeats 4000000

theorem rapply_ret (m : Mt) (v : Rw) (B B' : Nat) (w0 : World) (S : Nat → Prop) (hm : m.ok B w0) (hv : v.ok B' w0) (hB : B + B' ≤ 35184372088700) (hl : m.rs.length ≤ 35184372088832) (hr : ∀ r ∈ m.rs, r.l.length ≤ 35184372088832) :
    Ret Try.prog 49 [m.v, v.v] w0 S (rowV (apO m.zs v.zs)) (rowF (B + B' + 16) (apO m.zs v.zs)) := by
  obtain ⟨o, ho⟩ : ∃ o, o = shp m.zs := ⟨_, rfl⟩
  have hO : apO m.zs v.zs = apP o m.zs v.zs := by rw [ho]; rfl
  rw [hO]
  clear hO
  refine ret_of Try.func49 rfl Try.ntmps49 rfl ?_
  refine tr_rseq ?_   -- region 0
  refine sq_q (qt_assign rfl) rfl ?_   -- t4
  refine sq_q (qt_assign rfl) rfl ?_   -- t5
  refine sq_end ?_
  refine tr_rseq ?_   -- region 1
  refine sq_q (qt_move rfl) rfl ?_   -- t13
  refine sq_call (val := fun _ : Unit => shpV o) (F := fun _ _ => True) rfl rfl rfl (fun w t => by rw [ho]; exact rshape_ret m B w _ (t.mt hm) hl hr) fun _ => ?_   -- t14
  refine sq_q (qt_move rfl) rfl ?_   -- t12
  refine sq_q (qt_extract rfl rfl) rfl ?_   -- t15
  refine sq_q (qt_extract rfl rfl) rfl ?_   -- t16
  refine sq_q (qt_extract rfl rfl) rfl ?_   -- t17
  refine sq_q (qt_assign rfl) rfl ?_   -- t6
  refine sq_q (qt_assign rfl) rfl ?_   -- t7
  refine sq_q (qt_assign rfl) rfl ?_   -- t8
  refine sq_end ?_
  refine tr_seq ?_   -- C1
  have hcs : o = none ∨ (∃ r c, o = some (r, c) ∧ v.l.length ≠ c) ∨ (∃ r, o = some (r, v.l.length)) := by
    cases o with
    | none => exact .inl rfl
    | some x =>
      obtain ⟨r, c⟩ := x
      by_cases h1 : v.l.length = c
      · subst h1; exact .inr (.inr ⟨_, rfl⟩)
      · exact .inr (.inl ⟨_, _, rfl, h1⟩)
  rcases hcs with h1 | ⟨r, c, h1, h2⟩ | ⟨r, h1⟩
  ·
    subst h1
    rw [show apP none m.zs v.zs = none from rfl]
    refine tr_rseq ?_   -- region 2
    refine sq_q (qt_move rfl) rfl ?_   -- t18
    refine sq_q (qt_not rfl) rfl ?_   -- t19
    refine sq_q (qt_move rfl) rfl ?_   -- t20
    refine sq_gF rfl rfl rfl rfl ?_
    refine sq_gF rfl rfl rfl rfl ?_
    refine sq_gF rfl rfl rfl rfl ?_
    refine sq_gF rfl rfl rfl rfl ?_
    refine sq_q (qt_pick rfl rfl) rfl ?_   -- t25
    refine sq_end ?_
    refine tr_ifT rfl ?_
    refine tr_rseq ?_   -- region 3
    refine sq_q (qt_assign rfl) rfl ?_   -- t4
    refine sq_q (qt_assign rfl) rfl ?_   -- t5
    refine sq_end ?_
    refine tr_ret ?_
    repeat (first | (with_reducible refine tr_skip ?_) | (with_reducible refine tr_exit ?_) | (with_reducible refine tr_then ?_) | (with_reducible refine tr_inX ?_) | (with_reducible refine tr_thenX ?_) | (with_reducible refine tr_inN ?_) | (with_reducible refine tr_inR ?_) | (with_reducible refine tr_thenR ?_))
    exact tr_done ⟨[], (none, 0)⟩ (fun a w s t => results_2 rfl (resv_tmp s rfl) (resv_tmp s rfl)) (fun w _ _ _ => rowF_none _ _)
  ·
    subst h1
    rw [show apP (some (r, c)) m.zs v.zs = none from if_neg (by rw [Rw.zs_len]; exact h2)]
    refine tr_rseq ?_   -- region 2
    refine sq_q (qt_move rfl) rfl ?_   -- t18
    refine sq_q (qt_not rfl) rfl ?_   -- t19
    refine sq_q (qt_move rfl) rfl ?_   -- t20
    refine sq_gT rfl rfl ?_
    refine sq_q (qt_move rfl) rfl ?_   -- t21
    refine sq_gT rfl rfl ?_
    refine sq_q (qt_len rfl) rfl ?_   -- t22
    refine sq_gT rfl rfl ?_
    refine sq_q (qt_move rfl) rfl ?_   -- t23
    refine sq_gT rfl rfl ?_
    refine sq_q (qt_bin rfl rfl (bT bin_neq (by simp only [Option.getD_some]; omega))) rfl ?_   -- t24
    refine sq_q (qt_pick rfl rfl) rfl ?_   -- t25
    refine sq_end ?_
    refine tr_ifT rfl ?_
    refine tr_rseq ?_   -- region 3
    refine sq_q (qt_assign rfl) rfl ?_   -- t4
    refine sq_q (qt_assign rfl) rfl ?_   -- t5
    refine sq_end ?_
    refine tr_ret ?_
    repeat (first | (with_reducible refine tr_skip ?_) | (with_reducible refine tr_exit ?_) | (with_reducible refine tr_then ?_) | (with_reducible refine tr_inX ?_) | (with_reducible refine tr_thenX ?_) | (with_reducible refine tr_inN ?_) | (with_reducible refine tr_inR ?_) | (with_reducible refine tr_thenR ?_))
    exact tr_done ⟨[], (none, 0)⟩ (fun a w s t => results_2 rfl (resv_tmp s rfl) (resv_tmp s rfl)) (fun w _ _ _ => rowF_none _ _)
  ·
    subst h1
    obtain ⟨c, hc0⟩ : ∃ c, c = v.l.length := ⟨_, rfl⟩
    rw [← hc0] at ho
    rw [← hc0]
    obtain ⟨G, hG⟩ : ∃ G : Nat → Nat → Int, G = fun i k => ent m.zs i k * v.zs.getD k 0 := ⟨_, rfl⟩
    rw [show apP (some (r, c)) m.zs v.zs = some ((List.range r).map fun i => sumN c (G i)) from by rw [hG]; exact if_pos (by rw [Rw.zs_len]; exact hc0.symm)]
    obtain ⟨g1, g2, g3, g4, g5, g6⟩ := mt_shp ho.symm
    obtain ⟨ro, oo, evm, hat⟩ := hm.at_ (show 0 < m.rs.length by omega)
    refine tr_rseq ?_   -- region 2
    refine sq_q (qt_move rfl) rfl ?_   -- t18
    refine sq_q (qt_not rfl) rfl ?_   -- t19
    refine sq_q (qt_move rfl) rfl ?_   -- t20
    refine sq_gT rfl rfl ?_
    refine sq_q (qt_move rfl) rfl ?_   -- t21
    refine sq_gT rfl rfl ?_
    refine sq_q (qt_len rfl) rfl ?_   -- t22
    refine sq_gT rfl rfl ?_
    refine sq_q (qt_move rfl) rfl ?_   -- t23
    refine sq_gT rfl rfl ?_
    refine sq_q (qt_bin rfl rfl (bF bin_neq (by simp only [Option.getD_some]; omega))) rfl ?_   -- t24
    refine sq_q (qt_pick rfl rfl) rfl ?_   -- t25
    refine sq_end ?_
    refine tr_ifF rfl ?_
    refine tr_skip ?_
    repeat (first | (with_reducible refine tr_skip ?_) | (with_reducible refine tr_exit ?_) | (with_reducible refine tr_then ?_) | (with_reducible refine tr_inX ?_) | (with_reducible refine tr_thenX ?_) | (with_reducible refine tr_inN ?_) | (with_reducible refine tr_inR ?_) | (with_reducible refine tr_thenR ?_))
    refine tr_rseq ?_   -- region 4
    refine sq_q (qt_assign rfl) rfl ?_   -- t9
    refine sq_end ?_
    refine tr_seq ?_   -- C2
    refine tr_rseq ?_   -- region 5
    refine sq_q (qt_move rfl) rfl ?_   -- t26
    refine sq_q (qt_len rfl) rfl ?_   -- t27
    refine sq_q (qt_move rfl) rfl ?_   -- t28
    refine sq_end ?_
    refine tr_block ?_
    refine tr_loop2 (fun (zs : List Zd) (q : Gr) => zs.length ≤ r ∧ zs.map Zd.z = ((List.range zs.length).map fun i => sumN c (G i)) ∧ (∀ z ∈ zs, z.can) ∧ grOk 2 zs.length (zcs zs) q) (fun zs q => [(1, v.v), (9, grV zs.length q), (26, .slice (some ⟨ro, oo, none⟩) m.rs.length m.p.2), (27, .int .i64 (r : Int)), (28, .int .i64 (zs.length : Int))]) (fun zs q => grO 35 (zcs zs) q) (fun zs q w => ∀ z ∈ zs, z.ok (B + B' + 16) w) (fun zs q => r - zs.length) [] none ⟨Nat.zero_le _, rfl, by simp, rfl, rfl⟩ ⟨rfl, rfl, congrArg some evm, congrArg (fun z => some (Value.int .i64 ((z : Nat) : Int))) g1, rfl, trivial⟩ rfl (fun w h => by simp) ?_
    rintro zs q ⟨hle, hzs, hcan, hok⟩
    refine tr_rseq ?_   -- region 6
    refine sq_q (qt_bin rfl rfl bin_lss) rfl ?_   -- t29
    refine sq_end ?_
    refine tr_seq ?_   -- C3
    refine tr_if rfl (fun hc => ?_) (fun hc => ?_)
    ·
      have hlt : zs.length < r := by have := of_decide_eq_true hc; omega
      have hmi : zs.length < m.rs.length := by omega
      have hcl := g6 _ (List.getElem_mem hmi)
      obtain ⟨X, hX⟩ : ∃ X, X = sumN c (G zs.length) := ⟨_, rfl⟩
      refine tr_skip ?_
      repeat (first | (with_reducible refine tr_skip ?_) | (with_reducible refine tr_exit ?_) | (with_reducible refine tr_then ?_) | (with_reducible refine tr_inX ?_) | (with_reducible refine tr_thenX ?_) | (with_reducible refine tr_inN ?_) | (with_reducible refine tr_inR ?_) | (with_reducible refine tr_thenR ?_))
      refine tr_seq ?_   -- C4
      refine tr_block ?_
      refine tr_rseq ?_   -- region 7
      refine sq_q (qt_index (i := zs.length) rfl rfl hmi) rfl ?_   -- t30
      refine sq_q (qt_load rfl (fun w t => t.a1 (hat zs.length hmi))) rfl ?_   -- t31
      refine sq_q (qt_assign rfl) rfl ?_   -- t11
      refine sq_end ?_
      refine tr_region ?_   -- region 8
      refine sq_q (qt_move rfl) rfl ?_   -- t32
      refine sq_q (qt_move rfl) rfl ?_   -- t33
      refine sq_q (qt_move rfl) rfl ?_   -- t34
      refine sq_call (iv X) (fun p w => Lz X.natAbs p w ∧ nl X.natAbs ≤ B + B' + 16) rfl rfl rfl (fun w t => by
        have h := fun S' => dot_ret m.rs[zs.length] v (G zs.length) B B' w S' (t.rw (hm.2.2 _ (List.getElem_mem hmi))) (t.rw hv) (by omega) (by omega) (by omega) hB (fun k hk hk' => by rw [hG]; show _ = ent m.zs zs.length k * v.zs.getD k 0; rw [mt_ent hmi hk, rw_ent hk'])
        rw [hcl, ← hX] at h
        exact (h _).imp fun p w h => ⟨h.1, by have := h.2; omega⟩) fun y => ?_   -- t35
      refine sq_lit (vs := [(0, iv X y)]) (cells := zcs [zd X y]) rfl rfl rfl (by simp [Instr.fill, Value.cells, iv, ig, zcs, Zd.cs, zd, show Array.range 2 = #[0, 1] from by decide]) rfl fun r36 => ?_   -- t36
      refine sq_own ((r36, .cells (zcs [zd X y]).toArray 35 (0, 0)) :: (grO 35 (zcs zs) q ++ [])) (by rw [List.append_nil]) ?_
      refine sq_grow (p := q) (k := zs.length) (m := 1) (xs := zcs zs) (news := zcs [zd X y]) (own' := []) rfl rfl hok rfl (by omega) (by omega) (by omega) rfl rfl rfl rfl fun q' hok' => ?_
      rw [List.append_nil]   -- t37
      refine sq_q (qt_assign rfl) rfl ?_   -- t9
      refine sq_nil ?_
      repeat (first | (with_reducible refine tr_skip ?_) | (with_reducible refine tr_exit ?_) | (with_reducible refine tr_then ?_) | (with_reducible refine tr_inX ?_) | (with_reducible refine tr_thenX ?_) | (with_reducible refine tr_inN ?_) | (with_reducible refine tr_inR ?_) | (with_reducible refine tr_thenR ?_))
      refine tr_region ?_   -- region 9
      refine sq_q (qt_bin rfl rfl (bin_addI (by omega) (by omega))) rfl ?_   -- t38
      refine sq_q (qt_move rfl) rfl ?_   -- t28
      refine sq_nil ?_
      repeat (first | (with_reducible refine tr_skip ?_) | (with_reducible refine tr_exit ?_) | (with_reducible refine tr_then ?_) | (with_reducible refine tr_inX ?_) | (with_reducible refine tr_thenX ?_) | (with_reducible refine tr_inN ?_) | (with_reducible refine tr_inR ?_) | (with_reducible refine tr_thenR ?_))
      have e3 : (zs ++ [zd X y]).length = zs.length + 1 := by simp
      refine tr_round2 (zs ++ [zd X y]) q' ⟨by omega, ?_, ?_, ?_⟩ (by omega) ⟨rfl, by rw [e3]; rfl, rfl, rfl, by rw [e3]; rfl, trivial⟩ (by rw [zcs_append]) (fun w h z hz => ?_)
      · rw [e3, List.range_succ, List.map_append, List.map_append, hzs]
        simp [zd_z, hX]
      · intro z hz
        rcases List.mem_append.1 hz with h | h
        · exact hcan z h
        · rw [List.mem_singleton.1 h]; exact zd_can _ _
      · rw [e3, zcs_append]; exact hok'
      · rcases List.mem_append.1 hz with h' | h'
        · exact h.1 z h'
        · rw [List.mem_singleton.1 h']; exact zd_ok h.2.1 h.2.2
    ·
      have hzn : zs.length = r := by have := of_decide_eq_false hc; omega
      refine tr_exit ?_
      repeat (first | (with_reducible refine tr_skip ?_) | (with_reducible refine tr_exit ?_) | (with_reducible refine tr_then ?_) | (with_reducible refine tr_inX ?_) | (with_reducible refine tr_thenX ?_) | (with_reducible refine tr_inN ?_) | (with_reducible refine tr_inR ?_) | (with_reducible refine tr_thenR ?_))
      refine tr_rseq ?_   -- region 10
      refine sq_q (qt_move rfl) rfl ?_   -- t39
      refine sq_q (qt_assign rfl) rfl ?_   -- t4
      refine sq_q (qt_assign rfl) rfl ?_   -- t5
      refine sq_end ?_
      refine tr_ret ?_
      repeat (first | (with_reducible refine tr_skip ?_) | (with_reducible refine tr_exit ?_) | (with_reducible refine tr_then ?_) | (with_reducible refine tr_inX ?_) | (with_reducible refine tr_thenX ?_) | (with_reducible refine tr_inN ?_) | (with_reducible refine tr_inR ?_) | (with_reducible refine tr_thenR ?_))
      refine tr_done ⟨zs, grP q⟩ (fun a w s t => results_2 rfl (resv_tmp s (by show some (grV zs.length q) = some (Rw.v ⟨zs, grP q⟩); rw [grP_v hok]; rfl)) (resv_tmp s rfl)) (fun w h ho _ => ⟨⟨(grP_rd hok ho).1, (grP_rd hok ho).2, h⟩, ?_, hcan⟩)
      show zs.map Zd.z = _
      rw [hzs, hzn]
      rfl
end Go.Qk
end
section
/- Matrices of machine integers: how they are read. -/
set_option linter.unusedVariables false
namespace Go.Qk
open Go Go.Proofs Go.RowKit
theorem Xm.zs_len (m : Xm) : m.zs.length = m.rs.length := by simp [Xm.zs]
theorem Xm.zs_at (m : Xm) {i : Nat} (h : i < m.rs.length) : m.zs[i]'(by rw [m.zs_len]; exact h) = m.rs[i].l := by simp [Xm.zs]
theorem Xm.ok.at_ {m : Xm} {w : World} (h : m.ok w) (h0 : 0 < m.rs.length) : ∃ r o, m.v = .slice (some ⟨r, o, none⟩) m.rs.length m.p.2 ∧ ∀ i (hi : i < m.rs.length), At r (o + i) (m.rs[i]).v w := by
  obtain ⟨r, o, e, ha⟩ := h.1.all (by simpa using h0)
  exact ⟨r, o, by unfold Xm.v; rw [e], fun i hi => ha i _ (by simp [hi])⟩
theorem Xr.ok.at_ {r : Xr} {w : World} (h : r.ok w) (h0 : 0 < r.l.length) : ∃ b o, r.v = .slice (some ⟨b, o, none⟩) r.l.length r.p.2 ∧ ∀ i (hi : i < r.l.length), At b (o + i) (.int .i64 r.l[i]) w := by
  obtain ⟨b, o, e, ha⟩ := h.1.all (by simpa [i64s] using h0)
  exact ⟨b, o, by unfold Xr.v; rw [e], fun i hi => ha i _ (by simp [i64s, hi])⟩
theorem xm_ent {m : Xm} {i j : Nat} (hi : i < m.rs.length) (hj : j < m.rs[i].l.length) : ent m.zs i j = m.rs[i].l[j] := by
  rw [ent_at (by rw [m.zs_len]; exact hi) (by rw [m.zs_at hi]; exact hj)]
  simp [m.zs_at hi]
theorem xm_shp {m : Xm} {r c : Nat} (h : shp m.zs = some (r, c)) : m.rs.length = r ∧ 1 ≤ r ∧ r ≤ 16 ∧ 1 ≤ c ∧ c ≤ 16 ∧ ∀ q ∈ m.rs, q.l.length = c := by
  obtain ⟨h1, h2, h3, h4, h5, h6⟩ := shp_inv h
  rw [m.zs_len] at h1
  exact ⟨h1, h2, h3, h4, h5, fun q hq => h6 q.l (List.mem_map.2 ⟨q, hq, rfl⟩)⟩
theorem Xm.ok.below {m : Xm} {w w' : World} (h : m.ok w) (hb : Below w.heap.size w w') : m.ok w' := ⟨h.1.below hb, h.2.1, fun r hr => ⟨(h.2.2 r hr).1.below hb, (h.2.2 r hr).2⟩⟩
def keepP (o : Option (Nat × Nat)) (L : List (List Int)) : Option (List (List Int)) := match o with
  | some rc => some (grid (ent L) rc.1 rc.2)
  | none => none
theorem keepP_eq (L : List (List Int)) : keepP (shp L) L = keepO L := by
  unfold keepO
  cases h : shp L with
  | none => rfl
  | some rc =>
    obtain ⟨r, c⟩ := rc
    obtain ⟨h1, h2, h3, h4, h5, h6⟩ := shp_inv h
    show some (grid (ent L) r c) = some L
    rw [grid_ent h1 h6]
def tiP (o : Option (Nat × Nat)) (L : List (List Int)) : Option (List (List Int)) := match o with
  | some rc => if (grid (ent L) rc.1 rc.2).all (fun q => q.all fun z => decide (In64 z)) = true then some (grid (ent L) rc.1 rc.2) else none
  | none => none
def tiO (L : List (List Int)) : Option (List (List Int)) := tiP (shp L) L
def xmV (o : Option (List (List Int))) (m : Xm) : Value := .tuple #[m.v, .bool o.isSome]
def xmF (o : Option (List (List Int))) (m : Xm) (w : World) : Prop := m.ok w ∧ m.zs = o.getD []
theorem xmF_none (w : World) : xmF none ⟨[], (none, 0)⟩ w := ⟨⟨Rd.nil _ _, Nat.le_refl _, by simp⟩, rfl⟩
theorem grid_all {f : Nat → Nat → Int} {r c : Nat} : (grid f r c).all (fun q => q.all fun z => decide (In64 z)) = true ↔ ∀ i, i < r → ∀ j, j < c → In64 (f i j) := by
  simp [grid]
theorem tiP_some {L : List (List Int)} {r c : Nat} (h : ∀ i, i < r → ∀ j, j < c → In64 (ent L i j)) : tiP (some (r, c)) L = some (grid (ent L) r c) := if_pos (grid_all.2 h)
theorem tiP_none {L : List (List Int)} {r c i j : Nat} (hi : i < r) (hj : j < c) (h : ¬ In64 (ent L i j)) : tiP (some (r, c)) L = none := if_neg fun hh => h (grid_all.1 hh i hi j hj)
theorem int64_zd {z : Zd} {B : Nat} {w : World} {S : Nat → Prop} (h : z.ok B w) (hB : B ≤ 35184372088832) : Ret Try.prog 85 [z.v] w S (fun _ : Unit => int64V z.z) (fun _ _ => True) :=
  int64_ret z.n z.xs z.p w S h.1 h.2.1 (by have := h.2.2; omega)
end Go.Qk
end
section
/- Matrices of machine integers. -/
set_option linter.unusedVariables false
namespace Go.Qk
open Go Go.Proofs Go.RowKit
set_option maxRecDepth 100000
set_option maxHeartbeats 4000000

theorem shape64_ret (m : Xm) (w0 : World) (S : Nat → Prop) (hm : m.ok w0) (hlen : m.rs.length ≤ 4611686018427387904) (hrow : ∀ r ∈ m.rs, r.l.length ≤ 4611686018427387904) :
    Ret Try.prog 99 [m.v] w0 S (fun _ : Unit => shpV (shp m.zs)) (fun _ _ => True) := by
  have hzl := m.zs_len
  refine ret_of Try.func99 rfl Try.ntmps99 rfl ?_
  refine tr_rseq ?_   -- region 0
  refine sq_q (qt_assign rfl) rfl ?_   -- t2
  refine sq_q (qt_assign rfl) rfl ?_   -- t3
  refine sq_q (qt_assign rfl) rfl ?_   -- t4
  refine sq_end ?_
  refine tr_seq ?_   -- C1
  have hcs : m.rs.length < 1 ∨ (1 ≤ m.rs.length ∧ 16 < m.rs.length) ∨ (∃ h : 0 < m.rs.length, m.rs.length ≤ 16 ∧ m.rs[0].l.length < 1) ∨ (∃ h : 0 < m.rs.length, m.rs.length ≤ 16 ∧ 1 ≤ m.rs[0].l.length ∧ 16 < m.rs[0].l.length) ∨ (∃ h : 0 < m.rs.length, m.rs.length ≤ 16 ∧ 1 ≤ m.rs[0].l.length ∧ m.rs[0].l.length ≤ 16) := by
    by_cases h : 0 < m.rs.length
    · by_cases h2 : m.rs.length ≤ 16
      · by_cases h3 : 1 ≤ m.rs[0].l.length
        · by_cases h4 : m.rs[0].l.length ≤ 16
          · exact .inr (.inr (.inr (.inr ⟨h, h2, h3, h4⟩)))
          · exact .inr (.inr (.inr (.inl ⟨h, h2, h3, by omega⟩)))
        · exact .inr (.inr (.inl ⟨h, h2, by omega⟩))
      · exact .inr (.inl ⟨by omega, by omega⟩)
    · exact .inl (by omega)
  rcases hcs with h1 | ⟨h1, h2⟩ | ⟨hp0, h2, g1⟩ | ⟨hp0, h2, g1, g2⟩ | ⟨hp0, h2, g1, g2⟩
  ·
    rw [shp_none_len (L := m.zs) (by omega)]
    refine tr_rseq ?_   -- region 1
    refine sq_q (qt_move rfl) rfl ?_   -- t7
    refine sq_q (qt_len rfl) rfl ?_   -- t8
    refine sq_q (qt_bin rfl rfl (bT bin_lss (by omega))) rfl ?_   -- t9
    refine sq_q (qt_move rfl) rfl ?_   -- t10
    refine sq_gF rfl rfl rfl rfl ?_
    refine sq_gF rfl rfl rfl rfl ?_
    refine sq_gF rfl rfl rfl rfl ?_
    refine sq_q (qt_pick rfl rfl) rfl ?_   -- t14
    refine sq_q (qt_move rfl) rfl ?_   -- t15
    refine sq_gF rfl rfl rfl rfl ?_
    refine sq_gF rfl rfl rfl rfl ?_
    refine sq_gF rfl rfl rfl rfl ?_
    refine sq_gF rfl rfl rfl rfl ?_
    refine sq_gF rfl rfl rfl rfl ?_
    refine sq_q (qt_pick rfl rfl) rfl ?_   -- t21
    refine sq_q (qt_move rfl) rfl ?_   -- t22
    refine sq_gF rfl rfl rfl rfl ?_
    refine sq_gF rfl rfl rfl rfl ?_
    refine sq_gF rfl rfl rfl rfl ?_
    refine sq_gF rfl rfl rfl rfl ?_
    refine sq_gF rfl rfl rfl rfl ?_
    refine sq_q (qt_pick rfl rfl) rfl ?_   -- t28
    refine sq_end ?_
    refine tr_ifT rfl ?_
    refine tr_rseq ?_   -- region 2
    refine sq_q (qt_assign rfl) rfl ?_   -- t2
    refine sq_q (qt_assign rfl) rfl ?_   -- t3
    refine sq_q (qt_assign rfl) rfl ?_   -- t4
    refine sq_end ?_
    refine tr_ret ?_
    repeat (first | (with_reducible refine tr_skip ?_) | (with_reducible refine tr_exit ?_) | (with_reducible refine tr_then ?_) | (with_reducible refine tr_inX ?_) | (with_reducible refine tr_thenX ?_) | (with_reducible refine tr_inN ?_) | (with_reducible refine tr_inR ?_) | (with_reducible refine tr_thenR ?_))
    exact tr_done () (fun a w s t => results_3 rfl (resv_tmp s rfl) (resv_tmp s rfl) (resv_tmp s rfl)) (fun w _ _ _ => trivial)
  ·
    rw [shp_none_len (L := m.zs) (by omega)]
    refine tr_rseq ?_   -- region 1
    refine sq_q (qt_move rfl) rfl ?_   -- t7
    refine sq_q (qt_len rfl) rfl ?_   -- t8
    refine sq_q (qt_bin rfl rfl (bF bin_lss (by omega))) rfl ?_   -- t9
    refine sq_q (qt_move rfl) rfl ?_   -- t10
    refine sq_gT rfl rfl ?_
    refine sq_q (qt_move rfl) rfl ?_   -- t11
    refine sq_gT rfl rfl ?_
    refine sq_q (qt_len rfl) rfl ?_   -- t12
    refine sq_gT rfl rfl ?_
    refine sq_q (qt_bin rfl rfl (bT bin_gtr (by omega))) rfl ?_   -- t13
    refine sq_q (qt_pick rfl rfl) rfl ?_   -- t14
    refine sq_q (qt_move rfl) rfl ?_   -- t15
    refine sq_gF rfl rfl rfl rfl ?_
    refine sq_gF rfl rfl rfl rfl ?_
    refine sq_gF rfl rfl rfl rfl ?_
    refine sq_gF rfl rfl rfl rfl ?_
    refine sq_gF rfl rfl rfl rfl ?_
    refine sq_q (qt_pick rfl rfl) rfl ?_   -- t21
    refine sq_q (qt_move rfl) rfl ?_   -- t22
    refine sq_gF rfl rfl rfl rfl ?_
    refine sq_gF rfl rfl rfl rfl ?_
    refine sq_gF rfl rfl rfl rfl ?_
    refine sq_gF rfl rfl rfl rfl ?_
    refine sq_gF rfl rfl rfl rfl ?_
    refine sq_q (qt_pick rfl rfl) rfl ?_   -- t28
    refine sq_end ?_
    refine tr_ifT rfl ?_
    refine tr_rseq ?_   -- region 2
    refine sq_q (qt_assign rfl) rfl ?_   -- t2
    refine sq_q (qt_assign rfl) rfl ?_   -- t3
    refine sq_q (qt_assign rfl) rfl ?_   -- t4
    refine sq_end ?_
    refine tr_ret ?_
    repeat (first | (with_reducible refine tr_skip ?_) | (with_reducible refine tr_exit ?_) | (with_reducible refine tr_then ?_) | (with_reducible refine tr_inX ?_) | (with_reducible refine tr_thenX ?_) | (with_reducible refine tr_inN ?_) | (with_reducible refine tr_inR ?_) | (with_reducible refine tr_thenR ?_))
    exact tr_done () (fun a w s t => results_3 rfl (resv_tmp s rfl) (resv_tmp s rfl) (resv_tmp s rfl)) (fun w _ _ _ => trivial)
  ·
    obtain ⟨ro, oo, evm, hat⟩ := hm.at_ hp0
    rw [evm]
    have hno0 : (m.rs[0].l.length < 1 ∨ 16 < m.rs[0].l.length) → shp m.zs = none := fun h => shp_none_row (k := 0) (by omega) (by omega) (by rw [m.zs_at hp0]; omega)
    have hr0 := hrow _ (List.getElem_mem hp0)
    rw [hno0 (.inl g1)]
    refine tr_rseq ?_   -- region 1
    refine sq_q (qt_move rfl) rfl ?_   -- t7
    refine sq_q (qt_len rfl) rfl ?_   -- t8
    refine sq_q (qt_bin rfl rfl (bF bin_lss (by omega))) rfl ?_   -- t9
    refine sq_q (qt_move rfl) rfl ?_   -- t10
    refine sq_gT rfl rfl ?_
    refine sq_q (qt_move rfl) rfl ?_   -- t11
    refine sq_gT rfl rfl ?_
    refine sq_q (qt_len rfl) rfl ?_   -- t12
    refine sq_gT rfl rfl ?_
    refine sq_q (qt_bin rfl rfl (bF bin_gtr (by omega))) rfl ?_   -- t13
    refine sq_q (qt_pick rfl rfl) rfl ?_   -- t14
    refine sq_q (qt_move rfl) rfl ?_   -- t15
    refine sq_gT rfl rfl ?_
    refine sq_q (qt_move rfl) rfl ?_   -- t16
    refine sq_gT rfl rfl ?_
    refine sq_q (qt_index (i := 0) rfl rfl hp0) rfl ?_   -- t17
    refine sq_gT rfl rfl ?_
    refine sq_q (qt_load rfl (fun w t => t.a1 (hat 0 hp0))) rfl ?_   -- t18
    refine sq_gT rfl rfl ?_
    refine sq_q (qt_len rfl) rfl ?_   -- t19
    refine sq_gT rfl rfl ?_
    refine sq_q (qt_bin rfl rfl (bT bin_lss (by omega))) rfl ?_   -- t20
    refine sq_q (qt_pick rfl rfl) rfl ?_   -- t21
    refine sq_q (qt_move rfl) rfl ?_   -- t22
    refine sq_gF rfl rfl rfl rfl ?_
    refine sq_gF rfl rfl rfl rfl ?_
    refine sq_gF rfl rfl rfl rfl ?_
    refine sq_gF rfl rfl rfl rfl ?_
    refine sq_gF rfl rfl rfl rfl ?_
    refine sq_q (qt_pick rfl rfl) rfl ?_   -- t28
    refine sq_end ?_
    refine tr_ifT rfl ?_
    refine tr_rseq ?_   -- region 2
    refine sq_q (qt_assign rfl) rfl ?_   -- t2
    refine sq_q (qt_assign rfl) rfl ?_   -- t3
    refine sq_q (qt_assign rfl) rfl ?_   -- t4
    refine sq_end ?_
    refine tr_ret ?_
    repeat (first | (with_reducible refine tr_skip ?_) | (with_reducible refine tr_exit ?_) | (with_reducible refine tr_then ?_) | (with_reducible refine tr_inX ?_) | (with_reducible refine tr_thenX ?_) | (with_reducible refine tr_inN ?_) | (with_reducible refine tr_inR ?_) | (with_reducible refine tr_thenR ?_))
    exact tr_done () (fun a w s t => results_3 rfl (resv_tmp s rfl) (resv_tmp s rfl) (resv_tmp s rfl)) (fun w _ _ _ => trivial)
  ·
    obtain ⟨ro, oo, evm, hat⟩ := hm.at_ hp0
    rw [evm]
    have hno0 : (m.rs[0].l.length < 1 ∨ 16 < m.rs[0].l.length) → shp m.zs = none := fun h => shp_none_row (k := 0) (by omega) (by omega) (by rw [m.zs_at hp0]; omega)
    have hr0 := hrow _ (List.getElem_mem hp0)
    rw [hno0 (.inr g2)]
    refine tr_rseq ?_   -- region 1
    refine sq_q (qt_move rfl) rfl ?_   -- t7
    refine sq_q (qt_len rfl) rfl ?_   -- t8
    refine sq_q (qt_bin rfl rfl (bF bin_lss (by omega))) rfl ?_   -- t9
    refine sq_q (qt_move rfl) rfl ?_   -- t10
    refine sq_gT rfl rfl ?_
    refine sq_q (qt_move rfl) rfl ?_   -- t11
    refine sq_gT rfl rfl ?_
    refine sq_q (qt_len rfl) rfl ?_   -- t12
    refine sq_gT rfl rfl ?_
    refine sq_q (qt_bin rfl rfl (bF bin_gtr (by omega))) rfl ?_   -- t13
    refine sq_q (qt_pick rfl rfl) rfl ?_   -- t14
    refine sq_q (qt_move rfl) rfl ?_   -- t15
    refine sq_gT rfl rfl ?_
    refine sq_q (qt_move rfl) rfl ?_   -- t16
    refine sq_gT rfl rfl ?_
    refine sq_q (qt_index (i := 0) rfl rfl hp0) rfl ?_   -- t17
    refine sq_gT rfl rfl ?_
    refine sq_q (qt_load rfl (fun w t => t.a1 (hat 0 hp0))) rfl ?_   -- t18
    refine sq_gT rfl rfl ?_
    refine sq_q (qt_len rfl) rfl ?_   -- t19
    refine sq_gT rfl rfl ?_
    refine sq_q (qt_bin rfl rfl (bF bin_lss (by omega))) rfl ?_   -- t20
    refine sq_q (qt_pick rfl rfl) rfl ?_   -- t21
    refine sq_q (qt_move rfl) rfl ?_   -- t22
    refine sq_gT rfl rfl ?_
    refine sq_q (qt_move rfl) rfl ?_   -- t23
    refine sq_gT rfl rfl ?_
    refine sq_q (qt_index (i := 0) rfl rfl hp0) rfl ?_   -- t24
    refine sq_gT rfl rfl ?_
    refine sq_q (qt_load rfl (fun w t => t.a1 (hat 0 hp0))) rfl ?_   -- t25
    refine sq_gT rfl rfl ?_
    refine sq_q (qt_len rfl) rfl ?_   -- t26
    refine sq_gT rfl rfl ?_
    refine sq_q (qt_bin rfl rfl (bT bin_gtr (by omega))) rfl ?_   -- t27
    refine sq_q (qt_pick rfl rfl) rfl ?_   -- t28
    refine sq_end ?_
    refine tr_ifT rfl ?_
    refine tr_rseq ?_   -- region 2
    refine sq_q (qt_assign rfl) rfl ?_   -- t2
    refine sq_q (qt_assign rfl) rfl ?_   -- t3
    refine sq_q (qt_assign rfl) rfl ?_   -- t4
    refine sq_end ?_
    refine tr_ret ?_
    repeat (first | (with_reducible refine tr_skip ?_) | (with_reducible refine tr_exit ?_) | (with_reducible refine tr_then ?_) | (with_reducible refine tr_inX ?_) | (with_reducible refine tr_thenX ?_) | (with_reducible refine tr_inN ?_) | (with_reducible refine tr_inR ?_) | (with_reducible refine tr_thenR ?_))
    exact tr_done () (fun a w s t => results_3 rfl (resv_tmp s rfl) (resv_tmp s rfl) (resv_tmp s rfl)) (fun w _ _ _ => trivial)
  ·
    obtain ⟨ro, oo, evm, hat⟩ := hm.at_ hp0
    rw [evm]
    have hno0 : (m.rs[0].l.length < 1 ∨ 16 < m.rs[0].l.length) → shp m.zs = none := fun h => shp_none_row (k := 0) (by omega) (by omega) (by rw [m.zs_at hp0]; omega)
    have hr0 := hrow _ (List.getElem_mem hp0)
    refine tr_rseq ?_   -- region 1
    refine sq_q (qt_move rfl) rfl ?_   -- t7
    refine sq_q (qt_len rfl) rfl ?_   -- t8
    refine sq_q (qt_bin rfl rfl (bF bin_lss (by omega))) rfl ?_   -- t9
    refine sq_q (qt_move rfl) rfl ?_   -- t10
    refine sq_gT rfl rfl ?_
    refine sq_q (qt_move rfl) rfl ?_   -- t11
    refine sq_gT rfl rfl ?_
    refine sq_q (qt_len rfl) rfl ?_   -- t12
    refine sq_gT rfl rfl ?_
    refine sq_q (qt_bin rfl rfl (bF bin_gtr (by omega))) rfl ?_   -- t13
    refine sq_q (qt_pick rfl rfl) rfl ?_   -- t14
    refine sq_q (qt_move rfl) rfl ?_   -- t15
    refine sq_gT rfl rfl ?_
    refine sq_q (qt_move rfl) rfl ?_   -- t16
    refine sq_gT rfl rfl ?_
    refine sq_q (qt_index (i := 0) rfl rfl hp0) rfl ?_   -- t17
    refine sq_gT rfl rfl ?_
    refine sq_q (qt_load rfl (fun w t => t.a1 (hat 0 hp0))) rfl ?_   -- t18
    refine sq_gT rfl rfl ?_
    refine sq_q (qt_len rfl) rfl ?_   -- t19
    refine sq_gT rfl rfl ?_
    refine sq_q (qt_bin rfl rfl (bF bin_lss (by omega))) rfl ?_   -- t20
    refine sq_q (qt_pick rfl rfl) rfl ?_   -- t21
    refine sq_q (qt_move rfl) rfl ?_   -- t22
    refine sq_gT rfl rfl ?_
    refine sq_q (qt_move rfl) rfl ?_   -- t23
    refine sq_gT rfl rfl ?_
    refine sq_q (qt_index (i := 0) rfl rfl hp0) rfl ?_   -- t24
    refine sq_gT rfl rfl ?_
    refine sq_q (qt_load rfl (fun w t => t.a1 (hat 0 hp0))) rfl ?_   -- t25
    refine sq_gT rfl rfl ?_
    refine sq_q (qt_len rfl) rfl ?_   -- t26
    refine sq_gT rfl rfl ?_
    refine sq_q (qt_bin rfl rfl (bF bin_gtr (by omega))) rfl ?_   -- t27
    refine sq_q (qt_pick rfl rfl) rfl ?_   -- t28
    refine sq_end ?_
    refine tr_ifF rfl ?_
    refine tr_skip ?_
    repeat (first | (with_reducible refine tr_skip ?_) | (with_reducible refine tr_exit ?_) | (with_reducible refine tr_then ?_) | (with_reducible refine tr_inX ?_) | (with_reducible refine tr_thenX ?_) | (with_reducible refine tr_inN ?_) | (with_reducible refine tr_inR ?_) | (with_reducible refine tr_thenR ?_))
    refine tr_seq ?_   -- C2
    refine tr_rseq ?_   -- region 3
    refine sq_q (qt_move rfl) rfl ?_   -- t29
    refine sq_q (qt_len rfl) rfl ?_   -- t30
    refine sq_q (qt_move rfl) rfl ?_   -- t31
    refine sq_end ?_
    refine tr_block ?_
    refine tr_loop (fun k : Nat => k ≤ m.rs.length ∧ ∀ i (h : i < m.rs.length), i < k → m.rs[i].l.length = m.rs[0].l.length) (fun k => [(0, .slice (some ⟨ro, oo, none⟩) m.rs.length m.p.2), (29, .slice (some ⟨ro, oo, none⟩) m.rs.length m.p.2), (30, .int .i64 (m.rs.length : Int)), (31, .int .i64 (k : Int))]) (fun _ => []) (fun _ _ => True) (fun k => m.rs.length - k) 0 ⟨Nat.zero_le _, fun i _ h => by omega⟩ ⟨rfl, rfl, rfl, rfl, trivial⟩ rfl (fun _ _ => trivial) ?_
    rintro k ⟨hk, hall⟩
    refine tr_rseq ?_   -- region 4
    refine sq_q (qt_bin rfl rfl bin_lss) rfl ?_   -- t32
    refine sq_end ?_
    refine tr_seq ?_   -- C3
    refine tr_if rfl (fun hc => ?_) (fun hc => ?_)
    ·
      have hlt : k < m.rs.length := by have := of_decide_eq_true hc; omega
      have hrk := hrow _ (List.getElem_mem hlt)
      refine tr_skip ?_
      repeat (first | (with_reducible refine tr_skip ?_) | (with_reducible refine tr_exit ?_) | (with_reducible refine tr_then ?_) | (with_reducible refine tr_inX ?_) | (with_reducible refine tr_thenX ?_) | (with_reducible refine tr_inN ?_) | (with_reducible refine tr_inR ?_) | (with_reducible refine tr_thenR ?_))
      refine tr_seq ?_   -- C4
      refine tr_block ?_
      refine tr_rseq ?_   -- region 5
      refine sq_q (qt_index (i := k) rfl rfl hlt) rfl ?_   -- t33
      refine sq_q (qt_load rfl (fun w t => t.a1 (hat k hlt))) rfl ?_   -- t34
      refine sq_q (qt_assign rfl) rfl ?_   -- t6
      refine sq_end ?_
      refine tr_rseq ?_   -- region 6
      refine sq_q (qt_move rfl) rfl ?_   -- t35
      refine sq_q (qt_len rfl) rfl ?_   -- t36
      refine sq_q (qt_move rfl) rfl ?_   -- t37
      refine sq_q (qt_index (i := 0) rfl rfl hp0) rfl ?_   -- t38
      refine sq_q (qt_load rfl (fun w t => t.a1 (hat 0 hp0))) rfl ?_   -- t39
      refine sq_q (qt_len rfl) rfl ?_   -- t40
      refine sq_q (qt_bin rfl rfl bin_neq) rfl ?_   -- t41
      refine sq_end ?_
      refine tr_if rfl (fun hc => ?_) (fun hc => ?_)
      ·
        have hne : m.rs[k].l.length ≠ m.rs[0].l.length := by have := of_decide_eq_true hc; omega
        rw [shp_none_row (L := m.zs) (k := k) (by omega) (by omega) (by rw [m.zs_at hlt, m.zs_at hp0]; exact .inr (.inr hne))]
        refine tr_rseq ?_   -- region 7
        refine sq_q (qt_assign rfl) rfl ?_   -- t2
        refine sq_q (qt_assign rfl) rfl ?_   -- t3
        refine sq_q (qt_assign rfl) rfl ?_   -- t4
        refine sq_end ?_
        refine tr_ret ?_
        repeat (first | (with_reducible refine tr_skip ?_) | (with_reducible refine tr_exit ?_) | (with_reducible refine tr_then ?_) | (with_reducible refine tr_inX ?_) | (with_reducible refine tr_thenX ?_) | (with_reducible refine tr_inN ?_) | (with_reducible refine tr_inR ?_) | (with_reducible refine tr_thenR ?_))
        exact tr_done () (fun a w s t => results_3 rfl (resv_tmp s rfl) (resv_tmp s rfl) (resv_tmp s rfl)) (fun w _ _ _ => trivial)
      ·
        have heq : m.rs[k].l.length = m.rs[0].l.length := by have := of_decide_eq_false hc; omega
        refine tr_skip ?_
        repeat (first | (with_reducible refine tr_skip ?_) | (with_reducible refine tr_exit ?_) | (with_reducible refine tr_then ?_) | (with_reducible refine tr_inX ?_) | (with_reducible refine tr_thenX ?_) | (with_reducible refine tr_inN ?_) | (with_reducible refine tr_inR ?_) | (with_reducible refine tr_thenR ?_))
        refine tr_region ?_   -- region 8
        refine sq_q (qt_bin rfl rfl (bin_addI (by omega) (by omega))) rfl ?_   -- t42
        refine sq_q (qt_move rfl) rfl ?_   -- t31
        refine sq_nil ?_
        repeat (first | (with_reducible refine tr_skip ?_) | (with_reducible refine tr_exit ?_) | (with_reducible refine tr_then ?_) | (with_reducible refine tr_inX ?_) | (with_reducible refine tr_thenX ?_) | (with_reducible refine tr_inN ?_) | (with_reducible refine tr_inR ?_) | (with_reducible refine tr_thenR ?_))
        refine tr_round (k + 1) ⟨by omega, fun i h hi => ?_⟩ (by omega) ⟨rfl, rfl, rfl, rfl, trivial⟩ rfl (fun _ h => h)
        by_cases e : i = k
        · subst e; exact heq
        · exact hall i h (by omega)
    ·
      have hkm : k = m.rs.length := by have := of_decide_eq_false hc; omega
      rw [shp_some (L := m.zs) (by omega) (by omega) (by rw [m.zs_at hp0]; exact g1) (by rw [m.zs_at hp0]; exact g2) (fun i hi => by rw [m.zs_at (by omega), m.zs_at hp0]; exact hall i (by omega) (by omega))]
      rw [m.zs_at hp0, m.zs_len]
      refine tr_exit ?_
      repeat (first | (with_reducible refine tr_skip ?_) | (with_reducible refine tr_exit ?_) | (with_reducible refine tr_then ?_) | (with_reducible refine tr_inX ?_) | (with_reducible refine tr_thenX ?_) | (with_reducible refine tr_inN ?_) | (with_reducible refine tr_inR ?_) | (with_reducible refine tr_thenR ?_))
      refine tr_rdraw0 [0, 2, 3, 4, 6, 28, 29, 30, 31, 32, 41] (by kernel_rfl) ?_   -- region 9
      refine dx_q rfl (qt_move rfl) rfl ?_   -- t43
      refine dx_q rfl (qt_len rfl) rfl ?_   -- t44
      refine dx_q rfl (qt_move rfl) rfl ?_   -- t45
      refine dx_q rfl (qt_index (i := 0) rfl rfl hp0) rfl ?_   -- t46
      refine dx_q rfl (qt_load rfl (fun w t => t.a1 (hat 0 hp0))) rfl ?_   -- t47
      refine dx_q rfl (qt_len rfl) rfl ?_   -- t48
      refine dx_q rfl (qt_assign rfl) rfl ?_   -- t2
      refine dx_q rfl (qt_assign rfl) rfl ?_   -- t3
      refine dx_q rfl (qt_assign rfl) rfl ?_   -- t4
      refine dx_nil ?_
      repeat (first | refine es_val rfl ?_ rfl | refine es_res rfl (fun x => ?_) rfl | refine es_skip rfl ?_)
      refine es_nil rfl ?_
      refine tx_endk ?_
      refine tr_ret ?_
      repeat (first | (with_reducible refine tr_skip ?_) | (with_reducible refine tr_exit ?_) | (with_reducible refine tr_then ?_) | (with_reducible refine tr_inX ?_) | (with_reducible refine tr_thenX ?_) | (with_reducible refine tr_inN ?_) | (with_reducible refine tr_inR ?_) | (with_reducible refine tr_thenR ?_))
      exact tr_done () (fun a w s t => results_3 rfl (resv_tmp s rfl) (resv_tmp s rfl) (resv_tmp s rfl)) (fun w _ _ _ => trivial)

theorem fromints1_ret (m : Xm) (b2 i j : Nat) (w : World) (S : Nat → Prop) (hm : m.ok w) (h2 : At b2 0 m.v w) (hi : i < m.rs.length) (hj : j < m.rs[i].l.length) :
    Ret Try.prog 100 [.int .i64 (i : Int), .int .i64 (j : Int), .pointer (some ⟨b2, 0, none⟩)] w S (iv (ent m.zs i j)) (fun p w => Lz (ent m.zs i j).natAbs p w ∧ nl (ent m.zs i j).natAbs ≤ 2) := by
  obtain ⟨ro, oo, evm, hat⟩ := hm.at_ (show 0 < m.rs.length by omega)
  obtain ⟨rr, orr, evr, hatr⟩ := (hm.2.2 _ (List.getElem_mem hi)).at_ (show 0 < m.rs[i].l.length by omega)
  rw [evm] at h2
  have hr := hat i hi
  rw [evr] at hr
  have hz := hatr j hj
  have hin := (hm.2.2 _ (List.getElem_mem hi)).2.2 _ (List.getElem_mem hj)
  rw [xm_ent hi hj]
  obtain ⟨x, hx⟩ : ∃ x, x = m.rs[i].l[j] := ⟨_, rfl⟩
  rw [← hx] at hz hin ⊢
  have hbd := nl_64 hin
  unfold In64 at hin
  refine ret_of Try.func100 rfl Try.ntmps100 rfl ?_
  refine tr_rseq ?_   -- region 0
  refine sq_alloc rfl fun r5 => ?_   -- t5
  refine sq_end ?_
  refine tr_rseq ?_   -- region 1
  refine sq_q (qt_load rfl (fun w t => t.atA h2)) rfl ?_   -- t6
  refine sq_q (qt_move rfl) rfl ?_   -- t7
  refine sq_q (qt_index (i := i) rfl rfl hi) rfl ?_   -- t8
  refine sq_q (qt_load rfl (fun w t => t.a1 hr)) rfl ?_   -- t9
  refine sq_q (qt_move rfl) rfl ?_   -- t10
  refine sq_q (qt_index (i := j) rfl rfl hj) rfl ?_   -- t11
  refine sq_q (qt_load (v := .int .i64 x) rfl (fun w t => t.a1 hz)) rfl ?_   -- t12
  refine sq_call (iv x) (Lz x.natAbs) rfl rfl rfl (fun w t => small_ret x w _ (by omega) (by omega)) fun y => ?_   -- t13
  refine sq_store 0 rfl rfl rfl rfl (Nat.le_refl 2) rfl rfl ?_   -- R1.8
  refine sq_end ?_
  refine tr_ret ?_
  repeat (first | (with_reducible refine tr_skip ?_) | (with_reducible refine tr_exit ?_) | (with_reducible refine tr_then ?_) | (with_reducible refine tr_inX ?_) | (with_reducible refine tr_thenX ?_) | (with_reducible refine tr_inN ?_) | (with_reducible refine tr_inR ?_) | (with_reducible refine tr_thenR ?_))
  exact tr_done y (fun a w s t => results_1 rfl (resv_cell 0 s t rfl rfl rfl)) (fun w h _ _ => ⟨h.2, hbd⟩)

theorem fromints_ret (m : Xm) (w0 : World) (S : Nat → Prop) (hm : m.ok w0) (hl : m.rs.length ≤ 4611686018427387904) (hr : ∀ r ∈ m.rs, r.l.length ≤ 4611686018427387904) :
    Ret Try.prog 57 [m.v] w0 S (optV (keepO m.zs)) (optF 2 (keepO m.zs)) := by
  obtain ⟨o, ho⟩ : ∃ o, o = shp m.zs := ⟨_, rfl⟩
  have hO : keepO m.zs = keepP o m.zs := by rw [ho]; exact (keepP_eq _).symm
  rw [hO]
  clear hO
  refine ret_of Try.func57 rfl Try.ntmps57 rfl ?_
  refine tr_rseq ?_   -- region 0
  refine sq_box rfl rfl fun r1 => ?_   -- t1
  refine sq_q (qt_assign rfl) rfl ?_   -- t2
  refine sq_q (qt_assign rfl) rfl ?_   -- t3
  refine sq_end ?_
  refine tr_rseq ?_   -- region 1
  refine sq_q (qt_load rfl (fun w t => t.atO 0 rfl rfl)) rfl ?_   -- t8
  refine sq_call (val := fun _ : Unit => shpV o) (F := fun _ _ => True) rfl rfl rfl (fun w t => by rw [ho]; exact shape64_ret m w _ (t.xm hm) hl hr) fun _ => ?_   -- t9
  refine sq_q (qt_move rfl) rfl ?_   -- t7
  refine sq_q (qt_extract rfl rfl) rfl ?_   -- t10
  refine sq_q (qt_extract rfl rfl) rfl ?_   -- t11
  refine sq_q (qt_extract rfl rfl) rfl ?_   -- t12
  refine sq_q (qt_assign rfl) rfl ?_   -- t4
  refine sq_q (qt_assign rfl) rfl ?_   -- t5
  refine sq_q (qt_assign rfl) rfl ?_   -- t6
  refine sq_end ?_
  refine tr_seq ?_   -- C1
  rcases (show o = none ∨ ∃ r c, o = some (r, c) by cases o with | none => exact .inl rfl | some x => exact .inr ⟨x.1, x.2, rfl⟩) with h1 | ⟨r, c, h1⟩
  ·
    subst h1
    rw [show keepP none m.zs = none from rfl]
    refine tr_rseq ?_   -- region 2
    refine sq_q (qt_move rfl) rfl ?_   -- t13
    refine sq_q (qt_not rfl) rfl ?_   -- t14
    refine sq_end ?_
    refine tr_ifT rfl ?_
    refine tr_rseq ?_   -- region 3
    refine sq_q (qt_assign rfl) rfl ?_   -- t2
    refine sq_q (qt_assign rfl) rfl ?_   -- t3
    refine sq_end ?_
    refine tr_ret ?_
    repeat (first | (with_reducible refine tr_skip ?_) | (with_reducible refine tr_exit ?_) | (with_reducible refine tr_then ?_) | (with_reducible refine tr_inX ?_) | (with_reducible refine tr_thenX ?_) | (with_reducible refine tr_inN ?_) | (with_reducible refine tr_inR ?_) | (with_reducible refine tr_thenR ?_))
    exact tr_done ⟨[], (none, 0)⟩ (fun a w s t => results_2 rfl (resv_tmp s rfl) (resv_tmp s rfl)) (fun w _ _ _ => optF_none _ _)
  ·
    subst h1
    rw [show keepP (some (r, c)) m.zs = some (grid (ent m.zs) r c) from rfl]
    obtain ⟨g1, g2, g3, g4, g5, g6⟩ := xm_shp ho.symm
    refine tr_rseq ?_   -- region 2
    refine sq_q (qt_move rfl) rfl ?_   -- t13
    refine sq_q (qt_not rfl) rfl ?_   -- t14
    refine sq_end ?_
    refine tr_ifF rfl ?_
    refine tr_skip ?_
    repeat (first | (with_reducible refine tr_skip ?_) | (with_reducible refine tr_exit ?_) | (with_reducible refine tr_then ?_) | (with_reducible refine tr_inX ?_) | (with_reducible refine tr_thenX ?_) | (with_reducible refine tr_inN ?_) | (with_reducible refine tr_inR ?_) | (with_reducible refine tr_thenR ?_))
    refine tr_rseq ?_   -- region 4
    refine sq_q (qt_move rfl) rfl ?_   -- t15
    refine sq_q (qt_move rfl) rfl ?_   -- t16
    refine sq_q (qt_makeFunc rfl) rfl ?_   -- t17
    refine sq_call Mt.v (fun x w => x.ok 2 w ∧ x.zs = grid (ent m.zs) r c ∧ x.can) rfl rfl rfl (fun w t => ?_) fun x => ?_
    · exact build_ret r c 2 (ent m.zs) 100 [] [.pointer (some ⟨r1, 0, none⟩)] w _ (by omega) (by omega) (fun i j w' S' hi hj hbel => fromints1_ret m r1 i j w' S' ((t.xm hm).below hbel) ((t.atO 0 rfl rfl).below hbel) (by omega) (by rw [g6 _ (List.getElem_mem _)]; exact hj))   -- t18
    refine sq_q (qt_assign rfl) rfl ?_   -- t2
    refine sq_q (qt_assign rfl) rfl ?_   -- t3
    refine sq_end ?_
    refine tr_ret ?_
    repeat (first | (with_reducible refine tr_skip ?_) | (with_reducible refine tr_exit ?_) | (with_reducible refine tr_then ?_) | (with_reducible refine tr_inX ?_) | (with_reducible refine tr_thenX ?_) | (with_reducible refine tr_inN ?_) | (with_reducible refine tr_inR ?_) | (with_reducible refine tr_thenR ?_))
    exact tr_done x (fun a w s t => results_2 rfl (resv_tmp s rfl) (resv_tmp s rfl)) (fun w h _ _ => h.2)
end Go.Qk
end
section
/- ToInts. -/
set_option linter.unusedVariables false
namespace Go.Qk
open Go Go.Proofs Go.RowKit
set_option maxRecDepth 100000
set_option maxHeartbeats 4000000

theorem toints_ret (m : Mt) (B : Nat) (w0 : World) (S : Nat → Prop) (hm : m.ok B w0) (hB : B ≤ 35184372088832) (hl : m.rs.length ≤ 35184372088832) (hr : ∀ r ∈ m.rs, r.l.length ≤ 35184372088832) :
    Ret Try.prog 54 [m.v] w0 S (xmV (tiO m.zs)) (xmF (tiO m.zs)) := by
  obtain ⟨o, ho⟩ : ∃ o, o = shp m.zs := ⟨_, rfl⟩
  have hO : tiO m.zs = tiP o m.zs := by rw [ho]; rfl
  rw [hO]
  clear hO
  refine ret_of Try.func54 rfl Try.ntmps54 rfl ?_
  refine tr_rseq ?_   -- region 0
  refine sq_q (qt_assign rfl) rfl ?_   -- t2
  refine sq_q (qt_assign rfl) rfl ?_   -- t3
  refine sq_end ?_
  refine tr_rseq ?_   -- region 1
  refine sq_q (qt_move rfl) rfl ?_   -- t13
  refine sq_call (val := fun _ : Unit => shpV o) (F := fun _ _ => True) rfl rfl rfl (fun w t => by rw [ho]; exact shape_ret m B w _ (t.mt hm) hl hr) fun _ => ?_   -- t14
  refine sq_q (qt_move rfl) rfl ?_   -- t12
  refine sq_q (qt_extract rfl rfl) rfl ?_   -- t15
  refine sq_q (qt_extract rfl rfl) rfl ?_   -- t16
  refine sq_q (qt_extract rfl rfl) rfl ?_   -- t17
  refine sq_q (qt_assign rfl) rfl ?_   -- t4
  refine sq_q (qt_assign rfl) rfl ?_   -- t5
  refine sq_q (qt_assign rfl) rfl ?_   -- t6
  refine sq_end ?_
  refine tr_seq ?_   -- C1
  rcases (show o = none ∨ ∃ r c, o = some (r, c) by cases o with | none => exact .inl rfl | some x => exact .inr ⟨x.1, x.2, rfl⟩) with h1 | ⟨r, c, h1⟩
  ·
    subst h1
    rw [show tiP none m.zs = none from rfl]
    refine tr_rseq ?_   -- region 2
    refine sq_q (qt_move rfl) rfl ?_   -- t18
    refine sq_q (qt_not rfl) rfl ?_   -- t19
    refine sq_end ?_
    refine tr_ifT rfl ?_
    refine tr_rseq ?_   -- region 3
    refine sq_q (qt_assign rfl) rfl ?_   -- t2
    refine sq_q (qt_assign rfl) rfl ?_   -- t3
    refine sq_end ?_
    refine tr_ret ?_
    repeat (first | (with_reducible refine tr_skip ?_) | (with_reducible refine tr_exit ?_) | (with_reducible refine tr_then ?_) | (with_reducible refine tr_inX ?_) | (with_reducible refine tr_thenX ?_) | (with_reducible refine tr_inN ?_) | (with_reducible refine tr_inR ?_) | (with_reducible refine tr_thenR ?_))
    exact tr_done ⟨[], (none, 0)⟩ (fun a w s t => results_2 rfl (resv_tmp s rfl) (resv_tmp s rfl)) (fun w _ _ _ => xmF_none _)
  ·
    subst h1
    obtain ⟨g1, g2, g3, g4, g5, g6⟩ := mt_shp ho.symm
    obtain ⟨ro, oo, evm, hat⟩ := hm.at_ (show 0 < m.rs.length by omega)
    refine tr_rseq ?_   -- region 2
    refine sq_q (qt_move rfl) rfl ?_   -- t18
    refine sq_q (qt_not rfl) rfl ?_   -- t19
    refine sq_end ?_
    refine tr_ifF rfl ?_
    refine tr_skip ?_
    repeat (first | (with_reducible refine tr_skip ?_) | (with_reducible refine tr_exit ?_) | (with_reducible refine tr_then ?_) | (with_reducible refine tr_inX ?_) | (with_reducible refine tr_thenX ?_) | (with_reducible refine tr_inN ?_) | (with_reducible refine tr_inR ?_) | (with_reducible refine tr_thenR ?_))
    refine tr_rseq ?_   -- region 4
    refine sq_q (qt_move rfl) rfl ?_   -- t20
    refine sq_make (c := r) rfl rfl (by omega) (by omega) rfl fun r21 => ?_   -- t21
    refine sq_q (qt_assign rfl) rfl ?_   -- t7
    refine sq_end ?_
    refine tr_seq ?_   -- C2
    refine tr_rseq ?_   -- region 5
    refine sq_q (qt_move rfl) rfl ?_   -- t22
    refine sq_q (qt_len rfl) rfl ?_   -- t23
    refine sq_q (qt_move rfl) rfl ?_   -- t24
    refine sq_end ?_
    refine tr_block ?_
    refine tr_loop (fun done : List Xr => done.length ≤ r ∧ (done.map Xr.l = (List.range done.length).map fun i => (List.range c).map fun j => ent m.zs i j) ∧ ∀ i, i < done.length → ∀ j, j < c → In64 (ent m.zs i j))
      (fun done => [(0, .slice (some ⟨ro, oo, none⟩) m.rs.length m.p.2), (5, .int .i64 (c : Int)), (7, .slice (some ⟨r21, 0, none⟩) r r), (23, .int .i64 (r : Int)), (24, .int .i64 (done.length : Int))])
      (fun done => [(r21, .cells (done.map Xr.v ++ List.replicate (r - done.length) (Value.slice none 0 0)).toArray 71 (0, 0))])
      (fun done w => ∀ q ∈ done, q.ok w) (fun done => r - done.length) [] ⟨Nat.zero_le _, rfl, fun i h => absurd h (Nat.not_lt_zero _)⟩ ⟨congrArg some evm, rfl, rfl, rfl, rfl, trivial⟩ (by rw [made_s]; simp) (fun _ _ => by simp) ?_
    rintro done ⟨hle, hzd, hfit⟩
    refine tr_rseq ?_   -- region 6
    refine sq_q (qt_bin rfl rfl bin_lss) rfl ?_   -- t25
    refine sq_end ?_
    refine tr_seq ?_   -- C3
    refine tr_if rfl (fun hc => ?_) (fun hc => ?_)
    ·
      have hlt : done.length < r := by have := of_decide_eq_true hc; omega
      have hmi : done.length < m.rs.length := by omega
      have hcl := g6 _ (List.getElem_mem hmi)
      obtain ⟨rr, orr, evr, hatr⟩ := (hm.2.2 _ (List.getElem_mem hmi)).at_ (show 0 < m.rs[done.length].l.length by omega)
      have hrw := hat done.length hmi
      rw [evr] at hrw
      refine tr_skip ?_
      repeat (first | (with_reducible refine tr_skip ?_) | (with_reducible refine tr_exit ?_) | (with_reducible refine tr_then ?_) | (with_reducible refine tr_inX ?_) | (with_reducible refine tr_thenX ?_) | (with_reducible refine tr_inN ?_) | (with_reducible refine tr_inR ?_) | (with_reducible refine tr_thenR ?_))
      refine tr_seq ?_   -- C4
      refine tr_block ?_
      refine tr_rseq ?_   -- region 7
      refine sq_q (qt_move rfl) rfl ?_   -- t26
      refine sq_q (qt_assign rfl) rfl ?_   -- t8
      refine sq_end ?_
      refine tr_rseq ?_   -- region 8
      refine sq_q (qt_move rfl) rfl ?_   -- t27
      refine sq_q (qt_move rfl) rfl ?_   -- t28
      refine sq_q (qt_move rfl) rfl ?_   -- t29
      refine sq_make (c := c) rfl rfl (by omega) (by omega) rfl fun r30 => ?_   -- t30
      refine sq_q (qt_index (i := done.length) rfl rfl hlt) rfl ?_   -- t31
      refine sq_store 1 rfl rfl rfl rfl (by simp [Value.cells]; omega) rfl rfl ?_   -- R8.5
      refine sq_end ?_
      obtain ⟨kk, hkk⟩ : ∃ kk, r - done.length = kk + 1 := ⟨r - done.length - 1, by omega⟩
      have hkk' : r - (done.length + 1) = kk := by omega
      have hset : wr (done.map Xr.v ++ List.replicate (kk + 1) (Value.slice none 0 0)) (0 + done.length * 1) [Value.slice (some ⟨r30, 0, none⟩) c c] = (done.map Xr.v ++ [Value.slice (some ⟨r30, 0, none⟩) c c]) ++ List.replicate kk (Value.slice none 0 0) := by
        have := next_set (done.map Xr.v) kk (Value.slice none 0 0) (.slice (some ⟨r30, 0, none⟩) c c)
        rw [List.length_map] at this
        rw [← this, Nat.zero_add, Nat.mul_one]
        rfl
      have hget : ((done.map Xr.v ++ [Value.slice (some ⟨r30, 0, none⟩) c c]) ++ List.replicate kk (Value.slice none 0 0))[done.length]? = some (.slice (some ⟨r30, 0, none⟩) c c) := by simp [List.getElem?_append]
      refine tr_own [(r30, .cells (i64s (List.replicate c 0)).toArray 2 (0, 0)), (r21, .cells ((done.map Xr.v ++ [Value.slice (some ⟨r30, 0, none⟩) c c]) ++ List.replicate kk (Value.slice none 0 0)).toArray 71 (0, 0))] (by rw [← hset, ← hkk, ← made_i64]; rfl) ?_
      refine tr_rseq ?_   -- region 9
      refine sq_q (qt_move rfl) rfl ?_   -- t32
      refine sq_q (qt_move rfl) rfl ?_   -- t33
      refine sq_q (qt_index (i := done.length) rfl rfl hlt) rfl ?_   -- t34
      refine sq_q (qt_load rfl (fun w t => t.o1 1 rfl hget)) rfl ?_   -- t35
      refine sq_q (qt_len rfl) rfl ?_   -- t36
      refine sq_q (qt_move rfl) rfl ?_   -- t37
      refine sq_end ?_
      refine tr_block ?_
      refine tr_loop (fun vs : List Int => vs.length ≤ c ∧ (vs = (List.range vs.length).map fun j => ent m.zs done.length j) ∧ ∀ j, j < vs.length → In64 (ent m.zs done.length j))
        (fun vs => [(0, .slice (some ⟨ro, oo, none⟩) m.rs.length m.p.2), (5, .int .i64 (c : Int)), (7, .slice (some ⟨r21, 0, none⟩) r r), (8, .int .i64 (done.length : Int)), (23, .int .i64 (r : Int)), (24, .int .i64 (done.length : Int)), (36, .int .i64 (c : Int)), (37, .int .i64 (vs.length : Int))])
        (fun vs => [(r30, .cells (i64s (vs ++ List.replicate (c - vs.length) 0)).toArray 2 (0, 0)), (r21, .cells ((done.map Xr.v ++ [Value.slice (some ⟨r30, 0, none⟩) c c]) ++ List.replicate kk (Value.slice none 0 0)).toArray 71 (0, 0))])
        (fun vs w => ∀ q ∈ done, q.ok w) (fun vs => c - vs.length) [] ⟨Nat.zero_le _, rfl, fun j h => absurd h (Nat.not_lt_zero _)⟩ ⟨rfl, rfl, rfl, rfl, rfl, rfl, rfl, rfl, trivial⟩ rfl (fun _ h => h) ?_
      rintro vs ⟨hvl, hvs, hvf⟩
      refine tr_rseq ?_   -- region 10
      refine sq_q (qt_bin rfl rfl bin_lss) rfl ?_   -- t38
      refine sq_end ?_
      refine tr_seq ?_   -- C5
      refine tr_if rfl (fun hc => ?_) (fun hc => ?_)
      ·
        have hlt2 : vs.length < c := by have := of_decide_eq_true hc; omega
        have hjl : vs.length < m.rs[done.length].l.length := by omega
        obtain ⟨hz0, hz1⟩ := hatr _ hjl
        have hzok := (hm.2.2 _ (List.getElem_mem hmi)).2.2 _ (List.getElem_mem hjl)
        have hze := mt_ent hmi hjl
        obtain ⟨z, hzz⟩ : ∃ z, z = m.rs[done.length].l[vs.length] := ⟨_, rfl⟩
        rw [← hzz] at hz0 hz1 hzok hze
        refine tr_skip ?_
        repeat (first | (with_reducible refine tr_skip ?_) | (with_reducible refine tr_exit ?_) | (with_reducible refine tr_then ?_) | (with_reducible refine tr_inX ?_) | (with_reducible refine tr_thenX ?_) | (with_reducible refine tr_inN ?_) | (with_reducible refine tr_inR ?_) | (with_reducible refine tr_thenR ?_))
        refine tr_seq ?_   -- C6
        refine tr_block ?_
        refine tr_rseq ?_   -- region 11
        refine sq_q (qt_move rfl) rfl ?_   -- t39
        refine sq_q (qt_assign rfl) rfl ?_   -- t9
        refine sq_end ?_
        rcases Decidable.em (In64 z.z) with hin | hin
        ·
          refine tr_rseq ?_   -- region 12
          refine sq_q (qt_move rfl) rfl ?_   -- t41
          refine sq_q (qt_move rfl) rfl ?_   -- t42
          refine sq_q (qt_index (i := done.length) rfl rfl hmi) rfl ?_   -- t43
          refine sq_q (qt_load rfl (fun w t => t.a1 hrw)) rfl ?_   -- t44
          refine sq_q (qt_move rfl) rfl ?_   -- t45
          refine sq_q (qt_index (i := vs.length) rfl rfl hjl) rfl ?_   -- t46
          refine sq_q (qt_load2 rfl (fun w t => t.atA hz0) (fun w t => t.atA hz1)) rfl ?_   -- t47
          refine sq_call (val := fun _ : Unit => .tuple #[.int .i64 z.z, .bool true]) (F := fun _ _ => True) rfl rfl rfl (fun w t => by have h := fun S' => int64_zd (S := S') (t.zd hzok) hB; unfold int64V at h; rw [if_pos hin, decide_eq_true hin] at h; exact h _) fun _ => ?_   -- t48
          refine sq_q (qt_move rfl) rfl ?_   -- t40
          refine sq_q (qt_extract rfl rfl) rfl ?_   -- t49
          refine sq_q (qt_extract rfl rfl) rfl ?_   -- t50
          refine sq_q (qt_assign rfl) rfl ?_   -- t10
          refine sq_q (qt_assign rfl) rfl ?_   -- t11
          refine sq_end ?_
          refine tr_seq ?_   -- C7
          refine tr_rseq ?_   -- region 13
          refine sq_q (qt_move rfl) rfl ?_   -- t51
          refine sq_q (qt_not rfl) rfl ?_   -- t52
          refine sq_end ?_
          refine tr_ifF rfl ?_
          refine tr_skip ?_
          repeat (first | (with_reducible refine tr_skip ?_) | (with_reducible refine tr_exit ?_) | (with_reducible refine tr_then ?_) | (with_reducible refine tr_inX ?_) | (with_reducible refine tr_thenX ?_) | (with_reducible refine tr_inN ?_) | (with_reducible refine tr_inR ?_) | (with_reducible refine tr_thenR ?_))
          refine tr_region ?_   -- region 15
          refine sq_q (qt_move rfl) rfl ?_   -- t53
          refine sq_q (qt_move rfl) rfl ?_   -- t54
          refine sq_q (qt_index (i := done.length) rfl rfl hlt) rfl ?_   -- t55
          refine sq_q (qt_load rfl (fun w t => t.o1 1 rfl hget)) rfl ?_   -- t56
          refine sq_q (qt_move rfl) rfl ?_   -- t57
          refine sq_q (qt_move rfl) rfl ?_   -- t58
          refine sq_q (qt_index (i := vs.length) rfl rfl hlt2) rfl ?_   -- t59
          refine sq_store 0 rfl rfl rfl rfl (show 0 + vs.length * 1 + 1 ≤ (i64s (vs ++ List.replicate (c - vs.length) 0)).length by simp [i64s]; omega) rfl rfl ?_   -- R15.7
          refine sq_nil ?_
          repeat (first | (with_reducible refine tr_skip ?_) | (with_reducible refine tr_exit ?_) | (with_reducible refine tr_then ?_) | (with_reducible refine tr_inX ?_) | (with_reducible refine tr_thenX ?_) | (with_reducible refine tr_inN ?_) | (with_reducible refine tr_inR ?_) | (with_reducible refine tr_thenR ?_))
          refine tr_region ?_   -- region 16
          refine sq_q (qt_bin rfl rfl (bin_addI (by omega) (by omega))) rfl ?_   -- t60
          refine sq_q (qt_move rfl) rfl ?_   -- t37
          refine sq_nil ?_
          repeat (first | (with_reducible refine tr_skip ?_) | (with_reducible refine tr_exit ?_) | (with_reducible refine tr_then ?_) | (with_reducible refine tr_inX ?_) | (with_reducible refine tr_thenX ?_) | (with_reducible refine tr_inN ?_) | (with_reducible refine tr_inR ?_) | (with_reducible refine tr_thenR ?_))
          refine tr_own [(r30, .cells (i64s ((vs ++ [z.z]) ++ List.replicate (c - (vs.length + 1)) 0)).toArray 2 (0, 0)), (r21, .cells ((done.map Xr.v ++ [Value.slice (some ⟨r30, 0, none⟩) c c]) ++ List.replicate kk (Value.slice none 0 0)).toArray 71 (0, 0))] ?_ ?_
          · refine own1c ?_
            have e : c - vs.length = (c - (vs.length + 1)) + 1 := by omega
            have := next_set vs (c - (vs.length + 1)) 0 z.z
            rw [← e] at this
            rw [← this, ← i64s_set, Nat.zero_add, Nat.mul_one]
            rfl
          refine tr_round (vs ++ [z.z]) ⟨by simp; omega, ?_, fun j hj => ?_⟩ (by simp; omega) ⟨rfl, rfl, rfl, rfl, rfl, rfl, rfl, by rw [List.length_append]; rfl, trivial⟩ (by rw [List.length_append, List.length_singleton]) (fun _ h => h.1)
          · rw [List.length_append, List.length_singleton, List.range_succ, List.map_append, ← hvs, ← hze]
            rfl
          · rw [List.length_append, List.length_singleton] at hj
            by_cases h : j = vs.length
            · rw [h, hze]; exact hin
            · exact hvf j (by omega)
        ·
          refine tr_rseq ?_   -- region 12
          refine sq_q (qt_move rfl) rfl ?_   -- t41
          refine sq_q (qt_move rfl) rfl ?_   -- t42
          refine sq_q (qt_index (i := done.length) rfl rfl hmi) rfl ?_   -- t43
          refine sq_q (qt_load rfl (fun w t => t.a1 hrw)) rfl ?_   -- t44
          refine sq_q (qt_move rfl) rfl ?_   -- t45
          refine sq_q (qt_index (i := vs.length) rfl rfl hjl) rfl ?_   -- t46
          refine sq_q (qt_load2 rfl (fun w t => t.atA hz0) (fun w t => t.atA hz1)) rfl ?_   -- t47
          refine sq_call (val := fun _ : Unit => .tuple #[.int .i64 0, .bool false]) (F := fun _ _ => True) rfl rfl rfl (fun w t => by have h := fun S' => int64_zd (S := S') (t.zd hzok) hB; unfold int64V at h; rw [if_neg hin, decide_eq_false hin] at h; exact h _) fun _ => ?_   -- t48
          refine sq_q (qt_move rfl) rfl ?_   -- t40
          refine sq_q (qt_extract rfl rfl) rfl ?_   -- t49
          refine sq_q (qt_extract rfl rfl) rfl ?_   -- t50
          refine sq_q (qt_assign rfl) rfl ?_   -- t10
          refine sq_q (qt_assign rfl) rfl ?_   -- t11
          refine sq_end ?_
          refine tr_seq ?_   -- C8
          refine tr_rseq ?_   -- region 13
          refine sq_q (qt_move rfl) rfl ?_   -- t51
          refine sq_q (qt_not rfl) rfl ?_   -- t52
          refine sq_end ?_
          refine tr_ifT rfl ?_
          refine tr_rseq ?_   -- region 14
          refine sq_q (qt_assign rfl) rfl ?_   -- t2
          refine sq_q (qt_assign rfl) rfl ?_   -- t3
          refine sq_end ?_
          refine tr_ret ?_
          repeat (first | (with_reducible refine tr_skip ?_) | (with_reducible refine tr_exit ?_) | (with_reducible refine tr_then ?_) | (with_reducible refine tr_inX ?_) | (with_reducible refine tr_thenX ?_) | (with_reducible refine tr_inN ?_) | (with_reducible refine tr_inR ?_) | (with_reducible refine tr_thenR ?_))
          rw [tiP_none hlt hlt2 (by rw [hze]; exact hin)]
          exact tr_done ⟨[], (none, 0)⟩ (fun a w s t => results_2 rfl (resv_tmp s rfl) (resv_tmp s rfl)) (fun w _ _ _ => xmF_none _)
      ·
        have hve : vs.length = c := by have := of_decide_eq_false hc; omega
        refine tr_exit ?_
        repeat (first | (with_reducible refine tr_skip ?_) | (with_reducible refine tr_exit ?_) | (with_reducible refine tr_then ?_) | (with_reducible refine tr_inX ?_) | (with_reducible refine tr_thenX ?_) | (with_reducible refine tr_inN ?_) | (with_reducible refine tr_inR ?_) | (with_reducible refine tr_thenR ?_))
        refine tr_region ?_   -- region 17
        refine sq_q (qt_bin rfl rfl (bin_addI (by omega) (by omega))) rfl ?_   -- t61
        refine sq_q (qt_move rfl) rfl ?_   -- t24
        refine sq_nil ?_
        repeat (first | (with_reducible refine tr_skip ?_) | (with_reducible refine tr_exit ?_) | (with_reducible refine tr_then ?_) | (with_reducible refine tr_inX ?_) | (with_reducible refine tr_thenX ?_) | (with_reducible refine tr_inN ?_) | (with_reducible refine tr_inR ?_) | (with_reducible refine tr_thenR ?_))
        refine tr_retire ?_
        refine tr_round (done ++ [⟨vs, (some ⟨r30, 0, none⟩, c)⟩]) ⟨by simp; omega, ?_, fun i hi j hj => ?_⟩ (by simp; omega) ⟨rfl, rfl, rfl, rfl, by simp; rfl, trivial⟩ ?_ ?_
        · rw [List.length_append, List.length_singleton, List.range_succ, List.map_append, List.map_append, hzd, List.map_singleton, List.map_singleton]
          congr 2
          rw [← hve]
          exact hvs
        · rw [List.length_append, List.length_singleton] at hi
          by_cases h : i = done.length
          · rw [h]; exact hvf j (by omega)
          · exact hfit i (by omega) j hj
        · rw [List.length_append, List.length_singleton, hkk', List.map_append]
          simp only [List.map_cons, List.map_nil, Xr.v, hve]
        · rintro w ⟨h2, h3⟩ q hq
          rcases List.mem_append.1 hq with h | h
          · exact h2 q h
          · rw [List.mem_singleton.1 h]
            rw [hve, Nat.sub_self, List.replicate_zero, List.append_nil] at h3
            refine ⟨Rd.own h3, Nat.le_of_eq hve, fun a ha => ?_⟩
            have ha : a ∈ vs := ha
            rw [hvs] at ha
            obtain ⟨j, hj, rfl⟩ := List.mem_map.1 ha
            exact hvf j (List.mem_range.1 hj)
    ·
      have hlr : done.length = r := by have := of_decide_eq_false hc; omega
      have hall : tiP (some (r, c)) m.zs = some (grid (ent m.zs) r c) := tiP_some fun i hi j hj => hfit i (by omega) j hj
      rw [hall]
      refine tr_exit ?_
      repeat (first | (with_reducible refine tr_skip ?_) | (with_reducible refine tr_exit ?_) | (with_reducible refine tr_then ?_) | (with_reducible refine tr_inX ?_) | (with_reducible refine tr_thenX ?_) | (with_reducible refine tr_inN ?_) | (with_reducible refine tr_inR ?_) | (with_reducible refine tr_thenR ?_))
      refine tr_rseq ?_   -- region 18
      refine sq_q (qt_move rfl) rfl ?_   -- t62
      refine sq_q (qt_assign rfl) rfl ?_   -- t2
      refine sq_q (qt_assign rfl) rfl ?_   -- t3
      refine sq_end ?_
      refine tr_ret ?_
      repeat (first | (with_reducible refine tr_skip ?_) | (with_reducible refine tr_exit ?_) | (with_reducible refine tr_then ?_) | (with_reducible refine tr_inX ?_) | (with_reducible refine tr_thenX ?_) | (with_reducible refine tr_inN ?_) | (with_reducible refine tr_inR ?_) | (with_reducible refine tr_thenR ?_))
      refine tr_done ⟨done, (some ⟨r21, 0, none⟩, r)⟩ (fun a w s t => results_2 rfl (resv_tmp s ?_) (resv_tmp s rfl)) (fun w h ho _ => ⟨⟨?_, Nat.le_of_eq hlr, h⟩, ?_⟩)
      · show some (Value.slice (some ⟨r21, 0, none⟩) r r) = some (Xm.v ⟨done, (some ⟨r21, 0, none⟩, r)⟩)
        unfold Xm.v
        rw [hlr]
      · have := Rd.own (ho _ (ownAt_mem (i := 0) rfl))
        rwa [hlr, Nat.sub_self, List.replicate_zero, List.append_nil] at this
      · show done.map Xr.l = _
        rw [hzd, hlr]
        rfl
end Go.Qk
end
section
/- The reference's FromInts, for rows of any length. -/
set_option linter.unusedVariables false
namespace Go.Qk
open Go Go.Proofs Go.RowKit
set_option maxRecDepth 100000
set_option maxHeartbeats 4000000

theorem rfromints2_ret (m : Xm) (w0 : World) (S : Nat → Prop) (hm : m.ok w0) (hlen : m.rs.length ≤ 4611686018427387904) (hrow : ∀ r ∈ m.rs, r.l.length ≤ 4611686018427387904) :
    Ret Try.prog 58 [m.v] w0 S (optV (keepO m.zs)) (optF 2 (keepO m.zs)) := by
  have hzl : m.zs.length = m.rs.length := by simp [Xm.zs]
  have hzi : ∀ i (h : i < m.rs.length), m.zs[i]'(by omega) = m.rs[i].l := fun i h => by simp [Xm.zs]
  refine ret_of Try.func58 rfl Try.ntmps58 rfl ?_
  refine tr_rseq ?_   -- region 0
  refine sq_q (qt_assign rfl) rfl ?_   -- t2
  refine sq_q (qt_assign rfl) rfl ?_   -- t3
  refine sq_end ?_
  refine tr_seq ?_   -- C1
  have hcs : m.rs.length < 1 ∨ (1 ≤ m.rs.length ∧ 16 < m.rs.length) ∨ (1 ≤ m.rs.length ∧ m.rs.length ≤ 16) := by omega
  rcases hcs with h1 | ⟨h1, h2⟩ | ⟨h1, h2⟩
  ·
    have e : keepO m.zs = none := by unfold keepO; rw [shp_none_len (by omega)]; rfl
    rw [e]
    refine tr_rseq ?_   -- region 1
    refine sq_q (qt_move rfl) rfl ?_   -- t9
    refine sq_q (qt_len rfl) rfl ?_   -- t10
    refine sq_q (qt_bin rfl rfl (bT bin_lss (by omega))) rfl ?_   -- t11
    refine sq_q (qt_move rfl) rfl ?_   -- t12
    refine sq_gF rfl rfl rfl rfl ?_
    refine sq_gF rfl rfl rfl rfl ?_
    refine sq_gF rfl rfl rfl rfl ?_
    refine sq_q (qt_pick rfl rfl) rfl ?_   -- t16
    refine sq_end ?_
    refine tr_ifT rfl ?_
    refine tr_rseq ?_   -- region 2
    refine sq_q (qt_assign rfl) rfl ?_   -- t2
    refine sq_q (qt_assign rfl) rfl ?_   -- t3
    refine sq_end ?_
    refine tr_ret ?_
    repeat (first | (with_reducible refine tr_skip ?_) | (with_reducible refine tr_exit ?_) | (with_reducible refine tr_then ?_) | (with_reducible refine tr_inX ?_) | (with_reducible refine tr_thenX ?_) | (with_reducible refine tr_inN ?_) | (with_reducible refine tr_inR ?_) | (with_reducible refine tr_thenR ?_))
    exact tr_done ⟨[], (none, 0)⟩ (fun a w s t => results_2 rfl (resv_tmp s rfl) (resv_tmp s rfl)) (fun w _ _ _ => optF_none _ _)
  ·
    have e : keepO m.zs = none := by unfold keepO; rw [shp_none_len (by omega)]; rfl
    rw [e]
    refine tr_rseq ?_   -- region 1
    refine sq_q (qt_move rfl) rfl ?_   -- t9
    refine sq_q (qt_len rfl) rfl ?_   -- t10
    refine sq_q (qt_bin rfl rfl (bF bin_lss (by omega))) rfl ?_   -- t11
    refine sq_q (qt_move rfl) rfl ?_   -- t12
    refine sq_gT rfl rfl ?_
    refine sq_q (qt_move rfl) rfl ?_   -- t13
    refine sq_gT rfl rfl ?_
    refine sq_q (qt_len rfl) rfl ?_   -- t14
    refine sq_gT rfl rfl ?_
    refine sq_q (qt_bin rfl rfl (bT bin_gtr (by omega))) rfl ?_   -- t15
    refine sq_q (qt_pick rfl rfl) rfl ?_   -- t16
    refine sq_end ?_
    refine tr_ifT rfl ?_
    refine tr_rseq ?_   -- region 2
    refine sq_q (qt_assign rfl) rfl ?_   -- t2
    refine sq_q (qt_assign rfl) rfl ?_   -- t3
    refine sq_end ?_
    refine tr_ret ?_
    repeat (first | (with_reducible refine tr_skip ?_) | (with_reducible refine tr_exit ?_) | (with_reducible refine tr_then ?_) | (with_reducible refine tr_inX ?_) | (with_reducible refine tr_thenX ?_) | (with_reducible refine tr_inN ?_) | (with_reducible refine tr_inR ?_) | (with_reducible refine tr_thenR ?_))
    exact tr_done ⟨[], (none, 0)⟩ (fun a w s t => results_2 rfl (resv_tmp s rfl) (resv_tmp s rfl)) (fun w _ _ _ => optF_none _ _)
  ·
    refine tr_rseq ?_   -- region 1
    refine sq_q (qt_move rfl) rfl ?_   -- t9
    refine sq_q (qt_len rfl) rfl ?_   -- t10
    refine sq_q (qt_bin rfl rfl (bF bin_lss (by omega))) rfl ?_   -- t11
    refine sq_q (qt_move rfl) rfl ?_   -- t12
    refine sq_gT rfl rfl ?_
    refine sq_q (qt_move rfl) rfl ?_   -- t13
    refine sq_gT rfl rfl ?_
    refine sq_q (qt_len rfl) rfl ?_   -- t14
    refine sq_gT rfl rfl ?_
    refine sq_q (qt_bin rfl rfl (bF bin_gtr (by omega))) rfl ?_   -- t15
    refine sq_q (qt_pick rfl rfl) rfl ?_   -- t16
    refine sq_end ?_
    refine tr_ifF rfl ?_
    refine tr_skip ?_
    repeat (first | (with_reducible refine tr_skip ?_) | (with_reducible refine tr_exit ?_) | (with_reducible refine tr_then ?_) | (with_reducible refine tr_inX ?_) | (with_reducible refine tr_thenX ?_) | (with_reducible refine tr_inN ?_) | (with_reducible refine tr_inR ?_) | (with_reducible refine tr_thenR ?_))
    refine tr_seq ?_   -- C2
    have hp0 : 0 < m.rs.length := by omega
    obtain ⟨ro, oo, eo, ho0⟩ := hm.1.at_ (i := 0) (v := (m.rs[0]).v) (by simp [hp0])
    have hat : ∀ k (h : k < m.rs.length), At ro (oo + k) (m.rs[k]).v w0 := by
      intro k h
      obtain ⟨r', o', e', h'⟩ := hm.1.at_ (i := k) (v := (m.rs[k]).v) (by simp [h])
      rw [eo] at e'
      injection e' with e'
      injection e' with e1 e2 _
      subst e1 e2
      exact h'
    have evm : m.v = .slice (some ⟨ro, oo, none⟩) m.rs.length m.p.2 := by unfold Xm.v; rw [eo]
    rw [evm]
    refine tr_rseq ?_   -- region 3
    refine sq_q (qt_move rfl) rfl ?_   -- t17
    refine sq_q (qt_len rfl) rfl ?_   -- t18
    refine sq_q (qt_move rfl) rfl ?_   -- t19
    refine sq_end ?_
    refine tr_block ?_
    refine tr_loop (fun k : Nat => k ≤ m.rs.length ∧ ∀ i (h : i < m.rs.length), i < k → 1 ≤ m.rs[i].l.length ∧ m.rs[i].l.length ≤ 16 ∧ m.rs[i].l.length = m.rs[0].l.length) (fun k => [(0, .slice (some ⟨ro, oo, none⟩) m.rs.length m.p.2), (17, .slice (some ⟨ro, oo, none⟩) m.rs.length m.p.2), (18, .int .i64 (m.rs.length : Int)), (19, .int .i64 (k : Int))]) (fun _ => []) (fun _ _ => True) (fun k => m.rs.length - k) 0 ⟨Nat.zero_le _, fun i _ h => by omega⟩ ⟨rfl, rfl, rfl, rfl, trivial⟩ rfl (fun _ _ => trivial) ?_
    rintro k ⟨hk, hall⟩
    refine tr_rseq ?_   -- region 4
    refine sq_q (qt_bin rfl rfl bin_lss) rfl ?_   -- t20
    refine sq_end ?_
    refine tr_seq ?_   -- C3
    refine tr_if rfl (fun hc => ?_) (fun hc => ?_)
    ·
      have hlt : k < m.rs.length := by have := of_decide_eq_true hc; omega
      have hrk := hrow _ (List.getElem_mem hlt)
      have hr0 := hrow _ (List.getElem_mem hp0)
      refine tr_skip ?_
      repeat (first | (with_reducible refine tr_skip ?_) | (with_reducible refine tr_exit ?_) | (with_reducible refine tr_then ?_) | (with_reducible refine tr_inX ?_) | (with_reducible refine tr_thenX ?_) | (with_reducible refine tr_inN ?_) | (with_reducible refine tr_inR ?_) | (with_reducible refine tr_thenR ?_))
      refine tr_seq ?_   -- C4
      refine tr_block ?_
      refine tr_rseq ?_   -- region 5
      refine sq_q (qt_index (i := k) rfl rfl hlt) rfl ?_   -- t21
      refine sq_q (qt_load rfl (fun w t => t.a1 (hat k hlt))) rfl ?_   -- t22
      refine sq_q (qt_assign rfl) rfl ?_   -- t5
      refine sq_end ?_
      have hcs : m.rs[k].l.length < 1 ∨ (1 ≤ m.rs[k].l.length ∧ 16 < m.rs[k].l.length) ∨ ((1 ≤ m.rs[k].l.length ∧ m.rs[k].l.length ≤ 16) ∧ m.rs[k].l.length ≠ m.rs[0].l.length) ∨ ((1 ≤ m.rs[k].l.length ∧ m.rs[k].l.length ≤ 16) ∧ m.rs[k].l.length = m.rs[0].l.length) := by omega
      have hno : (m.rs[k].l.length < 1 ∨ 16 < m.rs[k].l.length ∨ m.rs[k].l.length ≠ m.rs[0].l.length) → keepO m.zs = none := fun h => by
        unfold keepO
        rw [shp_none_row (k := k) (by omega) (by omega) (by rw [hzi k hlt, hzi 0 hp0]; exact h)]
        rfl
      rcases hcs with g1 | ⟨g1, g2⟩ | ⟨⟨g1, g2⟩, g3⟩ | ⟨⟨g1, g2⟩, g3⟩
      ·
        rw [hno (.inl g1)]
        refine tr_rseq ?_   -- region 6
        refine sq_q (qt_move rfl) rfl ?_   -- t23
        refine sq_q (qt_len rfl) rfl ?_   -- t24
        refine sq_q (qt_bin rfl rfl (bT bin_lss (by omega))) rfl ?_   -- t25
        refine sq_q (qt_move rfl) rfl ?_   -- t26
        refine sq_gF rfl rfl rfl rfl ?_
        refine sq_gF rfl rfl rfl rfl ?_
        refine sq_gF rfl rfl rfl rfl ?_
        refine sq_q (qt_pick rfl rfl) rfl ?_   -- t30
        refine sq_q (qt_move rfl) rfl ?_   -- t31
        refine sq_gF rfl rfl rfl rfl ?_
        refine sq_gF rfl rfl rfl rfl ?_
        refine sq_gF rfl rfl rfl rfl ?_
        refine sq_gF rfl rfl rfl rfl ?_
        refine sq_gF rfl rfl rfl rfl ?_
        refine sq_gF rfl rfl rfl rfl ?_
        refine sq_gF rfl rfl rfl rfl ?_
        refine sq_q (qt_pick rfl rfl) rfl ?_   -- t39
        refine sq_end ?_
        refine tr_ifT rfl ?_
        refine tr_rseq ?_   -- region 7
        refine sq_q (qt_assign rfl) rfl ?_   -- t2
        refine sq_q (qt_assign rfl) rfl ?_   -- t3
        refine sq_end ?_
        refine tr_ret ?_
        repeat (first | (with_reducible refine tr_skip ?_) | (with_reducible refine tr_exit ?_) | (with_reducible refine tr_then ?_) | (with_reducible refine tr_inX ?_) | (with_reducible refine tr_thenX ?_) | (with_reducible refine tr_inN ?_) | (with_reducible refine tr_inR ?_) | (with_reducible refine tr_thenR ?_))
        exact tr_done ⟨[], (none, 0)⟩ (fun a w s t => results_2 rfl (resv_tmp s rfl) (resv_tmp s rfl)) (fun w _ _ _ => optF_none _ _)
      ·
        rw [hno (.inr (.inl g2))]
        refine tr_rseq ?_   -- region 6
        refine sq_q (qt_move rfl) rfl ?_   -- t23
        refine sq_q (qt_len rfl) rfl ?_   -- t24
        refine sq_q (qt_bin rfl rfl (bF bin_lss (by omega))) rfl ?_   -- t25
        refine sq_q (qt_move rfl) rfl ?_   -- t26
        refine sq_gT rfl rfl ?_
        refine sq_q (qt_move rfl) rfl ?_   -- t27
        refine sq_gT rfl rfl ?_
        refine sq_q (qt_len rfl) rfl ?_   -- t28
        refine sq_gT rfl rfl ?_
        refine sq_q (qt_bin rfl rfl (bT bin_gtr (by omega))) rfl ?_   -- t29
        refine sq_q (qt_pick rfl rfl) rfl ?_   -- t30
        refine sq_q (qt_move rfl) rfl ?_   -- t31
        refine sq_gF rfl rfl rfl rfl ?_
        refine sq_gF rfl rfl rfl rfl ?_
        refine sq_gF rfl rfl rfl rfl ?_
        refine sq_gF rfl rfl rfl rfl ?_
        refine sq_gF rfl rfl rfl rfl ?_
        refine sq_gF rfl rfl rfl rfl ?_
        refine sq_gF rfl rfl rfl rfl ?_
        refine sq_q (qt_pick rfl rfl) rfl ?_   -- t39
        refine sq_end ?_
        refine tr_ifT rfl ?_
        refine tr_rseq ?_   -- region 7
        refine sq_q (qt_assign rfl) rfl ?_   -- t2
        refine sq_q (qt_assign rfl) rfl ?_   -- t3
        refine sq_end ?_
        refine tr_ret ?_
        repeat (first | (with_reducible refine tr_skip ?_) | (with_reducible refine tr_exit ?_) | (with_reducible refine tr_then ?_) | (with_reducible refine tr_inX ?_) | (with_reducible refine tr_thenX ?_) | (with_reducible refine tr_inN ?_) | (with_reducible refine tr_inR ?_) | (with_reducible refine tr_thenR ?_))
        exact tr_done ⟨[], (none, 0)⟩ (fun a w s t => results_2 rfl (resv_tmp s rfl) (resv_tmp s rfl)) (fun w _ _ _ => optF_none _ _)
      ·
        rw [hno (.inr (.inr g3))]
        refine tr_rseq ?_   -- region 6
        refine sq_q (qt_move rfl) rfl ?_   -- t23
        refine sq_q (qt_len rfl) rfl ?_   -- t24
        refine sq_q (qt_bin rfl rfl (bF bin_lss (by omega))) rfl ?_   -- t25
        refine sq_q (qt_move rfl) rfl ?_   -- t26
        refine sq_gT rfl rfl ?_
        refine sq_q (qt_move rfl) rfl ?_   -- t27
        refine sq_gT rfl rfl ?_
        refine sq_q (qt_len rfl) rfl ?_   -- t28
        refine sq_gT rfl rfl ?_
        refine sq_q (qt_bin rfl rfl (bF bin_gtr (by omega))) rfl ?_   -- t29
        refine sq_q (qt_pick rfl rfl) rfl ?_   -- t30
        refine sq_q (qt_move rfl) rfl ?_   -- t31
        refine sq_gT rfl rfl ?_
        refine sq_q (qt_move rfl) rfl ?_   -- t32
        refine sq_gT rfl rfl ?_
        refine sq_q (qt_len rfl) rfl ?_   -- t33
        refine sq_gT rfl rfl ?_
        refine sq_q (qt_move rfl) rfl ?_   -- t34
        refine sq_gT rfl rfl ?_
        refine sq_q (qt_index (i := 0) rfl rfl hp0) rfl ?_   -- t35
        refine sq_gT rfl rfl ?_
        refine sq_q (qt_load rfl (fun w t => t.a1 (hat 0 hp0))) rfl ?_   -- t36
        refine sq_gT rfl rfl ?_
        refine sq_q (qt_len rfl) rfl ?_   -- t37
        refine sq_gT rfl rfl ?_
        refine sq_q (qt_bin rfl rfl (bT bin_neq (by omega))) rfl ?_   -- t38
        refine sq_q (qt_pick rfl rfl) rfl ?_   -- t39
        refine sq_end ?_
        refine tr_ifT rfl ?_
        refine tr_rseq ?_   -- region 7
        refine sq_q (qt_assign rfl) rfl ?_   -- t2
        refine sq_q (qt_assign rfl) rfl ?_   -- t3
        refine sq_end ?_
        refine tr_ret ?_
        repeat (first | (with_reducible refine tr_skip ?_) | (with_reducible refine tr_exit ?_) | (with_reducible refine tr_then ?_) | (with_reducible refine tr_inX ?_) | (with_reducible refine tr_thenX ?_) | (with_reducible refine tr_inN ?_) | (with_reducible refine tr_inR ?_) | (with_reducible refine tr_thenR ?_))
        exact tr_done ⟨[], (none, 0)⟩ (fun a w s t => results_2 rfl (resv_tmp s rfl) (resv_tmp s rfl)) (fun w _ _ _ => optF_none _ _)
      ·
        refine tr_rseq ?_   -- region 6
        refine sq_q (qt_move rfl) rfl ?_   -- t23
        refine sq_q (qt_len rfl) rfl ?_   -- t24
        refine sq_q (qt_bin rfl rfl (bF bin_lss (by omega))) rfl ?_   -- t25
        refine sq_q (qt_move rfl) rfl ?_   -- t26
        refine sq_gT rfl rfl ?_
        refine sq_q (qt_move rfl) rfl ?_   -- t27
        refine sq_gT rfl rfl ?_
        refine sq_q (qt_len rfl) rfl ?_   -- t28
        refine sq_gT rfl rfl ?_
        refine sq_q (qt_bin rfl rfl (bF bin_gtr (by omega))) rfl ?_   -- t29
        refine sq_q (qt_pick rfl rfl) rfl ?_   -- t30
        refine sq_q (qt_move rfl) rfl ?_   -- t31
        refine sq_gT rfl rfl ?_
        refine sq_q (qt_move rfl) rfl ?_   -- t32
        refine sq_gT rfl rfl ?_
        refine sq_q (qt_len rfl) rfl ?_   -- t33
        refine sq_gT rfl rfl ?_
        refine sq_q (qt_move rfl) rfl ?_   -- t34
        refine sq_gT rfl rfl ?_
        refine sq_q (qt_index (i := 0) rfl rfl hp0) rfl ?_   -- t35
        refine sq_gT rfl rfl ?_
        refine sq_q (qt_load rfl (fun w t => t.a1 (hat 0 hp0))) rfl ?_   -- t36
        refine sq_gT rfl rfl ?_
        refine sq_q (qt_len rfl) rfl ?_   -- t37
        refine sq_gT rfl rfl ?_
        refine sq_q (qt_bin rfl rfl (bF bin_neq (by omega))) rfl ?_   -- t38
        refine sq_q (qt_pick rfl rfl) rfl ?_   -- t39
        refine sq_end ?_
        refine tr_ifF rfl ?_
        refine tr_skip ?_
        repeat (first | (with_reducible refine tr_skip ?_) | (with_reducible refine tr_exit ?_) | (with_reducible refine tr_then ?_) | (with_reducible refine tr_inX ?_) | (with_reducible refine tr_thenX ?_) | (with_reducible refine tr_inN ?_) | (with_reducible refine tr_inR ?_) | (with_reducible refine tr_thenR ?_))
        refine tr_region ?_   -- region 8
        refine sq_q (qt_bin rfl rfl (bin_addI (by omega) (by omega))) rfl ?_   -- t40
        refine sq_q (qt_move rfl) rfl ?_   -- t19
        refine sq_nil ?_
        repeat (first | (with_reducible refine tr_skip ?_) | (with_reducible refine tr_exit ?_) | (with_reducible refine tr_then ?_) | (with_reducible refine tr_inX ?_) | (with_reducible refine tr_thenX ?_) | (with_reducible refine tr_inN ?_) | (with_reducible refine tr_inR ?_) | (with_reducible refine tr_thenR ?_))
        refine tr_round (k + 1) ⟨by omega, fun i h hi => ?_⟩ (by omega) ⟨rfl, rfl, rfl, rfl, trivial⟩ rfl (fun _ h => h)
        by_cases e : i = k
        · subst e; exact ⟨g1, g2, g3⟩
        · exact hall i h (by omega)
    ·
      have hkm : k = m.rs.length := by have := of_decide_eq_false hc; omega
      subst hkm
      obtain ⟨c, hcl⟩ : ∃ c, c = m.rs[0].l.length := ⟨_, rfl⟩
      have hrows : ∀ i (h : i < m.rs.length), m.rs[i].l.length = c := fun i h => by rw [hcl]; exact (hall i h h).2.2
      have hc1 : 1 ≤ c ∧ c ≤ 16 := by rw [hcl]; exact ⟨(hall 0 hp0 hp0).1, (hall 0 hp0 hp0).2.1⟩
      have hsome : keepO m.zs = some m.zs := by
        unfold keepO
        rw [shp_some (by omega) (by omega) (by rw [hzi 0 hp0]; omega) (by rw [hzi 0 hp0]; omega) (fun i hi => by rw [hzi i (by omega), hzi 0 hp0, hrows i (by omega), hcl])]
        rfl
      rw [hsome]
      obtain ⟨r, hr⟩ : ∃ r, r = m.rs.length := ⟨_, rfl⟩
      have hgrid : grid (ent m.zs) r c = m.zs := grid_ent (by omega) (fun q hq => by
        simp only [Xm.zs, List.mem_map] at hq
        obtain ⟨x, hx, rfl⟩ := hq
        obtain ⟨i, hi, rfl⟩ := List.getElem_of_mem hx
        exact hrows i hi)
      refine tr_exit ?_
      repeat (first | (with_reducible refine tr_skip ?_) | (with_reducible refine tr_exit ?_) | (with_reducible refine tr_then ?_) | (with_reducible refine tr_inX ?_) | (with_reducible refine tr_thenX ?_) | (with_reducible refine tr_inN ?_) | (with_reducible refine tr_inR ?_) | (with_reducible refine tr_thenR ?_))
      refine tr_rseq ?_   -- region 9
      refine sq_q (qt_move rfl) rfl ?_   -- t41
      refine sq_q (qt_len rfl) rfl ?_   -- t42
      refine sq_q (qt_move rfl) rfl ?_   -- t43
      refine sq_q (qt_index (i := 0) rfl rfl hp0) rfl ?_   -- t44
      refine sq_q (qt_load rfl (fun w t => t.a1 (hat 0 hp0))) rfl ?_   -- t45
      refine sq_q (qt_len rfl) rfl ?_   -- t46
      rw [← hcl, ← hr]
      refine sq_call (fun x : Nat × List Wr => .slice (some ⟨x.1, 0, none⟩) r r) (fun x w' => Fresh w0.heap.size (mown x.1 x.2) w' ∧ x.2.map (·.2) = List.replicate r (List.replicate c z0)) rfl rfl rfl (fun w t => zero_call t r c (by omega) (by omega)) fun x => ?_   -- t47
      refine sq_q (qt_assign rfl) rfl ?_   -- t6
      refine sq_end ?_
      obtain ⟨o, qs⟩ := x
      refine tr_have (fun w t => t.r.2.2) fun hqs => ?_
      refine tr_adopt0 (mown o qs) (fun w h => h.2.1) ?_
      refine tr_seq ?_   -- C5
      refine tr_rseq ?_   -- region 10
      refine sq_q (qt_move rfl) rfl ?_   -- t48
      refine sq_q (qt_len rfl) rfl ?_   -- t49
      refine sq_q (qt_move rfl) rfl ?_   -- t50
      refine sq_end ?_
      refine tr_block ?_
      refine tr_loop2 (fun (i : Nat) (qs : List Wr) => i ≤ r ∧ MG (fun a b => if a < i then ent m.zs a b else 0) r c qs ∧ allz Zd.can qs) (fun i qs => [(0, .slice (some ⟨ro, oo, none⟩) r m.p.2), (6, .slice (some ⟨o, 0, none⟩) r r), (49, .int .i64 (r : Int)), (50, .int .i64 (i : Int))])
        (fun i qs => mown o qs) (fun i qs w => allz (fun z => z.ok 2 w) qs) (fun i qs => r - i) 0 qs ⟨Nat.zero_le _, (MG.of_zero hqs).congr (fun a b _ _ => by rw [if_neg (by omega)]), allz.of_zero hqs z0_can⟩ ⟨by rw [hr]; rfl, rfl, by rw [hr]; rfl, rfl, trivial⟩ rfl (fun w _ => allz.of_zero hqs (z0_ok 2 w)) ?_
      clear hqs qs
      rintro i qs ⟨hle, hG, hcan⟩
      refine tr_rseq ?_   -- region 11
      refine sq_q (qt_bin rfl rfl bin_lss) rfl ?_   -- t51
      refine sq_end ?_
      refine tr_seq ?_   -- C6
      refine tr_if rfl (fun hc => ?_) (fun hc => ?_)
      ·
        have hlt : i < r := by have := of_decide_eq_true hc; omega
        have hli : i < m.rs.length := by omega
        have hlc := hrows i hli
        have hokr := hm.2.2 _ (List.getElem_mem hli)
        refine tr_skip ?_
        repeat (first | (with_reducible refine tr_skip ?_) | (with_reducible refine tr_exit ?_) | (with_reducible refine tr_then ?_) | (with_reducible refine tr_inX ?_) | (with_reducible refine tr_thenX ?_) | (with_reducible refine tr_inN ?_) | (with_reducible refine tr_inR ?_) | (with_reducible refine tr_thenR ?_))
        refine tr_seq ?_   -- C7
        refine tr_block ?_
        refine tr_rseq ?_   -- region 12
        refine sq_q (qt_move rfl) rfl ?_   -- t52
        refine sq_q (qt_assign rfl) rfl ?_   -- t7
        refine sq_end ?_
        refine tr_rseq ?_   -- region 13
        refine sq_q (qt_move rfl) rfl ?_   -- t53
        refine sq_q (qt_move rfl) rfl ?_   -- t54
        refine sq_q (qt_index (i := i) rfl rfl hlt) rfl ?_   -- t55
        refine sq_q (qt_load rfl (fun w t => t.a1 (hat i hli))) rfl ?_   -- t56
        refine sq_q (qt_len rfl) rfl ?_   -- t57
        refine sq_q (qt_move rfl) rfl ?_   -- t58
        refine sq_end ?_
        refine tr_block ?_
        refine tr_loop2 (fun (j : Nat) (qs : List Wr) => j ≤ c ∧ MG (fun a b => if a < i ∨ (a = i ∧ b < j) then ent m.zs a b else 0) r c qs ∧ allz Zd.can qs) (fun j qs => [(0, .slice (some ⟨ro, oo, none⟩) r m.p.2), (6, .slice (some ⟨o, 0, none⟩) r r), (7, .int .i64 (i : Int)), (49, .int .i64 (r : Int)), (50, .int .i64 (i : Int)), (57, .int .i64 (c : Int)), (58, .int .i64 (j : Int))])
          (fun j qs => mown o qs) (fun j qs w => allz (fun z => z.ok 2 w) qs) (fun j qs => c - j) 0 qs ⟨Nat.zero_le _, hG.congr (fun a b _ _ => by by_cases h : a < i <;> simp [h]), hcan⟩ ⟨rfl, rfl, rfl, rfl, rfl, by rw [← hlc]; rfl, rfl, trivial⟩ rfl (fun w h => h) ?_
        clear hG hcan qs
        rintro j qs ⟨hlj, hG, hcan⟩
        refine tr_rseq ?_   -- region 14
        refine sq_q (qt_bin rfl rfl bin_lss) rfl ?_   -- t59
        refine sq_end ?_
        refine tr_seq ?_   -- C8
        refine tr_if rfl (fun hc => ?_) (fun hc => ?_)
        ·
          have hltj : j < c := by have := of_decide_eq_true hc; omega
          have hljl : j < m.rs[i].l.length := by omega
          obtain ⟨q, hq, hql⟩ := hG.get hlt
          obtain ⟨rr, orr, er, hxat⟩ := hokr.1.at_ (i64s_get hljl)
          have h64 := hokr.2.2 _ (List.getElem_mem hljl)
          have hent : ent m.zs i j = m.rs[i].l[j] := by
            rw [ent_at (by omega) (by rw [hzi i hli]; exact hljl)]
            simp [hzi i hli]
          have evr : (m.rs[i]).v = .slice (some ⟨rr, orr, none⟩) m.rs[i].l.length m.rs[i].p.2 := by unfold Xr.v; rw [er]
          refine tr_skip ?_
          repeat (first | (with_reducible refine tr_skip ?_) | (with_reducible refine tr_exit ?_) | (with_reducible refine tr_then ?_) | (with_reducible refine tr_inX ?_) | (with_reducible refine tr_thenX ?_) | (with_reducible refine tr_inN ?_) | (with_reducible refine tr_inR ?_) | (with_reducible refine tr_thenR ?_))
          refine tr_seq ?_   -- C9
          refine tr_block ?_
          refine tr_rseq ?_   -- region 15
          refine sq_q (qt_move rfl) rfl ?_   -- t60
          refine sq_q (qt_assign rfl) rfl ?_   -- t8
          refine sq_end ?_
          refine tr_draw 13 [] [] [0, 2, 3, 5, 6, 7, 8, 16, 17, 18, 19, 20, 39, 49, 50, 51, 57, 58, 59, 64, 65, 73] (by kernel_rfl) ?_   -- region 16
          refine dx_q rfl (qt_move rfl) rfl ?_   -- t61
          refine dx_q rfl (qt_move rfl) rfl ?_   -- t62
          refine dx_q rfl (qt_index (i := i) rfl rfl hlt) rfl ?_   -- t63
          refine dx_q rfl (qt_load rfl (fun w t => t.o1 0 rfl (mout_get hq))) rfl ?_   -- t64
          refine dx_q rfl (qt_move rfl) rfl ?_   -- t65
          refine dx_q rfl (qt_move rfl) rfl ?_   -- t66
          refine dx_q rfl (qt_move rfl) rfl ?_   -- t67
          refine dx_q rfl (qt_index (i := i) rfl rfl hlt) rfl ?_   -- t68
          refine dx_q rfl (qt_load (v := .slice (some ⟨rr, orr, none⟩) m.rs[i].l.length m.rs[i].p.2) rfl (fun w t => by rw [← evr]; exact t.a1 (hat i hli))) rfl ?_   -- t69
          refine dx_q rfl (qt_move rfl) rfl ?_   -- t70
          refine dx_q rfl (qt_index (i := j) rfl rfl hljl) rfl ?_   -- t71
          refine dx_q rfl (qt_load rfl (fun w t => t.a1 hxat)) rfl ?_   -- t72
          refine dx_call (iv m.rs[i].l[j]) (Lz (m.rs[i].l[j]).natAbs) rfl rfl rfl (fun w t => rsmall_ret _ w _ h64.1 h64.2) ?_   -- t73
          refine dx_nil ?_
          repeat (first | refine es_val rfl ?_ rfl | refine es_res rfl (fun x => ?_) rfl | refine es_skip rfl ?_)
          refine es_nil rfl ?_
          refine tx_q (qt_index (i := j) rfl rfl (by omega)) rfl rfl rfl ?_   -- t74
          refine tx_store (i + 1) rfl rfl (mown_at hq) rfl (show 0 + j * 2 + 2 ≤ (zcs q.2).length by rw [zcs_length, hql]; omega) rfl rfl rfl ?_   -- _
          refine tx_end ?_
          repeat (first | (with_reducible refine tr_skip ?_) | (with_reducible refine tr_exit ?_) | (with_reducible refine tr_then ?_) | (with_reducible refine tr_inX ?_) | (with_reducible refine tr_thenX ?_) | (with_reducible refine tr_inN ?_) | (with_reducible refine tr_inR ?_) | (with_reducible refine tr_thenR ?_))
          refine tr_region ?_   -- region 17
          refine sq_q (qt_bin rfl rfl (bin_addI (by omega) (by omega))) rfl ?_   -- t75
          refine sq_q (qt_move rfl) rfl ?_   -- t58
          refine sq_nil ?_
          repeat (first | (with_reducible refine tr_skip ?_) | (with_reducible refine tr_exit ?_) | (with_reducible refine tr_then ?_) | (with_reducible refine tr_inX ?_) | (with_reducible refine tr_thenX ?_) | (with_reducible refine tr_inN ?_) | (with_reducible refine tr_inR ?_) | (with_reducible refine tr_thenR ?_))
          refine tr_own (mown o (qs.set i (q.1, q.2.set j (zd m.rs[i].l[j] x)))) (mown_wr (zd m.rs[i].l[j] x) hq (by omega)) ?_
          refine tr_round2 (j + 1) (qs.set i (q.1, q.2.set j (zd m.rs[i].l[j] x))) ⟨by omega, (hG.set hq (zd m.rs[i].l[j] x) _ (zd_z _ _)).congr (fun a b _ _ => ?_), hcan.set hq (zd_can _ _)⟩ (by omega) ⟨rfl, rfl, rfl, rfl, rfl, rfl, rfl, trivial⟩ rfl (fun w h => h.1.set hq (zd_ok h.2 (nl_64 h64)))
          unfold gset
          try dsimp only
          by_cases h : a = i ∧ b = j
          · rw [if_pos h, if_pos (by omega), ← hent, h.1, h.2]
          · rw [if_neg h]
            by_cases h' : a < i ∨ (a = i ∧ b < j)
            · rw [if_pos h', if_pos (by omega)]
            · rw [if_neg h', if_neg (by omega)]
        ·
          have hjc : j = c := by have := of_decide_eq_false hc; omega
          refine tr_exit ?_
          repeat (first | (with_reducible refine tr_skip ?_) | (with_reducible refine tr_exit ?_) | (with_reducible refine tr_then ?_) | (with_reducible refine tr_inX ?_) | (with_reducible refine tr_thenX ?_) | (with_reducible refine tr_inN ?_) | (with_reducible refine tr_inR ?_) | (with_reducible refine tr_thenR ?_))
          refine tr_region ?_   -- region 18
          refine sq_q (qt_bin rfl rfl (bin_addI (by omega) (by omega))) rfl ?_   -- t76
          refine sq_q (qt_move rfl) rfl ?_   -- t50
          refine sq_nil ?_
          repeat (first | (with_reducible refine tr_skip ?_) | (with_reducible refine tr_exit ?_) | (with_reducible refine tr_then ?_) | (with_reducible refine tr_inX ?_) | (with_reducible refine tr_thenX ?_) | (with_reducible refine tr_inN ?_) | (with_reducible refine tr_inR ?_) | (with_reducible refine tr_thenR ?_))
          refine tr_round2 (i + 1) qs ⟨by omega, hG.congr (fun a b _ hb => ?_), hcan⟩ (by omega) ⟨rfl, rfl, rfl, rfl, trivial⟩ rfl (fun w h => h)
          try dsimp only
          by_cases h : a < i ∨ (a = i ∧ b < j)
          · rw [if_pos h, if_pos (by omega)]
          · rw [if_neg h, if_neg (by omega)]
      ·
        have hik : i = r := by have := of_decide_eq_false hc; omega
        refine tr_exit ?_
        repeat (first | (with_reducible refine tr_skip ?_) | (with_reducible refine tr_exit ?_) | (with_reducible refine tr_then ?_) | (with_reducible refine tr_inX ?_) | (with_reducible refine tr_thenX ?_) | (with_reducible refine tr_inN ?_) | (with_reducible refine tr_inR ?_) | (with_reducible refine tr_thenR ?_))
        refine tr_rseq ?_   -- region 19
        refine sq_q (qt_move rfl) rfl ?_   -- t77
        refine sq_q (qt_assign rfl) rfl ?_   -- t2
        refine sq_q (qt_assign rfl) rfl ?_   -- t3
        refine sq_end ?_
        refine tr_ret ?_
        repeat (first | (with_reducible refine tr_skip ?_) | (with_reducible refine tr_exit ?_) | (with_reducible refine tr_then ?_) | (with_reducible refine tr_inX ?_) | (with_reducible refine tr_thenX ?_) | (with_reducible refine tr_inN ?_) | (with_reducible refine tr_inR ?_) | (with_reducible refine tr_thenR ?_))
        refine tr_done (mmt o qs) (fun a w s t => results_2 rfl (resv_tmp s (by rw [mmt_v, hG.1]; rfl)) (resv_tmp s rfl)) (fun w h ho _ => ⟨mmt_ok ho h, ?_, mmt_can hcan⟩)
        rw [mmt_zs, hG.zs]
        refine Eq.trans ?_ hgrid
        unfold grid
        refine List.map_congr_left fun a ha => List.map_congr_left fun b hb => ?_
        have ha := List.mem_range.1 ha
        try dsimp only
        rw [if_pos (by omega)]
end Go.Qk
end
section
/- What comes back from a matrix of machine integers; how such a matrix is read as an argument. -/
set_option linter.unusedVariables false
namespace Go.Qk
open Go Go.Proofs Go.RowKit Go.ChangeShapes Go.WideShapes Go.Deep
theorem keepP_some {L : List (List Int)} {r c : Nat} (h : shp L = some (r, c)) : keepO L = some L := by
  rw [← keepP_eq, h]
  obtain ⟨h1, h2, h3, h4, h5, h6⟩ := shp_inv h
  show some (grid (ent L) r c) = some L
  rw [grid_ent h1 h6]
theorem keepO_none {L : List (List Int)} (h : shp L = none) : keepO L = none := by
  rw [← keepP_eq, h]
  rfl
theorem tiO_keep {m : Xm} {w : World} (hm : m.ok w) : tiO ((keepO m.zs).getD []) = keepO m.zs := by
  cases h : shp m.zs with
  | none =>
    rw [keepO_none h]
    rfl
  | some rc =>
    obtain ⟨r, c⟩ := rc
    rw [keepP_some h]
    show tiP (shp m.zs) m.zs = _
    obtain ⟨g1, g2, g3, g4, g5, g6⟩ := xm_shp h
    obtain ⟨h1, h2, h3, h4, h5, h6⟩ := shp_inv h
    rw [h, tiP_some fun i hi j hj => ?_, grid_ent h1 h6]
    have hi' : i < m.rs.length := by omega
    have hj' : j < m.rs[i].l.length := by rw [g6 _ (List.getElem_mem hi')]; exact hj
    rw [xm_ent hi' hj']
    exact (hm.2.2 _ (List.getElem_mem hi')).2.2 _ (List.getElem_mem hj')
section
variable {H : Type} {enc : TypeId × Value → H} {w : World} {fuel : Nat} {x : DataW H × List MemPlace} {cs : List Value}
theorem bytes_i64 : Try.prog.bytesOf 2 = 8 := by kernel_rfl
theorem cells_i64 : Try.prog.cellsOf 2 = 1 := by kernel_rfl
theorem cells_i64s : Try.prog.cellsOf 71 = 1 := by kernel_rfl
theorem bytes_i64s : Try.prog.bytesOf 71 = 24 := by kernel_rfl
theorem open_xr (h : DataW.trod enc Try.prog w 0 (fun _ => true) true fuel 71 cs = some x) (hw : ∀ n ∈ x.1.weights Try.prog 71, n ≤ reachBytes) : ∃ r : Xr, cs = [r.v] ∧ r.ok w ∧ r.l.length ≤ RB := by
  obtain ⟨zs, p, rfl, h1, h2, h3, h4⟩ := open_row1 Try.underlying71 Try.underlying2 cells_i64 h hw
  refine ⟨⟨zs, p⟩, rfl, ⟨h1, h2, fun a ha => wf_i64 (h3 a ha)⟩, ?_⟩
  rw [bytes_i64] at h4
  unfold reachBytes at h4
  unfold RB
  show zs.length ≤ _
  omega
theorem open_xm (h : DataW.trod enc Try.prog w 0 (fun _ => true) true fuel 52 cs = some x) (hw : ∀ n ∈ x.1.weights Try.prog 52, n ≤ reachBytes) : ∃ m : Xm, cs = [m.v] ∧ m.ok w ∧ m.rs.length ≤ RB ∧ ∀ r ∈ m.rs, r.l.length ≤ RB := by
  rcases open_slice1 Try.underlying52 cells_i64s h with ⟨rfl, rfl⟩ | ⟨a, len, cap, m, n, V, D, Pl, rfl, hb, hl, hm, hmm, rfl, hx⟩
  · exact ⟨⟨[], (none, 0)⟩, rfl, ⟨Rd.nil _ _, Nat.le_refl _, by simp⟩, by simp [RB], by simp⟩
  · simp only [if_true] at hmm
    subst hmm
    obtain ⟨hw1, hw2⟩ := weights_slice Try.underlying52 hw
    obtain ⟨Z, hZ⟩ := choose_lt (n := len) (α := Xr) (p := fun i r => V i = r.v ∧ r.ok w ∧ r.l.length ≤ RB) (fun i hi => by
      obtain ⟨r, h1, h2, h3⟩ := open_xr (hx i (by omega)).2 (hw2 (D i) (List.mem_map.2 ⟨i, List.mem_range.2 hi, rfl⟩))
      exact ⟨r, by simpa using h1, h2, h3⟩)
    refine ⟨⟨(List.range len).map Z, (some a, m)⟩, by simp [Xm.v], ⟨rd_of fun i v hv => ?_, by simpa using hl, fun r hr => ?_⟩, ?_, fun r hr => ?_⟩
    · rw [List.map_map] at hv
      obtain ⟨h3, rfl⟩ := map_get hv
      rw [(hx i (by omega)).1, (hZ i h3).1]
      rfl
    · obtain ⟨i, hi, rfl⟩ := List.mem_map.1 hr
      exact (hZ i (by simpa using hi)).2.1
    · simp only [List.length_map, List.length_range, bytes_i64s] at hw1 ⊢
      unfold reachBytes at hw1
      unfold RB
      omega
    · obtain ⟨i, hi, rfl⟩ := List.mem_map.1 hr
      exact (hZ i (by simpa using hi)).2.2
end
end Go.Qk
end
section
/- The walk of MatrixConverts. -/
set_option linter.unusedVariables false
namespace Go.Qk
open Go Go.Proofs Go.RowKit
set_option maxRecDepth 100000
set_option maxHeartbeats 4000000

theorem matrixConverts_ret (m : Xm) (w0 : World) (S : Nat → Prop) (hm : m.ok w0) (hlen : m.rs.length ≤ RB) (hrow : ∀ r ∈ m.rs, r.l.length ≤ RB) :
    Ret Try.prog 17 [m.v] w0 S (fun _ : Unit => .bool true) (fun _ _ => True) := by
  have hRB : RB = 35184372087808 := rfl
  refine ret_of Try.func17 rfl Try.ntmps17 rfl ?_
  refine tr_rseq ?_   -- region 0
  refine sq_q (qt_assign rfl) rfl ?_   -- t2
  refine sq_end ?_
  refine tr_seq ?_   -- C1
  refine tr_rseq ?_   -- region 1
  refine sq_q (qt_move rfl) rfl ?_   -- t11
  refine sq_q (qt_len rfl) rfl ?_   -- t12
  refine sq_q (qt_bin rfl rfl bin_gtr) rfl ?_   -- t13
  refine sq_end ?_
  refine tr_if rfl (fun hc => ?_) (fun hc => ?_)
  ·
    refine tr_rseq ?_   -- region 2
    refine sq_call (val := fun _ : Unit => .bool true) (F := fun _ _ => True) rfl rfl rfl (fun w t => awake_ret w _) fun _ => ?_   -- t14
    refine sq_q (qt_assign rfl) rfl ?_   -- t2
    refine sq_end ?_
    refine tr_ret ?_
    repeat (first | (with_reducible refine tr_skip ?_) | (with_reducible refine tr_exit ?_) | (with_reducible refine tr_then ?_) | (with_reducible refine tr_inX ?_) | (with_reducible refine tr_thenX ?_) | (with_reducible refine tr_inN ?_) | (with_reducible refine tr_inR ?_) | (with_reducible refine tr_thenR ?_))
    exact tr_done () (fun a w s t => results_1 rfl (resv_tmp s rfl)) (fun _ _ _ _ => trivial)
  ·
    have hrow' : ∀ r ∈ m.rs, r.l.length ≤ 4611686018427387904 := fun r hr => by have := hrow r hr; omega
    obtain ⟨k, hk⟩ : ∃ k, k = keepO m.zs := ⟨_, rfl⟩
    have hti : tiO (k.getD []) = k := by rw [hk]; exact tiO_keep hm
    have hkl : (k.getD []).length ≤ 35184372088832 ∧ ∀ q ∈ k.getD [], q.length ≤ 35184372088832 := by
      rw [hk]
      cases h : shp m.zs with
      | none => rw [keepO_none h]; exact none_lens
      | some rc =>
        obtain ⟨r, c⟩ := rc
        rw [keepP_some h]
        obtain ⟨h1, h2, h3, h4, h5, h6⟩ := shp_inv h
        exact ⟨by show m.zs.length ≤ _; omega, fun q hq => by rw [h6 q hq]; omega⟩
    obtain ⟨ol, oq⟩ := hkl
    refine tr_skip ?_
    repeat (first | (with_reducible refine tr_skip ?_) | (with_reducible refine tr_exit ?_) | (with_reducible refine tr_then ?_) | (with_reducible refine tr_inX ?_) | (with_reducible refine tr_thenX ?_) | (with_reducible refine tr_inN ?_) | (with_reducible refine tr_inR ?_) | (with_reducible refine tr_thenR ?_))
    refine tr_rseq ?_   -- region 3
    refine sq_q (qt_move rfl) rfl ?_   -- t16
    refine sq_call (optV k) (optF 2 k) rfl rfl rfl (fun w t => by rw [hk]; exact fromints_ret m w _ (t.xm hm) (by omega) hrow') fun m3 => ?_   -- t17
    refine sq_q (qt_move rfl) rfl ?_   -- t15
    refine sq_q (qt_extract rfl rfl) rfl ?_   -- t18
    refine sq_q (qt_extract rfl rfl) rfl ?_   -- t19
    refine sq_q (qt_assign rfl) rfl ?_   -- t3
    refine sq_q (qt_assign rfl) rfl ?_   -- t4
    refine sq_end ?_
    refine tr_rseq ?_   -- region 4
    refine sq_q (qt_move rfl) rfl ?_   -- t21
    refine sq_call (optV k) (optF 2 k) rfl rfl rfl (fun w t => by rw [hk]; exact rfromints2_ret m w _ (t.xm hm) (by omega) hrow') fun m5 => ?_   -- t22
    refine sq_q (qt_move rfl) rfl ?_   -- t20
    refine sq_q (qt_extract rfl rfl) rfl ?_   -- t23
    refine sq_q (qt_extract rfl rfl) rfl ?_   -- t24
    refine sq_q (qt_assign rfl) rfl ?_   -- t5
    refine sq_q (qt_assign rfl) rfl ?_   -- t6
    refine sq_end ?_
    refine tr_seq ?_   -- C2
    clear hrow
    ·
      refine tr_rseq ?_   -- region 5
      refine sq_q (qt_move rfl) rfl ?_   -- t25
      refine sq_q (qt_move rfl) rfl ?_   -- t26
      refine sq_q (qt_binB (r := .bool false) rfl rfl (bin_neqBr boolT _)) rfl ?_   -- t27
      refine sq_q (qt_move rfl) rfl ?_   -- t28
      refine sq_gT rfl rfl ?_
      refine sq_q (qt_move rfl) rfl ?_   -- t29
      refine sq_gT rfl rfl ?_
      refine sq_q (qt_move rfl) rfl ?_   -- t30
      refine sq_gT rfl rfl ?_
      refine sq_call (val := fun _ : Unit => .bool true) (F := fun _ _ => True) rfl rfl rfl (fun w t => same_opt t.r.1.2 t.r.2 (by omega) (by omega) ol oq) fun _ => ?_   -- t31
      refine sq_gT rfl rfl ?_
      refine sq_q (qt_not rfl) rfl ?_   -- t32
      refine sq_q (qt_pick rfl rfl) rfl ?_   -- t33
      refine sq_end ?_
      refine tr_ifF rfl ?_
      refine tr_skip ?_
      repeat (first | (with_reducible refine tr_skip ?_) | (with_reducible refine tr_exit ?_) | (with_reducible refine tr_then ?_) | (with_reducible refine tr_inX ?_) | (with_reducible refine tr_thenX ?_) | (with_reducible refine tr_inN ?_) | (with_reducible refine tr_inR ?_) | (with_reducible refine tr_thenR ?_))
      refine tr_rseq ?_   -- region 7
      refine sq_q (qt_move rfl) rfl ?_   -- t35
      refine sq_call (xmV k) (xmF k) rfl rfl rfl (fun w t => by
        obtain ⟨a1, a2⟩ := bits_of t.r.1.1.2 ol oq
        have h := fun S' => toints_ret m3 2 w S' t.r.1.1.2.1 (by omega) a1 a2
        rw [t.r.1.1.2.2.1, hti] at h
        exact h _) fun x7 => ?_   -- t36
      refine sq_q (qt_move rfl) rfl ?_   -- t34
      refine sq_q (qt_extract rfl rfl) rfl ?_   -- t37
      refine sq_q (qt_extract rfl rfl) rfl ?_   -- t38
      refine sq_q (qt_assign rfl) rfl ?_   -- t7
      refine sq_q (qt_assign rfl) rfl ?_   -- t8
      refine sq_end ?_
      refine tr_seq ?_   -- C3
      clear ol
      ·
        refine tr_have (p := m3.rs.length = (k.getD []).length ∧ x7.zs = k.getD []) (fun w t => ⟨by rw [← m3.zs_len, t.r.1.1.1.2.2.1], t.r.2.2⟩) fun ⟨hl3, hz7⟩ => ?_
        have hl7 : x7.rs.length = (k.getD []).length := by rw [← x7.zs_len, hz7]
        refine tr_rseq ?_   -- region 8
        refine sq_q (qt_move rfl) rfl ?_   -- t39
        refine sq_q (qt_move rfl) rfl ?_   -- t40
        refine sq_q (qt_binB (r := .bool false) rfl rfl (bin_neqBr boolT _)) rfl ?_   -- t41
        refine sq_q (qt_move rfl) rfl ?_   -- t42
        refine sq_gT rfl rfl ?_
        refine sq_q (qt_move rfl) rfl ?_   -- t43
        refine sq_gT rfl rfl ?_
        refine sq_q (qt_len rfl) rfl ?_   -- t44
        refine sq_gT rfl rfl ?_
        refine sq_q (qt_move rfl) rfl ?_   -- t45
        refine sq_gT rfl rfl ?_
        refine sq_q (qt_len rfl) rfl ?_   -- t46
        refine sq_gT rfl rfl ?_
        refine sq_q (qt_bin rfl rfl (bF bin_neq (by omega))) rfl ?_   -- t47
        refine sq_q (qt_pick rfl rfl) rfl ?_   -- t48
        refine sq_end ?_
        refine tr_ifF rfl ?_
        refine tr_skip ?_
        repeat (first | (with_reducible refine tr_skip ?_) | (with_reducible refine tr_exit ?_) | (with_reducible refine tr_then ?_) | (with_reducible refine tr_inX ?_) | (with_reducible refine tr_thenX ?_) | (with_reducible refine tr_inN ?_) | (with_reducible refine tr_inR ?_) | (with_reducible refine tr_thenR ?_))
        refine tr_seq ?_   -- C4
        refine tr_rseq ?_   -- region 10
        refine sq_q (qt_move rfl) rfl ?_   -- t49
        refine sq_q (qt_len rfl) rfl ?_   -- t50
        refine sq_q (qt_move rfl) rfl ?_   -- t51
        refine sq_end ?_
        refine tr_block ?_
        refine tr_loop (fun i : Nat => i ≤ x7.rs.length) (fun i => [(0, m.v), (7, x7.v), (50, .int .i64 (x7.rs.length : Int)), (51, .int .i64 (i : Int))]) (fun _ => []) (fun _ w => x7.ok w) (fun i => x7.rs.length - i) 0 (Nat.zero_le _) ⟨rfl, rfl, rfl, rfl, trivial⟩ rfl (fun _ h => h.2.1) ?_
        rintro i hi
        refine tr_rseq ?_   -- region 11
        refine sq_q (qt_bin rfl rfl bin_lss) rfl ?_   -- t52
        refine sq_end ?_
        refine tr_seq ?_   -- C5
        refine tr_if rfl (fun hc => ?_) (fun hc => ?_)
        ·
          have hlt : i < x7.rs.length := by have := of_decide_eq_true hc; omega
          have hzm : x7.zs = m.zs := by
            rw [hz7, hk]
            cases h : shp m.zs with
            | none => rw [hl7, hk, keepO_none h] at hlt; exact absurd hlt (Nat.not_lt_zero _)
            | some rc =>
              obtain ⟨r, c⟩ := rc
              rw [keepP_some h]
              rfl
          have hlm : i < m.rs.length := by rw [← m.zs_len, ← hzm, x7.zs_len]; exact hlt
          have hre : x7.rs[i].l = m.rs[i].l := by rw [← x7.zs_at hlt, ← m.zs_at hlm]; simp only [hzm]
          obtain ⟨ro, oo, evm, hat⟩ := hm.at_ (show 0 < m.rs.length by omega)
          refine tr_have (p := ∃ r o, x7.p.1 = some ⟨r, o, none⟩) (fun w t => t.r.1.some_at (by simp; omega)) fun ⟨rx, ox, ex⟩ => ?_
          refine tr_sub [(0, .slice (some ⟨ro, oo, none⟩) m.rs.length m.p.2), (7, .slice (some ⟨rx, ox, none⟩) x7.rs.length x7.p.2), (50, .int .i64 (x7.rs.length : Int)), (51, .int .i64 (i : Int))] ⟨congrArg some evm, by show some x7.v = _; unfold Xm.v; rw [ex], rfl, rfl, trivial⟩ ?_
          refine tr_skip ?_
          repeat (first | (with_reducible refine tr_skip ?_) | (with_reducible refine tr_exit ?_) | (with_reducible refine tr_then ?_) | (with_reducible refine tr_inX ?_) | (with_reducible refine tr_thenX ?_) | (with_reducible refine tr_inN ?_) | (with_reducible refine tr_inR ?_) | (with_reducible refine tr_thenR ?_))
          refine tr_seq ?_   -- C6
          refine tr_block ?_
          refine tr_rseq ?_   -- region 12
          refine sq_q (qt_move rfl) rfl ?_   -- t53
          refine sq_q (qt_assign rfl) rfl ?_   -- t9
          refine sq_end ?_
          refine tr_seq ?_   -- C7
          have hgx : (x7.rs.map Xr.v)[i]? = some (x7.rs[i]).v := by simp [hlt]
          ·
            refine tr_rdraw0 [0, 2, 3, 4, 5, 6, 7, 8, 9, 10, 13, 33, 48, 50, 51, 52, 64, 69, 70, 71, 87] (by kernel_rfl) ?_   -- region 13
            refine dx_q rfl (qt_move rfl) rfl ?_   -- t54
            refine dx_q rfl (qt_move rfl) rfl ?_   -- t55
            refine dx_q rfl (qt_index (i := i) rfl rfl hlt) rfl ?_   -- t56
            refine dx_q rfl (qt_load (v := (x7.rs[i]).v) rfl (fun w t => t.r.1.get_at ex hgx)) rfl ?_   -- t57
            refine dx_q rfl (qt_len rfl) rfl ?_   -- t58
            refine dx_q rfl (qt_move rfl) rfl ?_   -- t59
            refine dx_q rfl (qt_move rfl) rfl ?_   -- t60
            refine dx_q rfl (qt_index (i := i) rfl rfl hlm) rfl ?_   -- t61
            refine dx_q rfl (qt_load rfl (fun w t => t.a1 (hat i hlm))) rfl ?_   -- t62
            refine dx_q rfl (qt_len rfl) rfl ?_   -- t63
            refine dx_q rfl (qt_bin rfl rfl (bF bin_neq (by have := congrArg List.length hre; omega))) rfl ?_   -- t64
            refine dx_nil ?_
            repeat (first | refine es_val rfl ?_ rfl | refine es_res rfl (fun x => ?_) rfl | refine es_skip rfl ?_)
            refine es_nil rfl ?_
            refine tx_endk ?_
            refine tr_ifF rfl ?_
            refine tr_skip ?_
            repeat (first | (with_reducible refine tr_skip ?_) | (with_reducible refine tr_exit ?_) | (with_reducible refine tr_then ?_) | (with_reducible refine tr_inX ?_) | (with_reducible refine tr_thenX ?_) | (with_reducible refine tr_inN ?_) | (with_reducible refine tr_inR ?_) | (with_reducible refine tr_thenR ?_))
            refine tr_rseq ?_   -- region 15
            refine sq_q (qt_move rfl) rfl ?_   -- t65
            refine sq_q (qt_move rfl) rfl ?_   -- t66
            refine sq_q (qt_index (i := i) rfl rfl hlt) rfl ?_   -- t67
            refine sq_q (qt_load (v := (x7.rs[i]).v) rfl (fun w t => t.r.1.get_at ex hgx)) rfl ?_   -- t68
            refine sq_q (qt_len rfl) rfl ?_   -- t69
            refine sq_q (qt_move rfl) rfl ?_   -- t70
            refine sq_end ?_
            refine tr_block ?_
            refine tr_loop (fun j : Nat => j ≤ x7.rs[i].l.length) (fun j => [(0, .slice (some ⟨ro, oo, none⟩) m.rs.length m.p.2), (7, .slice (some ⟨rx, ox, none⟩) x7.rs.length x7.p.2), (9, .int .i64 (i : Int)), (50, .int .i64 (x7.rs.length : Int)), (51, .int .i64 (i : Int)), (69, .int .i64 (x7.rs[i].l.length : Int)), (70, .int .i64 (j : Int))]) (fun _ => []) (fun _ w => x7.ok w) (fun j => x7.rs[i].l.length - j) 0 (Nat.zero_le _) ⟨rfl, rfl, rfl, rfl, rfl, rfl, rfl, trivial⟩ rfl (fun _ h => h) ?_
            rintro j hj
            refine tr_rseq ?_   -- region 16
            refine sq_q (qt_bin rfl rfl bin_lss) rfl ?_   -- t71
            refine sq_end ?_
            refine tr_seq ?_   -- C8
            refine tr_if rfl (fun hc => ?_) (fun hc => ?_)
            ·
              have hlj : j < x7.rs[i].l.length := by have := of_decide_eq_true hc; omega
              have hljm : j < m.rs[i].l.length := by rw [← hre]; exact hlj
              have hrl := hrow' _ (List.getElem_mem hlm)
              obtain ⟨rr, orr, evr, hatr⟩ := (hm.2.2 _ (List.getElem_mem hlm)).at_ (show 0 < m.rs[i].l.length by omega)
              have hrw := hat i hlm
              rw [evr] at hrw
              refine tr_have (p := ∃ r o, x7.rs[i].p.1 = some ⟨r, o, none⟩) (fun w t => (t.r.2.2 _ (List.getElem_mem hlt)).1.some_at (by simp [i64s]; omega)) fun ⟨ry, oy, ey⟩ => ?_
              have hev : (x7.rs[i]).v = .slice (some ⟨ry, oy, none⟩) x7.rs[i].l.length x7.rs[i].p.2 := by unfold Xr.v; rw [ey]
              refine tr_skip ?_
              repeat (first | (with_reducible refine tr_skip ?_) | (with_reducible refine tr_exit ?_) | (with_reducible refine tr_then ?_) | (with_reducible refine tr_inX ?_) | (with_reducible refine tr_thenX ?_) | (with_reducible refine tr_inN ?_) | (with_reducible refine tr_inR ?_) | (with_reducible refine tr_thenR ?_))
              refine tr_seq ?_   -- C9
              refine tr_block ?_
              refine tr_rseq ?_   -- region 17
              refine sq_q (qt_move rfl) rfl ?_   -- t72
              refine sq_q (qt_assign rfl) rfl ?_   -- t10
              refine sq_end ?_
              have hee : x7.rs[i].l[j] = m.rs[i].l[j] := by simp only [hre]
              ·
                refine tr_rdraw0 [0, 2, 3, 4, 5, 6, 7, 8, 9, 10, 13, 33, 48, 50, 51, 52, 64, 69, 70, 71, 87] (by kernel_rfl) ?_   -- region 18
                refine dx_q rfl (qt_move rfl) rfl ?_   -- t73
                refine dx_q rfl (qt_move rfl) rfl ?_   -- t74
                refine dx_q rfl (qt_index (i := i) rfl rfl hlt) rfl ?_   -- t75
                refine dx_q rfl (qt_load (v := .slice (some ⟨ry, oy, none⟩) x7.rs[i].l.length x7.rs[i].p.2) rfl (fun w t => by rw [← hev]; exact t.r.1.get_at ex hgx)) rfl ?_   -- t76
                refine dx_q rfl (qt_move rfl) rfl ?_   -- t77
                refine dx_q rfl (qt_index (i := j) rfl rfl hlj) rfl ?_   -- t78
                refine dx_q rfl (qt_load (v := .int .i64 x7.rs[i].l[j]) rfl (fun w t => (t.r.2.2 _ (List.getElem_mem hlt)).1.get_at ey (i64s_get' hlj))) rfl ?_   -- t79
                refine dx_q rfl (qt_move rfl) rfl ?_   -- t80
                refine dx_q rfl (qt_move rfl) rfl ?_   -- t81
                refine dx_q rfl (qt_index (i := i) rfl rfl hlm) rfl ?_   -- t82
                refine dx_q rfl (qt_load rfl (fun w t => t.a1 hrw)) rfl ?_   -- t83
                refine dx_q rfl (qt_move rfl) rfl ?_   -- t84
                refine dx_q rfl (qt_index (i := j) rfl rfl hljm) rfl ?_   -- t85
                refine dx_q rfl (qt_load (v := .int .i64 m.rs[i].l[j]) rfl (fun w t => t.a1 (hatr j hljm))) rfl ?_   -- t86
                refine dx_q rfl (qt_bin rfl rfl (bF bin_neq (by simp [hee]))) rfl ?_   -- t87
                refine dx_nil ?_
                repeat (first | refine es_val rfl ?_ rfl | refine es_res rfl (fun x => ?_) rfl | refine es_skip rfl ?_)
                refine es_nil rfl ?_
                refine tx_endk ?_
                refine tr_ifF rfl ?_
                refine tr_skip ?_
                repeat (first | (with_reducible refine tr_skip ?_) | (with_reducible refine tr_exit ?_) | (with_reducible refine tr_then ?_) | (with_reducible refine tr_inX ?_) | (with_reducible refine tr_thenX ?_) | (with_reducible refine tr_inN ?_) | (with_reducible refine tr_inR ?_) | (with_reducible refine tr_thenR ?_))
                refine tr_region ?_   -- region 20
                refine sq_q (qt_bin rfl rfl (bin_addI (by omega) (by omega))) rfl ?_   -- t88
                refine sq_q (qt_move rfl) rfl ?_   -- t70
                refine sq_nil ?_
                repeat (first | (with_reducible refine tr_skip ?_) | (with_reducible refine tr_exit ?_) | (with_reducible refine tr_then ?_) | (with_reducible refine tr_inX ?_) | (with_reducible refine tr_thenX ?_) | (with_reducible refine tr_inN ?_) | (with_reducible refine tr_inR ?_) | (with_reducible refine tr_thenR ?_))
                refine tr_round (j + 1) hlj (by omega) ⟨rfl, rfl, rfl, rfl, rfl, rfl, rfl, trivial⟩ rfl (fun _ h => h)
            ·
              refine tr_exit ?_
              repeat (first | (with_reducible refine tr_skip ?_) | (with_reducible refine tr_exit ?_) | (with_reducible refine tr_then ?_) | (with_reducible refine tr_inX ?_) | (with_reducible refine tr_thenX ?_) | (with_reducible refine tr_inN ?_) | (with_reducible refine tr_inR ?_) | (with_reducible refine tr_thenR ?_))
              refine tr_region ?_   -- region 21
              refine sq_q (qt_bin rfl rfl (bin_addI (by omega) (by omega))) rfl ?_   -- t89
              refine sq_q (qt_move rfl) rfl ?_   -- t51
              refine sq_nil ?_
              repeat (first | (with_reducible refine tr_skip ?_) | (with_reducible refine tr_exit ?_) | (with_reducible refine tr_then ?_) | (with_reducible refine tr_inX ?_) | (with_reducible refine tr_thenX ?_) | (with_reducible refine tr_inN ?_) | (with_reducible refine tr_inR ?_) | (with_reducible refine tr_thenR ?_))
              refine tr_round (i + 1) hlt (by omega) ⟨congrArg some evm.symm, by show some (Value.slice (some ⟨rx, ox, none⟩) x7.rs.length x7.p.2) = some x7.v; unfold Xm.v; rw [ex], rfl, rfl, trivial⟩ rfl (fun _ h => h)
        ·
          refine tr_exit ?_
          repeat (first | (with_reducible refine tr_skip ?_) | (with_reducible refine tr_exit ?_) | (with_reducible refine tr_then ?_) | (with_reducible refine tr_inX ?_) | (with_reducible refine tr_thenX ?_) | (with_reducible refine tr_inN ?_) | (with_reducible refine tr_inR ?_) | (with_reducible refine tr_thenR ?_))
          refine tr_rseq ?_   -- region 22
          refine sq_call (val := fun _ : Unit => .bool true) (F := fun _ _ => True) rfl rfl rfl (fun w t => awake_ret w _) fun _ => ?_   -- t90
          refine sq_q (qt_assign rfl) rfl ?_   -- t2
          refine sq_end ?_
          refine tr_ret ?_
          repeat (first | (with_reducible refine tr_skip ?_) | (with_reducible refine tr_exit ?_) | (with_reducible refine tr_then ?_) | (with_reducible refine tr_inX ?_) | (with_reducible refine tr_thenX ?_) | (with_reducible refine tr_inN ?_) | (with_reducible refine tr_inR ?_) | (with_reducible refine tr_thenR ?_))
          exact tr_done () (fun a w s t => results_1 rfl (resv_tmp s rfl)) (fun _ _ _ _ => trivial)
end Go.Qk
end
