/- Lemmas and contracts of functions that the law reaches. -/
import Derived.Test.YtencodepmbhpiaaGp5
set_option linter.unusedVariables false
set_option linter.unusedSimpArgs false
section
set_option linter.unusedVariables false
namespace Go.Qk
open Go Go.Proofs Go.RowKit
set_option maxRecDepth 100000
set_option maxHeartbeats 4000000
theorem apply_ret (m : Mt) (v : Rw) (B B' : Nat) (w0 : World) (S : Nat → Prop) (hm : m.ok B w0) (hv : v.ok B' w0) (hB : B + B' ≤ 35184372088700) (hl : m.rs.length ≤ 35184372088832) (hr : ∀ r ∈ m.rs, r.l.length ≤ 35184372088832) :
    Ret Try.prog 48 [m.v, v.v] w0 S (rowV (apO m.zs v.zs)) (rowF (B + B' + 16) (apO m.zs v.zs)) := by
  obtain ⟨o, ho⟩ : ∃ o, o = shp m.zs := ⟨_, rfl⟩
  have hO : apO m.zs v.zs = apP o m.zs v.zs := by rw [ho]; rfl
  rw [hO]
  clear hO
  refine ret_of Try.func48 rfl Try.ntmps48 rfl ?_
  refine tr_rseq ?_
  refine sq_q (qt_assign rfl) rfl ?_
  refine sq_q (qt_assign rfl) rfl ?_
  refine sq_end ?_
  refine tr_rseq ?_
  refine sq_q (qt_move rfl) rfl ?_
  refine sq_call (val := fun _ : Unit => shpV o) (F := fun _ _ => True) rfl rfl rfl (fun w t => by rw [ho]; exact shape_ret m B w _ (t.mt hm) hl hr) fun _ => ?_
  refine sq_q (qt_move rfl) rfl ?_
  refine sq_q (qt_extract rfl rfl) rfl ?_
  refine sq_q (qt_extract rfl rfl) rfl ?_
  refine sq_q (qt_extract rfl rfl) rfl ?_
  refine sq_q (qt_assign rfl) rfl ?_
  refine sq_q (qt_assign rfl) rfl ?_
  refine sq_q (qt_assign rfl) rfl ?_
  refine sq_end ?_
  refine tr_seq ?_
  have hcs : o = none ∨ (∃ r c, o = some (r, c) ∧ v.l.length ≠ c) ∨ (∃ r, o = some (r, v.l.length)) := by
    cases o with
    | none => exact .inl rfl
    | some x =>
      obtain ⟨r, c⟩ := x
      by_cases h1 : v.l.length = c
      · subst h1; exact .inr (.inr ⟨_, rfl⟩)
      · exact .inr (.inl ⟨_, _, rfl, h1⟩)
  rcases hcs with h1 | ⟨r, c, h1, h2⟩ | ⟨r, h1⟩
  ·
    subst h1
    rw [show apP none m.zs v.zs = none from rfl]
    refine tr_rseq ?_
    refine sq_q (qt_move rfl) rfl ?_
    refine sq_q (qt_not rfl) rfl ?_
    refine sq_q (qt_move rfl) rfl ?_
    refine sq_gF rfl rfl rfl rfl ?_
    refine sq_gF rfl rfl rfl rfl ?_
    refine sq_gF rfl rfl rfl rfl ?_
    refine sq_gF rfl rfl rfl rfl ?_
    refine sq_q (qt_pick rfl rfl) rfl ?_
    refine sq_end ?_
    refine tr_ifT rfl ?_
    refine tr_rseq ?_
    refine sq_q (qt_assign rfl) rfl ?_
    refine sq_q (qt_assign rfl) rfl ?_
    refine sq_end ?_
    refine tr_ret ?_
    repeat with_reducible first | refine tr_skip ?_ | refine tr_exit ?_ | refine tr_then ?_ | refine tr_inX ?_ | refine tr_thenX ?_ | refine tr_inN ?_ | refine tr_inR ?_ | refine tr_thenR ?_
    exact tr_done ⟨[], (none, 0)⟩ (fun a w s t => results_2 rfl (resv_tmp s rfl) (resv_tmp s rfl)) (fun w _ _ _ => rowF_none _ _)
  ·
    subst h1
    rw [show apP (some (r, c)) m.zs v.zs = none from if_neg (by rw [Rw.zs_len]; exact h2)]
    refine tr_rseq ?_
    refine sq_q (qt_move rfl) rfl ?_
    refine sq_q (qt_not rfl) rfl ?_
    refine sq_q (qt_move rfl) rfl ?_
    refine sq_gT rfl rfl ?_
    refine sq_q (qt_move rfl) rfl ?_
    refine sq_gT rfl rfl ?_
    refine sq_q (qt_len rfl) rfl ?_
    refine sq_gT rfl rfl ?_
    refine sq_q (qt_move rfl) rfl ?_
    refine sq_gT rfl rfl ?_
    refine sq_q (qt_bin rfl rfl (bT bin_neq (by simp only [Option.getD_some]; omega))) rfl ?_
    refine sq_q (qt_pick rfl rfl) rfl ?_
    refine sq_end ?_
    refine tr_ifT rfl ?_
    refine tr_rseq ?_
    refine sq_q (qt_assign rfl) rfl ?_
    refine sq_q (qt_assign rfl) rfl ?_
    refine sq_end ?_
    refine tr_ret ?_
    repeat with_reducible first | refine tr_skip ?_ | refine tr_exit ?_ | refine tr_then ?_ | refine tr_inX ?_ | refine tr_thenX ?_ | refine tr_inN ?_ | refine tr_inR ?_ | refine tr_thenR ?_
    exact tr_done ⟨[], (none, 0)⟩ (fun a w s t => results_2 rfl (resv_tmp s rfl) (resv_tmp s rfl)) (fun w _ _ _ => rowF_none _ _)
  ·
    subst h1
    obtain ⟨c, hc0⟩ : ∃ c, c = v.l.length := ⟨_, rfl⟩
    rw [← hc0] at ho
    rw [← hc0]
    obtain ⟨G, hG⟩ : ∃ G : Nat → Nat → Int, G = fun i k => ent m.zs i k * v.zs.getD k 0 := ⟨_, rfl⟩
    rw [show apP (some (r, c)) m.zs v.zs = some ((List.range r).map fun i => sumN c (G i)) from by rw [hG]; exact if_pos (by rw [Rw.zs_len]; exact hc0.symm)]
    obtain ⟨g1, g2, g3, g4, g5, g6⟩ := mt_shp ho.symm
    obtain ⟨ro, oo, evm, hat⟩ := hm.at_ (show 0 < m.rs.length by omega)
    obtain ⟨rv, ov, evv, hatv⟩ := hv.at_ (show 0 < v.l.length by omega)
    have hGb : ∀ i, i < r → ∀ k, k < c → nl (G i k).natAbs ≤ B + B' := fun i hi k hk => by
      have hi' : i < m.rs.length := by omega
      have hk' : k < m.rs[i].l.length := by rw [g6 _ (List.getElem_mem hi')]; exact hk
      rw [hG]
      show nl (ent m.zs i k * v.zs.getD k 0).natAbs ≤ _
      rw [mt_ent hi' hk', rw_ent (show k < v.l.length by omega)]
      have q1 := nl_imul m.rs[i].l[k].z (v.l[k]'(by omega)).z
      have q2 := nl_zd ((hm.2.2 _ (List.getElem_mem hi')).2.2 _ (List.getElem_mem hk'))
      have q3 := nl_zd (hv.2.2 _ (List.getElem_mem (show k < v.l.length by omega)))
      omega
    refine tr_rseq ?_
    refine sq_q (qt_move rfl) rfl ?_
    refine sq_q (qt_not rfl) rfl ?_
    refine sq_q (qt_move rfl) rfl ?_
    refine sq_gT rfl rfl ?_
    refine sq_q (qt_move rfl) rfl ?_
    refine sq_gT rfl rfl ?_
    refine sq_q (qt_len rfl) rfl ?_
    refine sq_gT rfl rfl ?_
    refine sq_q (qt_move rfl) rfl ?_
    refine sq_gT rfl rfl ?_
    refine sq_q (qt_bin rfl rfl (bF bin_neq (by simp only [Option.getD_some]; omega))) rfl ?_
    refine sq_q (qt_pick rfl rfl) rfl ?_
    refine sq_end ?_
    refine tr_ifF rfl ?_
    refine tr_skip ?_
    repeat with_reducible first | refine tr_skip ?_ | refine tr_exit ?_ | refine tr_then ?_ | refine tr_inX ?_ | refine tr_thenX ?_ | refine tr_inN ?_ | refine tr_inR ?_ | refine tr_thenR ?_
    refine tr_rseq ?_
    refine sq_q (qt_move rfl) rfl ?_
    refine sq_make (c := r) rfl rfl (by omega) (by omega) rfl fun r27 => ?_
    refine sq_q (qt_assign rfl) rfl ?_
    refine sq_end ?_
    refine tr_seq ?_
    refine tr_rseq ?_
    refine sq_q (qt_move rfl) rfl ?_
    refine sq_q (qt_len rfl) rfl ?_
    refine sq_q (qt_move rfl) rfl ?_
    refine sq_end ?_
    refine tr_block ?_
    refine tr_loop2 (fun (i : Nat) (l : List Zd) => i ≤ r ∧ l.length = r ∧ ∀ a z, l[a]? = some z → z.can ∧ z.z = if a < i then sumN c (G a) else 0) (fun i l => [(0, .slice (some ⟨ro, oo, none⟩) m.rs.length m.p.2), (1, .slice (some ⟨rv, ov, none⟩) v.l.length v.p.2), (9, .slice (some ⟨r27, 0, none⟩) r r), (29, .int .i64 (r : Int)), (30, .int .i64 (i : Int))])
      (fun i l => [mrow (r27, l)]) (fun i l w => ∀ z ∈ l, z.ok (B + B' + 16) w) (fun i l => r - i) 0 (List.replicate r z0) ⟨Nat.zero_le _, by simp, fun a z hz => by rw [if_neg (by omega)]; obtain ⟨_, e⟩ := List.getElem?_eq_some_iff.1 hz; simp at e; subst e; exact ⟨z0_can, rfl⟩⟩ ⟨congrArg some evm, congrArg some evv, rfl, rfl, rfl, trivial⟩ (by rw [made_z]; rfl) (fun w _ z hz => by rw [List.eq_of_mem_replicate hz]; exact z0_ok _ _) ?_
    rintro i l ⟨hle, hll, hinv⟩
    refine tr_rseq ?_
    refine sq_q (qt_bin rfl rfl bin_lss) rfl ?_
    refine sq_end ?_
    refine tr_seq ?_
    refine tr_if rfl (fun hc => ?_) (fun hc => ?_)
    ·
      have hlt : i < r := by have := of_decide_eq_true hc; omega
      have hmi : i < m.rs.length := by omega
      have hcl := g6 _ (List.getElem_mem hmi)
      obtain ⟨rr, orr, evr, hatr⟩ := (hm.2.2 _ (List.getElem_mem hmi)).at_ (show 0 < m.rs[i].l.length by omega)
      have hrw := hat i hmi
      rw [evr] at hrw
      refine tr_skip ?_
      repeat with_reducible first | refine tr_skip ?_ | refine tr_exit ?_ | refine tr_then ?_ | refine tr_inX ?_ | refine tr_thenX ?_ | refine tr_inN ?_ | refine tr_inR ?_ | refine tr_thenR ?_
      refine tr_seq ?_
      refine tr_block ?_
      refine tr_rseq ?_
      refine sq_q (qt_move rfl) rfl ?_
      refine sq_q (qt_assign rfl) rfl ?_
      refine sq_end ?_
      refine tr_rseq ?_
      refine sq_q (qt_move rfl) rfl ?_
      refine sq_q (qt_len rfl) rfl ?_
      refine sq_q (qt_move rfl) rfl ?_
      refine sq_end ?_
      refine tr_block ?_
      refine tr_loop2 (fun (j : Nat) (l : List Zd) => j ≤ c ∧ l.length = r ∧ ∀ a z, l[a]? = some z → z.can ∧ z.z = if a < i then sumN c (G a) else if a = i then sumN j (G a) else 0) (fun j l => [(0, .slice (some ⟨ro, oo, none⟩) m.rs.length m.p.2), (1, .slice (some ⟨rv, ov, none⟩) v.l.length v.p.2), (9, .slice (some ⟨r27, 0, none⟩) r r), (10, .int .i64 (i : Int)), (29, .int .i64 (r : Int)), (30, .int .i64 (i : Int)), (34, .int .i64 (c : Int)), (35, .int .i64 (j : Int))])
        (fun j l => [mrow (r27, l)]) (fun j l w => ∀ z ∈ l, z.ok (B + B' + 16) w) (fun j l => c - j) 0 l ⟨Nat.zero_le _, hll, fun a z hz => by
          obtain ⟨h1, h2⟩ := hinv a z hz
          refine ⟨h1, h2.trans ?_⟩
          by_cases h : a < i
          · rw [if_pos h, if_pos h]
          · rw [if_neg h, if_neg h]
            split <;> rfl⟩ ⟨rfl, rfl, rfl, rfl, rfl, rfl, congrArg (fun z => some (Value.int .i64 ((z : Nat) : Int))) hc0.symm, rfl, trivial⟩ rfl (fun w h => h) ?_
      clear hinv hll l
      rintro j l ⟨hjc, hll, hinv⟩
      refine tr_rseq ?_
      refine sq_q (qt_bin rfl rfl bin_lss) rfl ?_
      refine sq_end ?_
      refine tr_seq ?_
      refine tr_if rfl (fun hc => ?_) (fun hc => ?_)
      ·
        have hlt2 : j < c := by have := of_decide_eq_true hc; omega
        have hjl : j < m.rs[i].l.length := by omega
        have hjv : j < v.l.length := by omega
        obtain ⟨hz0, hz1⟩ := hatr j hjl
        obtain ⟨hy0, hy1⟩ := hatv j hjv
        have hzok := (hm.2.2 _ (List.getElem_mem hmi)).2.2 _ (List.getElem_mem hjl)
        have hyok := hv.2.2 _ (List.getElem_mem hjv)
        have hil : i < l.length := by omega
        obtain ⟨z, hz⟩ : ∃ z, l[i]? = some z := ⟨_, List.getElem?_eq_getElem hil⟩
        have hzm : z ∈ l := List.mem_of_getElem? hz
        obtain ⟨hzc, hzz⟩ := hinv i z hz
        rw [if_neg (by omega), if_pos rfl] at hzz
        have hg : m.rs[i].l[j].z * v.l[j].z = G i j := by rw [hG]; show _ = ent m.zs i j * v.zs.getD j 0; rw [mt_ent hmi hjl, rw_ent hjv]
        have hgb := hGb i hlt
        refine tr_skip ?_
        repeat with_reducible first | refine tr_skip ?_ | refine tr_exit ?_ | refine tr_then ?_ | refine tr_inX ?_ | refine tr_thenX ?_ | refine tr_inN ?_ | refine tr_inR ?_ | refine tr_thenR ?_
        refine tr_seq ?_
        refine tr_block ?_
        refine tr_rseq ?_
        refine sq_q (qt_move rfl) rfl ?_
        refine sq_q (qt_assign rfl) rfl ?_
        refine sq_end ?_
        refine tr_draw 19 [] [] [0, 1, 4, 5, 6, 7, 8, 9, 10, 11, 25, 29, 30, 31, 34, 35, 36, 38, 39, 56] (by kernel_rfl) ?_
        refine dx_q rfl (qt_move rfl) rfl ?_
        refine dx_q rfl (qt_move rfl) rfl ?_
        refine dx_q rfl (qt_move rfl) rfl ?_
        refine dx_q rfl (qt_move rfl) rfl ?_
        refine dx_q rfl (qt_index (i := i) rfl rfl hlt) rfl ?_
        refine dx_q rfl (qt_load2 rfl (fun w t => t.mz0 0 (q := (r27, l)) rfl hz) (fun w t => t.mz1 0 (q := (r27, l)) rfl hz)) rfl ?_
        refine dx_q rfl (qt_move rfl) rfl ?_
        refine dx_q rfl (qt_move rfl) rfl ?_
        refine dx_q rfl (qt_index (i := i) rfl rfl hmi) rfl ?_
        refine dx_q rfl (qt_load rfl (fun w t => t.a1 hrw)) rfl ?_
        refine dx_q rfl (qt_move rfl) rfl ?_
        refine dx_q rfl (qt_index (i := j) rfl rfl hjl) rfl ?_
        refine dx_q rfl (qt_load2 rfl (fun w t => t.atA hz0) (fun w t => t.atA hz1)) rfl ?_
        refine dx_q rfl (qt_move rfl) rfl ?_
        refine dx_q rfl (qt_move rfl) rfl ?_
        refine dx_q rfl (qt_index (i := j) rfl rfl hjv) rfl ?_
        refine dx_q rfl (qt_load2 rfl (fun w t => t.atA hy0) (fun w t => t.atA hy1)) rfl ?_
        refine dx_call (iv (G i j)) (Lz (G i j).natAbs) rfl rfl rfl (fun w t => by rw [← hg]; exact mul_zd (t.zd hzok) (t.zd hyok) (by omega)) ?_
        refine dx_call1 55 (iv (sumN (j + 1) (G i))) (Lz (sumN (j + 1) (G i)).natAbs) rfl rfl (by simp) rfl (fun _ => rfl) (fun _ => rfl) (fun y w t => by
          have h := fun S' => add_zd (S := S') (t.r.1 z hzm) (zd_ok (B := B + B') t.r.2 (hgb j hlt2)) (by omega) (by omega)
          rw [zd_z, hzz] at h
          exact h _) ?_
        refine dx_nil ?_
        repeat (first | refine es_val rfl ?_ rfl | refine es_skip rfl ?_)
        refine es_res rfl (fun x => ?_) rfl
        repeat (first | refine es_val rfl ?_ rfl | refine es_skip rfl ?_)
        refine es_nil rfl ?_
        refine tx_q (qt_index (i := i) rfl rfl hlt) rfl rfl rfl ?_
        refine tx_store 0 rfl rfl rfl rfl (show 0 + i * 2 + 2 ≤ (zcs l).length by rw [zcs_length, hll]; omega) rfl rfl rfl ?_
        refine tx_end ?_
        repeat with_reducible first | refine tr_skip ?_ | refine tr_exit ?_ | refine tr_then ?_ | refine tr_inX ?_ | refine tr_thenX ?_ | refine tr_inN ?_ | refine tr_inR ?_ | refine tr_thenR ?_
        refine tr_region ?_
        refine sq_q (qt_bin rfl rfl (bin_addI (by omega) (by omega))) rfl ?_
        refine sq_q (qt_move rfl) rfl ?_
        refine sq_nil ?_
        repeat with_reducible first | refine tr_skip ?_ | refine tr_exit ?_ | refine tr_then ?_ | refine tr_inX ?_ | refine tr_thenX ?_ | refine tr_inN ?_ | refine tr_inR ?_ | refine tr_thenR ?_
        have hbd : nl (sumN (j + 1) (G i)).natAbs ≤ B + B' + 16 := by have := nl_sum (f := G i) (k := j + 1) (D := B + B') (fun k hk => hgb k (by omega)); omega
        refine tr_own [mrow (r27, l.set i (zd (sumN (j + 1) (G i)) x))] (by show [(r27, Obj.cells (wr (zcs l) (0 + i * 2) (zd (sumN (j + 1) (G i)) x).v.cells.toList).toArray 35 (0, 0))] = _; rw [zcs_set _ hil]; rfl) ?_
        refine tr_round2 (j + 1) (l.set i (zd (sumN (j + 1) (G i)) x)) ⟨hlt2, by rw [List.length_set]; exact hll, fun a z' hz' => ?_⟩ (by omega) ⟨rfl, rfl, rfl, rfl, rfl, rfl, rfl, rfl, trivial⟩ rfl (fun w h z' hz' => ?_)
        · rw [List.getElem?_set] at hz'
          by_cases h : i = a
          · subst h
            rw [if_pos rfl, if_pos hil] at hz'
            obtain rfl := Option.some.inj hz'
            rw [if_neg (by omega), if_pos rfl]
            exact ⟨zd_can _ _, zd_z _ _⟩
          · rw [if_neg h] at hz'
            obtain ⟨q1, q2⟩ := hinv a z' hz'
            refine ⟨q1, q2.trans ?_⟩
            by_cases h' : a < i
            · rw [if_pos h', if_pos h']
            · rw [if_neg h', if_neg h', if_neg (by omega), if_neg (by omega)]
        · rcases List.mem_or_eq_of_mem_set hz' with q1 | q1
          · exact h.1 z' q1
          · rw [q1]; exact zd_ok h.2 hbd
      ·
        have hje : j = c := by have := of_decide_eq_false hc; omega
        refine tr_exit ?_
        repeat with_reducible first | refine tr_skip ?_ | refine tr_exit ?_ | refine tr_then ?_ | refine tr_inX ?_ | refine tr_thenX ?_ | refine tr_inN ?_ | refine tr_inR ?_ | refine tr_thenR ?_
        refine tr_region ?_
        refine sq_q (qt_bin rfl rfl (bin_addI (by omega) (by omega))) rfl ?_
        refine sq_q (qt_move rfl) rfl ?_
        refine sq_nil ?_
        repeat with_reducible first | refine tr_skip ?_ | refine tr_exit ?_ | refine tr_then ?_ | refine tr_inX ?_ | refine tr_thenX ?_ | refine tr_inN ?_ | refine tr_inR ?_ | refine tr_thenR ?_
        refine tr_round2 (i + 1) l ⟨by omega, hll, fun a z hz => ?_⟩ (by omega) ⟨rfl, rfl, rfl, rfl, rfl, trivial⟩ rfl (fun w h => h)
        obtain ⟨q1, q2⟩ := hinv a z hz
        refine ⟨q1, q2.trans ?_⟩
        by_cases h : a < i
        · rw [if_pos h, if_pos (by omega)]
        · rw [if_neg h]
          by_cases h' : a = i
          · rw [if_pos h', if_pos (by omega), hje]
          · rw [if_neg h', if_neg (by omega)]
    ·
      have hir : i = r := by have := of_decide_eq_false hc; omega
      refine tr_exit ?_
      repeat with_reducible first | refine tr_skip ?_ | refine tr_exit ?_ | refine tr_then ?_ | refine tr_inX ?_ | refine tr_thenX ?_ | refine tr_inN ?_ | refine tr_inR ?_ | refine tr_thenR ?_
      refine tr_rseq ?_
      refine sq_q (qt_move rfl) rfl ?_
      refine sq_q (qt_assign rfl) rfl ?_
      refine sq_q (qt_assign rfl) rfl ?_
      refine sq_end ?_
      refine tr_ret ?_
      repeat with_reducible first | refine tr_skip ?_ | refine tr_exit ?_ | refine tr_then ?_ | refine tr_inX ?_ | refine tr_thenX ?_ | refine tr_inN ?_ | refine tr_inR ?_ | refine tr_thenR ?_
      refine tr_done ⟨l, (some ⟨r27, 0, none⟩, r)⟩ (fun a w s t => results_2 rfl (resv_tmp s (by show some (Value.slice (some ⟨r27, 0, none⟩) r r) = some (Rw.v ⟨l, (some ⟨r27, 0, none⟩, r)⟩); unfold Rw.v; rw [hll])) (resv_tmp s rfl)) (fun w h ho _ => ⟨⟨Rd.own (ho _ (ownAt_mem (i := 0) rfl)), Nat.le_of_eq hll, h⟩, ?_, fun z hz => ?_⟩)
      · show l.map Zd.z = (List.range r).map fun i => sumN c (G i)
        refine List.ext_getElem (by simp [hll]) fun a h1 h2 => ?_
        have h3 : a < l.length := by simpa using h1
        have := (hinv a l[a] (List.getElem?_eq_getElem h3)).2
        rw [if_pos (by omega)] at this
        simp [this]
      · obtain ⟨a, ha, rfl⟩ := List.getElem_of_mem hz
        exact (hinv a _ (List.getElem?_eq_getElem ha)).1
end Go.Qk
end
section
set_option linter.unusedVariables false
namespace Go.Qk
open Go Go.Proofs Go.RowKit
set_option maxRecDepth 100000
set_option maxHeartbeats 4000000
theorem rapply_ret (m : Mt) (v : Rw) (B B' : Nat) (w0 : World) (S : Nat → Prop) (hm : m.ok B w0) (hv : v.ok B' w0) (hB : B + B' ≤ 35184372088700) (hl : m.rs.length ≤ 35184372088832) (hr : ∀ r ∈ m.rs, r.l.length ≤ 35184372088832) :
    Ret Try.prog 49 [m.v, v.v] w0 S (rowV (apO m.zs v.zs)) (rowF (B + B' + 16) (apO m.zs v.zs)) := by
  obtain ⟨o, ho⟩ : ∃ o, o = shp m.zs := ⟨_, rfl⟩
  have hO : apO m.zs v.zs = apP o m.zs v.zs := by rw [ho]; rfl
  rw [hO]
  clear hO
  refine ret_of Try.func49 rfl Try.ntmps49 rfl ?_
  refine tr_rseq ?_
  refine sq_q (qt_assign rfl) rfl ?_
  refine sq_q (qt_assign rfl) rfl ?_
  refine sq_end ?_
  refine tr_rseq ?_
  refine sq_q (qt_move rfl) rfl ?_
  refine sq_call (val := fun _ : Unit => shpV o) (F := fun _ _ => True) rfl rfl rfl (fun w t => by rw [ho]; exact rshape_ret m B w _ (t.mt hm) hl hr) fun _ => ?_
  refine sq_q (qt_move rfl) rfl ?_
  refine sq_q (qt_extract rfl rfl) rfl ?_
  refine sq_q (qt_extract rfl rfl) rfl ?_
  refine sq_q (qt_extract rfl rfl) rfl ?_
  refine sq_q (qt_assign rfl) rfl ?_
  refine sq_q (qt_assign rfl) rfl ?_
  refine sq_q (qt_assign rfl) rfl ?_
  refine sq_end ?_
  refine tr_seq ?_
  have hcs : o = none ∨ (∃ r c, o = some (r, c) ∧ v.l.length ≠ c) ∨ (∃ r, o = some (r, v.l.length)) := by
    cases o with
    | none => exact .inl rfl
    | some x =>
      obtain ⟨r, c⟩ := x
      by_cases h1 : v.l.length = c
      · subst h1; exact .inr (.inr ⟨_, rfl⟩)
      · exact .inr (.inl ⟨_, _, rfl, h1⟩)
  rcases hcs with h1 | ⟨r, c, h1, h2⟩ | ⟨r, h1⟩
  ·
    subst h1
    rw [show apP none m.zs v.zs = none from rfl]
    refine tr_rseq ?_
    refine sq_q (qt_move rfl) rfl ?_
    refine sq_q (qt_not rfl) rfl ?_
    refine sq_q (qt_move rfl) rfl ?_
    refine sq_gF rfl rfl rfl rfl ?_
    refine sq_gF rfl rfl rfl rfl ?_
    refine sq_gF rfl rfl rfl rfl ?_
    refine sq_gF rfl rfl rfl rfl ?_
    refine sq_q (qt_pick rfl rfl) rfl ?_
    refine sq_end ?_
    refine tr_ifT rfl ?_
    refine tr_rseq ?_
    refine sq_q (qt_assign rfl) rfl ?_
    refine sq_q (qt_assign rfl) rfl ?_
    refine sq_end ?_
    refine tr_ret ?_
    repeat with_reducible first | refine tr_skip ?_ | refine tr_exit ?_ | refine tr_then ?_ | refine tr_inX ?_ | refine tr_thenX ?_ | refine tr_inN ?_ | refine tr_inR ?_ | refine tr_thenR ?_
    exact tr_done ⟨[], (none, 0)⟩ (fun a w s t => results_2 rfl (resv_tmp s rfl) (resv_tmp s rfl)) (fun w _ _ _ => rowF_none _ _)
  ·
    subst h1
    rw [show apP (some (r, c)) m.zs v.zs = none from if_neg (by rw [Rw.zs_len]; exact h2)]
    refine tr_rseq ?_
    refine sq_q (qt_move rfl) rfl ?_
    refine sq_q (qt_not rfl) rfl ?_
    refine sq_q (qt_move rfl) rfl ?_
    refine sq_gT rfl rfl ?_
    refine sq_q (qt_move rfl) rfl ?_
    refine sq_gT rfl rfl ?_
    refine sq_q (qt_len rfl) rfl ?_
    refine sq_gT rfl rfl ?_
    refine sq_q (qt_move rfl) rfl ?_
    refine sq_gT rfl rfl ?_
    refine sq_q (qt_bin rfl rfl (bT bin_neq (by simp only [Option.getD_some]; omega))) rfl ?_
    refine sq_q (qt_pick rfl rfl) rfl ?_
    refine sq_end ?_
    refine tr_ifT rfl ?_
    refine tr_rseq ?_
    refine sq_q (qt_assign rfl) rfl ?_
    refine sq_q (qt_assign rfl) rfl ?_
    refine sq_end ?_
    refine tr_ret ?_
    repeat with_reducible first | refine tr_skip ?_ | refine tr_exit ?_ | refine tr_then ?_ | refine tr_inX ?_ | refine tr_thenX ?_ | refine tr_inN ?_ | refine tr_inR ?_ | refine tr_thenR ?_
    exact tr_done ⟨[], (none, 0)⟩ (fun a w s t => results_2 rfl (resv_tmp s rfl) (resv_tmp s rfl)) (fun w _ _ _ => rowF_none _ _)
  ·
    subst h1
    obtain ⟨c, hc0⟩ : ∃ c, c = v.l.length := ⟨_, rfl⟩
    rw [← hc0] at ho
    rw [← hc0]
    obtain ⟨G, hG⟩ : ∃ G : Nat → Nat → Int, G = fun i k => ent m.zs i k * v.zs.getD k 0 := ⟨_, rfl⟩
    rw [show apP (some (r, c)) m.zs v.zs = some ((List.range r).map fun i => sumN c (G i)) from by rw [hG]; exact if_pos (by rw [Rw.zs_len]; exact hc0.symm)]
    obtain ⟨g1, g2, g3, g4, g5, g6⟩ := mt_shp ho.symm
    obtain ⟨ro, oo, evm, hat⟩ := hm.at_ (show 0 < m.rs.length by omega)
    refine tr_rseq ?_
    refine sq_q (qt_move rfl) rfl ?_
    refine sq_q (qt_not rfl) rfl ?_
    refine sq_q (qt_move rfl) rfl ?_
    refine sq_gT rfl rfl ?_
    refine sq_q (qt_move rfl) rfl ?_
    refine sq_gT rfl rfl ?_
    refine sq_q (qt_len rfl) rfl ?_
    refine sq_gT rfl rfl ?_
    refine sq_q (qt_move rfl) rfl ?_
    refine sq_gT rfl rfl ?_
    refine sq_q (qt_bin rfl rfl (bF bin_neq (by simp only [Option.getD_some]; omega))) rfl ?_
    refine sq_q (qt_pick rfl rfl) rfl ?_
    refine sq_end ?_
    refine tr_ifF rfl ?_
    refine tr_skip ?_
    repeat with_reducible first | refine tr_skip ?_ | refine tr_exit ?_ | refine tr_then ?_ | refine tr_inX ?_ | refine tr_thenX ?_ | refine tr_inN ?_ | refine tr_inR ?_ | refine tr_thenR ?_
    refine tr_rseq ?_
    refine sq_q (qt_assign rfl) rfl ?_
    refine sq_end ?_
    refine tr_seq ?_
    refine tr_rseq ?_
    refine sq_q (qt_move rfl) rfl ?_
    refine sq_q (qt_len rfl) rfl ?_
    refine sq_q (qt_move rfl) rfl ?_
    refine sq_end ?_
    refine tr_block ?_
    refine tr_loop2 (fun (zs : List Zd) (q : Gr) => zs.length ≤ r ∧ zs.map Zd.z = ((List.range zs.length).map fun i => sumN c (G i)) ∧ (∀ z ∈ zs, z.can) ∧ grOk 2 zs.length (zcs zs) q) (fun zs q => [(1, v.v), (9, grV zs.length q), (26, .slice (some ⟨ro, oo, none⟩) m.rs.length m.p.2), (27, .int .i64 (r : Int)), (28, .int .i64 (zs.length : Int))]) (fun zs q => grO 35 (zcs zs) q) (fun zs q w => ∀ z ∈ zs, z.ok (B + B' + 16) w) (fun zs q => r - zs.length) [] none ⟨Nat.zero_le _, rfl, by simp, rfl, rfl⟩ ⟨rfl, rfl, congrArg some evm, congrArg (fun z => some (Value.int .i64 ((z : Nat) : Int))) g1, rfl, trivial⟩ rfl (fun w h => by simp) ?_
    rintro zs q ⟨hle, hzs, hcan, hok⟩
    refine tr_rseq ?_
    refine sq_q (qt_bin rfl rfl bin_lss) rfl ?_
    refine sq_end ?_
    refine tr_seq ?_
    refine tr_if rfl (fun hc => ?_) (fun hc => ?_)
    ·
      have hlt : zs.length < r := by have := of_decide_eq_true hc; omega
      have hmi : zs.length < m.rs.length := by omega
      have hcl := g6 _ (List.getElem_mem hmi)
      obtain ⟨X, hX⟩ : ∃ X, X = sumN c (G zs.length) := ⟨_, rfl⟩
      refine tr_skip ?_
      repeat with_reducible first | refine tr_skip ?_ | refine tr_exit ?_ | refine tr_then ?_ | refine tr_inX ?_ | refine tr_thenX ?_ | refine tr_inN ?_ | refine tr_inR ?_ | refine tr_thenR ?_
      refine tr_seq ?_
      refine tr_block ?_
      refine tr_rseq ?_
      refine sq_q (qt_index (i := zs.length) rfl rfl hmi) rfl ?_
      refine sq_q (qt_load rfl (fun w t => t.a1 (hat zs.length hmi))) rfl ?_
      refine sq_q (qt_assign rfl) rfl ?_
      refine sq_end ?_
      refine tr_region ?_
      refine sq_q (qt_move rfl) rfl ?_
      refine sq_q (qt_move rfl) rfl ?_
      refine sq_q (qt_move rfl) rfl ?_
      refine sq_call (iv X) (fun p w => Lz X.natAbs p w ∧ nl X.natAbs ≤ B + B' + 16) rfl rfl rfl (fun w t => by
        have h := fun S' => dot_ret m.rs[zs.length] v (G zs.length) B B' w S' (t.rw (hm.2.2 _ (List.getElem_mem hmi))) (t.rw hv) (by omega) (by omega) (by omega) hB (fun k hk hk' => by rw [hG]; show _ = ent m.zs zs.length k * v.zs.getD k 0; rw [mt_ent hmi hk, rw_ent hk'])
        rw [hcl, ← hX] at h
        exact (h _).imp fun p w h => ⟨h.1, by have := h.2; omega⟩) fun y => ?_
      refine sq_lit (vs := [(0, iv X y)]) (cells := zcs [zd X y]) rfl rfl rfl (by simp [Instr.fill, Value.cells, iv, ig, zcs, Zd.cs, zd, show Array.range 2 = #[0, 1] from by decide]) rfl fun r36 => ?_
      refine sq_own ((r36, .cells (zcs [zd X y]).toArray 35 (0, 0)) :: (grO 35 (zcs zs) q ++ [])) (by rw [List.append_nil]) ?_
      refine sq_grow (p := q) (k := zs.length) (m := 1) (xs := zcs zs) (news := zcs [zd X y]) (own' := []) rfl rfl hok rfl (by omega) (by omega) (by omega) rfl rfl rfl rfl fun q' hok' => ?_
      rw [List.append_nil]
      refine sq_q (qt_assign rfl) rfl ?_
      refine sq_nil ?_
      repeat with_reducible first | refine tr_skip ?_ | refine tr_exit ?_ | refine tr_then ?_ | refine tr_inX ?_ | refine tr_thenX ?_ | refine tr_inN ?_ | refine tr_inR ?_ | refine tr_thenR ?_
      refine tr_region ?_
      refine sq_q (qt_bin rfl rfl (bin_addI (by omega) (by omega))) rfl ?_
      refine sq_q (qt_move rfl) rfl ?_
      refine sq_nil ?_
      repeat with_reducible first | refine tr_skip ?_ | refine tr_exit ?_ | refine tr_then ?_ | refine tr_inX ?_ | refine tr_thenX ?_ | refine tr_inN ?_ | refine tr_inR ?_ | refine tr_thenR ?_
      have e3 : (zs ++ [zd X y]).length = zs.length + 1 := by simp
      refine tr_round2 (zs ++ [zd X y]) q' ⟨by omega, ?_, ?_, ?_⟩ (by omega) ⟨rfl, by rw [e3]; rfl, rfl, rfl, by rw [e3]; rfl, trivial⟩ (by rw [zcs_append]) (fun w h z hz => ?_)
      · rw [e3, List.range_succ, List.map_append, List.map_append, hzs]
        simp [zd_z, hX]
      · intro z hz
        rcases List.mem_append.1 hz with h | h
        · exact hcan z h
        · rw [List.mem_singleton.1 h]; exact zd_can _ _
      · rw [e3, zcs_append]; exact hok'
      · rcases List.mem_append.1 hz with h' | h'
        · exact h.1 z h'
        · rw [List.mem_singleton.1 h']; exact zd_ok h.2.1 h.2.2
    ·
      have hzn : zs.length = r := by have := of_decide_eq_false hc; omega
      refine tr_exit ?_
      repeat with_reducible first | refine tr_skip ?_ | refine tr_exit ?_ | refine tr_then ?_ | refine tr_inX ?_ | refine tr_thenX ?_ | refine tr_inN ?_ | refine tr_inR ?_ | refine tr_thenR ?_
      refine tr_rseq ?_
      refine sq_q (qt_move rfl) rfl ?_
      refine sq_q (qt_assign rfl) rfl ?_
      refine sq_q (qt_assign rfl) rfl ?_
      refine sq_end ?_
      refine tr_ret ?_
      repeat with_reducible first | refine tr_skip ?_ | refine tr_exit ?_ | refine tr_then ?_ | refine tr_inX ?_ | refine tr_thenX ?_ | refine tr_inN ?_ | refine tr_inR ?_ | refine tr_thenR ?_
      refine tr_done ⟨zs, grP q⟩ (fun a w s t => results_2 rfl (resv_tmp s (by show some (grV zs.length q) = some (Rw.v ⟨zs, grP q⟩); rw [grP_v hok]; rfl)) (resv_tmp s rfl)) (fun w h ho _ => ⟨⟨(grP_rd hok ho).1, (grP_rd hok ho).2, h⟩, ?_, hcan⟩)
      show zs.map Zd.z = _
      rw [hzs, hzn]
      rfl
end Go.Qk
end
section
set_option linter.unusedVariables false
namespace Go.Qk
open Go Go.Proofs Go.RowKit
set_option maxRecDepth 100000
set_option maxHeartbeats 4000000
theorem matrixApplies_ret (m : Mt) (v : Rw) (gx : Gd) (l : List Int) (p : Sv) (w0 : World) (S : Nat → Prop) (hm : m.ok RB w0) (hlen : m.rs.length ≤ RB) (hrow : ∀ r ∈ m.rs, r.l.length ≤ RB) (hv : v.ok RB w0) (hvl : v.l.length ≤ RB) (hx : gx.ok w0) (hL : Rd p.1 (i8s l) w0) (hll : l.length ≤ 281474976710656) (hin : ∀ a ∈ l, -128 ≤ a ∧ a < 128) :
    Ret Try.prog 13 [m.v, v.v, gx.v, .slice p.1 l.length p.2] w0 S (fun _ : Unit => .bool true) (fun _ _ => True) := by
  have hRB : RB = 35184372087808 := rfl
  refine ret_of Try.func13 rfl Try.ntmps13 rfl ?_
  refine tr_rseq ?_
  refine sq_box rfl rfl fun r6 => ?_
  refine sq_q (qt_assign rfl) rfl ?_
  refine sq_end ?_
  refine tr_seq ?_
  refine tr_cut (ι := Bool) (fun c => c = false → smallM m ∧ v.l.length ≤ 40) (fun c => [(0, m.v), (1, v.v), (3, .slice p.1 l.length p.2), (6, .pointer (some ⟨r6, 0, none⟩)), (24, .bool c)]) (fun _ => [(r6, .cells gx.v.cells 31 (0, 0))]) (fun _ _ => True) ?_ (fun cc hb => ?_)
  · refine tr_region ?_
    refine sq_q (qt_move rfl) rfl ?_
    refine sq_call (fun b : Bool => .bool b) (fun b _ => b = false → smallM m) rfl rfl rfl (fun w t => large_ret m w _ (t.mt hm) hlen hrow) fun b => ?_
    refine sq_have (fun w t => t.r.2) fun hb => ?_
    refine sq_q (qt_move rfl) rfl ?_
    cases b with
    | true =>
      refine sq_gF rfl rfl rfl rfl ?_
      refine sq_gF rfl rfl rfl rfl ?_
      refine sq_gF rfl rfl rfl rfl ?_
      refine sq_q (qt_pick rfl rfl) rfl ?_
      refine sq_end ?_
      exact tr_mid true (fun h => nomatch h) ⟨rfl, rfl, rfl, rfl, rfl, trivial⟩ rfl (fun _ _ => trivial)
    | false =>
      refine sq_gT rfl rfl ?_
      refine sq_q (qt_move rfl) rfl ?_
      refine sq_gT rfl rfl ?_
      refine sq_q (qt_len rfl) rfl ?_
      refine sq_gT rfl rfl ?_
      refine sq_q (qt_bin rfl rfl bin_gtr) rfl ?_
      refine sq_q (qt_pick rfl rfl) rfl ?_
      refine sq_end ?_
      exact tr_mid (decide ((40 : Int) < (v.l.length : Int))) (fun h => ⟨hb rfl, by have := of_decide_eq_false h; omega⟩) ⟨rfl, rfl, rfl, rfl, rfl, trivial⟩ rfl (fun _ _ => trivial)
  refine tr_if rfl (fun hc => ?_) (fun hc => ?_)
  ·
    clear hb
    refine tr_rseq ?_
    refine sq_call (val := fun _ : Unit => .bool true) (F := fun _ _ => True) rfl rfl rfl (fun w t => awake_ret w _) fun _ => ?_
    refine sq_q (qt_assign rfl) rfl ?_
    refine sq_end ?_
    refine tr_ret ?_
    repeat with_reducible first | refine tr_skip ?_ | refine tr_exit ?_ | refine tr_then ?_ | refine tr_inX ?_ | refine tr_thenX ?_ | refine tr_inN ?_ | refine tr_inR ?_ | refine tr_thenR ?_
    exact tr_done () (fun a w s t => results_1 rfl (resv_tmp s rfl)) (fun _ _ _ _ => trivial)
  ·
    obtain ⟨hs, hs'⟩ := hb hc
    obtain ⟨o, ho⟩ : ∃ o, o = apO m.zs v.zs := ⟨_, rfl⟩
    have ol := apO_len m.zs v.zs (n := 35184372088832) (by omega)
    rw [← ho] at ol
    have hl1 := hs.1
    have hr1 := fun r hr => (hs.2 r hr).1
    refine tr_skip ?_
    repeat with_reducible first | refine tr_skip ?_ | refine tr_exit ?_ | refine tr_then ?_ | refine tr_inX ?_ | refine tr_thenX ?_ | refine tr_inN ?_ | refine tr_inR ?_ | refine tr_thenR ?_
    refine tr_rseq ?_
    refine sq_q (qt_move rfl) rfl ?_
    refine sq_q (qt_move rfl) rfl ?_
    refine sq_call (rowV o) (rowF (600 + RB + 16) o) rfl rfl rfl (fun w t => by rw [ho]; exact apply_ret m v 600 RB w _ (hs.ok (t.mt hm)) (t.rw hv) (by omega) (by omega) (fun r hr => by have := hr1 r hr; omega)) fun m3 => ?_
    refine sq_q (qt_move rfl) rfl ?_
    refine sq_q (qt_extract rfl rfl) rfl ?_
    refine sq_q (qt_extract rfl rfl) rfl ?_
    refine sq_q (qt_assign rfl) rfl ?_
    refine sq_q (qt_assign rfl) rfl ?_
    refine sq_end ?_
    refine tr_rseq ?_
    refine sq_q (qt_move rfl) rfl ?_
    refine sq_q (qt_move rfl) rfl ?_
    refine sq_call (rowV o) (rowF (600 + RB + 16) o) rfl rfl rfl (fun w t => by rw [ho]; exact rapply_ret m v 600 RB w _ (hs.ok (t.mt hm)) (t.rw hv) (by omega) (by omega) (fun r hr => by have := hr1 r hr; omega)) fun m4 => ?_
    refine sq_q (qt_move rfl) rfl ?_
    refine sq_q (qt_extract rfl rfl) rfl ?_
    refine sq_q (qt_extract rfl rfl) rfl ?_
    refine sq_q (qt_assign rfl) rfl ?_
    refine sq_q (qt_assign rfl) rfl ?_
    refine sq_end ?_
    refine tr_rseq ?_
    refine sq_q (qt_load_agg (vs := [.int .u8 (gx.r : Int), .int .u8 (gx.c : Int), .slice gx.p.1 gx.l.length gx.p.2]) rfl rfl (fun w t j v hv => by rw [Nat.zero_add]; exact t.atO 0 rfl hv)) rfl ?_
    refine sq_call Mt.v (fun m w => m.ok 2 w ∧ m.zs = gx.zs 8 ∧ m.can) rfl rfl rfl (fun w t => gmatrix_ret gx 8 w _ (t.gd hx) (by omega) (by omega)) fun m5 => ?_
    refine sq_q (qt_assign rfl) rfl ?_
    refine sq_end ?_
    obtain ⟨g1, g2⟩ := gx.lens 8 (n := 16) (by omega) (by omega) (by omega)
    refine tr_have (p := m5.rs.length = 1 + gx.r % 8 ∧ ∀ q ∈ m5.rs, q.l.length = 1 + gx.c % 8) (fun w t => mt_lens t.r.2.2.1) fun ⟨hl5, hr5⟩ => ?_
    have h05 : 0 < m5.rs.length := by omega
    refine tr_have (p := ∃ r o, m5.v = .slice (some ⟨r, o, none⟩) m5.rs.length m5.p.2) (fun w t => by obtain ⟨r, o, e, _⟩ := t.r.2.1.at_ h05; exact ⟨r, o, e⟩) fun ⟨r5, o5, ev5⟩ => ?_
    obtain ⟨n, hn⟩ : ∃ n, n = m5.rs[0].l.length := ⟨_, rfl⟩
    have hn16 : n ≤ 8 := by rw [hn, hr5 _ (List.getElem_mem h05)]; omega
    obtain ⟨u, hu⟩ : ∃ u, u = apO (gx.zs 8) (vec l n) := ⟨_, rfl⟩
    have ul := apO_len (gx.zs 8) (vec l n) (n := 35184372088832) (by omega)
    rw [← hu] at ul
    have hll5 : m5.rs.length ≤ 35184372088832 := by omega
    have hlr5 : ∀ r ∈ m5.rs, r.l.length ≤ 35184372088832 := fun r hr => by have := hr5 r hr; omega
    refine tr_rseq ?_
    refine sq_q (qt_move rfl) rfl ?_
    refine sq_q (qt_move rfl) rfl ?_
    refine sq_q (qt_move rfl) rfl ?_
    refine sq_q (qt_index (x := .tmp 43) (r := r5) (o := o5) (len := m5.rs.length) (cap := m5.p.2) (i := 0) (congrArg some ev5) rfl h05) rfl ?_
    refine sq_q (qt_load (v := (m5.rs[0]).v) rfl (fun w t => t.r.2.1.at_eq ev5 h05)) rfl ?_
    refine sq_q (qt_len (x := .tmp 45) (A := m5.rs[0].p.1) (m := m5.rs[0].l.length) (c := m5.rs[0].p.2) rfl) rfl ?_
    rw [← hn]
    refine sq_call Rw.v (fun r w => r.ok 2 w ∧ r.zs = vec l n ∧ r.can) rfl rfl rfl (fun w t => column_ret l p n w _ (t.rd hL) hll hin (by omega)) fun x6 => ?_
    refine sq_call (rowV u) (rowF 20 u) rfl rfl rfl (fun w t => by
      have h := fun S' => apply_ret m5 x6 2 2 w S' t.r.1.2.1 t.r.2.1 (by omega) hll5 hlr5
      rw [t.r.1.2.2.1, t.r.2.2.1, ← hu] at h
      exact h _) fun m6 => ?_
    refine sq_q (qt_move rfl) rfl ?_
    refine sq_q (qt_extract rfl rfl) rfl ?_
    refine sq_q (qt_extract rfl rfl) rfl ?_
    refine sq_q (qt_assign rfl) rfl ?_
    refine sq_q (qt_assign rfl) rfl ?_
    refine sq_end ?_
    refine tr_rseq ?_
    refine sq_q (qt_move rfl) rfl ?_
    refine sq_q (qt_move rfl) rfl ?_
    refine sq_q (qt_move rfl) rfl ?_
    refine sq_q (qt_index (x := .tmp 54) (r := r5) (o := o5) (len := m5.rs.length) (cap := m5.p.2) (i := 0) (congrArg some ev5) rfl h05) rfl ?_
    refine sq_q (qt_load (v := (m5.rs[0]).v) rfl (fun w t => t.r.1.1.2.1.at_eq ev5 h05)) rfl ?_
    refine sq_q (qt_len (x := .tmp 56) (A := m5.rs[0].p.1) (m := m5.rs[0].l.length) (c := m5.rs[0].p.2) rfl) rfl ?_
    rw [← hn]
    refine sq_call Rw.v (fun r w => r.ok 2 w ∧ r.zs = vec l n ∧ r.can) rfl rfl rfl (fun w t => column_ret l p n w _ (t.rd hL) hll hin (by omega)) fun x7 => ?_
    refine sq_call (rowV u) (rowF 20 u) rfl rfl rfl (fun w t => by
      have h := fun S' => rapply_ret m5 x7 2 2 w S' t.r.1.1.1.2.1 t.r.2.1 (by omega) hll5 hlr5
      rw [t.r.1.1.1.2.2.1, t.r.2.2.1, ← hu] at h
      exact h _) fun m7 => ?_
    refine sq_q (qt_move rfl) rfl ?_
    refine sq_q (qt_extract rfl rfl) rfl ?_
    refine sq_q (qt_extract rfl rfl) rfl ?_
    refine sq_q (qt_assign rfl) rfl ?_
    refine sq_q (qt_assign rfl) rfl ?_
    refine sq_end ?_
    clear hx
    ·
      refine tr_rseq ?_
      refine sq_q (qt_move rfl) rfl ?_
      refine sq_q (qt_move rfl) rfl ?_
      refine sq_q (qt_binB (r := .bool true) rfl rfl (bin_eqlBr boolT _)) rfl ?_
      refine sq_q (qt_move rfl) rfl ?_
      refine sq_gT rfl rfl ?_
      refine sq_q (qt_move rfl) rfl ?_
      refine sq_gT rfl rfl ?_
      refine sq_q (qt_move rfl) rfl ?_
      refine sq_gT rfl rfl ?_
      refine sq_call (val := fun _ : Unit => .bool true) (F := fun _ _ => True) rfl rfl rfl (fun w t => same_row t.r.1.1.1.1.1.1.2 t.r.1.1.1.1.1.2 (by omega) (by omega) ol) fun _ => ?_
      refine sq_q (qt_pick rfl rfl) rfl ?_
      refine sq_q (qt_move rfl) rfl ?_
      refine sq_gT rfl rfl ?_
      refine sq_q (qt_move rfl) rfl ?_
      refine sq_gT rfl rfl ?_
      refine sq_q (qt_move rfl) rfl ?_
      refine sq_gT rfl rfl ?_
      refine sq_q (qt_binB (r := .bool true) rfl rfl (bin_eqlBr boolT _)) rfl ?_
      refine sq_q (qt_pick rfl rfl) rfl ?_
      refine sq_q (qt_move rfl) rfl ?_
      refine sq_gT rfl rfl ?_
      refine sq_q (qt_move rfl) rfl ?_
      refine sq_gT rfl rfl ?_
      refine sq_q (qt_move rfl) rfl ?_
      refine sq_gT rfl rfl ?_
      refine sq_call (val := fun _ : Unit => .bool true) (F := fun _ _ => True) rfl rfl rfl (fun w t => same_row t.r.1.1.1.2 t.r.1.2 (by omega) (by omega) ul) fun _ => ?_
      refine sq_q (qt_pick rfl rfl) rfl ?_
      refine sq_q (qt_move rfl) rfl ?_
      refine sq_gT rfl rfl ?_
      refine sq_call (val := fun _ : Unit => .bool true) (F := fun _ _ => True) rfl rfl rfl (fun w t => awake_ret w _) fun _ => ?_
      refine sq_q (qt_pick rfl rfl) rfl ?_
      refine sq_q (qt_assign rfl) rfl ?_
      refine sq_end ?_
      refine tr_ret ?_
      repeat with_reducible first | refine tr_skip ?_ | refine tr_exit ?_ | refine tr_then ?_ | refine tr_inX ?_ | refine tr_thenX ?_ | refine tr_inN ?_ | refine tr_inR ?_ | refine tr_thenR ?_
      exact tr_done () (fun a w s t => results_1 rfl (resv_tmp s rfl)) (fun _ _ _ _ => trivial)
end Go.Qk
end
