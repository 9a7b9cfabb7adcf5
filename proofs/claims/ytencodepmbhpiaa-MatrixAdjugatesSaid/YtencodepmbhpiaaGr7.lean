/- Lemmas and contracts of functions that the law reaches. -/
import Derived.Test.YtencodepmbhpiaaGr6
set_option linter.unusedVariables false
set_option linter.unusedSimpArgs false
section
set_option linter.unusedVariables false
namespace Go.Qk
open Go Go.Proofs Go.RowKit
theorem gsq_shp (gx : Gd) {k : Nat} (h1 : 1 ≤ k) (hk : k ≤ 16) : shp (gx.sq.zs k) = some (1 + gx.r % k, 1 + gx.r % k) := by
  have h2 := Nat.mod_lt gx.r (show 0 < k by omega)
  unfold Gd.zs Gd.sq
  exact shp_grid _ (by omega) (by dsimp only; omega) (by omega) (by dsimp only; omega)
theorem sqb_same (r : Nat) : sqb (some (r, r)) = true := decide_eq_true rfl
theorem adjO_some (L : List (List Int)) : (adjO L).isSome = sqb (shp L) := by
  unfold adjO
  cases h : sqb (shp L) with
  | false => rfl
  | true =>
    rw [if_pos rfl]
    split
    · rfl
    · rfl
theorem adjO_lens (L : List (List Int)) : ((adjO L).getD []).length ≤ 35184372088832 ∧ ∀ q ∈ (adjO L).getD [], q.length ≤ 35184372088832 := by
  cases h : sqb (shp L) with
  | false =>
    have e : adjO L = none := by unfold adjO; rw [if_neg (by rw [h]; decide)]
    rw [e]
    exact none_lens
  | true =>
    obtain ⟨k, h1, h2, _⟩ := sqb_shp h
    rw [adjO_lap h]
    exact grid_lens _ _ _ (by omega) (by omega)
end Go.Qk
end
section
set_option linter.unusedVariables false
namespace Go.Qk
open Go Go.Proofs Go.RowKit
set_option maxRecDepth 100000
set_option maxHeartbeats 4000000
theorem matrixAdjugates_ret (gx : Gd) (w0 : World) (S : Nat → Prop) (hx : gx.ok w0) :
    Ret Try.prog 7 [gx.v] w0 S (fun _ : Unit => .bool true) (fun _ _ => True) := by
  obtain ⟨u, hu⟩ : ∃ u, u = adjO (gx.sq.zs 5) := ⟨_, rfl⟩
  obtain ⟨v, hv⟩ : ∃ v, v = adjO (gx.zs 5) := ⟨_, rfl⟩
  have hus : u.isSome = true := by rw [hu, adjO_some, gsq_shp gx (by omega) (by omega)]; exact sqb_same _
  have hvs : v.isSome = sqb (shp (gx.zs 5)) := by rw [hv, adjO_some]
  obtain ⟨ul, uq⟩ := adjO_lens (gx.sq.zs 5)
  rw [← hu] at ul uq
  refine ret_of Try.func7 rfl Try.ntmps7 rfl ?_
  refine tr_rseq ?_
  refine sq_box rfl rfl fun r1 => ?_
  refine sq_q (qt_assign rfl) rfl ?_
  refine sq_end ?_
  refine tr_rseq ?_
  refine sq_q (qt_load_agg (vs := [.int .u8 (gx.r : Int), .int .u8 (gx.c : Int), .slice gx.p.1 gx.l.length gx.p.2]) rfl rfl (fun w t j v hv => by rw [Nat.zero_add]; exact t.atO 0 rfl hv)) rfl ?_
  refine sq_call Mt.v (fun m w => m.ok 2 w ∧ m.zs = gx.sq.zs 5 ∧ m.can) rfl rfl rfl (fun w t => gsquare_ret gx 5 w _ (t.gd hx) (by omega) (by omega)) fun m3 => ?_
  refine sq_call (optV u) (optF 549755813887 u) rfl rfl rfl (fun w t => by
    have h := fun S' => adjugate_ret m3 2 w S' t.r.2.1 (by omega) (by omega) (gd_lens t.r.2.2.1 (by omega) (by omega)).1 (gd_lens t.r.2.2.1 (by omega) (by omega)).2
    rw [t.r.2.2.1, ← hu] at h
    exact h _) fun m4 => ?_
  refine sq_q (qt_move rfl) rfl ?_
  refine sq_q (qt_extract rfl rfl) rfl ?_
  refine sq_q (qt_extract rfl rfl) rfl ?_
  refine sq_q (qt_assign rfl) rfl ?_
  refine sq_q (qt_assign rfl) rfl ?_
  refine sq_end ?_
  refine tr_rseq ?_
  refine sq_q (qt_load_agg (vs := [.int .u8 (gx.r : Int), .int .u8 (gx.c : Int), .slice gx.p.1 gx.l.length gx.p.2]) rfl rfl (fun w t j v hv => by rw [Nat.zero_add]; exact t.atO 0 rfl hv)) rfl ?_
  refine sq_call Mt.v (fun m w => m.ok 2 w ∧ m.zs = gx.sq.zs 5 ∧ m.can) rfl rfl rfl (fun w t => gsquare_ret gx 5 w _ (t.gd hx) (by omega) (by omega)) fun m5 => ?_
  refine sq_call (optV u) (optF 549755813887 u) rfl rfl rfl (fun w t => by
    have h := fun S' => radjugate_ret m5 2 w S' t.r.2.1 (by omega) (by omega) (gd_lens t.r.2.2.1 (by omega) (by omega)).1 (gd_lens t.r.2.2.1 (by omega) (by omega)).2
    rw [t.r.2.2.1, ← hu] at h
    exact h _) fun m6 => ?_
  refine sq_q (qt_move rfl) rfl ?_
  refine sq_q (qt_extract rfl rfl) rfl ?_
  refine sq_q (qt_extract rfl rfl) rfl ?_
  refine sq_q (qt_assign rfl) rfl ?_
  refine sq_q (qt_assign rfl) rfl ?_
  refine sq_end ?_
  refine tr_r (fun w => optF 549755813887 u m4 w ∧ optF 549755813887 u m6 w) (fun w h => ⟨h.1.1.2, h.2⟩) ?_
  refine tr_rseq ?_
  refine sq_q (qt_load_agg (vs := [.int .u8 (gx.r : Int), .int .u8 (gx.c : Int), .slice gx.p.1 gx.l.length gx.p.2]) rfl rfl (fun w t j v hv => by rw [Nat.zero_add]; exact t.atO 0 rfl hv)) rfl ?_
  refine sq_call Mt.v (fun m w => m.ok 2 w ∧ m.zs = gx.zs 5 ∧ m.can) rfl rfl rfl (fun w t => gmatrix_ret gx 5 w _ (t.gd hx) (by omega) (by omega)) fun m7 => ?_
  refine sq_call (optV v) (optF 549755813887 v) rfl rfl rfl (fun w t => by
    have h := fun S' => adjugate_ret m7 2 w S' t.r.2.1 (by omega) (by omega) (gd_lens t.r.2.2.1 (by omega) (by omega)).1 (gd_lens t.r.2.2.1 (by omega) (by omega)).2
    rw [t.r.2.2.1, ← hv] at h
    exact h _) fun m8 => ?_
  refine sq_q (qt_move rfl) rfl ?_
  refine sq_q (qt_extract rfl rfl) rfl ?_
  refine sq_q (qt_extract rfl rfl) rfl ?_
  refine sq_q (qt_assign rfl) rfl ?_
  refine sq_q (qt_assign rfl) rfl ?_
  refine sq_end ?_
  refine tr_rseq ?_
  refine sq_q (qt_load_agg (vs := [.int .u8 (gx.r : Int), .int .u8 (gx.c : Int), .slice gx.p.1 gx.l.length gx.p.2]) rfl rfl (fun w t j v hv => by rw [Nat.zero_add]; exact t.atO 0 rfl hv)) rfl ?_
  refine sq_call Mt.v (fun m w => m.ok 2 w ∧ m.zs = gx.zs 5 ∧ m.can) rfl rfl rfl (fun w t => gmatrix_ret gx 5 w _ (t.gd hx) (by omega) (by omega)) fun m9 => ?_
  refine sq_call (val := fun _ : Unit => rsqV (shp (gx.zs 5))) (F := fun _ _ => True) rfl rfl rfl (fun w t => by
    have h := fun S' => rsquare_ret m9 2 w S' t.r.2.1 (gd_lens t.r.2.2.1 (by omega) (by omega)).1 (gd_lens t.r.2.2.1 (by omega) (by omega)).2
    rw [t.r.2.2.1] at h
    exact h _) fun _ => ?_
  refine sq_q (qt_move rfl) rfl ?_
  refine sq_q (qt_extract rfl rfl) rfl ?_
  refine sq_q (qt_extract rfl rfl) rfl ?_
  refine sq_q (qt_assign rfl) rfl ?_
  refine sq_q (qt_assign rfl) rfl ?_
  refine sq_end ?_
  refine tr_r (fun w => optF 549755813887 u m4 w ∧ optF 549755813887 u m6 w) (fun w h => h.1.1.1.1) ?_
  clear hx
  rw [hus, hvs]
  ·
    refine tr_rseq ?_
    refine sq_q (qt_move rfl) rfl ?_
    refine sq_q (qt_move rfl) rfl ?_
    refine sq_gT rfl rfl ?_
    refine sq_q (qt_move rfl) rfl ?_
    refine sq_gT rfl rfl ?_
    refine sq_q (qt_move rfl) rfl ?_
    refine sq_gT rfl rfl ?_
    refine sq_call (val := fun _ : Unit => .bool true) (F := fun _ _ => True) rfl rfl rfl (fun w t => same_opt t.r.1 t.r.2 (by omega) (by omega) ul uq) fun _ => ?_
    refine sq_q (qt_pick rfl rfl) rfl ?_
    refine sq_q (qt_move rfl) rfl ?_
    refine sq_gT rfl rfl ?_
    refine sq_q (qt_move rfl) rfl ?_
    refine sq_gT rfl rfl ?_
    refine sq_q (qt_move rfl) rfl ?_
    refine sq_gT rfl rfl ?_
    refine sq_q (qt_binB (r := .bool true) rfl rfl (bin_eqlBr boolT _)) rfl ?_
    refine sq_q (qt_pick rfl rfl) rfl ?_
    refine sq_q (qt_move rfl) rfl ?_
    refine sq_gT rfl rfl ?_
    refine sq_call (val := fun _ : Unit => .bool true) (F := fun _ _ => True) rfl rfl rfl (fun w t => awake_ret w _) fun _ => ?_
    refine sq_q (qt_pick rfl rfl) rfl ?_
    refine sq_q (qt_assign rfl) rfl ?_
    refine sq_end ?_
    refine tr_ret ?_
    repeat with_reducible first | refine tr_skip ?_ | refine tr_exit ?_ | refine tr_then ?_ | refine tr_inX ?_ | refine tr_thenX ?_ | refine tr_inN ?_ | refine tr_inR ?_ | refine tr_thenR ?_
    exact tr_done () (fun a w s t => results_1 rfl (resv_tmp s rfl)) (fun _ _ _ _ => trivial)
end Go.Qk
end
