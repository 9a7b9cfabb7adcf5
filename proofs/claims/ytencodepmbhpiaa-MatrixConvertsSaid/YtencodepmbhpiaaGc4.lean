/- Lemmas and contracts of functions that the law reaches: M2, M3, M4, M5, Mi, M6, M7, M8, Ad, Br, M9, Dt, M10, I6. -/
import Derived.Test.YtencodepmbhpiaaGc3
set_option linter.unusedVariables false
set_option linter.unusedSimpArgs false
section
/- Identity, Zero -/
set_option linter.unusedVariables false
namespace Go.Qk
open Go Go.Proofs Go.RowKit
set_option maxRecDepth 100000
set_option maxHeartbeats 4000000

theorem ident1_ret (i j : Nat) (w : World) (S : Nat → Prop) :
    Ret Try.prog 65 [.int .i64 (i : Int), .int .i64 (j : Int)] w S (iv (ident i j)) (Lz (ident i j).natAbs) := by
  refine ret_of Try.func65 rfl Try.ntmps65 rfl ?_
  refine tr_rseq ?_   -- region 0
  refine sq_alloc rfl fun r4 => ?_   -- t4
  refine sq_end ?_
  refine tr_seq ?_   -- C1
  refine tr_rseq ?_   -- region 1
  refine sq_q (qt_move rfl) rfl ?_   -- t5
  refine sq_q (qt_move rfl) rfl ?_   -- t6
  refine sq_q (qt_bin rfl rfl bin_eql) rfl ?_   -- t7
  refine sq_end ?_
  refine tr_if rfl (fun hc => ?_) (fun hc => ?_)
  ·
    have e : ident i j = 1 := if_pos (by have := of_decide_eq_true hc; omega)
    rw [e]
    refine tr_rseq ?_   -- region 2
    refine sq_call (iv 1) (Lz (1 : Int).natAbs) rfl rfl rfl (fun w t => small_ret 1 w _ (by omega) (by omega)) fun x => ?_   -- t8
    refine sq_store 0 rfl rfl rfl rfl (by first | (simp [u32s, Value.cells]; done) | (simp [u32s, Value.cells]; omega) | exact Nat.le_refl 2) rfl rfl ?_   -- R2.1
    refine sq_end ?_
    refine tr_ret ?_
    repeat (first | (with_reducible refine tr_skip ?_) | (with_reducible refine tr_exit ?_) | (with_reducible refine tr_then ?_) | (with_reducible refine tr_inX ?_) | (with_reducible refine tr_thenX ?_) | (with_reducible refine tr_inN ?_) | (with_reducible refine tr_inR ?_) | (with_reducible refine tr_thenR ?_))
    exact tr_done x (fun a w s t => results_1 rfl (resv_cell 0 s t rfl rfl rfl)) (fun w h _ _ => h.2)
  ·
    have e : ident i j = 0 := if_neg (by have := of_decide_eq_false hc; omega)
    rw [e]
    refine tr_skip ?_
    repeat (first | (with_reducible refine tr_skip ?_) | (with_reducible refine tr_exit ?_) | (with_reducible refine tr_then ?_) | (with_reducible refine tr_inX ?_) | (with_reducible refine tr_thenX ?_) | (with_reducible refine tr_inN ?_) | (with_reducible refine tr_inR ?_) | (with_reducible refine tr_thenR ?_))
    refine tr_rseq ?_   -- region 3
    refine sq_q (qt_build rfl built0) rfl ?_   -- t9
    refine sq_store 0 rfl rfl rfl rfl (by first | (simp [u32s, Value.cells]; done) | (simp [u32s, Value.cells]; omega) | exact Nat.le_refl 2) rfl rfl ?_   -- R3.1
    refine sq_end ?_
    refine tr_ret ?_
    repeat (first | (with_reducible refine tr_skip ?_) | (with_reducible refine tr_exit ?_) | (with_reducible refine tr_then ?_) | (with_reducible refine tr_inX ?_) | (with_reducible refine tr_thenX ?_) | (with_reducible refine tr_inN ?_) | (with_reducible refine tr_inR ?_) | (with_reducible refine tr_thenR ?_))
    refine tr_done (none, 0) (fun a w s t => results_1 rfl (by rw [iv_zero]; exact resv_cell 0 s t rfl rfl rfl)) (fun w _ _ _ => ?_)
    rw [show (0 : Int).natAbs = 0 from rfl, Lz, limbsOf_zero]
    exact ⟨Rd.nil _ _, Nat.le_refl _⟩

theorem identity_ret (n : Int) (w : World) (S : Nat → Prop) :
    Ret Try.prog 20 [.int .i64 n] w S (optV (identO n)) (optF 1 (identO n)) := by
  refine ret_of Try.func20 rfl Try.ntmps20 rfl ?_
  refine tr_rseq ?_   -- region 0
  refine sq_q (qt_assign rfl) rfl ?_   -- t2
  refine sq_q (qt_assign rfl) rfl ?_   -- t3
  refine sq_end ?_
  refine tr_seq ?_   -- C1
  have hcs : n < 1 ∨ (1 ≤ n ∧ 16 < n) ∨ (1 ≤ n ∧ n ≤ 16) := by omega
  rcases hcs with h1 | ⟨h1, h2⟩ | ⟨h1, h2⟩
  ·
    have e : identO n = none := if_neg (by omega)
    rw [e]
    refine tr_rseq ?_   -- region 1
    refine sq_q (qt_move rfl) rfl ?_   -- t4
    refine sq_q (qt_bin rfl rfl (bT bin_lss (by omega))) rfl ?_   -- t5
    refine sq_q (qt_move rfl) rfl ?_   -- t6
    refine sq_gF rfl rfl rfl rfl ?_
    refine sq_gF rfl rfl rfl rfl ?_
    refine sq_q (qt_pick rfl rfl) rfl ?_   -- t9
    refine sq_end ?_
    refine tr_ifT rfl ?_
    refine tr_rseq ?_   -- region 2
    refine sq_q (qt_assign rfl) rfl ?_   -- t2
    refine sq_q (qt_assign rfl) rfl ?_   -- t3
    refine sq_end ?_
    refine tr_ret ?_
    repeat (first | (with_reducible refine tr_skip ?_) | (with_reducible refine tr_exit ?_) | (with_reducible refine tr_then ?_) | (with_reducible refine tr_inX ?_) | (with_reducible refine tr_thenX ?_) | (with_reducible refine tr_inN ?_) | (with_reducible refine tr_inR ?_) | (with_reducible refine tr_thenR ?_))
    exact tr_done ⟨[], (none, 0)⟩ (fun a w s t => results_2 rfl (resv_tmp s rfl) (resv_tmp s rfl)) (fun w _ _ _ => optF_none _ _)
  ·
    have e : identO n = none := if_neg (by omega)
    rw [e]
    refine tr_rseq ?_   -- region 1
    refine sq_q (qt_move rfl) rfl ?_   -- t4
    refine sq_q (qt_bin rfl rfl (bF bin_lss (by omega))) rfl ?_   -- t5
    refine sq_q (qt_move rfl) rfl ?_   -- t6
    refine sq_gT rfl rfl ?_
    refine sq_q (qt_move rfl) rfl ?_   -- t7
    refine sq_gT rfl rfl ?_
    refine sq_q (qt_bin rfl rfl (bT bin_gtr (by omega))) rfl ?_   -- t8
    refine sq_q (qt_pick rfl rfl) rfl ?_   -- t9
    refine sq_end ?_
    refine tr_ifT rfl ?_
    refine tr_rseq ?_   -- region 2
    refine sq_q (qt_assign rfl) rfl ?_   -- t2
    refine sq_q (qt_assign rfl) rfl ?_   -- t3
    refine sq_end ?_
    refine tr_ret ?_
    repeat (first | (with_reducible refine tr_skip ?_) | (with_reducible refine tr_exit ?_) | (with_reducible refine tr_then ?_) | (with_reducible refine tr_inX ?_) | (with_reducible refine tr_thenX ?_) | (with_reducible refine tr_inN ?_) | (with_reducible refine tr_inR ?_) | (with_reducible refine tr_thenR ?_))
    exact tr_done ⟨[], (none, 0)⟩ (fun a w s t => results_2 rfl (resv_tmp s rfl) (resv_tmp s rfl)) (fun w _ _ _ => optF_none _ _)
  ·
    have e : identO n = some (grid ident n.toNat n.toNat) := if_pos ⟨h1, h2⟩
    rw [e]
    obtain ⟨k, rfl⟩ : ∃ k : Nat, n = (k : Int) := ⟨n.toNat, by omega⟩
    simp only [Int.toNat_natCast]
    refine tr_rseq ?_   -- region 1
    refine sq_q (qt_move rfl) rfl ?_   -- t4
    refine sq_q (qt_bin rfl rfl (bF bin_lss (by omega))) rfl ?_   -- t5
    refine sq_q (qt_move rfl) rfl ?_   -- t6
    refine sq_gT rfl rfl ?_
    refine sq_q (qt_move rfl) rfl ?_   -- t7
    refine sq_gT rfl rfl ?_
    refine sq_q (qt_bin rfl rfl (bF bin_gtr (by omega))) rfl ?_   -- t8
    refine sq_q (qt_pick rfl rfl) rfl ?_   -- t9
    refine sq_end ?_
    refine tr_ifF rfl ?_
    refine tr_skip ?_
    repeat (first | (with_reducible refine tr_skip ?_) | (with_reducible refine tr_exit ?_) | (with_reducible refine tr_then ?_) | (with_reducible refine tr_inX ?_) | (with_reducible refine tr_thenX ?_) | (with_reducible refine tr_inN ?_) | (with_reducible refine tr_inR ?_) | (with_reducible refine tr_thenR ?_))
    refine tr_rseq ?_   -- region 3
    refine sq_q (qt_move rfl) rfl ?_   -- t10
    refine sq_q (qt_move rfl) rfl ?_   -- t11
    refine sq_call Mt.v (fun m w => m.ok 1 w ∧ m.zs = grid ident k k ∧ m.can) rfl rfl rfl (fun w t => build_ret k k 1 ident 65 [] [] w _ (by omega) (by omega) (fun i j w' S' _ _ _ => (ident1_ret i j w' S').imp fun p w h => ⟨h, ident_nl i j⟩)) fun m => ?_   -- t12
    refine sq_q (qt_assign rfl) rfl ?_   -- t2
    refine sq_q (qt_assign rfl) rfl ?_   -- t3
    refine sq_end ?_
    refine tr_ret ?_
    repeat (first | (with_reducible refine tr_skip ?_) | (with_reducible refine tr_exit ?_) | (with_reducible refine tr_then ?_) | (with_reducible refine tr_inX ?_) | (with_reducible refine tr_thenX ?_) | (with_reducible refine tr_inN ?_) | (with_reducible refine tr_inR ?_) | (with_reducible refine tr_thenR ?_))
    exact tr_done m (fun a w s t => results_2 rfl (resv_tmp s rfl) (resv_tmp s rfl)) (fun w h _ _ => h.2)

theorem zero_ret (r c : Nat) (w : World) (S : Nat → Prop) (hr16 : r ≤ 65536) (hc16 : c ≤ 65536) :
    Ret Try.prog 63 [.int .i64 (r : Int), .int .i64 (c : Int)] w S (fun x : Nat × List Wr => .slice (some ⟨x.1, 0, none⟩) r r) (fun x w' => Fresh w.heap.size (mown x.1 x.2) w' ∧ x.2.map (·.2) = List.replicate r (List.replicate c z0)) := by
  refine ret_of Try.func63 rfl Try.ntmps63 rfl ?_
  refine tr_rseq ?_   -- region 0
  refine sq_q (qt_assign rfl) rfl ?_   -- t4
  refine sq_end ?_
  refine tr_rseq ?_   -- region 1
  refine sq_q (qt_move rfl) rfl ?_   -- t7
  refine sq_make (c := r) rfl rfl (by omega) (by omega) rfl fun r8 => ?_   -- t8
  refine sq_q (qt_assign rfl) rfl ?_   -- t5
  refine sq_end ?_
  refine tr_seq ?_   -- C1
  refine tr_rseq ?_   -- region 2
  refine sq_q (qt_move rfl) rfl ?_   -- t9
  refine sq_q (qt_len rfl) rfl ?_   -- t10
  refine sq_q (qt_move rfl) rfl ?_   -- t11
  refine sq_end ?_
  refine tr_block ?_
  refine tr_loop (fun done : List Wr => done.length ≤ r ∧ done.map (·.2) = List.replicate done.length (List.replicate c z0)) (fun done => [(1, .int .i64 (c : Int)), (5, .slice (some ⟨r8, 0, none⟩) r r), (10, .int .i64 (r : Int)), (11, .int .i64 (done.length : Int))])
    (fun done => mout r8 done (r - done.length) :: done.map mrow) (fun _ _ => True) (fun done => r - done.length) [] ⟨Nat.zero_le _, rfl⟩ ⟨rfl, rfl, rfl, rfl, trivial⟩ (by rw [made_s]; rfl) (fun _ _ => trivial) ?_
  rintro done ⟨hle, hz⟩
  refine tr_rseq ?_   -- region 3
  refine sq_q (qt_bin rfl rfl bin_lss) rfl ?_   -- t12
  refine sq_end ?_
  refine tr_seq ?_   -- C2
  refine tr_if rfl (fun hc => ?_) (fun hc => ?_)
  ·
    have hlt : done.length < r := by have := of_decide_eq_true hc; omega
    refine tr_skip ?_
    repeat (first | (with_reducible refine tr_skip ?_) | (with_reducible refine tr_exit ?_) | (with_reducible refine tr_then ?_) | (with_reducible refine tr_inX ?_) | (with_reducible refine tr_thenX ?_) | (with_reducible refine tr_inN ?_) | (with_reducible refine tr_inR ?_) | (with_reducible refine tr_thenR ?_))
    refine tr_seq ?_   -- C3
    refine tr_block ?_
    refine tr_rseq ?_   -- region 4
    refine sq_q (qt_move rfl) rfl ?_   -- t13
    refine sq_q (qt_assign rfl) rfl ?_   -- t6
    refine sq_end ?_
    refine tr_region ?_   -- region 5
    refine sq_q (qt_move rfl) rfl ?_   -- t14
    refine sq_q (qt_move rfl) rfl ?_   -- t15
    refine sq_q (qt_move rfl) rfl ?_   -- t16
    refine sq_make (c := c) rfl rfl (by omega) (by omega) rfl fun r17 => ?_   -- t17
    refine sq_q (qt_index (i := done.length) rfl rfl hlt) rfl ?_   -- t18
    refine sq_store 1 rfl rfl rfl rfl (by simp [Value.cells]; omega) rfl rfl ?_   -- R5.5
    refine sq_nil ?_
    repeat (first | (with_reducible refine tr_skip ?_) | (with_reducible refine tr_exit ?_) | (with_reducible refine tr_then ?_) | (with_reducible refine tr_inX ?_) | (with_reducible refine tr_thenX ?_) | (with_reducible refine tr_inN ?_) | (with_reducible refine tr_inR ?_) | (with_reducible refine tr_thenR ?_))
    refine tr_region ?_   -- region 6
    refine sq_q (qt_bin rfl rfl (bin_addI (by omega) (by omega))) rfl ?_   -- t19
    refine sq_q (qt_move rfl) rfl ?_   -- t11
    refine sq_nil ?_
    repeat (first | (with_reducible refine tr_skip ?_) | (with_reducible refine tr_exit ?_) | (with_reducible refine tr_then ?_) | (with_reducible refine tr_inX ?_) | (with_reducible refine tr_thenX ?_) | (with_reducible refine tr_inN ?_) | (with_reducible refine tr_inR ?_) | (with_reducible refine tr_thenR ?_))
    obtain ⟨k, hk⟩ : ∃ k, r - done.length = k + 1 := ⟨r - done.length - 1, by omega⟩
    refine tr_perm (mout r8 (done ++ [(r17, List.replicate c z0)]) k :: (done ++ [(r17, List.replicate c z0)]).map mrow) ?_ ?_
    · have hset := next_set (done.map mhdr) k (Value.slice none 0 0) (mhdr (r17, List.replicate c z0))
      rw [List.length_map] at hset
      have e1 : mout r8 (done ++ [(r17, List.replicate c z0)]) k = (r8, .cells (wr (done.map mhdr ++ List.replicate (r - done.length) (Value.slice none 0 0)) (0 + done.length * 1) [mhdr (r17, List.replicate c z0)]).toArray 44 (0, 0)) := by
        unfold mout
        rw [hk, Nat.zero_add, Nat.mul_one, List.map_append]
        show _ = (r8, Obj.cells ((done.map mhdr ++ List.replicate (k + 1) (Value.slice none 0 0)).set done.length (mhdr (r17, List.replicate c z0))).toArray _ _)
        rw [hset]
        rfl
      have e2 : mrow (r17, List.replicate c z0) = (r17, .cells (madeCells (Value.agg #[.bool false, .slice none 0 0]).cells (c * 2)) 35 (0, 0)) := by
        rw [made_z]; rfl
      have e3 : mhdr (r17, List.replicate c z0) = .slice (some ⟨r17, 0, none⟩) c c := by simp [mhdr]
      rw [e1, List.map_append, List.map_cons, List.map_nil, e2, e3]
      exact (List.perm_append_comm (l₁ := [(r17, _)]) (l₂ := _ :: done.map mrow)).trans (by simp; exact List.Perm.refl _)
    refine tr_round (done ++ [(r17, List.replicate c z0)]) ⟨by simp; omega, ?_⟩ (by simp; omega) ⟨rfl, rfl, rfl, by simp; rfl, trivial⟩ ?_ (fun _ _ => trivial)
    · rw [List.map_append, hz, List.length_append, List.length_singleton, List.replicate_succ']
      rfl
    · rw [List.length_append, List.length_singleton, show r - (done.length + 1) = k by omega]
  ·
    have hlr : done.length = r := by have := of_decide_eq_false hc; omega
    refine tr_exit ?_
    repeat (first | (with_reducible refine tr_skip ?_) | (with_reducible refine tr_exit ?_) | (with_reducible refine tr_then ?_) | (with_reducible refine tr_inX ?_) | (with_reducible refine tr_thenX ?_) | (with_reducible refine tr_inN ?_) | (with_reducible refine tr_inR ?_) | (with_reducible refine tr_thenR ?_))
    refine tr_rseq ?_   -- region 7
    refine sq_q (qt_move rfl) rfl ?_   -- t20
    refine sq_q (qt_assign rfl) rfl ?_   -- t4
    refine sq_end ?_
    refine tr_ret ?_
    repeat (first | (with_reducible refine tr_skip ?_) | (with_reducible refine tr_exit ?_) | (with_reducible refine tr_then ?_) | (with_reducible refine tr_inX ?_) | (with_reducible refine tr_thenX ?_) | (with_reducible refine tr_inN ?_) | (with_reducible refine tr_inR ?_) | (with_reducible refine tr_thenR ?_))
    refine tr_doneF (r8, done) (fun a w s t => results_1 rfl (resv_tmp s rfl)) (fun w h => ⟨?_, by rw [← hlr]; exact hz⟩)
    rw [hlr, Nat.sub_self] at h
    exact h
end Go.Qk
end
section
/- How Zero is called. -/
set_option linter.unusedVariables false
namespace Go.Qk
open Go Go.Proofs Go.RowKit
theorem zero_call {w0 w : World} {X : List Nat} {S : Nat → Prop} {own : Own} {R : World → Prop} (t : SS w0 X S own R w) (r c : Nat) (hr : r ≤ 65536) (hc : c ≤ 65536) :
    Ret Try.prog 63 [.int .i64 (r : Int), .int .i64 (c : Int)] w (Nn w0 S own w) (fun x : Nat × List Wr => .slice (some ⟨x.1, 0, none⟩) r r) (fun x w' => Fresh w0.heap.size (mown x.1 x.2) w' ∧ x.2.map (·.2) = List.replicate r (List.replicate c z0)) :=
  (zero_ret r c w _ hr hc).imp fun x w' h => ⟨h.1.mono t.size, h.2⟩
theorem rsame_zd {z z' : Zd} {B B' : Nat} {w : World} {S : Nat → Prop} (hz : z.ok B w) (hz' : z'.ok B' w) (c : z.can) (c' : z'.can) (hB : B ≤ 35184372088832) (hB' : B' ≤ 35184372088832) :
    Ret Try.prog 28 [z.v, z'.v] w S (fun _ : Unit => .bool (decide (z.z = z'.z))) (fun _ _ => True) := by
  have e := Zd.can_eq c
  have e' := Zd.can_eq c'
  have h1 : z.xs = limbsOf z.z.natAbs := congrArg Zd.xs e
  have h2 : z'.xs = limbsOf z'.z.natAbs := congrArg Zd.xs e'
  rw [Zd.can_v c, Zd.can_v c']
  have g1 := hz.1
  have g2 := hz'.1
  have b1 := hz.2.2
  have b2 := hz'.2.2
  rw [h1] at g1 b1
  rw [h2] at g2 b2
  exact rsame_ret z.z z'.z z.p z'.p w S g1 g2 (Nat.le_trans b1 hB) (Nat.le_trans b2 hB')
end Go.Qk
end
section
/- Identity of the reference -/
set_option linter.unusedVariables false
namespace Go.Qk
open Go Go.Proofs Go.RowKit
set_option maxRecDepth 100000
set_option maxHeartbeats 4000000

theorem ridentity_ret (n : Int) (w0 : World) (S : Nat → Prop) :
    Ret Try.prog 21 [.int .i64 n] w0 S (optV (identO n)) (optF 1 (identO n)) := by
  refine ret_of Try.func21 rfl Try.ntmps21 rfl ?_
  refine tr_rseq ?_   -- region 0
  refine sq_q (qt_assign rfl) rfl ?_   -- t2
  refine sq_q (qt_assign rfl) rfl ?_   -- t3
  refine sq_end ?_
  refine tr_seq ?_   -- C1
  have hcs : n < 1 ∨ (1 ≤ n ∧ 16 < n) ∨ (1 ≤ n ∧ n ≤ 16) := by omega
  rcases hcs with h1 | ⟨h1, h2⟩ | ⟨h1, h2⟩
  ·
    have e : identO n = none := if_neg (by omega)
    rw [e]
    refine tr_rseq ?_   -- region 1
    refine sq_q (qt_move rfl) rfl ?_   -- t6
    refine sq_q (qt_bin rfl rfl (bT bin_lss (by omega))) rfl ?_   -- t7
    refine sq_q (qt_move rfl) rfl ?_   -- t8
    refine sq_gF rfl rfl rfl rfl ?_
    refine sq_gF rfl rfl rfl rfl ?_
    refine sq_q (qt_pick rfl rfl) rfl ?_   -- t11
    refine sq_end ?_
    refine tr_ifT rfl ?_
    refine tr_rseq ?_   -- region 2
    refine sq_q (qt_assign rfl) rfl ?_   -- t2
    refine sq_q (qt_assign rfl) rfl ?_   -- t3
    refine sq_end ?_
    refine tr_ret ?_
    repeat (first | (with_reducible refine tr_skip ?_) | (with_reducible refine tr_exit ?_) | (with_reducible refine tr_then ?_) | (with_reducible refine tr_inX ?_) | (with_reducible refine tr_thenX ?_) | (with_reducible refine tr_inN ?_) | (with_reducible refine tr_inR ?_) | (with_reducible refine tr_thenR ?_))
    exact tr_done ⟨[], (none, 0)⟩ (fun a w s t => results_2 rfl (resv_tmp s rfl) (resv_tmp s rfl)) (fun w _ _ _ => optF_none _ _)
  ·
    have e : identO n = none := if_neg (by omega)
    rw [e]
    refine tr_rseq ?_   -- region 1
    refine sq_q (qt_move rfl) rfl ?_   -- t6
    refine sq_q (qt_bin rfl rfl (bF bin_lss (by omega))) rfl ?_   -- t7
    refine sq_q (qt_move rfl) rfl ?_   -- t8
    refine sq_gT rfl rfl ?_
    refine sq_q (qt_move rfl) rfl ?_   -- t9
    refine sq_gT rfl rfl ?_
    refine sq_q (qt_bin rfl rfl (bT bin_gtr (by omega))) rfl ?_   -- t10
    refine sq_q (qt_pick rfl rfl) rfl ?_   -- t11
    refine sq_end ?_
    refine tr_ifT rfl ?_
    refine tr_rseq ?_   -- region 2
    refine sq_q (qt_assign rfl) rfl ?_   -- t2
    refine sq_q (qt_assign rfl) rfl ?_   -- t3
    refine sq_end ?_
    refine tr_ret ?_
    repeat (first | (with_reducible refine tr_skip ?_) | (with_reducible refine tr_exit ?_) | (with_reducible refine tr_then ?_) | (with_reducible refine tr_inX ?_) | (with_reducible refine tr_thenX ?_) | (with_reducible refine tr_inN ?_) | (with_reducible refine tr_inR ?_) | (with_reducible refine tr_thenR ?_))
    exact tr_done ⟨[], (none, 0)⟩ (fun a w s t => results_2 rfl (resv_tmp s rfl) (resv_tmp s rfl)) (fun w _ _ _ => optF_none _ _)
  ·
    have e : identO n = some (grid ident n.toNat n.toNat) := if_pos ⟨h1, h2⟩
    rw [e]
    obtain ⟨k, rfl⟩ : ∃ k : Nat, n = (k : Int) := ⟨n.toNat, by omega⟩
    simp only [Int.toNat_natCast]
    refine tr_rseq ?_   -- region 1
    refine sq_q (qt_move rfl) rfl ?_   -- t6
    refine sq_q (qt_bin rfl rfl (bF bin_lss (by omega))) rfl ?_   -- t7
    refine sq_q (qt_move rfl) rfl ?_   -- t8
    refine sq_gT rfl rfl ?_
    refine sq_q (qt_move rfl) rfl ?_   -- t9
    refine sq_gT rfl rfl ?_
    refine sq_q (qt_bin rfl rfl (bF bin_gtr (by omega))) rfl ?_   -- t10
    refine sq_q (qt_pick rfl rfl) rfl ?_   -- t11
    refine sq_end ?_
    refine tr_ifF rfl ?_
    refine tr_skip ?_
    repeat (first | (with_reducible refine tr_skip ?_) | (with_reducible refine tr_exit ?_) | (with_reducible refine tr_then ?_) | (with_reducible refine tr_inX ?_) | (with_reducible refine tr_thenX ?_) | (with_reducible refine tr_inN ?_) | (with_reducible refine tr_inR ?_) | (with_reducible refine tr_thenR ?_))
    refine tr_rseq ?_   -- region 3
    refine sq_q (qt_move rfl) rfl ?_   -- t12
    refine sq_q (qt_move rfl) rfl ?_   -- t13
    refine sq_call (fun x : Nat × List Wr => .slice (some ⟨x.1, 0, none⟩) k k) (fun x w' => Fresh w0.heap.size (mown x.1 x.2) w' ∧ x.2.map (·.2) = List.replicate k (List.replicate k z0)) rfl rfl rfl (fun w t => zero_call t k k (by omega) (by omega)) fun x => ?_   -- t14
    refine sq_q (qt_assign rfl) rfl ?_   -- t4
    refine sq_end ?_
    obtain ⟨o, qs⟩ := x
    refine tr_have (fun w t => t.r.2.2) fun hqs => ?_
    refine tr_adopt0 (mown o qs) (fun w h => h.2.1) ?_
    refine tr_seq ?_   -- C2
    refine tr_rseq ?_   -- region 4
    refine sq_q (qt_move rfl) rfl ?_   -- t15
    refine sq_q (qt_len rfl) rfl ?_   -- t16
    refine sq_q (qt_move rfl) rfl ?_   -- t17
    refine sq_end ?_
    refine tr_block ?_
    refine tr_loop2 (fun (i : Nat) (qs : List Wr) => i ≤ k ∧ MG (fun a b => if a = b ∧ a < i then 1 else 0) k k qs ∧ allz Zd.can qs) (fun i qs => [(4, .slice (some ⟨o, 0, none⟩) k k), (16, .int .i64 (k : Int)), (17, .int .i64 (i : Int))])
      (fun i qs => mown o qs) (fun i qs w => allz (fun z => z.ok 1 w) qs) (fun i qs => k - i) 0 qs ⟨Nat.zero_le _, (MG.of_zero hqs).congr (fun a b _ _ => by rw [if_neg (by omega)]), allz.of_zero hqs z0_can⟩ ⟨rfl, rfl, rfl, trivial⟩ rfl (fun w _ => allz.of_zero hqs (z0_ok 1 w)) ?_
    clear hqs qs
    rintro i qs ⟨hle, hG, hcan⟩
    refine tr_rseq ?_   -- region 5
    refine sq_q (qt_bin rfl rfl bin_lss) rfl ?_   -- t18
    refine sq_end ?_
    refine tr_seq ?_   -- C3
    refine tr_if rfl (fun hc => ?_) (fun hc => ?_)
    ·
      have hlt : i < k := by have := of_decide_eq_true hc; omega
      obtain ⟨q, hq, hql⟩ := hG.get hlt
      refine tr_skip ?_
      repeat (first | (with_reducible refine tr_skip ?_) | (with_reducible refine tr_exit ?_) | (with_reducible refine tr_then ?_) | (with_reducible refine tr_inX ?_) | (with_reducible refine tr_thenX ?_) | (with_reducible refine tr_inN ?_) | (with_reducible refine tr_inR ?_) | (with_reducible refine tr_thenR ?_))
      refine tr_seq ?_   -- C4
      refine tr_block ?_
      refine tr_rseq ?_   -- region 6
      refine sq_q (qt_move rfl) rfl ?_   -- t19
      refine sq_q (qt_assign rfl) rfl ?_   -- t5
      refine sq_end ?_
      refine tr_draw 6 [] [] [0, 2, 3, 4, 5, 11, 16, 17, 18, 23, 24, 25] (by kernel_rfl) ?_   -- region 7
      refine dx_q rfl (qt_move rfl) rfl ?_   -- t20
      refine dx_q rfl (qt_move rfl) rfl ?_   -- t21
      refine dx_q rfl (qt_index (i := i) rfl rfl hlt) rfl ?_   -- t22
      refine dx_q rfl (qt_load rfl (fun w t => t.o1 0 rfl (mout_get hq))) rfl ?_   -- t23
      refine dx_q rfl (qt_move rfl) rfl ?_   -- t24
      refine dx_call (iv 1) (Lz (1 : Int).natAbs) rfl rfl rfl (fun w t => rsmall_ret 1 w _ (by omega) (by omega)) ?_   -- t25
      refine dx_nil ?_
      repeat (first | refine es_val rfl ?_ rfl | refine es_res rfl (fun x => ?_) rfl | refine es_skip rfl ?_)
      refine es_nil rfl ?_
      refine tx_q (qt_index (i := i) rfl rfl (by omega)) rfl rfl rfl ?_   -- t26
      refine tx_store (i + 1) rfl rfl (mown_at hq) rfl (show 0 + i * 2 + 2 ≤ (zcs q.2).length by rw [zcs_length, hql]; omega) rfl rfl rfl ?_   -- _
      refine tx_end ?_
      repeat (first | (with_reducible refine tr_skip ?_) | (with_reducible refine tr_exit ?_) | (with_reducible refine tr_then ?_) | (with_reducible refine tr_inX ?_) | (with_reducible refine tr_thenX ?_) | (with_reducible refine tr_inN ?_) | (with_reducible refine tr_inR ?_) | (with_reducible refine tr_thenR ?_))
      refine tr_region ?_   -- region 8
      refine sq_q (qt_bin rfl rfl (bin_addI (by omega) (by omega))) rfl ?_   -- t27
      refine sq_q (qt_move rfl) rfl ?_   -- t17
      refine sq_nil ?_
      repeat (first | (with_reducible refine tr_skip ?_) | (with_reducible refine tr_exit ?_) | (with_reducible refine tr_then ?_) | (with_reducible refine tr_inX ?_) | (with_reducible refine tr_thenX ?_) | (with_reducible refine tr_inN ?_) | (with_reducible refine tr_inR ?_) | (with_reducible refine tr_thenR ?_))
      refine tr_own (mown o (qs.set i (q.1, q.2.set i (zd 1 x)))) (mown_wr (zd 1 x) hq (by omega)) ?_
      refine tr_round2 (i + 1) (qs.set i (q.1, q.2.set i (zd 1 x))) ⟨by omega, (hG.set hq (zd 1 x) 1 (zd_z _ _)).congr (fun a b _ _ => ?_), hcan.set hq (zd_can _ _)⟩ (by omega) ⟨rfl, rfl, rfl, trivial⟩ rfl (fun w h => h.1.set hq (zd_ok h.2 nl_one))
      unfold gset
      dsimp only
      split
      · rename_i h; rw [if_pos (by omega)]
      · rename_i h
        by_cases h' : a = b ∧ a < i
        · rw [if_pos h', if_pos (by omega)]
        · rw [if_neg h', if_neg (by omega)]
    ·
      have hik : i = k := by have := of_decide_eq_false hc; omega
      subst hik
      refine tr_exit ?_
      repeat (first | (with_reducible refine tr_skip ?_) | (with_reducible refine tr_exit ?_) | (with_reducible refine tr_then ?_) | (with_reducible refine tr_inX ?_) | (with_reducible refine tr_thenX ?_) | (with_reducible refine tr_inN ?_) | (with_reducible refine tr_inR ?_) | (with_reducible refine tr_thenR ?_))
      refine tr_rseq ?_   -- region 9
      refine sq_q (qt_move rfl) rfl ?_   -- t28
      refine sq_q (qt_assign rfl) rfl ?_   -- t2
      refine sq_q (qt_assign rfl) rfl ?_   -- t3
      refine sq_end ?_
      refine tr_ret ?_
      repeat (first | (with_reducible refine tr_skip ?_) | (with_reducible refine tr_exit ?_) | (with_reducible refine tr_then ?_) | (with_reducible refine tr_inX ?_) | (with_reducible refine tr_thenX ?_) | (with_reducible refine tr_inN ?_) | (with_reducible refine tr_inR ?_) | (with_reducible refine tr_thenR ?_))
      refine tr_done (mmt o qs) (fun a w s t => results_2 rfl (resv_tmp s (by rw [mmt_v, hG.1]; rfl)) (resv_tmp s rfl)) (fun w h ho _ => ⟨mmt_ok ho h, ?_, mmt_can hcan⟩)
      rw [mmt_zs, hG.zs]
      show grid _ i i = grid ident i i
      unfold grid
      refine List.map_congr_left fun a ha => List.map_congr_left fun b hb => ?_
      have ha := List.mem_range.1 ha
      unfold ident
      dsimp only
      by_cases h' : a = b
      · rw [if_pos ⟨h', ha⟩, if_pos h']
      · rw [if_neg (fun e => h' e.1), if_neg h']
end Go.Qk
end
section
/- SameList, Same -/
set_option linter.unusedVariables false
namespace Go.Qk
open Go Go.Proofs Go.RowKit
set_option maxRecDepth 100000
set_option maxHeartbeats 4000000

theorem samelist_ret (a b : Rw) (B : Nat) (w0 : World) (S : Nat → Prop) (ha : a.ok B w0) (hb : b.ok B w0) (ca : a.can) (cb : b.can) (hB : B ≤ 35184372088832) (hl : a.l.length ≤ 35184372088832) (hl' : b.l.length ≤ 35184372088832) :
    Ret Try.prog 51 [a.v, b.v] w0 S (fun _ : Unit => .bool (decide (a.zs = b.zs))) (fun _ _ => True) := by
  refine ret_of Try.func51 rfl Try.ntmps51 rfl ?_
  refine tr_rseq ?_   -- region 0
  refine sq_q (qt_assign rfl) rfl ?_   -- t4
  refine sq_end ?_
  refine tr_seq ?_   -- C1
  refine tr_rseq ?_   -- region 1
  refine sq_q (qt_move rfl) rfl ?_   -- t6
  refine sq_q (qt_len rfl) rfl ?_   -- t7
  refine sq_q (qt_move rfl) rfl ?_   -- t8
  refine sq_q (qt_len rfl) rfl ?_   -- t9
  refine sq_q (qt_bin rfl rfl bin_neq) rfl ?_   -- t10
  refine sq_end ?_
  refine tr_if rfl (fun hc => ?_) (fun hc => ?_)
  ·
    have hne : a.l.length ≠ b.l.length := by have := of_decide_eq_true hc; omega
    refine tr_rseq ?_   -- region 2
    refine sq_q (qt_assign rfl) rfl ?_   -- t4
    refine sq_end ?_
    refine tr_ret ?_
    repeat (first | (with_reducible refine tr_skip ?_) | (with_reducible refine tr_exit ?_) | (with_reducible refine tr_then ?_) | (with_reducible refine tr_inX ?_) | (with_reducible refine tr_thenX ?_) | (with_reducible refine tr_inN ?_) | (with_reducible refine tr_inR ?_) | (with_reducible refine tr_thenR ?_))
    refine tr_done () (fun _ w s t => results_1 rfl (resv_tmp s ?_)) (fun _ _ _ _ => trivial)
    rw [show decide (a.zs = b.zs) = false from decide_eq_false (fun e => hne (by have := congrArg List.length e; simpa [Rw.zs] using this))]
    rfl
  ·
    have hlen : a.l.length = b.l.length := by have := of_decide_eq_false hc; omega
    refine tr_skip ?_
    repeat (first | (with_reducible refine tr_skip ?_) | (with_reducible refine tr_exit ?_) | (with_reducible refine tr_then ?_) | (with_reducible refine tr_inX ?_) | (with_reducible refine tr_thenX ?_) | (with_reducible refine tr_inN ?_) | (with_reducible refine tr_inR ?_) | (with_reducible refine tr_thenR ?_))
    refine tr_seq ?_   -- C2
    refine tr_rseq ?_   -- region 3
    refine sq_q (qt_move rfl) rfl ?_   -- t11
    refine sq_q (qt_len rfl) rfl ?_   -- t12
    refine sq_q (qt_move rfl) rfl ?_   -- t13
    refine sq_end ?_
    refine tr_block ?_
    refine tr_loop (fun k : Nat => k ≤ a.l.length ∧ a.zs.take k = b.zs.take k) (fun k => [(0, a.v), (1, b.v), (12, .int .i64 (a.l.length : Int)), (13, .int .i64 (k : Int))]) (fun _ => []) (fun _ _ => True) (fun k => a.l.length - k) 0 ⟨Nat.zero_le _, rfl⟩ ⟨rfl, rfl, rfl, rfl, trivial⟩ rfl (fun _ _ => trivial) ?_
    rintro k ⟨hk, heq⟩
    refine tr_rseq ?_   -- region 4
    refine sq_q (qt_bin rfl rfl bin_lss) rfl ?_   -- t14
    refine sq_end ?_
    refine tr_seq ?_   -- C3
    refine tr_if rfl (fun hc => ?_) (fun hc => ?_)
    ·
      have hlt : k < a.l.length := by have := of_decide_eq_true hc; omega
      have hlt' : k < b.l.length := by omega
      have hca := ca _ (List.getElem_mem hlt)
      have hcb := cb _ (List.getElem_mem hlt')
      obtain ⟨ra, oa, ea, ha0⟩ := ha.1.at_ (zcs_get0 hlt)
      obtain ⟨ra1, oa1, ea1, ha1⟩ := ha.1.at_ (zcs_get1 hlt)
      obtain ⟨rb, ob, eb, hb0⟩ := hb.1.at_ (zcs_get0 hlt')
      obtain ⟨rb1, ob1, eb1, hb1⟩ := hb.1.at_ (zcs_get1 hlt')
      rw [ea] at ea1
      injection ea1 with ea1
      injection ea1 with e1 e2 _
      subst e1 e2
      rw [eb] at eb1
      injection eb1 with eb1
      injection eb1 with e1 e2 _
      subst e1 e2
      have eva : a.v = .slice (some ⟨ra, oa, none⟩) a.l.length a.p.2 := by unfold Rw.v; rw [ea]
      have evb : b.v = .slice (some ⟨rb, ob, none⟩) b.l.length b.p.2 := by unfold Rw.v; rw [eb]
      refine tr_sub [(0, .slice (some ⟨ra, oa, none⟩) a.l.length a.p.2), (1, .slice (some ⟨rb, ob, none⟩) b.l.length b.p.2), (12, .int .i64 (a.l.length : Int)), (13, .int .i64 (k : Int))] ⟨congrArg some eva, congrArg some evb, rfl, rfl, trivial⟩ ?_
      refine tr_skip ?_
      repeat (first | (with_reducible refine tr_skip ?_) | (with_reducible refine tr_exit ?_) | (with_reducible refine tr_then ?_) | (with_reducible refine tr_inX ?_) | (with_reducible refine tr_thenX ?_) | (with_reducible refine tr_inN ?_) | (with_reducible refine tr_inR ?_) | (with_reducible refine tr_thenR ?_))
      refine tr_seq ?_   -- C4
      refine tr_block ?_
      refine tr_rseq ?_   -- region 5
      refine sq_q (qt_move rfl) rfl ?_   -- t15
      refine sq_q (qt_assign rfl) rfl ?_   -- t5
      refine sq_end ?_
      refine tr_rdraw0 [0, 1, 4, 5, 10, 12, 13, 14, 25] (by kernel_rfl) ?_   -- region 6
      refine dx_q rfl (qt_move rfl) rfl ?_   -- t16
      refine dx_q rfl (qt_move rfl) rfl ?_   -- t17
      refine dx_q rfl (qt_index (i := k) rfl rfl hlt) rfl ?_   -- t18
      refine dx_q rfl (qt_load2 rfl (fun w t => t.atA ha0) (fun w t => t.atA ha1)) rfl ?_   -- t19
      refine dx_q rfl (qt_move rfl) rfl ?_   -- t20
      refine dx_q rfl (qt_move rfl) rfl ?_   -- t21
      refine dx_q rfl (qt_index (i := k) rfl rfl hlt') rfl ?_   -- t22
      refine dx_q rfl (qt_load2 rfl (fun w t => t.atA hb0) (fun w t => t.atA hb1)) rfl ?_   -- t23
      refine dx_callv (v := .bool (decide (a.l[k].z = b.l[k].z))) (F := fun _ _ => True) rfl rfl rfl (fun w t => rsame_zd (t.zd (ha.2.2 _ (List.getElem_mem hlt))) (t.zd (hb.2.2 _ (List.getElem_mem hlt'))) hca hcb hB hB) ?_   -- t24
      refine dx_q rfl (qt_not rfl) rfl ?_   -- t25
      refine dx_nil ?_
      repeat (first | refine es_val rfl ?_ rfl | refine es_res rfl (fun x => ?_) rfl | refine es_skip rfl ?_)
      refine es_nil rfl ?_
      refine tx_endk ?_
      refine tr_if rfl (fun hc => ?_) (fun hc => ?_)
      ·
        have hne : a.l[k].z ≠ b.l[k].z := by simpa using hc
        refine tr_rseq ?_   -- region 7
        refine sq_q (qt_assign rfl) rfl ?_   -- t4
        refine sq_end ?_
        refine tr_ret ?_
        repeat (first | (with_reducible refine tr_skip ?_) | (with_reducible refine tr_exit ?_) | (with_reducible refine tr_then ?_) | (with_reducible refine tr_inX ?_) | (with_reducible refine tr_thenX ?_) | (with_reducible refine tr_inN ?_) | (with_reducible refine tr_inR ?_) | (with_reducible refine tr_thenR ?_))
        refine tr_done () (fun _ w s t => results_1 rfl (resv_tmp s ?_)) (fun _ _ _ _ => trivial)
        rw [show decide (a.zs = b.zs) = false from decide_eq_false (fun e => hne (by have h1 := congrArg (fun l => l[k]?) e; simpa [Rw.zs, hlt, hlt'] using h1))]
        rfl
      ·
        have hz : a.l[k].z = b.l[k].z := by simpa using hc
        refine tr_skip ?_
        repeat (first | (with_reducible refine tr_skip ?_) | (with_reducible refine tr_exit ?_) | (with_reducible refine tr_then ?_) | (with_reducible refine tr_inX ?_) | (with_reducible refine tr_thenX ?_) | (with_reducible refine tr_inN ?_) | (with_reducible refine tr_inR ?_) | (with_reducible refine tr_thenR ?_))
        refine tr_region ?_   -- region 8
        refine sq_q (qt_bin rfl rfl (bin_addI (by omega) (by omega))) rfl ?_   -- t26
        refine sq_q (qt_move rfl) rfl ?_   -- t13
        refine sq_nil ?_
        repeat (first | (with_reducible refine tr_skip ?_) | (with_reducible refine tr_exit ?_) | (with_reducible refine tr_then ?_) | (with_reducible refine tr_inX ?_) | (with_reducible refine tr_thenX ?_) | (with_reducible refine tr_inN ?_) | (with_reducible refine tr_inR ?_) | (with_reducible refine tr_thenR ?_))
        refine tr_round (k + 1) ⟨by omega, ?_⟩ (by omega) ⟨congrArg some eva.symm, congrArg some evb.symm, rfl, rfl, trivial⟩ rfl (fun _ h => h)
        have hka : k < a.zs.length := by simpa [Rw.zs] using hlt
        have hkb : k < b.zs.length := by simpa [Rw.zs] using hlt'
        rw [List.take_succ_eq_append_getElem hka, List.take_succ_eq_append_getElem hkb, heq]
        simp [Rw.zs, hz]
    ·
      have hk2 : k = a.l.length := by have := of_decide_eq_false hc; omega
      refine tr_exit ?_
      repeat (first | (with_reducible refine tr_skip ?_) | (with_reducible refine tr_exit ?_) | (with_reducible refine tr_then ?_) | (with_reducible refine tr_inX ?_) | (with_reducible refine tr_thenX ?_) | (with_reducible refine tr_inN ?_) | (with_reducible refine tr_inR ?_) | (with_reducible refine tr_thenR ?_))
      refine tr_rseq ?_   -- region 9
      refine sq_q (qt_assign rfl) rfl ?_   -- t4
      refine sq_end ?_
      refine tr_ret ?_
      repeat (first | (with_reducible refine tr_skip ?_) | (with_reducible refine tr_exit ?_) | (with_reducible refine tr_then ?_) | (with_reducible refine tr_inX ?_) | (with_reducible refine tr_thenX ?_) | (with_reducible refine tr_inN ?_) | (with_reducible refine tr_inR ?_) | (with_reducible refine tr_thenR ?_))
      refine tr_done () (fun _ w s t => results_1 rfl (resv_tmp s ?_)) (fun _ _ _ _ => trivial)
      have e : a.zs = b.zs := by
        have h1 : a.zs.take k = a.zs := List.take_of_length_le (by simp [Rw.zs, hk2])
        have h2 : b.zs.take k = b.zs := List.take_of_length_le (by simp [Rw.zs, hk2, hlen])
        rw [← h1, ← h2, heq]
      rw [decide_eq_true e]
      rfl

theorem same_ret (a b : Mt) (B : Nat) (w0 : World) (S : Nat → Prop) (ha : a.ok B w0) (hb : b.ok B w0) (ca : a.can) (cb : b.can) (hB : B ≤ 35184372088832) (hl : a.rs.length ≤ 35184372088832) (hl' : b.rs.length ≤ 35184372088832) (hr : ∀ q ∈ a.rs, q.l.length ≤ 35184372088832) (hr' : ∀ q ∈ b.rs, q.l.length ≤ 35184372088832) :
    Ret Try.prog 22 [a.v, b.v] w0 S (fun _ : Unit => .bool (decide (a.zs = b.zs))) (fun _ _ => True) := by
  refine ret_of Try.func22 rfl Try.ntmps22 rfl ?_
  refine tr_rseq ?_   -- region 0
  refine sq_q (qt_assign rfl) rfl ?_   -- t4
  refine sq_end ?_
  refine tr_seq ?_   -- C1
  refine tr_rseq ?_   -- region 1
  refine sq_q (qt_move rfl) rfl ?_   -- t6
  refine sq_q (qt_len rfl) rfl ?_   -- t7
  refine sq_q (qt_move rfl) rfl ?_   -- t8
  refine sq_q (qt_len rfl) rfl ?_   -- t9
  refine sq_q (qt_bin rfl rfl bin_neq) rfl ?_   -- t10
  refine sq_end ?_
  refine tr_if rfl (fun hc => ?_) (fun hc => ?_)
  ·
    have hne : a.rs.length ≠ b.rs.length := by have := of_decide_eq_true hc; omega
    refine tr_rseq ?_   -- region 2
    refine sq_q (qt_assign rfl) rfl ?_   -- t4
    refine sq_end ?_
    refine tr_ret ?_
    repeat (first | (with_reducible refine tr_skip ?_) | (with_reducible refine tr_exit ?_) | (with_reducible refine tr_then ?_) | (with_reducible refine tr_inX ?_) | (with_reducible refine tr_thenX ?_) | (with_reducible refine tr_inN ?_) | (with_reducible refine tr_inR ?_) | (with_reducible refine tr_thenR ?_))
    refine tr_done () (fun _ w s t => results_1 rfl (resv_tmp s ?_)) (fun _ _ _ _ => trivial)
    rw [show decide (a.zs = b.zs) = false from decide_eq_false (fun e => hne (by have := congrArg List.length e; simpa [Mt.zs] using this))]
    rfl
  ·
    have hlen : a.rs.length = b.rs.length := by have := of_decide_eq_false hc; omega
    refine tr_skip ?_
    repeat (first | (with_reducible refine tr_skip ?_) | (with_reducible refine tr_exit ?_) | (with_reducible refine tr_then ?_) | (with_reducible refine tr_inX ?_) | (with_reducible refine tr_thenX ?_) | (with_reducible refine tr_inN ?_) | (with_reducible refine tr_inR ?_) | (with_reducible refine tr_thenR ?_))
    refine tr_seq ?_   -- C2
    refine tr_rseq ?_   -- region 3
    refine sq_q (qt_move rfl) rfl ?_   -- t11
    refine sq_q (qt_len rfl) rfl ?_   -- t12
    refine sq_q (qt_move rfl) rfl ?_   -- t13
    refine sq_end ?_
    refine tr_block ?_
    refine tr_loop (fun k : Nat => k ≤ a.rs.length ∧ a.zs.take k = b.zs.take k) (fun k => [(0, a.v), (1, b.v), (12, .int .i64 (a.rs.length : Int)), (13, .int .i64 (k : Int))]) (fun _ => []) (fun _ _ => True) (fun k => a.rs.length - k) 0 ⟨Nat.zero_le _, rfl⟩ ⟨rfl, rfl, rfl, rfl, trivial⟩ rfl (fun _ _ => trivial) ?_
    rintro k ⟨hk, heq⟩
    refine tr_rseq ?_   -- region 4
    refine sq_q (qt_bin rfl rfl bin_lss) rfl ?_   -- t14
    refine sq_end ?_
    refine tr_seq ?_   -- C3
    refine tr_if rfl (fun hc => ?_) (fun hc => ?_)
    ·
      have hlt : k < a.rs.length := by have := of_decide_eq_true hc; omega
      have hlt' : k < b.rs.length := by omega
      obtain ⟨ra, oa, ea, ha0⟩ := ha.1.at_ (i := k) (v := (a.rs[k]).v) (by simp [hlt])
      obtain ⟨rb, ob, eb, hb0⟩ := hb.1.at_ (i := k) (v := (b.rs[k]).v) (by simp [hlt'])
      have eva : a.v = .slice (some ⟨ra, oa, none⟩) a.rs.length a.p.2 := by unfold Mt.v; rw [ea]
      have evb : b.v = .slice (some ⟨rb, ob, none⟩) b.rs.length b.p.2 := by unfold Mt.v; rw [eb]
      refine tr_sub [(0, .slice (some ⟨ra, oa, none⟩) a.rs.length a.p.2), (1, .slice (some ⟨rb, ob, none⟩) b.rs.length b.p.2), (12, .int .i64 (a.rs.length : Int)), (13, .int .i64 (k : Int))] ⟨congrArg some eva, congrArg some evb, rfl, rfl, trivial⟩ ?_
      refine tr_skip ?_
      repeat (first | (with_reducible refine tr_skip ?_) | (with_reducible refine tr_exit ?_) | (with_reducible refine tr_then ?_) | (with_reducible refine tr_inX ?_) | (with_reducible refine tr_thenX ?_) | (with_reducible refine tr_inN ?_) | (with_reducible refine tr_inR ?_) | (with_reducible refine tr_thenR ?_))
      refine tr_seq ?_   -- C4
      refine tr_block ?_
      refine tr_rseq ?_   -- region 5
      refine sq_q (qt_move rfl) rfl ?_   -- t15
      refine sq_q (qt_assign rfl) rfl ?_   -- t5
      refine sq_end ?_
      refine tr_rdraw0 [0, 1, 4, 5, 10, 12, 13, 14, 25] (by kernel_rfl) ?_   -- region 6
      refine dx_q rfl (qt_move rfl) rfl ?_   -- t16
      refine dx_q rfl (qt_move rfl) rfl ?_   -- t17
      refine dx_q rfl (qt_index (i := k) rfl rfl hlt) rfl ?_   -- t18
      refine dx_q rfl (qt_load rfl (fun w t => t.a1 ha0)) rfl ?_   -- t19
      refine dx_q rfl (qt_move rfl) rfl ?_   -- t20
      refine dx_q rfl (qt_move rfl) rfl ?_   -- t21
      refine dx_q rfl (qt_index (i := k) rfl rfl hlt') rfl ?_   -- t22
      refine dx_q rfl (qt_load rfl (fun w t => t.a1 hb0)) rfl ?_   -- t23
      refine dx_callv (v := .bool (decide (a.rs[k].zs = b.rs[k].zs))) (F := fun _ _ => True) rfl rfl rfl (fun w t => samelist_ret a.rs[k] b.rs[k] B w _ (t.rw (ha.2.2 _ (List.getElem_mem hlt))) (t.rw (hb.2.2 _ (List.getElem_mem hlt'))) (ca _ (List.getElem_mem hlt)) (cb _ (List.getElem_mem hlt')) hB (hr _ (List.getElem_mem hlt)) (hr' _ (List.getElem_mem hlt'))) ?_   -- t24
      refine dx_q rfl (qt_not rfl) rfl ?_   -- t25
      refine dx_nil ?_
      repeat (first | refine es_val rfl ?_ rfl | refine es_res rfl (fun x => ?_) rfl | refine es_skip rfl ?_)
      refine es_nil rfl ?_
      refine tx_endk ?_
      refine tr_if rfl (fun hc => ?_) (fun hc => ?_)
      ·
        have hne : a.rs[k].zs ≠ b.rs[k].zs := by simpa using hc
        refine tr_rseq ?_   -- region 7
        refine sq_q (qt_assign rfl) rfl ?_   -- t4
        refine sq_end ?_
        refine tr_ret ?_
        repeat (first | (with_reducible refine tr_skip ?_) | (with_reducible refine tr_exit ?_) | (with_reducible refine tr_then ?_) | (with_reducible refine tr_inX ?_) | (with_reducible refine tr_thenX ?_) | (with_reducible refine tr_inN ?_) | (with_reducible refine tr_inR ?_) | (with_reducible refine tr_thenR ?_))
        refine tr_done () (fun _ w s t => results_1 rfl (resv_tmp s ?_)) (fun _ _ _ _ => trivial)
        rw [show decide (a.zs = b.zs) = false from decide_eq_false (fun e => hne (by have h1 := congrArg (fun l => l[k]?) e; simpa [Mt.zs, hlt, hlt'] using h1))]
        rfl
      ·
        have hz : a.rs[k].zs = b.rs[k].zs := by simpa using hc
        refine tr_skip ?_
        repeat (first | (with_reducible refine tr_skip ?_) | (with_reducible refine tr_exit ?_) | (with_reducible refine tr_then ?_) | (with_reducible refine tr_inX ?_) | (with_reducible refine tr_thenX ?_) | (with_reducible refine tr_inN ?_) | (with_reducible refine tr_inR ?_) | (with_reducible refine tr_thenR ?_))
        refine tr_region ?_   -- region 8
        refine sq_q (qt_bin rfl rfl (bin_addI (by omega) (by omega))) rfl ?_   -- t26
        refine sq_q (qt_move rfl) rfl ?_   -- t13
        refine sq_nil ?_
        repeat (first | (with_reducible refine tr_skip ?_) | (with_reducible refine tr_exit ?_) | (with_reducible refine tr_then ?_) | (with_reducible refine tr_inX ?_) | (with_reducible refine tr_thenX ?_) | (with_reducible refine tr_inN ?_) | (with_reducible refine tr_inR ?_) | (with_reducible refine tr_thenR ?_))
        refine tr_round (k + 1) ⟨by omega, ?_⟩ (by omega) ⟨congrArg some eva.symm, congrArg some evb.symm, rfl, rfl, trivial⟩ rfl (fun _ h => h)
        have hka : k < a.zs.length := by simpa [Mt.zs] using hlt
        have hkb : k < b.zs.length := by simpa [Mt.zs] using hlt'
        rw [List.take_succ_eq_append_getElem hka, List.take_succ_eq_append_getElem hkb, heq]
        simp [Mt.zs, hz]
    ·
      have hk2 : k = a.rs.length := by have := of_decide_eq_false hc; omega
      refine tr_exit ?_
      repeat (first | (with_reducible refine tr_skip ?_) | (with_reducible refine tr_exit ?_) | (with_reducible refine tr_then ?_) | (with_reducible refine tr_inX ?_) | (with_reducible refine tr_thenX ?_) | (with_reducible refine tr_inN ?_) | (with_reducible refine tr_inR ?_) | (with_reducible refine tr_thenR ?_))
      refine tr_rseq ?_   -- region 9
      refine sq_q (qt_assign rfl) rfl ?_   -- t4
      refine sq_end ?_
      refine tr_ret ?_
      repeat (first | (with_reducible refine tr_skip ?_) | (with_reducible refine tr_exit ?_) | (with_reducible refine tr_then ?_) | (with_reducible refine tr_inX ?_) | (with_reducible refine tr_thenX ?_) | (with_reducible refine tr_inN ?_) | (with_reducible refine tr_inR ?_) | (with_reducible refine tr_thenR ?_))
      refine tr_done () (fun _ w s t => results_1 rfl (resv_tmp s ?_)) (fun _ _ _ _ => trivial)
      have e : a.zs = b.zs := by
        have h1 : a.zs.take k = a.zs := List.take_of_length_le (by simp [Mt.zs, hk2])
        have h2 : b.zs.take k = b.zs := List.take_of_length_le (by simp [Mt.zs, hk2, hlen])
        rw [← h1, ← h2, heq]
      rw [decide_eq_true e]
      rfl
end Go.Qk
end
section
/- Matrices of machine integers; shapes. -/
set_option linter.unusedVariables false
namespace Go.Qk
open Go Go.Proofs Go.RowKit
def i64s (l : List Int) : List Value := l.map fun a => .int .i64 a
def In64 (a : Int) : Prop := -9223372036854775808 ≤ a ∧ a < 9223372036854775808
structure Xr where
  l : List Int
  p : Sv
def Xr.v (r : Xr) : Value := .slice r.p.1 r.l.length r.p.2
def Xr.ok (r : Xr) (w : World) : Prop := Rd r.p.1 (i64s r.l) w ∧ r.l.length ≤ r.p.2 ∧ ∀ a ∈ r.l, In64 a
structure Xm where
  rs : List Xr
  p : Sv
def Xm.v (m : Xm) : Value := .slice m.p.1 m.rs.length m.p.2
def Xm.ok (m : Xm) (w : World) : Prop := Rd m.p.1 (m.rs.map Xr.v) w ∧ m.rs.length ≤ m.p.2 ∧ ∀ r ∈ m.rs, r.ok w
def Xm.zs (m : Xm) : List (List Int) := m.rs.map Xr.l
theorem i64s_get {l : List Int} {i : Nat} (h : i < l.length) : (i64s l)[i]? = some (.int .i64 l[i]) := by simp [i64s, h]
/-- the shape of rows of one length -/
def shp {α : Type} (L : List (List α)) : Option (Nat × Nat) := match L with
  | [] => none
  | r :: _ => if L.length ≤ 16 ∧ 1 ≤ r.length ∧ r.length ≤ 16 ∧ ∀ q ∈ L, q.length = r.length then some (L.length, r.length) else none
theorem shp_none_len {α : Type} {L : List (List α)} (h : L.length < 1 ∨ 16 < L.length) : shp L = none := by
  unfold shp
  split
  · rfl
  · rename_i r l
    exact if_neg (fun e => by have := e.1; simp at h this; omega)
theorem shp_none_row {α : Type} {L : List (List α)} {k : Nat} (hk : k < L.length) (h0 : 0 < L.length) (h : L[k].length < 1 ∨ 16 < L[k].length ∨ L[k].length ≠ L[0].length) : shp L = none := by
  unfold shp
  split
  · rfl
  · rename_i r l
    refine if_neg (fun e => ?_)
    have h1 := e.2.2.2 _ (List.getElem_mem hk)
    have h2 : (r :: l)[0] = r := rfl
    rw [h2, h1] at h
    omega
theorem shp_some {α : Type} {L : List (List α)} (h0 : 0 < L.length) (h1 : L.length ≤ 16) (h2 : 1 ≤ L[0].length) (h3 : L[0].length ≤ 16) (h : ∀ i (hi : i < L.length), L[i].length = L[0].length) : shp L = some (L.length, L[0].length) := by
  unfold shp
  split
  · simp at h0
  · rename_i r l
    refine if_pos ⟨h1, h2, h3, fun q hq => ?_⟩
    obtain ⟨i, hi, rfl⟩ := List.getElem_of_mem hq
    exact h i hi
theorem shp_inv {α : Type} {L : List (List α)} {r c : Nat} (h : shp L = some (r, c)) : L.length = r ∧ 1 ≤ r ∧ r ≤ 16 ∧ 1 ≤ c ∧ c ≤ 16 ∧ ∀ q ∈ L, q.length = c := by
  unfold shp at h
  split at h
  · simp at h
  · rename_i q l
    split at h
    · rename_i e
      injection h with h
      injection h with h4 h5
      subst h4 h5
      exact ⟨rfl, by simp, e.1, e.2.1, e.2.2.1, e.2.2.2⟩
    · simp at h
/-- the entry of rows at a place -/
def ent (L : List (List Int)) (a b : Nat) : Int := (L.getD a []).getD b 0
theorem grid_ent {L : List (List Int)} {r c : Nat} (hr : L.length = r) (hc : ∀ q ∈ L, q.length = c) : grid (ent L) r c = L := by
  unfold grid
  refine List.ext_getElem (by simp [hr]) fun a h1 h2 => ?_
  have hl := hc _ (List.getElem_mem h2)
  simp only [List.getElem_map, List.getElem_range]
  refine List.ext_getElem (by simp [hl]) fun b h3 h4 => ?_
  simp [ent, List.getD, h2, h4]
theorem ent_at {L : List (List Int)} {a b : Nat} (ha : a < L.length) (hb : b < L[a].length) : ent L a b = L[a][b] := by simp [ent, List.getD, ha, hb]
section
variable {w0 w : World} {S : Nat → Prop} {own : Own} {R : World → Prop}
theorem SS.xr (t : SS w0 [] S own R w) {r : Xr} (h : r.ok w0) : r.ok w := ⟨t.rd h.1, h.2⟩
theorem SS.xm (t : SS w0 [] S own R w) {m : Xm} (h : m.ok w0) : m.ok w := ⟨t.rd h.1, h.2.1, fun r hr => t.xr (h.2.2 r hr)⟩
end
def keepO (L : List (List Int)) : Option (List (List Int)) := if (shp L).isSome then some L else none
theorem nl_64 {a : Int} (h : In64 a) : nl a.natAbs ≤ 2 := nl_le (by unfold In64 at h; omega)
def shpV (o : Option (Nat × Nat)) : Value := .tuple #[.int .i64 (((o.getD (0, 0)).1 : Nat) : Int), .int .i64 (((o.getD (0, 0)).2 : Nat) : Int), .bool o.isSome]
theorem Rd.all {A : Option Addr} {vs : List Value} {w : World} (h : Rd A vs w) (h0 : 0 < vs.length) : ∃ r o, A = some ⟨r, o, none⟩ ∧ ∀ i v, vs[i]? = some v → At r (o + i) v w := by
  obtain ⟨r, o, e, _⟩ := h.at_ (i := 0) (v := vs[0]) (by simp [h0])
  refine ⟨r, o, e, fun i v hv => ?_⟩
  obtain ⟨r', o', e', h'⟩ := h.at_ hv
  rw [e] at e'
  injection e' with e'
  injection e' with e1 e2 _
  subst e1 e2
  exact h'
/-- a matrix of one row at least: where its headers stand -/
theorem Mt.ok.at_ {B : Nat} {m : Mt} {w : World} (h : m.ok B w) (h0 : 0 < m.rs.length) : ∃ r o, m.v = .slice (some ⟨r, o, none⟩) m.rs.length m.p.2 ∧ ∀ i (hi : i < m.rs.length), At r (o + i) (m.rs[i]).v w := by
  obtain ⟨r, o, e, ha⟩ := h.1.all (by simpa using h0)
  exact ⟨r, o, by unfold Mt.v; rw [e], fun i hi => ha i _ (by simp [hi])⟩
theorem Rw.ok.at_ {B : Nat} {m : Rw} {w : World} (h : m.ok B w) (h0 : 0 < m.l.length) : ∃ r o, m.v = .slice (some ⟨r, o, none⟩) m.l.length m.p.2 ∧ ∀ i (hi : i < m.l.length), At r (o + i * 2) (.bool m.l[i].n) w ∧ At r (o + i * 2 + 1) (slv m.l[i].xs m.l[i].p) w := by
  obtain ⟨r, o, e, ha⟩ := h.1.all (by rw [zcs_length]; omega)
  exact ⟨r, o, by unfold Rw.v; rw [e], fun i hi => ⟨ha _ _ (zcs_get0 hi), by rw [Nat.add_assoc]; exact ha _ _ (zcs_get1 hi)⟩⟩
theorem Mt.zs_len (m : Mt) : m.zs.length = m.rs.length := by simp [Mt.zs]
theorem Mt.zs_at (m : Mt) {i : Nat} (h : i < m.rs.length) : m.zs[i]'(by rw [m.zs_len]; exact h) = m.rs[i].zs := by simp [Mt.zs]
theorem Rw.zs_len (m : Rw) : m.zs.length = m.l.length := by simp [Rw.zs]
def sqb (o : Option (Nat × Nat)) : Bool := match o with
  | some rc => decide (((rc.1 : Nat) : Int) = ((rc.2 : Nat) : Int))
  | none => false
def sqrV (o : Option (Nat × Nat)) : Value := .tuple #[.int .i64 (((o.getD (0, 0)).1 : Nat) : Int), .bool (sqb o)]
/-- the numbers below n but i -/
def oth (n i : Nat) : List Nat := (List.range n).filter fun k => k != i
def ints (l : List Nat) : List Value := l.map fun (k : Nat) => .int .i64 (k : Int)
theorem oth_ne {k i : Nat} (h : k ≠ i) : oth (k + 1) i = oth k i ++ [k] := by simp [oth, List.range_succ, List.filter_append, h]
theorem oth_eq {k i : Nat} (h : k = i) : oth (k + 1) i = oth k i := by simp [oth, List.range_succ, List.filter_append, h]
theorem oth_length (k i : Nat) : (oth k i).length ≤ k := by
  have := List.length_filter_le (fun k => k != i) (List.range k)
  simpa [oth] using this
end Go.Qk
end
section
/- FromInts of the reference, Of -/
set_option linter.unusedVariables false
namespace Go.Qk
open Go Go.Proofs Go.RowKit
set_option maxRecDepth 100000
set_option maxHeartbeats 4000000

theorem rfromints_ret (m : Xm) (w0 : World) (S : Nat → Prop) (hm : m.ok w0) (hlen : m.rs.length ≤ 35184372088832) (hrow : ∀ r ∈ m.rs, r.l.length ≤ 35184372088832) :
    Ret Try.prog 58 [m.v] w0 S (optV (keepO m.zs)) (optF 2 (keepO m.zs)) := by
  have hzl : m.zs.length = m.rs.length := by simp [Xm.zs]
  have hzi : ∀ i (h : i < m.rs.length), m.zs[i]'(by omega) = m.rs[i].l := fun i h => by simp [Xm.zs]
  refine ret_of Try.func58 rfl Try.ntmps58 rfl ?_
  refine tr_rseq ?_   -- region 0
  refine sq_q (qt_assign rfl) rfl ?_   -- t2
  refine sq_q (qt_assign rfl) rfl ?_   -- t3
  refine sq_end ?_
  refine tr_seq ?_   -- C1
  have hcs : m.rs.length < 1 ∨ (1 ≤ m.rs.length ∧ 16 < m.rs.length) ∨ (1 ≤ m.rs.length ∧ m.rs.length ≤ 16) := by omega
  rcases hcs with h1 | ⟨h1, h2⟩ | ⟨h1, h2⟩
  ·
    have e : keepO m.zs = none := by unfold keepO; rw [shp_none_len (by omega)]; rfl
    rw [e]
    refine tr_rseq ?_   -- region 1
    refine sq_q (qt_move rfl) rfl ?_   -- t9
    refine sq_q (qt_len rfl) rfl ?_   -- t10
    refine sq_q (qt_bin rfl rfl (bT bin_lss (by omega))) rfl ?_   -- t11
    refine sq_q (qt_move rfl) rfl ?_   -- t12
    refine sq_gF rfl rfl rfl rfl ?_
    refine sq_gF rfl rfl rfl rfl ?_
    refine sq_gF rfl rfl rfl rfl ?_
    refine sq_q (qt_pick rfl rfl) rfl ?_   -- t16
    refine sq_end ?_
    refine tr_ifT rfl ?_
    refine tr_rseq ?_   -- region 2
    refine sq_q (qt_assign rfl) rfl ?_   -- t2
    refine sq_q (qt_assign rfl) rfl ?_   -- t3
    refine sq_end ?_
    refine tr_ret ?_
    repeat (first | (with_reducible refine tr_skip ?_) | (with_reducible refine tr_exit ?_) | (with_reducible refine tr_then ?_) | (with_reducible refine tr_inX ?_) | (with_reducible refine tr_thenX ?_) | (with_reducible refine tr_inN ?_) | (with_reducible refine tr_inR ?_) | (with_reducible refine tr_thenR ?_))
    exact tr_done ⟨[], (none, 0)⟩ (fun a w s t => results_2 rfl (resv_tmp s rfl) (resv_tmp s rfl)) (fun w _ _ _ => optF_none _ _)
  ·
    have e : keepO m.zs = none := by unfold keepO; rw [shp_none_len (by omega)]; rfl
    rw [e]
    refine tr_rseq ?_   -- region 1
    refine sq_q (qt_move rfl) rfl ?_   -- t9
    refine sq_q (qt_len rfl) rfl ?_   -- t10
    refine sq_q (qt_bin rfl rfl (bF bin_lss (by omega))) rfl ?_   -- t11
    refine sq_q (qt_move rfl) rfl ?_   -- t12
    refine sq_gT rfl rfl ?_
    refine sq_q (qt_move rfl) rfl ?_   -- t13
    refine sq_gT rfl rfl ?_
    refine sq_q (qt_len rfl) rfl ?_   -- t14
    refine sq_gT rfl rfl ?_
    refine sq_q (qt_bin rfl rfl (bT bin_gtr (by omega))) rfl ?_   -- t15
    refine sq_q (qt_pick rfl rfl) rfl ?_   -- t16
    refine sq_end ?_
    refine tr_ifT rfl ?_
    refine tr_rseq ?_   -- region 2
    refine sq_q (qt_assign rfl) rfl ?_   -- t2
    refine sq_q (qt_assign rfl) rfl ?_   -- t3
    refine sq_end ?_
    refine tr_ret ?_
    repeat (first | (with_reducible refine tr_skip ?_) | (with_reducible refine tr_exit ?_) | (with_reducible refine tr_then ?_) | (with_reducible refine tr_inX ?_) | (with_reducible refine tr_thenX ?_) | (with_reducible refine tr_inN ?_) | (with_reducible refine tr_inR ?_) | (with_reducible refine tr_thenR ?_))
    exact tr_done ⟨[], (none, 0)⟩ (fun a w s t => results_2 rfl (resv_tmp s rfl) (resv_tmp s rfl)) (fun w _ _ _ => optF_none _ _)
  ·
    refine tr_rseq ?_   -- region 1
    refine sq_q (qt_move rfl) rfl ?_   -- t9
    refine sq_q (qt_len rfl) rfl ?_   -- t10
    refine sq_q (qt_bin rfl rfl (bF bin_lss (by omega))) rfl ?_   -- t11
    refine sq_q (qt_move rfl) rfl ?_   -- t12
    refine sq_gT rfl rfl ?_
    refine sq_q (qt_move rfl) rfl ?_   -- t13
    refine sq_gT rfl rfl ?_
    refine sq_q (qt_len rfl) rfl ?_   -- t14
    refine sq_gT rfl rfl ?_
    refine sq_q (qt_bin rfl rfl (bF bin_gtr (by omega))) rfl ?_   -- t15
    refine sq_q (qt_pick rfl rfl) rfl ?_   -- t16
    refine sq_end ?_
    refine tr_ifF rfl ?_
    refine tr_skip ?_
    repeat (first | (with_reducible refine tr_skip ?_) | (with_reducible refine tr_exit ?_) | (with_reducible refine tr_then ?_) | (with_reducible refine tr_inX ?_) | (with_reducible refine tr_thenX ?_) | (with_reducible refine tr_inN ?_) | (with_reducible refine tr_inR ?_) | (with_reducible refine tr_thenR ?_))
    refine tr_seq ?_   -- C2
    have hp0 : 0 < m.rs.length := by omega
    obtain ⟨ro, oo, eo, ho0⟩ := hm.1.at_ (i := 0) (v := (m.rs[0]).v) (by simp [hp0])
    have hat : ∀ k (h : k < m.rs.length), At ro (oo + k) (m.rs[k]).v w0 := by
      intro k h
      obtain ⟨r', o', e', h'⟩ := hm.1.at_ (i := k) (v := (m.rs[k]).v) (by simp [h])
      rw [eo] at e'
      injection e' with e'
      injection e' with e1 e2 _
      subst e1 e2
      exact h'
    have evm : m.v = .slice (some ⟨ro, oo, none⟩) m.rs.length m.p.2 := by unfold Xm.v; rw [eo]
    rw [evm]
    refine tr_rseq ?_   -- region 3
    refine sq_q (qt_move rfl) rfl ?_   -- t17
    refine sq_q (qt_len rfl) rfl ?_   -- t18
    refine sq_q (qt_move rfl) rfl ?_   -- t19
    refine sq_end ?_
    refine tr_block ?_
    refine tr_loop (fun k : Nat => k ≤ m.rs.length ∧ ∀ i (h : i < m.rs.length), i < k → 1 ≤ m.rs[i].l.length ∧ m.rs[i].l.length ≤ 16 ∧ m.rs[i].l.length = m.rs[0].l.length) (fun k => [(0, .slice (some ⟨ro, oo, none⟩) m.rs.length m.p.2), (17, .slice (some ⟨ro, oo, none⟩) m.rs.length m.p.2), (18, .int .i64 (m.rs.length : Int)), (19, .int .i64 (k : Int))]) (fun _ => []) (fun _ _ => True) (fun k => m.rs.length - k) 0 ⟨Nat.zero_le _, fun i _ h => by omega⟩ ⟨rfl, rfl, rfl, rfl, trivial⟩ rfl (fun _ _ => trivial) ?_
    rintro k ⟨hk, hall⟩
    refine tr_rseq ?_   -- region 4
    refine sq_q (qt_bin rfl rfl bin_lss) rfl ?_   -- t20
    refine sq_end ?_
    refine tr_seq ?_   -- C3
    refine tr_if rfl (fun hc => ?_) (fun hc => ?_)
    ·
      have hlt : k < m.rs.length := by have := of_decide_eq_true hc; omega
      have hrk := hrow _ (List.getElem_mem hlt)
      have hr0 := hrow _ (List.getElem_mem hp0)
      refine tr_skip ?_
      repeat (first | (with_reducible refine tr_skip ?_) | (with_reducible refine tr_exit ?_) | (with_reducible refine tr_then ?_) | (with_reducible refine tr_inX ?_) | (with_reducible refine tr_thenX ?_) | (with_reducible refine tr_inN ?_) | (with_reducible refine tr_inR ?_) | (with_reducible refine tr_thenR ?_))
      refine tr_seq ?_   -- C4
      refine tr_block ?_
      refine tr_rseq ?_   -- region 5
      refine sq_q (qt_index (i := k) rfl rfl hlt) rfl ?_   -- t21
      refine sq_q (qt_load rfl (fun w t => t.a1 (hat k hlt))) rfl ?_   -- t22
      refine sq_q (qt_assign rfl) rfl ?_   -- t5
      refine sq_end ?_
      have hcs : m.rs[k].l.length < 1 ∨ (1 ≤ m.rs[k].l.length ∧ 16 < m.rs[k].l.length) ∨ ((1 ≤ m.rs[k].l.length ∧ m.rs[k].l.length ≤ 16) ∧ m.rs[k].l.length ≠ m.rs[0].l.length) ∨ ((1 ≤ m.rs[k].l.length ∧ m.rs[k].l.length ≤ 16) ∧ m.rs[k].l.length = m.rs[0].l.length) := by omega
      have hno : (m.rs[k].l.length < 1 ∨ 16 < m.rs[k].l.length ∨ m.rs[k].l.length ≠ m.rs[0].l.length) → keepO m.zs = none := fun h => by
        unfold keepO
        rw [shp_none_row (k := k) (by omega) (by omega) (by rw [hzi k hlt, hzi 0 hp0]; exact h)]
        rfl
      rcases hcs with g1 | ⟨g1, g2⟩ | ⟨⟨g1, g2⟩, g3⟩ | ⟨⟨g1, g2⟩, g3⟩
      ·
        rw [hno (.inl g1)]
        refine tr_rseq ?_   -- region 6
        refine sq_q (qt_move rfl) rfl ?_   -- t23
        refine sq_q (qt_len rfl) rfl ?_   -- t24
        refine sq_q (qt_bin rfl rfl (bT bin_lss (by omega))) rfl ?_   -- t25
        refine sq_q (qt_move rfl) rfl ?_   -- t26
        refine sq_gF rfl rfl rfl rfl ?_
        refine sq_gF rfl rfl rfl rfl ?_
        refine sq_gF rfl rfl rfl rfl ?_
        refine sq_q (qt_pick rfl rfl) rfl ?_   -- t30
        refine sq_q (qt_move rfl) rfl ?_   -- t31
        refine sq_gF rfl rfl rfl rfl ?_
        refine sq_gF rfl rfl rfl rfl ?_
        refine sq_gF rfl rfl rfl rfl ?_
        refine sq_gF rfl rfl rfl rfl ?_
        refine sq_gF rfl rfl rfl rfl ?_
        refine sq_gF rfl rfl rfl rfl ?_
        refine sq_gF rfl rfl rfl rfl ?_
        refine sq_q (qt_pick rfl rfl) rfl ?_   -- t39
        refine sq_end ?_
        refine tr_ifT rfl ?_
        refine tr_rseq ?_   -- region 7
        refine sq_q (qt_assign rfl) rfl ?_   -- t2
        refine sq_q (qt_assign rfl) rfl ?_   -- t3
        refine sq_end ?_
        refine tr_ret ?_
        repeat (first | (with_reducible refine tr_skip ?_) | (with_reducible refine tr_exit ?_) | (with_reducible refine tr_then ?_) | (with_reducible refine tr_inX ?_) | (with_reducible refine tr_thenX ?_) | (with_reducible refine tr_inN ?_) | (with_reducible refine tr_inR ?_) | (with_reducible refine tr_thenR ?_))
        exact tr_done ⟨[], (none, 0)⟩ (fun a w s t => results_2 rfl (resv_tmp s rfl) (resv_tmp s rfl)) (fun w _ _ _ => optF_none _ _)
      ·
        rw [hno (.inr (.inl g2))]
        refine tr_rseq ?_   -- region 6
        refine sq_q (qt_move rfl) rfl ?_   -- t23
        refine sq_q (qt_len rfl) rfl ?_   -- t24
        refine sq_q (qt_bin rfl rfl (bF bin_lss (by omega))) rfl ?_   -- t25
        refine sq_q (qt_move rfl) rfl ?_   -- t26
        refine sq_gT rfl rfl ?_
        refine sq_q (qt_move rfl) rfl ?_   -- t27
        refine sq_gT rfl rfl ?_
        refine sq_q (qt_len rfl) rfl ?_   -- t28
        refine sq_gT rfl rfl ?_
        refine sq_q (qt_bin rfl rfl (bT bin_gtr (by omega))) rfl ?_   -- t29
        refine sq_q (qt_pick rfl rfl) rfl ?_   -- t30
        refine sq_q (qt_move rfl) rfl ?_   -- t31
        refine sq_gF rfl rfl rfl rfl ?_
        refine sq_gF rfl rfl rfl rfl ?_
        refine sq_gF rfl rfl rfl rfl ?_
        refine sq_gF rfl rfl rfl rfl ?_
        refine sq_gF rfl rfl rfl rfl ?_
        refine sq_gF rfl rfl rfl rfl ?_
        refine sq_gF rfl rfl rfl rfl ?_
        refine sq_q (qt_pick rfl rfl) rfl ?_   -- t39
        refine sq_end ?_
        refine tr_ifT rfl ?_
        refine tr_rseq ?_   -- region 7
        refine sq_q (qt_assign rfl) rfl ?_   -- t2
        refine sq_q (qt_assign rfl) rfl ?_   -- t3
        refine sq_end ?_
        refine tr_ret ?_
        repeat (first | (with_reducible refine tr_skip ?_) | (with_reducible refine tr_exit ?_) | (with_reducible refine tr_then ?_) | (with_reducible refine tr_inX ?_) | (with_reducible refine tr_thenX ?_) | (with_reducible refine tr_inN ?_) | (with_reducible refine tr_inR ?_) | (with_reducible refine tr_thenR ?_))
        exact tr_done ⟨[], (none, 0)⟩ (fun a w s t => results_2 rfl (resv_tmp s rfl) (resv_tmp s rfl)) (fun w _ _ _ => optF_none _ _)
      ·
        rw [hno (.inr (.inr g3))]
        refine tr_rseq ?_   -- region 6
        refine sq_q (qt_move rfl) rfl ?_   -- t23
        refine sq_q (qt_len rfl) rfl ?_   -- t24
        refine sq_q (qt_bin rfl rfl (bF bin_lss (by omega))) rfl ?_   -- t25
        refine sq_q (qt_move rfl) rfl ?_   -- t26
        refine sq_gT rfl rfl ?_
        refine sq_q (qt_move rfl) rfl ?_   -- t27
        refine sq_gT rfl rfl ?_
        refine sq_q (qt_len rfl) rfl ?_   -- t28
        refine sq_gT rfl rfl ?_
        refine sq_q (qt_bin rfl rfl (bF bin_gtr (by omega))) rfl ?_   -- t29
        refine sq_q (qt_pick rfl rfl) rfl ?_   -- t30
        refine sq_q (qt_move rfl) rfl ?_   -- t31
        refine sq_gT rfl rfl ?_
        refine sq_q (qt_move rfl) rfl ?_   -- t32
        refine sq_gT rfl rfl ?_
        refine sq_q (qt_len rfl) rfl ?_   -- t33
        refine sq_gT rfl rfl ?_
        refine sq_q (qt_move rfl) rfl ?_   -- t34
        refine sq_gT rfl rfl ?_
        refine sq_q (qt_index (i := 0) rfl rfl hp0) rfl ?_   -- t35
        refine sq_gT rfl rfl ?_
        refine sq_q (qt_load rfl (fun w t => t.a1 (hat 0 hp0))) rfl ?_   -- t36
        refine sq_gT rfl rfl ?_
        refine sq_q (qt_len rfl) rfl ?_   -- t37
        refine sq_gT rfl rfl ?_
        refine sq_q (qt_bin rfl rfl (bT bin_neq (by omega))) rfl ?_   -- t38
        refine sq_q (qt_pick rfl rfl) rfl ?_   -- t39
        refine sq_end ?_
        refine tr_ifT rfl ?_
        refine tr_rseq ?_   -- region 7
        refine sq_q (qt_assign rfl) rfl ?_   -- t2
        refine sq_q (qt_assign rfl) rfl ?_   -- t3
        refine sq_end ?_
        refine tr_ret ?_
        repeat (first | (with_reducible refine tr_skip ?_) | (with_reducible refine tr_exit ?_) | (with_reducible refine tr_then ?_) | (with_reducible refine tr_inX ?_) | (with_reducible refine tr_thenX ?_) | (with_reducible refine tr_inN ?_) | (with_reducible refine tr_inR ?_) | (with_reducible refine tr_thenR ?_))
        exact tr_done ⟨[], (none, 0)⟩ (fun a w s t => results_2 rfl (resv_tmp s rfl) (resv_tmp s rfl)) (fun w _ _ _ => optF_none _ _)
      ·
        refine tr_rseq ?_   -- region 6
        refine sq_q (qt_move rfl) rfl ?_   -- t23
        refine sq_q (qt_len rfl) rfl ?_   -- t24
        refine sq_q (qt_bin rfl rfl (bF bin_lss (by omega))) rfl ?_   -- t25
        refine sq_q (qt_move rfl) rfl ?_   -- t26
        refine sq_gT rfl rfl ?_
        refine sq_q (qt_move rfl) rfl ?_   -- t27
        refine sq_gT rfl rfl ?_
        refine sq_q (qt_len rfl) rfl ?_   -- t28
        refine sq_gT rfl rfl ?_
        refine sq_q (qt_bin rfl rfl (bF bin_gtr (by omega))) rfl ?_   -- t29
        refine sq_q (qt_pick rfl rfl) rfl ?_   -- t30
        refine sq_q (qt_move rfl) rfl ?_   -- t31
        refine sq_gT rfl rfl ?_
        refine sq_q (qt_move rfl) rfl ?_   -- t32
        refine sq_gT rfl rfl ?_
        refine sq_q (qt_len rfl) rfl ?_   -- t33
        refine sq_gT rfl rfl ?_
        refine sq_q (qt_move rfl) rfl ?_   -- t34
        refine sq_gT rfl rfl ?_
        refine sq_q (qt_index (i := 0) rfl rfl hp0) rfl ?_   -- t35
        refine sq_gT rfl rfl ?_
        refine sq_q (qt_load rfl (fun w t => t.a1 (hat 0 hp0))) rfl ?_   -- t36
        refine sq_gT rfl rfl ?_
        refine sq_q (qt_len rfl) rfl ?_   -- t37
        refine sq_gT rfl rfl ?_
        refine sq_q (qt_bin rfl rfl (bF bin_neq (by omega))) rfl ?_   -- t38
        refine sq_q (qt_pick rfl rfl) rfl ?_   -- t39
        refine sq_end ?_
        refine tr_ifF rfl ?_
        refine tr_skip ?_
        repeat (first | (with_reducible refine tr_skip ?_) | (with_reducible refine tr_exit ?_) | (with_reducible refine tr_then ?_) | (with_reducible refine tr_inX ?_) | (with_reducible refine tr_thenX ?_) | (with_reducible refine tr_inN ?_) | (with_reducible refine tr_inR ?_) | (with_reducible refine tr_thenR ?_))
        refine tr_region ?_   -- region 8
        refine sq_q (qt_bin rfl rfl (bin_addI (by omega) (by omega))) rfl ?_   -- t40
        refine sq_q (qt_move rfl) rfl ?_   -- t19
        refine sq_nil ?_
        repeat (first | (with_reducible refine tr_skip ?_) | (with_reducible refine tr_exit ?_) | (with_reducible refine tr_then ?_) | (with_reducible refine tr_inX ?_) | (with_reducible refine tr_thenX ?_) | (with_reducible refine tr_inN ?_) | (with_reducible refine tr_inR ?_) | (with_reducible refine tr_thenR ?_))
        refine tr_round (k + 1) ⟨by omega, fun i h hi => ?_⟩ (by omega) ⟨rfl, rfl, rfl, rfl, trivial⟩ rfl (fun _ h => h)
        by_cases e : i = k
        · subst e; exact ⟨g1, g2, g3⟩
        · exact hall i h (by omega)
    ·
      have hkm : k = m.rs.length := by have := of_decide_eq_false hc; omega
      subst hkm
      obtain ⟨c, hcl⟩ : ∃ c, c = m.rs[0].l.length := ⟨_, rfl⟩
      have hrows : ∀ i (h : i < m.rs.length), m.rs[i].l.length = c := fun i h => by rw [hcl]; exact (hall i h h).2.2
      have hc1 : 1 ≤ c ∧ c ≤ 16 := by rw [hcl]; exact ⟨(hall 0 hp0 hp0).1, (hall 0 hp0 hp0).2.1⟩
      have hsome : keepO m.zs = some m.zs := by
        unfold keepO
        rw [shp_some (by omega) (by omega) (by rw [hzi 0 hp0]; omega) (by rw [hzi 0 hp0]; omega) (fun i hi => by rw [hzi i (by omega), hzi 0 hp0, hrows i (by omega), hcl])]
        rfl
      rw [hsome]
      obtain ⟨r, hr⟩ : ∃ r, r = m.rs.length := ⟨_, rfl⟩
      have hgrid : grid (ent m.zs) r c = m.zs := grid_ent (by omega) (fun q hq => by
        simp only [Xm.zs, List.mem_map] at hq
        obtain ⟨x, hx, rfl⟩ := hq
        obtain ⟨i, hi, rfl⟩ := List.getElem_of_mem hx
        exact hrows i hi)
      refine tr_exit ?_
      repeat (first | (with_reducible refine tr_skip ?_) | (with_reducible refine tr_exit ?_) | (with_reducible refine tr_then ?_) | (with_reducible refine tr_inX ?_) | (with_reducible refine tr_thenX ?_) | (with_reducible refine tr_inN ?_) | (with_reducible refine tr_inR ?_) | (with_reducible refine tr_thenR ?_))
      refine tr_rseq ?_   -- region 9
      refine sq_q (qt_move rfl) rfl ?_   -- t41
      refine sq_q (qt_len rfl) rfl ?_   -- t42
      refine sq_q (qt_move rfl) rfl ?_   -- t43
      refine sq_q (qt_index (i := 0) rfl rfl hp0) rfl ?_   -- t44
      refine sq_q (qt_load rfl (fun w t => t.a1 (hat 0 hp0))) rfl ?_   -- t45
      refine sq_q (qt_len rfl) rfl ?_   -- t46
      rw [← hcl, ← hr]
      refine sq_call (fun x : Nat × List Wr => .slice (some ⟨x.1, 0, none⟩) r r) (fun x w' => Fresh w0.heap.size (mown x.1 x.2) w' ∧ x.2.map (·.2) = List.replicate r (List.replicate c z0)) rfl rfl rfl (fun w t => zero_call t r c (by omega) (by omega)) fun x => ?_   -- t47
      refine sq_q (qt_assign rfl) rfl ?_   -- t6
      refine sq_end ?_
      obtain ⟨o, qs⟩ := x
      refine tr_have (fun w t => t.r.2.2) fun hqs => ?_
      refine tr_adopt0 (mown o qs) (fun w h => h.2.1) ?_
      refine tr_seq ?_   -- C5
      refine tr_rseq ?_   -- region 10
      refine sq_q (qt_move rfl) rfl ?_   -- t48
      refine sq_q (qt_len rfl) rfl ?_   -- t49
      refine sq_q (qt_move rfl) rfl ?_   -- t50
      refine sq_end ?_
      refine tr_block ?_
      refine tr_loop2 (fun (i : Nat) (qs : List Wr) => i ≤ r ∧ MG (fun a b => if a < i then ent m.zs a b else 0) r c qs ∧ allz Zd.can qs) (fun i qs => [(0, .slice (some ⟨ro, oo, none⟩) r m.p.2), (6, .slice (some ⟨o, 0, none⟩) r r), (49, .int .i64 (r : Int)), (50, .int .i64 (i : Int))])
        (fun i qs => mown o qs) (fun i qs w => allz (fun z => z.ok 2 w) qs) (fun i qs => r - i) 0 qs ⟨Nat.zero_le _, (MG.of_zero hqs).congr (fun a b _ _ => by rw [if_neg (by omega)]), allz.of_zero hqs z0_can⟩ ⟨by rw [hr]; rfl, rfl, by rw [hr]; rfl, rfl, trivial⟩ rfl (fun w _ => allz.of_zero hqs (z0_ok 2 w)) ?_
      clear hqs qs
      rintro i qs ⟨hle, hG, hcan⟩
      refine tr_rseq ?_   -- region 11
      refine sq_q (qt_bin rfl rfl bin_lss) rfl ?_   -- t51
      refine sq_end ?_
      refine tr_seq ?_   -- C6
      refine tr_if rfl (fun hc => ?_) (fun hc => ?_)
      ·
        have hlt : i < r := by have := of_decide_eq_true hc; omega
        have hli : i < m.rs.length := by omega
        have hlc := hrows i hli
        have hokr := hm.2.2 _ (List.getElem_mem hli)
        refine tr_skip ?_
        repeat (first | (with_reducible refine tr_skip ?_) | (with_reducible refine tr_exit ?_) | (with_reducible refine tr_then ?_) | (with_reducible refine tr_inX ?_) | (with_reducible refine tr_thenX ?_) | (with_reducible refine tr_inN ?_) | (with_reducible refine tr_inR ?_) | (with_reducible refine tr_thenR ?_))
        refine tr_seq ?_   -- C7
        refine tr_block ?_
        refine tr_rseq ?_   -- region 12
        refine sq_q (qt_move rfl) rfl ?_   -- t52
        refine sq_q (qt_assign rfl) rfl ?_   -- t7
        refine sq_end ?_
        refine tr_rseq ?_   -- region 13
        refine sq_q (qt_move rfl) rfl ?_   -- t53
        refine sq_q (qt_move rfl) rfl ?_   -- t54
        refine sq_q (qt_index (i := i) rfl rfl hlt) rfl ?_   -- t55
        refine sq_q (qt_load rfl (fun w t => t.a1 (hat i hli))) rfl ?_   -- t56
        refine sq_q (qt_len rfl) rfl ?_   -- t57
        refine sq_q (qt_move rfl) rfl ?_   -- t58
        refine sq_end ?_
        refine tr_block ?_
        refine tr_loop2 (fun (j : Nat) (qs : List Wr) => j ≤ c ∧ MG (fun a b => if a < i ∨ (a = i ∧ b < j) then ent m.zs a b else 0) r c qs ∧ allz Zd.can qs) (fun j qs => [(0, .slice (some ⟨ro, oo, none⟩) r m.p.2), (6, .slice (some ⟨o, 0, none⟩) r r), (7, .int .i64 (i : Int)), (49, .int .i64 (r : Int)), (50, .int .i64 (i : Int)), (57, .int .i64 (c : Int)), (58, .int .i64 (j : Int))])
          (fun j qs => mown o qs) (fun j qs w => allz (fun z => z.ok 2 w) qs) (fun j qs => c - j) 0 qs ⟨Nat.zero_le _, hG.congr (fun a b _ _ => by by_cases h : a < i <;> simp [h]), hcan⟩ ⟨rfl, rfl, rfl, rfl, rfl, by rw [← hlc]; rfl, rfl, trivial⟩ rfl (fun w h => h) ?_
        clear hG hcan qs
        rintro j qs ⟨hlj, hG, hcan⟩
        refine tr_rseq ?_   -- region 14
        refine sq_q (qt_bin rfl rfl bin_lss) rfl ?_   -- t59
        refine sq_end ?_
        refine tr_seq ?_   -- C8
        refine tr_if rfl (fun hc => ?_) (fun hc => ?_)
        ·
          have hltj : j < c := by have := of_decide_eq_true hc; omega
          have hljl : j < m.rs[i].l.length := by omega
          obtain ⟨q, hq, hql⟩ := hG.get hlt
          obtain ⟨rr, orr, er, hxat⟩ := hokr.1.at_ (i64s_get hljl)
          have h64 := hokr.2.2 _ (List.getElem_mem hljl)
          have hent : ent m.zs i j = m.rs[i].l[j] := by
            rw [ent_at (by omega) (by rw [hzi i hli]; exact hljl)]
            simp [hzi i hli]
          have evr : (m.rs[i]).v = .slice (some ⟨rr, orr, none⟩) m.rs[i].l.length m.rs[i].p.2 := by unfold Xr.v; rw [er]
          refine tr_skip ?_
          repeat (first | (with_reducible refine tr_skip ?_) | (with_reducible refine tr_exit ?_) | (with_reducible refine tr_then ?_) | (with_reducible refine tr_inX ?_) | (with_reducible refine tr_thenX ?_) | (with_reducible refine tr_inN ?_) | (with_reducible refine tr_inR ?_) | (with_reducible refine tr_thenR ?_))
          refine tr_seq ?_   -- C9
          refine tr_block ?_
          refine tr_rseq ?_   -- region 15
          refine sq_q (qt_move rfl) rfl ?_   -- t60
          refine sq_q (qt_assign rfl) rfl ?_   -- t8
          refine sq_end ?_
          refine tr_draw 13 [] [] [0, 2, 3, 5, 6, 7, 8, 16, 17, 18, 19, 20, 39, 49, 50, 51, 57, 58, 59, 64, 65, 73] (by kernel_rfl) ?_   -- region 16
          refine dx_q rfl (qt_move rfl) rfl ?_   -- t61
          refine dx_q rfl (qt_move rfl) rfl ?_   -- t62
          refine dx_q rfl (qt_index (i := i) rfl rfl hlt) rfl ?_   -- t63
          refine dx_q rfl (qt_load rfl (fun w t => t.o1 0 rfl (mout_get hq))) rfl ?_   -- t64
          refine dx_q rfl (qt_move rfl) rfl ?_   -- t65
          refine dx_q rfl (qt_move rfl) rfl ?_   -- t66
          refine dx_q rfl (qt_move rfl) rfl ?_   -- t67
          refine dx_q rfl (qt_index (i := i) rfl rfl hlt) rfl ?_   -- t68
          refine dx_q rfl (qt_load (v := .slice (some ⟨rr, orr, none⟩) m.rs[i].l.length m.rs[i].p.2) rfl (fun w t => by rw [← evr]; exact t.a1 (hat i hli))) rfl ?_   -- t69
          refine dx_q rfl (qt_move rfl) rfl ?_   -- t70
          refine dx_q rfl (qt_index (i := j) rfl rfl hljl) rfl ?_   -- t71
          refine dx_q rfl (qt_load rfl (fun w t => t.a1 hxat)) rfl ?_   -- t72
          refine dx_call (iv m.rs[i].l[j]) (Lz (m.rs[i].l[j]).natAbs) rfl rfl rfl (fun w t => rsmall_ret _ w _ h64.1 h64.2) ?_   -- t73
          refine dx_nil ?_
          repeat (first | refine es_val rfl ?_ rfl | refine es_res rfl (fun x => ?_) rfl | refine es_skip rfl ?_)
          refine es_nil rfl ?_
          refine tx_q (qt_index (i := j) rfl rfl (by omega)) rfl rfl rfl ?_   -- t74
          refine tx_store (i + 1) rfl rfl (mown_at hq) rfl (show 0 + j * 2 + 2 ≤ (zcs q.2).length by rw [zcs_length, hql]; omega) rfl rfl rfl ?_   -- _
          refine tx_end ?_
          repeat (first | (with_reducible refine tr_skip ?_) | (with_reducible refine tr_exit ?_) | (with_reducible refine tr_then ?_) | (with_reducible refine tr_inX ?_) | (with_reducible refine tr_thenX ?_) | (with_reducible refine tr_inN ?_) | (with_reducible refine tr_inR ?_) | (with_reducible refine tr_thenR ?_))
          refine tr_region ?_   -- region 17
          refine sq_q (qt_bin rfl rfl (bin_addI (by omega) (by omega))) rfl ?_   -- t75
          refine sq_q (qt_move rfl) rfl ?_   -- t58
          refine sq_nil ?_
          repeat (first | (with_reducible refine tr_skip ?_) | (with_reducible refine tr_exit ?_) | (with_reducible refine tr_then ?_) | (with_reducible refine tr_inX ?_) | (with_reducible refine tr_thenX ?_) | (with_reducible refine tr_inN ?_) | (with_reducible refine tr_inR ?_) | (with_reducible refine tr_thenR ?_))
          refine tr_own (mown o (qs.set i (q.1, q.2.set j (zd m.rs[i].l[j] x)))) (mown_wr (zd m.rs[i].l[j] x) hq (by omega)) ?_
          refine tr_round2 (j + 1) (qs.set i (q.1, q.2.set j (zd m.rs[i].l[j] x))) ⟨by omega, (hG.set hq (zd m.rs[i].l[j] x) _ (zd_z _ _)).congr (fun a b _ _ => ?_), hcan.set hq (zd_can _ _)⟩ (by omega) ⟨rfl, rfl, rfl, rfl, rfl, rfl, rfl, trivial⟩ rfl (fun w h => h.1.set hq (zd_ok h.2 (nl_64 h64)))
          unfold gset
          try dsimp only
          by_cases h : a = i ∧ b = j
          · rw [if_pos h, if_pos (by omega), ← hent, h.1, h.2]
          · rw [if_neg h]
            by_cases h' : a < i ∨ (a = i ∧ b < j)
            · rw [if_pos h', if_pos (by omega)]
            · rw [if_neg h', if_neg (by omega)]
        ·
          have hjc : j = c := by have := of_decide_eq_false hc; omega
          refine tr_exit ?_
          repeat (first | (with_reducible refine tr_skip ?_) | (with_reducible refine tr_exit ?_) | (with_reducible refine tr_then ?_) | (with_reducible refine tr_inX ?_) | (with_reducible refine tr_thenX ?_) | (with_reducible refine tr_inN ?_) | (with_reducible refine tr_inR ?_) | (with_reducible refine tr_thenR ?_))
          refine tr_region ?_   -- region 18
          refine sq_q (qt_bin rfl rfl (bin_addI (by omega) (by omega))) rfl ?_   -- t76
          refine sq_q (qt_move rfl) rfl ?_   -- t50
          refine sq_nil ?_
          repeat (first | (with_reducible refine tr_skip ?_) | (with_reducible refine tr_exit ?_) | (with_reducible refine tr_then ?_) | (with_reducible refine tr_inX ?_) | (with_reducible refine tr_thenX ?_) | (with_reducible refine tr_inN ?_) | (with_reducible refine tr_inR ?_) | (with_reducible refine tr_thenR ?_))
          refine tr_round2 (i + 1) qs ⟨by omega, hG.congr (fun a b _ hb => ?_), hcan⟩ (by omega) ⟨rfl, rfl, rfl, rfl, trivial⟩ rfl (fun w h => h)
          try dsimp only
          by_cases h : a < i ∨ (a = i ∧ b < j)
          · rw [if_pos h, if_pos (by omega)]
          · rw [if_neg h, if_neg (by omega)]
      ·
        have hik : i = r := by have := of_decide_eq_false hc; omega
        refine tr_exit ?_
        repeat (first | (with_reducible refine tr_skip ?_) | (with_reducible refine tr_exit ?_) | (with_reducible refine tr_then ?_) | (with_reducible refine tr_inX ?_) | (with_reducible refine tr_thenX ?_) | (with_reducible refine tr_inN ?_) | (with_reducible refine tr_inR ?_) | (with_reducible refine tr_thenR ?_))
        refine tr_rseq ?_   -- region 19
        refine sq_q (qt_move rfl) rfl ?_   -- t77
        refine sq_q (qt_assign rfl) rfl ?_   -- t2
        refine sq_q (qt_assign rfl) rfl ?_   -- t3
        refine sq_end ?_
        refine tr_ret ?_
        repeat (first | (with_reducible refine tr_skip ?_) | (with_reducible refine tr_exit ?_) | (with_reducible refine tr_then ?_) | (with_reducible refine tr_inX ?_) | (with_reducible refine tr_thenX ?_) | (with_reducible refine tr_inN ?_) | (with_reducible refine tr_inR ?_) | (with_reducible refine tr_thenR ?_))
        refine tr_done (mmt o qs) (fun a w s t => results_2 rfl (resv_tmp s (by rw [mmt_v, hG.1]; rfl)) (resv_tmp s rfl)) (fun w h ho _ => ⟨mmt_ok ho h, ?_, mmt_can hcan⟩)
        rw [mmt_zs, hG.zs]
        refine Eq.trans ?_ hgrid
        unfold grid
        refine List.map_congr_left fun a ha => List.map_congr_left fun b hb => ?_
        have ha := List.mem_range.1 ha
        try dsimp only
        rw [if_pos (by omega)]

theorem of_ret (m : Xm) (w0 : World) (S : Nat → Prop) (hm : m.ok w0) (hlen : m.rs.length ≤ 35184372088832) (hrow : ∀ r ∈ m.rs, r.l.length ≤ 35184372088832) :
    Ret Try.prog 38 [m.v] w0 S Mt.v (optF 2 (keepO m.zs)) := by
  refine ret_of Try.func38 rfl Try.ntmps38 rfl ?_
  refine tr_rseq ?_   -- region 0
  refine sq_q (qt_assign rfl) rfl ?_   -- t2
  refine sq_end ?_
  refine tr_rseq ?_   -- region 1
  refine sq_q (qt_move rfl) rfl ?_   -- t6
  refine sq_call (optV (keepO m.zs)) (optF 2 (keepO m.zs)) rfl rfl rfl (fun w t => rfromints_ret m w _ (t.xm hm) hlen hrow) fun x => ?_   -- t7
  refine sq_q (qt_move rfl) rfl ?_   -- t5
  refine sq_q (qt_extract rfl rfl) rfl ?_   -- t8
  refine sq_q (qt_extract rfl rfl) rfl ?_   -- t9
  refine sq_q (qt_assign rfl) rfl ?_   -- t3
  refine sq_q (qt_assign rfl) rfl ?_   -- t4
  refine sq_end ?_
  refine tr_rseq ?_   -- region 2
  refine sq_q (qt_move rfl) rfl ?_   -- t10
  refine sq_q (qt_assign rfl) rfl ?_   -- t2
  refine sq_end ?_
  refine tr_ret ?_
  repeat (first | (with_reducible refine tr_skip ?_) | (with_reducible refine tr_exit ?_) | (with_reducible refine tr_then ?_) | (with_reducible refine tr_inX ?_) | (with_reducible refine tr_thenX ?_) | (with_reducible refine tr_inN ?_) | (with_reducible refine tr_inR ?_) | (with_reducible refine tr_thenR ?_))
  exact tr_done x (fun a w s t => results_1 rfl (resv_tmp s rfl)) (fun w h _ _ => h.2)
end Go.Qk
end
section
/- shape -/
set_option linter.unusedVariables false
namespace Go.Qk
open Go Go.Proofs Go.RowKit
set_option maxRecDepth 100000
set_option maxHeartbeats 4000000

theorem shape_ret (m : Mt) (B : Nat) (w0 : World) (S : Nat → Prop) (hm : m.ok B w0) (hlen : m.rs.length ≤ 35184372088832) (hrow : ∀ r ∈ m.rs, r.l.length ≤ 35184372088832) :
    Ret Try.prog 75 [m.v] w0 S (fun _ : Unit => shpV (shp m.zs)) (fun _ _ => True) := by
  have hzl := m.zs_len
  refine ret_of Try.func75 rfl Try.ntmps75 rfl ?_
  refine tr_rseq ?_   -- region 0
  refine sq_q (qt_assign rfl) rfl ?_   -- t2
  refine sq_q (qt_assign rfl) rfl ?_   -- t3
  refine sq_q (qt_assign rfl) rfl ?_   -- t4
  refine sq_end ?_
  refine tr_seq ?_   -- C1
  have hcs : m.rs.length < 1 ∨ (1 ≤ m.rs.length ∧ 16 < m.rs.length) ∨ (∃ h : 0 < m.rs.length, m.rs.length ≤ 16 ∧ m.rs[0].l.length < 1) ∨ (∃ h : 0 < m.rs.length, m.rs.length ≤ 16 ∧ 1 ≤ m.rs[0].l.length ∧ 16 < m.rs[0].l.length) ∨ (∃ h : 0 < m.rs.length, m.rs.length ≤ 16 ∧ 1 ≤ m.rs[0].l.length ∧ m.rs[0].l.length ≤ 16) := by
    by_cases h : 0 < m.rs.length
    · by_cases h2 : m.rs.length ≤ 16
      · by_cases h3 : 1 ≤ m.rs[0].l.length
        · by_cases h4 : m.rs[0].l.length ≤ 16
          · exact .inr (.inr (.inr (.inr ⟨h, h2, h3, h4⟩)))
          · exact .inr (.inr (.inr (.inl ⟨h, h2, h3, by omega⟩)))
        · exact .inr (.inr (.inl ⟨h, h2, by omega⟩))
      · exact .inr (.inl ⟨by omega, by omega⟩)
    · exact .inl (by omega)
  rcases hcs with h1 | ⟨h1, h2⟩ | ⟨hp0, h2, g1⟩ | ⟨hp0, h2, g1, g2⟩ | ⟨hp0, h2, g1, g2⟩
  ·
    rw [shp_none_len (L := m.zs) (by omega)]
    refine tr_rseq ?_   -- region 1
    refine sq_q (qt_move rfl) rfl ?_   -- t7
    refine sq_q (qt_len rfl) rfl ?_   -- t8
    refine sq_q (qt_bin rfl rfl (bT bin_lss (by omega))) rfl ?_   -- t9
    refine sq_q (qt_move rfl) rfl ?_   -- t10
    refine sq_gF rfl rfl rfl rfl ?_
    refine sq_gF rfl rfl rfl rfl ?_
    refine sq_gF rfl rfl rfl rfl ?_
    refine sq_q (qt_pick rfl rfl) rfl ?_   -- t14
    refine sq_q (qt_move rfl) rfl ?_   -- t15
    refine sq_gF rfl rfl rfl rfl ?_
    refine sq_gF rfl rfl rfl rfl ?_
    refine sq_gF rfl rfl rfl rfl ?_
    refine sq_gF rfl rfl rfl rfl ?_
    refine sq_gF rfl rfl rfl rfl ?_
    refine sq_q (qt_pick rfl rfl) rfl ?_   -- t21
    refine sq_q (qt_move rfl) rfl ?_   -- t22
    refine sq_gF rfl rfl rfl rfl ?_
    refine sq_gF rfl rfl rfl rfl ?_
    refine sq_gF rfl rfl rfl rfl ?_
    refine sq_gF rfl rfl rfl rfl ?_
    refine sq_gF rfl rfl rfl rfl ?_
    refine sq_q (qt_pick rfl rfl) rfl ?_   -- t28
    refine sq_end ?_
    refine tr_ifT rfl ?_
    refine tr_rseq ?_   -- region 2
    refine sq_q (qt_assign rfl) rfl ?_   -- t2
    refine sq_q (qt_assign rfl) rfl ?_   -- t3
    refine sq_q (qt_assign rfl) rfl ?_   -- t4
    refine sq_end ?_
    refine tr_ret ?_
    repeat (first | (with_reducible refine tr_skip ?_) | (with_reducible refine tr_exit ?_) | (with_reducible refine tr_then ?_) | (with_reducible refine tr_inX ?_) | (with_reducible refine tr_thenX ?_) | (with_reducible refine tr_inN ?_) | (with_reducible refine tr_inR ?_) | (with_reducible refine tr_thenR ?_))
    exact tr_done () (fun a w s t => results_3 rfl (resv_tmp s rfl) (resv_tmp s rfl) (resv_tmp s rfl)) (fun w _ _ _ => trivial)
  ·
    rw [shp_none_len (L := m.zs) (by omega)]
    refine tr_rseq ?_   -- region 1
    refine sq_q (qt_move rfl) rfl ?_   -- t7
    refine sq_q (qt_len rfl) rfl ?_   -- t8
    refine sq_q (qt_bin rfl rfl (bF bin_lss (by omega))) rfl ?_   -- t9
    refine sq_q (qt_move rfl) rfl ?_   -- t10
    refine sq_gT rfl rfl ?_
    refine sq_q (qt_move rfl) rfl ?_   -- t11
    refine sq_gT rfl rfl ?_
    refine sq_q (qt_len rfl) rfl ?_   -- t12
    refine sq_gT rfl rfl ?_
    refine sq_q (qt_bin rfl rfl (bT bin_gtr (by omega))) rfl ?_   -- t13
    refine sq_q (qt_pick rfl rfl) rfl ?_   -- t14
    refine sq_q (qt_move rfl) rfl ?_   -- t15
    refine sq_gF rfl rfl rfl rfl ?_
    refine sq_gF rfl rfl rfl rfl ?_
    refine sq_gF rfl rfl rfl rfl ?_
    refine sq_gF rfl rfl rfl rfl ?_
    refine sq_gF rfl rfl rfl rfl ?_
    refine sq_q (qt_pick rfl rfl) rfl ?_   -- t21
    refine sq_q (qt_move rfl) rfl ?_   -- t22
    refine sq_gF rfl rfl rfl rfl ?_
    refine sq_gF rfl rfl rfl rfl ?_
    refine sq_gF rfl rfl rfl rfl ?_
    refine sq_gF rfl rfl rfl rfl ?_
    refine sq_gF rfl rfl rfl rfl ?_
    refine sq_q (qt_pick rfl rfl) rfl ?_   -- t28
    refine sq_end ?_
    refine tr_ifT rfl ?_
    refine tr_rseq ?_   -- region 2
    refine sq_q (qt_assign rfl) rfl ?_   -- t2
    refine sq_q (qt_assign rfl) rfl ?_   -- t3
    refine sq_q (qt_assign rfl) rfl ?_   -- t4
    refine sq_end ?_
    refine tr_ret ?_
    repeat (first | (with_reducible refine tr_skip ?_) | (with_reducible refine tr_exit ?_) | (with_reducible refine tr_then ?_) | (with_reducible refine tr_inX ?_) | (with_reducible refine tr_thenX ?_) | (with_reducible refine tr_inN ?_) | (with_reducible refine tr_inR ?_) | (with_reducible refine tr_thenR ?_))
    exact tr_done () (fun a w s t => results_3 rfl (resv_tmp s rfl) (resv_tmp s rfl) (resv_tmp s rfl)) (fun w _ _ _ => trivial)
  ·
    obtain ⟨ro, oo, evm, hat⟩ := hm.at_ hp0
    rw [evm]
    have hno0 : (m.rs[0].l.length < 1 ∨ 16 < m.rs[0].l.length) → shp m.zs = none := fun h => shp_none_row (k := 0) (by omega) (by omega) (by rw [m.zs_at hp0, Rw.zs_len]; omega)
    have hr0 := hrow _ (List.getElem_mem hp0)
    rw [hno0 (.inl g1)]
    refine tr_rseq ?_   -- region 1
    refine sq_q (qt_move rfl) rfl ?_   -- t7
    refine sq_q (qt_len rfl) rfl ?_   -- t8
    refine sq_q (qt_bin rfl rfl (bF bin_lss (by omega))) rfl ?_   -- t9
    refine sq_q (qt_move rfl) rfl ?_   -- t10
    refine sq_gT rfl rfl ?_
    refine sq_q (qt_move rfl) rfl ?_   -- t11
    refine sq_gT rfl rfl ?_
    refine sq_q (qt_len rfl) rfl ?_   -- t12
    refine sq_gT rfl rfl ?_
    refine sq_q (qt_bin rfl rfl (bF bin_gtr (by omega))) rfl ?_   -- t13
    refine sq_q (qt_pick rfl rfl) rfl ?_   -- t14
    refine sq_q (qt_move rfl) rfl ?_   -- t15
    refine sq_gT rfl rfl ?_
    refine sq_q (qt_move rfl) rfl ?_   -- t16
    refine sq_gT rfl rfl ?_
    refine sq_q (qt_index (i := 0) rfl rfl hp0) rfl ?_   -- t17
    refine sq_gT rfl rfl ?_
    refine sq_q (qt_load rfl (fun w t => t.a1 (hat 0 hp0))) rfl ?_   -- t18
    refine sq_gT rfl rfl ?_
    refine sq_q (qt_len rfl) rfl ?_   -- t19
    refine sq_gT rfl rfl ?_
    refine sq_q (qt_bin rfl rfl (bT bin_lss (by omega))) rfl ?_   -- t20
    refine sq_q (qt_pick rfl rfl) rfl ?_   -- t21
    refine sq_q (qt_move rfl) rfl ?_   -- t22
    refine sq_gF rfl rfl rfl rfl ?_
    refine sq_gF rfl rfl rfl rfl ?_
    refine sq_gF rfl rfl rfl rfl ?_
    refine sq_gF rfl rfl rfl rfl ?_
    refine sq_gF rfl rfl rfl rfl ?_
    refine sq_q (qt_pick rfl rfl) rfl ?_   -- t28
    refine sq_end ?_
    refine tr_ifT rfl ?_
    refine tr_rseq ?_   -- region 2
    refine sq_q (qt_assign rfl) rfl ?_   -- t2
    refine sq_q (qt_assign rfl) rfl ?_   -- t3
    refine sq_q (qt_assign rfl) rfl ?_   -- t4
    refine sq_end ?_
    refine tr_ret ?_
    repeat (first | (with_reducible refine tr_skip ?_) | (with_reducible refine tr_exit ?_) | (with_reducible refine tr_then ?_) | (with_reducible refine tr_inX ?_) | (with_reducible refine tr_thenX ?_) | (with_reducible refine tr_inN ?_) | (with_reducible refine tr_inR ?_) | (with_reducible refine tr_thenR ?_))
    exact tr_done () (fun a w s t => results_3 rfl (resv_tmp s rfl) (resv_tmp s rfl) (resv_tmp s rfl)) (fun w _ _ _ => trivial)
  ·
    obtain ⟨ro, oo, evm, hat⟩ := hm.at_ hp0
    rw [evm]
    have hno0 : (m.rs[0].l.length < 1 ∨ 16 < m.rs[0].l.length) → shp m.zs = none := fun h => shp_none_row (k := 0) (by omega) (by omega) (by rw [m.zs_at hp0, Rw.zs_len]; omega)
    have hr0 := hrow _ (List.getElem_mem hp0)
    rw [hno0 (.inr g2)]
    refine tr_rseq ?_   -- region 1
    refine sq_q (qt_move rfl) rfl ?_   -- t7
    refine sq_q (qt_len rfl) rfl ?_   -- t8
    refine sq_q (qt_bin rfl rfl (bF bin_lss (by omega))) rfl ?_   -- t9
    refine sq_q (qt_move rfl) rfl ?_   -- t10
    refine sq_gT rfl rfl ?_
    refine sq_q (qt_move rfl) rfl ?_   -- t11
    refine sq_gT rfl rfl ?_
    refine sq_q (qt_len rfl) rfl ?_   -- t12
    refine sq_gT rfl rfl ?_
    refine sq_q (qt_bin rfl rfl (bF bin_gtr (by omega))) rfl ?_   -- t13
    refine sq_q (qt_pick rfl rfl) rfl ?_   -- t14
    refine sq_q (qt_move rfl) rfl ?_   -- t15
    refine sq_gT rfl rfl ?_
    refine sq_q (qt_move rfl) rfl ?_   -- t16
    refine sq_gT rfl rfl ?_
    refine sq_q (qt_index (i := 0) rfl rfl hp0) rfl ?_   -- t17
    refine sq_gT rfl rfl ?_
    refine sq_q (qt_load rfl (fun w t => t.a1 (hat 0 hp0))) rfl ?_   -- t18
    refine sq_gT rfl rfl ?_
    refine sq_q (qt_len rfl) rfl ?_   -- t19
    refine sq_gT rfl rfl ?_
    refine sq_q (qt_bin rfl rfl (bF bin_lss (by omega))) rfl ?_   -- t20
    refine sq_q (qt_pick rfl rfl) rfl ?_   -- t21
    refine sq_q (qt_move rfl) rfl ?_   -- t22
    refine sq_gT rfl rfl ?_
    refine sq_q (qt_move rfl) rfl ?_   -- t23
    refine sq_gT rfl rfl ?_
    refine sq_q (qt_index (i := 0) rfl rfl hp0) rfl ?_   -- t24
    refine sq_gT rfl rfl ?_
    refine sq_q (qt_load rfl (fun w t => t.a1 (hat 0 hp0))) rfl ?_   -- t25
    refine sq_gT rfl rfl ?_
    refine sq_q (qt_len rfl) rfl ?_   -- t26
    refine sq_gT rfl rfl ?_
    refine sq_q (qt_bin rfl rfl (bT bin_gtr (by omega))) rfl ?_   -- t27
    refine sq_q (qt_pick rfl rfl) rfl ?_   -- t28
    refine sq_end ?_
    refine tr_ifT rfl ?_
    refine tr_rseq ?_   -- region 2
    refine sq_q (qt_assign rfl) rfl ?_   -- t2
    refine sq_q (qt_assign rfl) rfl ?_   -- t3
    refine sq_q (qt_assign rfl) rfl ?_   -- t4
    refine sq_end ?_
    refine tr_ret ?_
    repeat (first | (with_reducible refine tr_skip ?_) | (with_reducible refine tr_exit ?_) | (with_reducible refine tr_then ?_) | (with_reducible refine tr_inX ?_) | (with_reducible refine tr_thenX ?_) | (with_reducible refine tr_inN ?_) | (with_reducible refine tr_inR ?_) | (with_reducible refine tr_thenR ?_))
    exact tr_done () (fun a w s t => results_3 rfl (resv_tmp s rfl) (resv_tmp s rfl) (resv_tmp s rfl)) (fun w _ _ _ => trivial)
  ·
    obtain ⟨ro, oo, evm, hat⟩ := hm.at_ hp0
    rw [evm]
    have hno0 : (m.rs[0].l.length < 1 ∨ 16 < m.rs[0].l.length) → shp m.zs = none := fun h => shp_none_row (k := 0) (by omega) (by omega) (by rw [m.zs_at hp0, Rw.zs_len]; omega)
    have hr0 := hrow _ (List.getElem_mem hp0)
    refine tr_rseq ?_   -- region 1
    refine sq_q (qt_move rfl) rfl ?_   -- t7
    refine sq_q (qt_len rfl) rfl ?_   -- t8
    refine sq_q (qt_bin rfl rfl (bF bin_lss (by omega))) rfl ?_   -- t9
    refine sq_q (qt_move rfl) rfl ?_   -- t10
    refine sq_gT rfl rfl ?_
    refine sq_q (qt_move rfl) rfl ?_   -- t11
    refine sq_gT rfl rfl ?_
    refine sq_q (qt_len rfl) rfl ?_   -- t12
    refine sq_gT rfl rfl ?_
    refine sq_q (qt_bin rfl rfl (bF bin_gtr (by omega))) rfl ?_   -- t13
    refine sq_q (qt_pick rfl rfl) rfl ?_   -- t14
    refine sq_q (qt_move rfl) rfl ?_   -- t15
    refine sq_gT rfl rfl ?_
    refine sq_q (qt_move rfl) rfl ?_   -- t16
    refine sq_gT rfl rfl ?_
    refine sq_q (qt_index (i := 0) rfl rfl hp0) rfl ?_   -- t17
    refine sq_gT rfl rfl ?_
    refine sq_q (qt_load rfl (fun w t => t.a1 (hat 0 hp0))) rfl ?_   -- t18
    refine sq_gT rfl rfl ?_
    refine sq_q (qt_len rfl) rfl ?_   -- t19
    refine sq_gT rfl rfl ?_
    refine sq_q (qt_bin rfl rfl (bF bin_lss (by omega))) rfl ?_   -- t20
    refine sq_q (qt_pick rfl rfl) rfl ?_   -- t21
    refine sq_q (qt_move rfl) rfl ?_   -- t22
    refine sq_gT rfl rfl ?_
    refine sq_q (qt_move rfl) rfl ?_   -- t23
    refine sq_gT rfl rfl ?_
    refine sq_q (qt_index (i := 0) rfl rfl hp0) rfl ?_   -- t24
    refine sq_gT rfl rfl ?_
    refine sq_q (qt_load rfl (fun w t => t.a1 (hat 0 hp0))) rfl ?_   -- t25
    refine sq_gT rfl rfl ?_
    refine sq_q (qt_len rfl) rfl ?_   -- t26
    refine sq_gT rfl rfl ?_
    refine sq_q (qt_bin rfl rfl (bF bin_gtr (by omega))) rfl ?_   -- t27
    refine sq_q (qt_pick rfl rfl) rfl ?_   -- t28
    refine sq_end ?_
    refine tr_ifF rfl ?_
    refine tr_skip ?_
    repeat (first | (with_reducible refine tr_skip ?_) | (with_reducible refine tr_exit ?_) | (with_reducible refine tr_then ?_) | (with_reducible refine tr_inX ?_) | (with_reducible refine tr_thenX ?_) | (with_reducible refine tr_inN ?_) | (with_reducible refine tr_inR ?_) | (with_reducible refine tr_thenR ?_))
    refine tr_seq ?_   -- C2
    refine tr_rseq ?_   -- region 3
    refine sq_q (qt_move rfl) rfl ?_   -- t29
    refine sq_q (qt_len rfl) rfl ?_   -- t30
    refine sq_q (qt_move rfl) rfl ?_   -- t31
    refine sq_end ?_
    refine tr_block ?_
    refine tr_loop (fun k : Nat => k ≤ m.rs.length ∧ ∀ i (h : i < m.rs.length), i < k → m.rs[i].l.length = m.rs[0].l.length) (fun k => [(0, .slice (some ⟨ro, oo, none⟩) m.rs.length m.p.2), (29, .slice (some ⟨ro, oo, none⟩) m.rs.length m.p.2), (30, .int .i64 (m.rs.length : Int)), (31, .int .i64 (k : Int))]) (fun _ => []) (fun _ _ => True) (fun k => m.rs.length - k) 0 ⟨Nat.zero_le _, fun i _ h => by omega⟩ ⟨rfl, rfl, rfl, rfl, trivial⟩ rfl (fun _ _ => trivial) ?_
    rintro k ⟨hk, hall⟩
    refine tr_rseq ?_   -- region 4
    refine sq_q (qt_bin rfl rfl bin_lss) rfl ?_   -- t32
    refine sq_end ?_
    refine tr_seq ?_   -- C3
    refine tr_if rfl (fun hc => ?_) (fun hc => ?_)
    ·
      have hlt : k < m.rs.length := by have := of_decide_eq_true hc; omega
      have hrk := hrow _ (List.getElem_mem hlt)
      refine tr_skip ?_
      repeat (first | (with_reducible refine tr_skip ?_) | (with_reducible refine tr_exit ?_) | (with_reducible refine tr_then ?_) | (with_reducible refine tr_inX ?_) | (with_reducible refine tr_thenX ?_) | (with_reducible refine tr_inN ?_) | (with_reducible refine tr_inR ?_) | (with_reducible refine tr_thenR ?_))
      refine tr_seq ?_   -- C4
      refine tr_block ?_
      refine tr_rseq ?_   -- region 5
      refine sq_q (qt_index (i := k) rfl rfl hlt) rfl ?_   -- t33
      refine sq_q (qt_load rfl (fun w t => t.a1 (hat k hlt))) rfl ?_   -- t34
      refine sq_q (qt_assign rfl) rfl ?_   -- t6
      refine sq_end ?_
      refine tr_rseq ?_   -- region 6
      refine sq_q (qt_move rfl) rfl ?_   -- t35
      refine sq_q (qt_len rfl) rfl ?_   -- t36
      refine sq_q (qt_move rfl) rfl ?_   -- t37
      refine sq_q (qt_index (i := 0) rfl rfl hp0) rfl ?_   -- t38
      refine sq_q (qt_load rfl (fun w t => t.a1 (hat 0 hp0))) rfl ?_   -- t39
      refine sq_q (qt_len rfl) rfl ?_   -- t40
      refine sq_q (qt_bin rfl rfl bin_neq) rfl ?_   -- t41
      refine sq_end ?_
      refine tr_if rfl (fun hc => ?_) (fun hc => ?_)
      ·
        have hne : m.rs[k].l.length ≠ m.rs[0].l.length := by have := of_decide_eq_true hc; omega
        rw [shp_none_row (L := m.zs) (k := k) (by omega) (by omega) (by rw [m.zs_at hlt, m.zs_at hp0, Rw.zs_len, Rw.zs_len]; exact .inr (.inr hne))]
        refine tr_rseq ?_   -- region 7
        refine sq_q (qt_assign rfl) rfl ?_   -- t2
        refine sq_q (qt_assign rfl) rfl ?_   -- t3
        refine sq_q (qt_assign rfl) rfl ?_   -- t4
        refine sq_end ?_
        refine tr_ret ?_
        repeat (first | (with_reducible refine tr_skip ?_) | (with_reducible refine tr_exit ?_) | (with_reducible refine tr_then ?_) | (with_reducible refine tr_inX ?_) | (with_reducible refine tr_thenX ?_) | (with_reducible refine tr_inN ?_) | (with_reducible refine tr_inR ?_) | (with_reducible refine tr_thenR ?_))
        exact tr_done () (fun a w s t => results_3 rfl (resv_tmp s rfl) (resv_tmp s rfl) (resv_tmp s rfl)) (fun w _ _ _ => trivial)
      ·
        have heq : m.rs[k].l.length = m.rs[0].l.length := by have := of_decide_eq_false hc; omega
        refine tr_skip ?_
        repeat (first | (with_reducible refine tr_skip ?_) | (with_reducible refine tr_exit ?_) | (with_reducible refine tr_then ?_) | (with_reducible refine tr_inX ?_) | (with_reducible refine tr_thenX ?_) | (with_reducible refine tr_inN ?_) | (with_reducible refine tr_inR ?_) | (with_reducible refine tr_thenR ?_))
        refine tr_region ?_   -- region 8
        refine sq_q (qt_bin rfl rfl (bin_addI (by omega) (by omega))) rfl ?_   -- t42
        refine sq_q (qt_move rfl) rfl ?_   -- t31
        refine sq_nil ?_
        repeat (first | (with_reducible refine tr_skip ?_) | (with_reducible refine tr_exit ?_) | (with_reducible refine tr_then ?_) | (with_reducible refine tr_inX ?_) | (with_reducible refine tr_thenX ?_) | (with_reducible refine tr_inN ?_) | (with_reducible refine tr_inR ?_) | (with_reducible refine tr_thenR ?_))
        refine tr_round (k + 1) ⟨by omega, fun i h hi => ?_⟩ (by omega) ⟨rfl, rfl, rfl, rfl, trivial⟩ rfl (fun _ h => h)
        by_cases e : i = k
        · subst e; exact heq
        · exact hall i h (by omega)
    ·
      have hkm : k = m.rs.length := by have := of_decide_eq_false hc; omega
      rw [shp_some (L := m.zs) (by omega) (by omega) (by rw [m.zs_at hp0, Rw.zs_len]; exact g1) (by rw [m.zs_at hp0, Rw.zs_len]; exact g2) (fun i hi => by rw [m.zs_at (by omega), m.zs_at hp0, Rw.zs_len, Rw.zs_len]; exact hall i (by omega) (by omega))]
      rw [m.zs_at hp0, Rw.zs_len, m.zs_len]
      refine tr_exit ?_
      repeat (first | (with_reducible refine tr_skip ?_) | (with_reducible refine tr_exit ?_) | (with_reducible refine tr_then ?_) | (with_reducible refine tr_inX ?_) | (with_reducible refine tr_thenX ?_) | (with_reducible refine tr_inN ?_) | (with_reducible refine tr_inR ?_) | (with_reducible refine tr_thenR ?_))
      refine tr_rdraw0 [0, 2, 3, 4, 6, 28, 29, 30, 31, 32, 41] (by kernel_rfl) ?_   -- region 9
      refine dx_q rfl (qt_move rfl) rfl ?_   -- t43
      refine dx_q rfl (qt_len rfl) rfl ?_   -- t44
      refine dx_q rfl (qt_move rfl) rfl ?_   -- t45
      refine dx_q rfl (qt_index (i := 0) rfl rfl hp0) rfl ?_   -- t46
      refine dx_q rfl (qt_load rfl (fun w t => t.a1 (hat 0 hp0))) rfl ?_   -- t47
      refine dx_q rfl (qt_len rfl) rfl ?_   -- t48
      refine dx_q rfl (qt_assign rfl) rfl ?_   -- t2
      refine dx_q rfl (qt_assign rfl) rfl ?_   -- t3
      refine dx_q rfl (qt_assign rfl) rfl ?_   -- t4
      refine dx_nil ?_
      repeat (first | refine es_val rfl ?_ rfl | refine es_res rfl (fun x => ?_) rfl | refine es_skip rfl ?_)
      refine es_nil rfl ?_
      refine tx_endk ?_
      refine tr_ret ?_
      repeat (first | (with_reducible refine tr_skip ?_) | (with_reducible refine tr_exit ?_) | (with_reducible refine tr_then ?_) | (with_reducible refine tr_inX ?_) | (with_reducible refine tr_thenX ?_) | (with_reducible refine tr_inN ?_) | (with_reducible refine tr_inR ?_) | (with_reducible refine tr_thenR ?_))
      exact tr_done () (fun a w s t => results_3 rfl (resv_tmp s rfl) (resv_tmp s rfl) (resv_tmp s rfl)) (fun w _ _ _ => trivial)
end Go.Qk
end
section
/- square, others -/
set_option linter.unusedVariables false
namespace Go.Qk
open Go Go.Proofs Go.RowKit
set_option maxRecDepth 100000
set_option maxHeartbeats 4000000

theorem square_ret (m : Mt) (B : Nat) (w0 : World) (S : Nat → Prop) (hm : m.ok B w0) (hlen : m.rs.length ≤ 35184372088832) (hrow : ∀ r ∈ m.rs, r.l.length ≤ 35184372088832) :
    Ret Try.prog 67 [m.v] w0 S (fun _ : Unit => sqrV (shp m.zs)) (fun _ _ => True) := by
  obtain ⟨o, ho⟩ : ∃ o, o = shp m.zs := ⟨_, rfl⟩
  rw [← ho]
  refine ret_of Try.func67 rfl Try.ntmps67 rfl ?_
  refine tr_rseq ?_   -- region 0
  refine sq_q (qt_assign rfl) rfl ?_   -- t2
  refine sq_q (qt_assign rfl) rfl ?_   -- t3
  refine sq_end ?_
  refine tr_rseq ?_   -- region 1
  refine sq_q (qt_move rfl) rfl ?_   -- t8
  refine sq_call (val := fun _ : Unit => shpV o) (F := fun _ _ => True) rfl rfl rfl (fun w t => by rw [ho]; exact shape_ret m B w _ (t.mt hm) hlen hrow) fun _ => ?_   -- t9
  refine sq_q (qt_move rfl) rfl ?_   -- t7
  refine sq_q (qt_extract rfl rfl) rfl ?_   -- t10
  refine sq_q (qt_extract rfl rfl) rfl ?_   -- t11
  refine sq_q (qt_extract rfl rfl) rfl ?_   -- t12
  refine sq_q (qt_assign rfl) rfl ?_   -- t4
  refine sq_q (qt_assign rfl) rfl ?_   -- t5
  refine sq_q (qt_assign rfl) rfl ?_   -- t6
  refine sq_end ?_
  clear ho
  cases o
  ·
    refine tr_rseq ?_   -- region 2
    refine sq_q (qt_move rfl) rfl ?_   -- t13
    refine sq_q (qt_move rfl) rfl ?_   -- t14
    refine sq_q (qt_move rfl) rfl ?_   -- t15
    refine sq_gF rfl rfl rfl rfl ?_
    refine sq_gF rfl rfl rfl rfl ?_
    refine sq_gF rfl rfl rfl rfl ?_
    refine sq_q (qt_pick rfl rfl) rfl ?_   -- t19
    refine sq_q (qt_assign rfl) rfl ?_   -- t2
    refine sq_q (qt_assign rfl) rfl ?_   -- t3
    refine sq_end ?_
    refine tr_ret ?_
    repeat (first | (with_reducible refine tr_skip ?_) | (with_reducible refine tr_exit ?_) | (with_reducible refine tr_then ?_) | (with_reducible refine tr_inX ?_) | (with_reducible refine tr_thenX ?_) | (with_reducible refine tr_inN ?_) | (with_reducible refine tr_inR ?_) | (with_reducible refine tr_thenR ?_))
    exact tr_done () (fun a w s t => results_2 rfl (resv_tmp s rfl) (resv_tmp s rfl)) (fun w _ _ _ => trivial)
  ·
    refine tr_rseq ?_   -- region 2
    refine sq_q (qt_move rfl) rfl ?_   -- t13
    refine sq_q (qt_move rfl) rfl ?_   -- t14
    refine sq_q (qt_move rfl) rfl ?_   -- t15
    refine sq_gT rfl rfl ?_
    refine sq_q (qt_move rfl) rfl ?_   -- t16
    refine sq_gT rfl rfl ?_
    refine sq_q (qt_move rfl) rfl ?_   -- t17
    refine sq_gT rfl rfl ?_
    refine sq_q (qt_bin rfl rfl bin_eql) rfl ?_   -- t18
    refine sq_q (qt_pick rfl rfl) rfl ?_   -- t19
    refine sq_q (qt_assign rfl) rfl ?_   -- t2
    refine sq_q (qt_assign rfl) rfl ?_   -- t3
    refine sq_end ?_
    refine tr_ret ?_
    repeat (first | (with_reducible refine tr_skip ?_) | (with_reducible refine tr_exit ?_) | (with_reducible refine tr_then ?_) | (with_reducible refine tr_inX ?_) | (with_reducible refine tr_thenX ?_) | (with_reducible refine tr_inN ?_) | (with_reducible refine tr_inR ?_) | (with_reducible refine tr_thenR ?_))
    exact tr_done () (fun a w s t => results_2 rfl (resv_tmp s rfl) (resv_tmp s rfl)) (fun w _ _ _ => trivial)

theorem others_ret (n i : Nat) (w0 : World) (S : Nat → Prop) (hn : n ≤ 65536) :
    Ret Try.prog 80 [.int .i64 (n : Int), .int .i64 (i : Int)] w0 S (fun p : Sv => .slice p.1 (oth n i).length p.2) (fun p w => Rd p.1 (ints (oth n i)) w ∧ (oth n i).length ≤ p.2) := by
  refine ret_of Try.func80 rfl Try.ntmps80 rfl ?_
  refine tr_rseq ?_   -- region 0
  refine sq_q (qt_assign rfl) rfl ?_   -- t4
  refine sq_end ?_
  refine tr_rseq ?_   -- region 1
  refine sq_q (qt_assign rfl) rfl ?_   -- t5
  refine sq_end ?_
  refine tr_seq ?_   -- C1
  refine tr_rseq ?_   -- region 2
  refine sq_q (qt_move rfl) rfl ?_   -- t7
  refine sq_q (qt_move rfl) rfl ?_   -- t8
  refine sq_end ?_
  refine tr_block ?_
  refine tr_loop2 (fun (k : Nat) (p : Gr) => k ≤ n ∧ grOk 1 (oth k i).length (ints (oth k i)) p) (fun k p => [(0, .int .i64 (n : Int)), (1, .int .i64 (i : Int)), (5, grV (oth k i).length p), (7, .int .i64 (n : Int)), (8, .int .i64 (k : Int))]) (fun k p => grO 3 (ints (oth k i)) p) (fun _ _ _ => True) (fun k _ => n - k) 0 none ⟨Nat.zero_le _, rfl, rfl⟩ ⟨rfl, rfl, rfl, rfl, rfl, trivial⟩ rfl (fun _ _ => trivial) ?_
  rintro k p ⟨hk, hok⟩
  refine tr_rseq ?_   -- region 3
  refine sq_q (qt_bin rfl rfl bin_lss) rfl ?_   -- t9
  refine sq_end ?_
  refine tr_seq ?_   -- C2
  refine tr_if rfl (fun hc => ?_) (fun hc => ?_)
  ·
    have hlt : k < n := by have := of_decide_eq_true hc; omega
    have hol : (oth k i).length ≤ k := oth_length k i
    refine tr_skip ?_
    repeat (first | (with_reducible refine tr_skip ?_) | (with_reducible refine tr_exit ?_) | (with_reducible refine tr_then ?_) | (with_reducible refine tr_inX ?_) | (with_reducible refine tr_thenX ?_) | (with_reducible refine tr_inN ?_) | (with_reducible refine tr_inR ?_) | (with_reducible refine tr_thenR ?_))
    refine tr_seq ?_   -- C3
    refine tr_block ?_
    refine tr_rseq ?_   -- region 4
    refine sq_q (qt_move rfl) rfl ?_   -- t10
    refine sq_q (qt_assign rfl) rfl ?_   -- t6
    refine sq_end ?_
    refine tr_rseq ?_   -- region 5
    refine sq_q (qt_move rfl) rfl ?_   -- t11
    refine sq_q (qt_move rfl) rfl ?_   -- t12
    refine sq_q (qt_bin rfl rfl bin_neq) rfl ?_   -- t13
    refine sq_end ?_
    refine tr_if rfl (fun hc => ?_) (fun hc => ?_)
    ·
      have hne : k ≠ i := by have := of_decide_eq_true hc; omega
      refine tr_region ?_   -- region 6
      refine sq_q (qt_move rfl) rfl ?_   -- t14
      refine sq_q (qt_move rfl) rfl ?_   -- t15
      refine sq_lit (vs := [(0, .int .i64 (k : Int))]) (cells := [.int .i64 (k : Int)]) rfl rfl rfl (by simp [Instr.fill, Value.cells, show Array.range 1 = #[0] from by decide]) rfl fun r16 => ?_   -- t16
      refine sq_own ((r16, .cells [Value.int .i64 (k : Int)].toArray 3 (0, 0)) :: (grO 3 (ints (oth k i)) p ++ [])) (by rw [List.append_nil]) ?_
      refine sq_grow (p := p) (k := (oth k i).length) (m := 1) (xs := ints (oth k i)) (news := [.int .i64 (k : Int)]) (own' := []) rfl rfl hok rfl (by omega) (by omega) (by omega) rfl rfl rfl rfl fun p' hok' => ?_
      rw [List.append_nil]   -- t17
      refine sq_q (qt_assign rfl) rfl ?_   -- t5
      refine sq_nil ?_
      repeat (first | (with_reducible refine tr_skip ?_) | (with_reducible refine tr_exit ?_) | (with_reducible refine tr_then ?_) | (with_reducible refine tr_inX ?_) | (with_reducible refine tr_thenX ?_) | (with_reducible refine tr_inN ?_) | (with_reducible refine tr_inR ?_) | (with_reducible refine tr_thenR ?_))
      refine tr_region ?_   -- region 7
      refine sq_q (qt_bin rfl rfl (bin_addI (by omega) (by omega))) rfl ?_   -- t18
      refine sq_q (qt_move rfl) rfl ?_   -- t8
      refine sq_nil ?_
      repeat (first | (with_reducible refine tr_skip ?_) | (with_reducible refine tr_exit ?_) | (with_reducible refine tr_then ?_) | (with_reducible refine tr_inX ?_) | (with_reducible refine tr_thenX ?_) | (with_reducible refine tr_inN ?_) | (with_reducible refine tr_inR ?_) | (with_reducible refine tr_thenR ?_))
      have e : oth (k + 1) i = oth k i ++ [k] := oth_ne hne
      have e2 : ints (oth k i) ++ [Value.int .i64 (k : Int)] = ints (oth (k + 1) i) := by rw [e]; simp [ints]
      have e3 : (oth k i).length + 1 = (oth (k + 1) i).length := by rw [e]; simp
      rw [e2, e3] at hok'
      refine tr_round2 (k + 1) p' ⟨by omega, hok'⟩ (by omega) ⟨rfl, rfl, by rw [← e3]; rfl, rfl, rfl, trivial⟩ (by rw [← e2]) (fun _ h => h)
    ·
      have heq : k = i := by have := of_decide_eq_false hc; omega
      refine tr_skip ?_
      repeat (first | (with_reducible refine tr_skip ?_) | (with_reducible refine tr_exit ?_) | (with_reducible refine tr_then ?_) | (with_reducible refine tr_inX ?_) | (with_reducible refine tr_thenX ?_) | (with_reducible refine tr_inN ?_) | (with_reducible refine tr_inR ?_) | (with_reducible refine tr_thenR ?_))
      refine tr_region ?_   -- region 7
      refine sq_q (qt_bin rfl rfl (bin_addI (by omega) (by omega))) rfl ?_   -- t18
      refine sq_q (qt_move rfl) rfl ?_   -- t8
      refine sq_nil ?_
      repeat (first | (with_reducible refine tr_skip ?_) | (with_reducible refine tr_exit ?_) | (with_reducible refine tr_then ?_) | (with_reducible refine tr_inX ?_) | (with_reducible refine tr_thenX ?_) | (with_reducible refine tr_inN ?_) | (with_reducible refine tr_inR ?_) | (with_reducible refine tr_thenR ?_))
      have e : oth (k + 1) i = oth k i := oth_eq heq
      refine tr_round2 (k + 1) p ⟨by omega, by rw [e]; exact hok⟩ (by omega) ⟨rfl, rfl, by rw [e]; rfl, rfl, rfl, trivial⟩ (by rw [e]) (fun _ h => h)
  ·
    have hkn : k = n := by have := of_decide_eq_false hc; omega
    subst hkn
    refine tr_exit ?_
    repeat (first | (with_reducible refine tr_skip ?_) | (with_reducible refine tr_exit ?_) | (with_reducible refine tr_then ?_) | (with_reducible refine tr_inX ?_) | (with_reducible refine tr_thenX ?_) | (with_reducible refine tr_inN ?_) | (with_reducible refine tr_inR ?_) | (with_reducible refine tr_thenR ?_))
    refine tr_rseq ?_   -- region 8
    refine sq_q (qt_move rfl) rfl ?_   -- t19
    refine sq_q (qt_assign rfl) rfl ?_   -- t4
    refine sq_end ?_
    refine tr_ret ?_
    repeat (first | (with_reducible refine tr_skip ?_) | (with_reducible refine tr_exit ?_) | (with_reducible refine tr_then ?_) | (with_reducible refine tr_inX ?_) | (with_reducible refine tr_thenX ?_) | (with_reducible refine tr_inN ?_) | (with_reducible refine tr_inR ?_) | (with_reducible refine tr_thenR ?_))
    exact tr_done (grP p) (fun a w s t => results_1 rfl (resv_tmp s (by rw [← grP_v hok]; rfl))) (fun w _ ho _ => grP_rd hok ho)
end Go.Qk
end
section
/- An alloc in a region whose order is open; a block that is taken over where only limbs are known. -/
set_option linter.unusedVariables false
namespace Go.Qk
open Go Go.Proofs Go.RowKit
/-- a block with a limb in it -/
def u32b (o : Obj) : Prop := ∃ cs e fr v, o = .cells cs e fr ∧ Value.int .u32 v ∈ cs
/-- what is known of limbs alone -/
def LimbR (R : World → Prop) : Prop := ∀ w w' : World, (∀ (k : Nat) (o : Obj), w.heap[k]? = some o → u32b o → w'.heap[k]? = some o) → R w → R w'
theorem LimbR.and {R R' : World → Prop} (h : LimbR R) (h' : LimbR R') : LimbR fun w => R w ∧ R' w := fun w w' hk ⟨a, b⟩ => ⟨h w w' hk a, h' w w' hk b⟩
theorem LimbR.all {ι : Sort _} {R : ι → World → Prop} (h : ∀ x, LimbR (R x)) : LimbR fun w => ∀ x, R x w := fun w w' hk a x => h x w w' hk (a x)
theorem LimbR.const (p : Prop) : LimbR fun _ => p := fun _ _ _ a => a
theorem At.row {r o : Nat} {v : Value} {w : World} (h : At r o v w) : ∃ c e fr, w.heap[r]? = some (.cells c e fr) ∧ c[o]? = some v := by
  unfold At World.cell? at h
  split at h
  · rename_i c e fr hc
    exact ⟨c, e, fr, hc, h⟩
  · simp at h
theorem LimbR.rd (A : Option Addr) (xs : List Nat) : LimbR (Rd A (u32s xs)) := by
  intro w w' hk h i v hv
  obtain ⟨r, o, e, ha⟩ := h i v hv
  refine ⟨r, o, e, ?_⟩
  obtain ⟨c, el, fr, h1, h2⟩ := ha.row
  refine ha.of_heap ?_
  rw [h1]
  refine hk _ _ h1 ⟨c, el, fr, ?_⟩
  have hm : v ∈ c := by
    have := (Array.getElem?_eq_some_iff.1 h2).2
    rw [← this]
    exact Array.getElem_mem _
  have : v ∈ u32s xs := List.mem_of_getElem? hv
  simp only [u32s, List.mem_map] at this
  obtain ⟨x, _, hx⟩ := this
  exact ⟨(x : Int), rfl, by rw [hx]; exact hm⟩
theorem LimbR.lm (xs : List Nat) (p : Sv) : LimbR (Lm xs p) := (LimbR.rd _ _).and (LimbR.const _)
theorem LimbR.ok (B : Nat) (z : Zd) : LimbR (z.ok B) := (LimbR.lm _ _).and (LimbR.const _)
theorem LimbR.allz (B : Nat) (qs : List Wr) : LimbR fun w => allz (fun z => z.ok B w) qs := fun w w' hk h q hq z hz => LimbR.ok B z w w' hk (h q hq z hz)
section
variable {P : Program} {n : Nat} {w0 w : World} {X : List Nat} {S : Nat → Prop} {E : Env} {own : Own} {R : World → Prop} {Q : Exit → Act → World → Prop} {ops : Array Oper} {rest : List Oper}
theorem SS.adoptL (t : SS w0 X S own R w) {r : Nat} {o : Obj} (hr : w0.heap.size ≤ r) (hn : ∀ p ∈ own, p.1 ≠ r) (ho : w.heap[r]? = some o) (hu : ¬ u32b o) {R' : World → Prop} (hR : ∀ w, R w → R' w) (hL : LimbR R') : SS w0 X S ((r, o) :: own) R' w := by
  have hlt : r < w.heap.size := (Array.getElem?_eq_some_iff.1 ho).1
  refine ⟨t.os, t.tape, t.output, t.size, t.pres, ?_, ?_, List.pairwise_cons.2 ⟨fun p hp => (hn p hp).symm, t.nd⟩, fun w' hs hk => ?_⟩
  · intro p hp
    rcases List.mem_cons.1 hp with rfl | hp
    · exact ⟨hlt, .inr hr⟩
    · exact t.lt p hp
  · intro p hp
    rcases List.mem_cons.1 hp with rfl | hp
    · exact ho
    · exact t.has p hp
  · have h1 : R { w' with heap := w'.heap.setIfInBounds r o } := by
      refine t.keep _ (by simpa using hs) fun k h1 h2 h3 => ?_
      show (w'.heap.setIfInBounds r o)[k]? = w.heap[k]?
      by_cases e : k = r
      · subst e
        rw [Array.getElem?_setIfInBounds_self_of_lt (by omega), ho]
      · rw [Array.getElem?_setIfInBounds_ne (Ne.symm e)]
        exact hk k h1 h2 fun p hp => by
          rcases List.mem_cons.1 hp with rfl | hp
          · exact Ne.symm e
          · exact h3 p hp
    refine hL _ w' (fun k o' hk' hu' => ?_) (hR _ h1)
    have hk'' : (w'.heap.setIfInBounds r o)[k]? = some o' := hk'
    by_cases e : k = r
    · subst e
      rw [Array.getElem?_setIfInBounds_self_of_lt (by omega)] at hk''
      injection hk'' with hk''
      subst hk''
      exact absurd hu' hu
    · rwa [Array.getElem?_setIfInBounds_ne (Ne.symm e)] at hk''
/-- a block that an alloc in the midst of a region has made -/
def New (w0 : World) (own : Own) (o : Obj) (r : Nat) (w : World) : Prop := w0.heap.size ≤ r ∧ (∀ p ∈ own, p.1 ≠ r) ∧ w.heap[r]? = some o
theorem dx_alloc {late : Nat → Bool} {i : Nat} {os : List Oper} {Γ : Ctx} {K : Ctx → Prop} {t : TypeId} {agg : Bool} {sz by_ : Nat} {z : Value} [hT : TyI P t agg sz by_ z] {ty : TypeId} {d : Nat} {pos : String} {af : Array Edge} (hl : late i = false)
    (h : Dx P ops Q n (SS w0 X S own R) Bl late (i + 1) os ((d, .pr (ResF w0 S own (fun r : Nat => .pointer (some ⟨r, 0, none⟩)) (New w0 own (.cells z.cells t (0, 0))))) :: Γ) K) :
    Dx P ops Q n (SS w0 X S own R) Bl late i (⟨some d, .alloc t, ty, pos, af, none⟩ :: os) Γ K := by
  refine ⟨.pr (ResF w0 S own (fun r : Nat => .pointer (some ⟨r, 0, none⟩)) (New w0 own (.cells z.cells t (0, 0)))), .inl ⟨hl, fun _ _ _ hb ⟨x, e, hk⟩ => ⟨x, e, hk.below hb⟩, fun a w hs hd hJ hok => ?_⟩, h⟩
  rw [if_pos (wanted_none rfl)]
  have e : (execOp a.eval ⟨some d, .alloc t, ty, pos, af, none⟩).run P w = .ok (.value (.pointer (some ⟨w.heap.size, 0, none⟩))) (w.alloc (.cells z.cells t (0, 0))) := by
    simp [execOp, Instr.alloc, hT.zero w, newVar, newRow]
  unfold Oper.wp
  rw [e]
  have hb : Below w.heap.size w (w.alloc (.cells z.cells t (0, 0))) := (Below.refl _ _).alloc (Nat.le_refl _) _
  refine ⟨_, rfl, hb, hJ.grow hb, w.heap.size, rfl, fun w'' h1 h2 => ⟨hJ.size, fun p hp e => ?_, ?_⟩⟩
  · have := (hJ.lt p hp).1
    omega
  · rw [h2 w.heap.size (.inl hJ.size) (by simp) (fun p hp e => by have := (hJ.lt p hp).1; omega)]
    exact heap_alloc_new w _
theorem es_adopt {sl : List Nat} {os : List Oper} {Γ : Ctx} {E : Env} (own' : Own) (R' : World → Prop) (hE : noLate sl E = true) (ha : ∀ w, SS w0 X S own R w → SS w0 X S own' R' w) (h : Tx P ops Q n sl Γ os (Sx n w0 X S E own' R')) : Es P ops Q n w0 X S own sl os Γ [] E R :=
  ⟨_, sx_closed hE, fun a w hs hd hJ hE _ => ⟨⟨hs, hd, hE⟩, ha w hJ⟩, h⟩
end
end Go.Qk
end
section
/- The elimination without fractions, as plain functions. -/
set_option linter.unusedVariables false
namespace Go.Qk
open Go Go.Proofs Go.RowKit
/-- the first row from p on with no zero in column k -/
def piv (g : Nat → Nat → Int) (k : Nat) : (m p : Nat) → Nat
  | 0, p => p
  | m + 1, p => if g p k = 0 then piv g k m (p + 1) else p
def swp (g : Nat → Nat → Int) (a b : Nat) : Nat → Nat → Int := fun i j => g (if i = a then b else if i = b then a else i) j
def elm (g : Nat → Nat → Int) (k : Nat) (prev : Int) (i j : Nat) : Int := (g k k * g i j - g i k * g k j) / prev
def elim (g : Nat → Nat → Int) (k : Nat) (prev : Int) : Nat → Nat → Int := fun i j => if k < i ∧ k < j then elm g k prev i j else g i j
/-- the elimination up to the place (i, j) -/
def elimP (g : Nat → Nat → Int) (k : Nat) (prev : Int) (i j : Nat) : Nat → Nat → Int := fun a b => if k < a ∧ k < b ∧ (a < i ∨ (a = i ∧ b < j)) then elm g k prev a b else g a b
def bar (n : Nat) : (m k : Nat) → (Nat → Nat → Int) → Int → Bool → Int
  | 0, _, _, prev, neg => if neg = true then -prev else prev
  | m + 1, k, g, prev, neg => if piv g k (n - k) k = n then 0 else if piv g k (n - k) k = k then bar n m (k + 1) (elim g k prev) (g k k) neg else bar n m (k + 1) (elim (swp g (piv g k (n - k) k) k) k prev) (swp g (piv g k (n - k) k) k k k) (!neg)
def bdet (n : Nat) (g : Nat → Nat → Int) : Int := bar n n 0 g 1 false
def bd (B : Nat) : Nat → Nat
  | 0 => B
  | k + 1 => 2 * bd B k + 1
theorem bd_eq (B k : Nat) : bd B k + 1 = 2 ^ k * (B + 1) := by
  induction k with
  | zero => simp [bd]
  | succ k ih => rw [bd, Nat.pow_succ]; grind
theorem bd_le {B k : Nat} (hk : k ≤ 16) (hB : B ≤ 8388607) : bd B k ≤ 549755813887 := by
  have h := bd_eq B k
  have h1 : 2 ^ k ≤ 2 ^ 16 := Nat.pow_le_pow_right (by decide) hk
  have h2 : 2 ^ k * (B + 1) ≤ 2 ^ 16 * 8388608 := Nat.mul_le_mul h1 (by omega)
  omega
theorem bd_mono (B k : Nat) : bd B k ≤ bd B (k + 1) := by rw [bd]; omega
theorem piv_stop {g : Nat → Nat → Int} {k m p : Nat} (h : g p k ≠ 0) : piv g k m p = p := by
  cases m with
  | zero => rfl
  | succ m => rw [piv, if_neg h]
theorem piv_go {g : Nat → Nat → Int} {k m p : Nat} (h : g p k = 0) : piv g k (m + 1) p = piv g k m (p + 1) := by rw [piv, if_pos h]
/-- a fact of every integer of the rows, by place -/
def alli (F : Nat → Nat → Zd → Prop) (qs : List Wr) : Prop := ∀ a q, qs[a]? = some q → ∀ b z, q.2[b]? = some z → F a b z
theorem alli.mono {F F' : Nat → Nat → Zd → Prop} {qs : List Wr} (h : alli F qs) (hf : ∀ a b z, F a b z → F' a b z) : alli F' qs := fun a q hq b z hz => hf a b z (h a q hq b z hz)
theorem alli.set {F F' : Nat → Nat → Zd → Prop} {qs : List Wr} (h : alli F qs) {i j : Nat} {q : Wr} (hq : qs[i]? = some q) {z : Zd} (hz : F' i j z) (hf : ∀ a b z, ¬(a = i ∧ b = j) → F a b z → F' a b z) : alli F' (qs.set i (q.1, q.2.set j z)) := by
  intro a p hp b y hy
  rw [List.getElem?_set] at hp
  split at hp
  · rename_i ha
    subst ha
    split at hp
    · injection hp with hp
      subst hp
      dsimp only at hy
      rw [List.getElem?_set] at hy
      split at hy
      · rename_i hb
        subst hb
        split at hy
        · injection hy with hy
          subst hy
          exact hz
        · simp at hy
      · rename_i hb
        exact hf _ _ _ (fun e => hb e.2.symm) (h i q hq b y hy)
    · simp at hp
  · rename_i ha
    exact hf _ _ _ (fun e => ha e.1.symm) (h a p hp b y hy)
/-- known from the start, or known now -/
def okE (B : Nat) (w0 : World) (z : Zd) (w : World) : Prop := z.ok B w0 ∨ z.ok B w
theorem okE.mono {B B' : Nat} {w0 w : World} {z : Zd} (h : okE B w0 z w) (hb : B ≤ B') : okE B' w0 z w := h.imp (·.mono hb) (·.mono hb)
theorem okE.get {B : Nat} {w0 w : World} {z : Zd} {S : Nat → Prop} {own : Own} {R : World → Prop} (h : okE B w0 z w) (t : SS w0 [] S own R w) : z.ok B w := h.elim t.zd id
theorem LimbR.okE (B : Nat) (w0 : World) (z : Zd) : LimbR (okE B w0 z) := fun w w' hk h => h.imp id (LimbR.ok B z w w' hk)
theorem LimbR.alli (F : Nat → Nat → Zd → World → Prop) (hF : ∀ a b z, LimbR (F a b z)) (qs : List Wr) : LimbR fun w => alli (fun a b z => F a b z w) qs := fun w w' hk h a q hq b z hz => hF a b z w w' hk (h a q hq b z hz)
/-- two rows change places -/
def qswap (qs : List Wr) (a b : Nat) (qa qb : Wr) : List Wr := (qs.set a qb).set b qa
theorem qswap_perm {qs : List Wr} {a b : Nat} {qa qb : Wr} (ha : qs[a]? = some qa) (hb : qs[b]? = some qb) : (qswap qs a b qa qb).Perm qs := by
  obtain ⟨h1, e1⟩ := List.getElem?_eq_some_iff.1 ha
  obtain ⟨h2, e2⟩ := List.getElem?_eq_some_iff.1 hb
  unfold qswap
  rw [← e1, ← e2]
  exact List.set_set_perm h1 h2
theorem qswap_get {qs : List Wr} {a b : Nat} {qa qb : Wr} (ha : qs[a]? = some qa) (hb : qs[b]? = some qb) (i : Nat) : (qswap qs a b qa qb)[i]? = if i = b then some qa else if i = a then some qb else qs[i]? := by
  obtain ⟨h1, _⟩ := List.getElem?_eq_some_iff.1 ha
  obtain ⟨h2, _⟩ := List.getElem?_eq_some_iff.1 hb
  unfold qswap
  rw [List.getElem?_set]
  by_cases hib : i = b
  · subst hib; simp [h2]
  · rw [if_neg (Ne.symm hib), if_neg hib, List.getElem?_set]
    by_cases hia : i = a
    · subst hia; simp [h1]
    · rw [if_neg (Ne.symm hia), if_neg hia]
theorem MG.swap {g : Nat → Nat → Int} {r c : Nat} {qs : List Wr} (h : MG g r c qs) {a b : Nat} {qa qb : Wr} (ha : qs[a]? = some qa) (hb : qs[b]? = some qb) : MG (swp g a b) r c (qswap qs a b qa qb) := by
  refine ⟨by unfold qswap; rw [List.length_set, List.length_set]; exact h.1, fun i q hq => ?_⟩
  rw [qswap_get ha hb] at hq
  unfold swp
  by_cases hib : i = b
  · rw [if_pos hib] at hq
    injection hq with hq
    subst hq
    obtain ⟨e1, e2⟩ := h.2 a _ ha
    refine ⟨e1, fun j z hz => ?_⟩
    rw [e2 j z hz]
    by_cases hia : i = a
    · rw [if_pos hia, ← hib, hia]
    · rw [if_neg hia, if_pos hib]
  · rw [if_neg hib] at hq
    by_cases hia : i = a
    · rw [if_pos hia] at hq
      injection hq with hq
      subst hq
      obtain ⟨e1, e2⟩ := h.2 b _ hb
      refine ⟨e1, fun j z hz => ?_⟩
      rw [e2 j z hz, if_pos hia]
    · rw [if_neg hia] at hq
      obtain ⟨e1, e2⟩ := h.2 i _ hq
      refine ⟨e1, fun j z hz => ?_⟩
      rw [e2 j z hz, if_neg hia, if_neg hib]
theorem alli.swap {F : Zd → Prop} {qs : List Wr} (h : alli (fun _ _ z => F z) qs) {a b : Nat} {qa qb : Wr} (ha : qs[a]? = some qa) (hb : qs[b]? = some qb) : alli (fun _ _ z => F z) (qswap qs a b qa qb) := by
  intro i q hq j z hz
  have : q ∈ qs := (qswap_perm ha hb).mem_iff.1 (List.mem_of_getElem? hq)
  obtain ⟨i', hi'⟩ := List.getElem?_of_mem this
  exact h i' q hi' j z hz
theorem qswap_hdr {qs : List Wr} {a b : Nat} {qa qb : Wr} (ha : qs[a]? = some qa) (hb : qs[b]? = some qb) : ((qs.map mhdr ++ List.replicate 0 (Value.slice none 0 0)).set a (mhdr qb)).set b (mhdr qa) = (qswap qs a b qa qb).map mhdr ++ List.replicate 0 (Value.slice none 0 0) := by
  rw [List.replicate_zero, List.append_nil, List.append_nil, ← List.map_set, ← List.map_set]
  rfl
def zblk (r : Nat) (z : Zd) : Nat × Obj := (r, .cells z.cs.toArray 35 (0, 0))
theorem one_zcs (l : List Zd) : one' (zcs l) = true := by
  induction l with
  | nil => rfl
  | cons z l ih =>
    rw [zcs_cons]
    simp only [one', List.all_cons, Bool.and_eq_true] at ih ⊢
    exact ⟨rfl, rfl, ih⟩
theorem not_u32b_z0 (e : TypeId) (fr : Nat × Nat) : ¬ u32b (.cells (Value.agg #[.bool false, .slice none 0 0]).cells e fr) := by
  rintro ⟨cs, e', fr', v, h, hv⟩
  injection h with h1 _ _
  rw [← h1] at hv
  simp [Value.cells] at hv
theorem own_next (r o : Nat) (done : List Wr) (L : List Zd) (k c : Nat) (pre : Own) (hL : L.length = c) :
    ((r, Obj.cells (zcs L).toArray 35 (0, 0)) :: (pre ++ (o, .cells (wr (done.map mhdr ++ List.replicate (k + 1) (Value.slice none 0 0)) (0 + done.length * 1) [.slice (some ⟨r, 0, none⟩) c c]).toArray 44 (0, 0)) :: done.map mrow)).Perm (pre ++ mout o (done ++ [(r, L)]) k :: (done ++ [(r, L)]).map mrow) := by
  have hset := next_set (done.map mhdr) k (Value.slice none 0 0) (mhdr (r, L))
  rw [List.length_map] at hset
  have e3 : mhdr (r, L) = .slice (some ⟨r, 0, none⟩) c c := by simp [mhdr, hL]
  have e1 : mout o (done ++ [(r, L)]) k = (o, .cells (wr (done.map mhdr ++ List.replicate (k + 1) (Value.slice none 0 0)) (0 + done.length * 1) [.slice (some ⟨r, 0, none⟩) c c]).toArray 44 (0, 0)) := by
    unfold mout
    rw [Nat.zero_add, Nat.mul_one, List.map_append, ← e3]
    show _ = (o, Obj.cells ((done.map mhdr ++ List.replicate (k + 1) (Value.slice none 0 0)).set done.length (mhdr (r, L))).toArray _ _)
    rw [hset]
    rfl
  rw [e1, List.map_append, List.map_cons, List.map_nil]
  refine (List.perm_append_comm (l₁ := [mrow (r, L)]) (l₂ := pre ++ _ :: done.map mrow)).trans ?_
  simp
section
variable {w0 w : World} {X : List Nat} {S : Nat → Prop} {own : Own} {R : World → Prop}
theorem SS.mz0 (i : Nat) (t : SS w0 X S own R w) {q : Wr} (h : ownAt own i = some (mrow q)) {j : Nat} {z : Zd} (hz : q.2[j]? = some z) : At q.1 (0 + j * 2) (.bool z.n) w := by
  obtain ⟨hj, e⟩ := List.getElem?_eq_some_iff.1 hz
  refine t.atO i h ?_
  rw [Nat.zero_add, zcs_get0 hj, e]
theorem SS.mz1 (i : Nat) (t : SS w0 X S own R w) {q : Wr} (h : ownAt own i = some (mrow q)) {j : Nat} {z : Zd} (hz : q.2[j]? = some z) : At q.1 (0 + j * 2 + 1) (slv z.xs z.p) w := by
  obtain ⟨hj, e⟩ := List.getElem?_eq_some_iff.1 hz
  refine t.atO i h ?_
  rw [Nat.zero_add, zcs_get1 hj, e]
end
section
variable {w : World} {S : Nat → Prop} {B B' : Nat} {z z' : Zd}
theorem nl_zd (h : z.ok B w) : nl z.z.natAbs ≤ B := by
  rw [show z.z.natAbs = val z.xs from sgn_natAbs _ _]
  exact Nat.le_trans (nl_val h.2.1) h.2.2
theorem mul_zd (h : z.ok B w) (h' : z'.ok B' w) (hB : B + B' ≤ 35184372088832) : Ret Try.prog 87 [z.v, z'.v] w S (iv (z.z * z'.z)) (Lz (z.z * z'.z).natAbs) :=
  mul_ret z.n z'.n z.xs z'.xs z.p z'.p w S h.1 h.2.1 h'.1 h'.2.1 (by have := h.2.2; have := h'.2.2; omega)
theorem sub_zd (h : z.ok B w) (h' : z'.ok B' w) (hB : B < 35184372088832) (hB' : B' < 35184372088832) : Ret Try.prog 109 [z.v, z'.v] w S (iv (z.z - z'.z)) (Lz (z.z - z'.z).natAbs) :=
  sub_ret z.n z'.n z.xs z'.xs z.p z'.p w S h.1 h.2.1 h'.1 h'.2.1 (by have := h.2.2; omega) (by have := h'.2.2; omega)
theorem add_zd (h : z.ok B w) (h' : z'.ok B' w) (hB : B < 35184372088832) (hB' : B' < 35184372088832) : Ret Try.prog 93 [z.v, z'.v] w S (iv (z.z + z'.z)) (Lz (z.z + z'.z).natAbs) :=
  add_ret z.n z'.n z.xs z'.xs z.p z'.p w S h.1 h.2.1 h'.1 h'.2.1 (by have := h.2.2; omega) (by have := h'.2.2; omega)
def dmr (a b : Int) : Int := if b = 0 then 0 else a % b
theorem divmod_zd (h : z.ok B w) (h' : z'.ok B' w) (hB : B < 35184372088832) (hB' : B' < 35184372088832) : Ret Try.prog 110 [z.v, z'.v] w S (fun q : Sv × Sv => .tuple #[iv (z.z / z'.z) q.1, iv (dmr z.z z'.z) q.2, .bool (decide (z'.z ≠ 0))]) (fun q w => Lz (z.z / z'.z).natAbs q.1 w ∧ Lz (dmr z.z z'.z).natAbs q.2 w) := by
  have h := divmod_ret z.n z'.n z.xs z'.xs z.p z'.p w S h.1 h.2.1 h'.1 h'.2.1 (by have := h.2.2; omega) (by have := h'.2.2; omega)
  have e : (val z'.xs = 0) ↔ (z'.z = 0) := by
    have : z'.z.natAbs = val z'.xs := sgn_natAbs _ _
    omega
  unfold dmr
  simp only [e, ne_eq] at h
  exact h
theorem sign_zd (h : z.ok B w) (hB : B ≤ 35184372088832) : Ret Try.prog 108 [z.v] w S (fun _ : Unit => .int .i64 z.z.sign) (fun _ _ => True) :=
  sign_ret z.n z.xs z.p w S h.1 h.2.1 (Nat.le_trans h.2.2 hB)
theorem neg_zd (h : z.ok B w) (hB : B ≤ 35184372088832) : Ret Try.prog 81 [z.v] w S (iv (-z.z)) (Lz (-z.z).natAbs) := by
  have h := neg_ret z.n z.xs z.p w S h.1 h.2.1 (Nat.le_trans h.2.2 hB)
  rw [show (-z.z).natAbs = val z.xs by rw [Int.natAbs_neg]; exact sgn_natAbs _ _]
  exact h
theorem norm_zd (h : z.ok B w) (hB : B ≤ 35184372088832) : Ret Try.prog 90 [z.v] w S (iv z.z) (Lz z.z.natAbs) := by
  have h := normalize_ret z.n z.xs z.p w S h.1 h.2.1 (Nat.le_trans h.2.2 hB)
  rw [show z.z.natAbs = val z.xs from sgn_natAbs _ _]
  exact h
end
def dn (k i j a b : Nat) : Prop := k < a ∧ k < b ∧ (a < i ∨ (a = i ∧ b < j))
instance (k i j a b : Nat) : Decidable (dn k i j a b) := by unfold dn; infer_instance
def bb (B k i j a b : Nat) : Nat := if dn k i j a b then bd B (k + 1) else bd B k
theorem bb_le (B k i j a b : Nat) : bb B k i j a b ≤ bd B (k + 1) := by unfold bb; split; · exact Nat.le_refl _
                                                                        exact bd_mono B k
theorem nl_isub (a b : Int) : nl (a - b).natAbs ≤ max (nl a.natAbs) (nl b.natAbs) + 1 :=
  Nat.le_trans (nl_mono (by omega)) (nl_add a.natAbs b.natAbs)
theorem nl_iadd (a b : Int) : nl (a + b).natAbs ≤ max (nl a.natAbs) (nl b.natAbs) + 1 :=
  Nat.le_trans (nl_mono (by omega)) (nl_add a.natAbs b.natAbs)
theorem nl_imul (a b : Int) : nl (a * b).natAbs ≤ nl a.natAbs + nl b.natAbs := by
  rw [Int.natAbs_mul]
  exact nl_mul _ _
theorem nl_idiv (a b : Int) : nl (a / b).natAbs ≤ nl a.natAbs := nl_mono (Int.natAbs_ediv_le_natAbs a b)
section
variable {w : World} {S : Nat → Prop} {B : Nat} {a b : Int} {p q : Sv} {z' : Zd}
theorem sub_iv (h : Lz a.natAbs p w) (h' : Lz b.natAbs q w) (hB : nl a.natAbs < 35184372088832) (hB' : nl b.natAbs < 35184372088832) : Ret Try.prog 109 [iv a p, iv b q] w S (iv (a - b)) (Lz (a - b).natAbs) := by
  have g := sub_zd (S := S) (zd_ok h (Nat.le_refl _)) (zd_ok h' (Nat.le_refl _)) hB hB'
  rwa [zd_z, zd_z] at g
theorem divmod_iz (h : Lz a.natAbs p w) (h' : z'.ok B w) (hB : nl a.natAbs < 35184372088832) (hB' : B < 35184372088832) : Ret Try.prog 110 [iv a p, z'.v] w S (fun q : Sv × Sv => .tuple #[iv (a / z'.z) q.1, iv (dmr a z'.z) q.2, .bool (decide (z'.z ≠ 0))]) (fun q w => Lz (a / z'.z).natAbs q.1 w ∧ Lz (dmr a z'.z).natAbs q.2 w) := by
  have g := divmod_zd (S := S) (zd_ok h (Nat.le_refl _)) h' hB hB'
  rwa [zd_z] at g
end
theorem bb_mono {B k i j i' j' a b : Nat} (h : dn k i j a b → dn k i' j' a b) : bb B k i j a b ≤ bb B k i' j' a b := by
  unfold bb
  by_cases h1 : dn k i j a b
  · rw [if_pos h1, if_pos (h h1)]; exact Nat.le_refl _
  · rw [if_neg h1]
    split
    · exact bd_mono B k
    · exact Nat.le_refl _
end Go.Qk
end
section
/- determinant -/
set_option linter.unusedVariables false
namespace Go.Qk
open Go Go.Proofs Go.RowKit
set_option maxRecDepth 100000
set_option maxHeartbeats 4000000

theorem determinant_ret (m : Mt) (B n : Nat) (w0 : World) (S : Nat → Prop) (hm : m.ok B w0) (hB : B ≤ 8388607) (hB1 : 1 ≤ B) (hlen : m.rs.length = n) (hn : 1 ≤ n) (hn16 : n ≤ 16) (hrow : ∀ r ∈ m.rs, r.l.length = n) :
    Ret Try.prog 68 [m.v] w0 S (iv (bdet n (ent m.zs))) (fun p w => Lz (bdet n (ent m.zs)).natAbs p w ∧ nl (bdet n (ent m.zs)).natAbs ≤ 549755813887) := by
  have hp0 : 0 < m.rs.length := by omega
  obtain ⟨ro, oo, evm, hat⟩ := hm.at_ hp0
  rw [evm, hlen]
  obtain ⟨D, hD⟩ : ∃ D, D = bdet n (ent m.zs) := ⟨_, rfl⟩
  rw [← hD]
  refine ret_of Try.func68 rfl Try.ntmps68 rfl ?_
  refine tr_rseq ?_   -- region 0
  refine sq_alloc rfl fun r2 => ?_   -- t2
  refine sq_end ?_
  refine tr_rseq ?_   -- region 1
  refine sq_q (qt_move rfl) rfl ?_   -- t13
  refine sq_q (qt_len rfl) rfl ?_   -- t14
  refine sq_q (qt_assign rfl) rfl ?_   -- t3
  refine sq_end ?_
  refine tr_rseq ?_   -- region 2
  refine sq_q (qt_move rfl) rfl ?_   -- t15
  refine sq_make (c := n) rfl rfl (by omega) (by omega) rfl fun r16 => ?_   -- t16
  refine sq_q (qt_assign rfl) rfl ?_   -- t4
  refine sq_end ?_
  refine tr_perm [zblk r2 z0, mout r16 [] n] (by rw [made_s]; exact List.Perm.swap _ _ _) ?_
  refine tr_seq ?_   -- C1
  refine tr_rseq ?_   -- region 3
  refine sq_q (qt_move rfl) rfl ?_   -- t17
  refine sq_q (qt_len rfl) rfl ?_   -- t18
  refine sq_q (qt_move rfl) rfl ?_   -- t19
  refine sq_end ?_
  refine tr_block ?_
  refine tr_loop (fun done : List Wr => done.length ≤ n ∧ ∀ a q, done[a]? = some q → q.2.length = n ∧ ∃ h : a < m.rs.length, q.2 = m.rs[a].l) (fun done => [(0, .slice (some ⟨ro, oo, none⟩) n m.p.2), (2, .pointer (some ⟨r2, 0, none⟩)), (3, .int .i64 (n : Int)), (4, .slice (some ⟨r16, 0, none⟩) n n), (18, .int .i64 (n : Int)), (19, .int .i64 (done.length : Int))])
    (fun done => zblk r2 z0 :: mout r16 done (n - done.length) :: done.map mrow) (fun _ _ => True) (fun done => n - done.length) [] ⟨Nat.zero_le _, fun a q h => by simp at h⟩ ⟨rfl, rfl, rfl, rfl, rfl, rfl, trivial⟩ rfl (fun _ _ => trivial) ?_
  rintro done ⟨hle, hd⟩
  refine tr_rseq ?_   -- region 4
  refine sq_q (qt_bin rfl rfl bin_lss) rfl ?_   -- t20
  refine sq_end ?_
  refine tr_seq ?_   -- C2
  refine tr_if rfl (fun hc => ?_) (fun hc => ?_)
  ·
    have hlt : done.length < n := by have := of_decide_eq_true hc; omega
    have hli : done.length < m.rs.length := by omega
    have hrl := hrow _ (List.getElem_mem hli)
    obtain ⟨k, hk⟩ : ∃ k, n - done.length = k + 1 := ⟨n - done.length - 1, by omega⟩
    refine tr_skip ?_
    repeat (first | (with_reducible refine tr_skip ?_) | (with_reducible refine tr_exit ?_) | (with_reducible refine tr_then ?_) | (with_reducible refine tr_inX ?_) | (with_reducible refine tr_thenX ?_) | (with_reducible refine tr_inN ?_) | (with_reducible refine tr_inR ?_) | (with_reducible refine tr_thenR ?_))
    refine tr_seq ?_   -- C3
    refine tr_block ?_
    refine tr_rseq ?_   -- region 5
    refine sq_q (qt_move rfl) rfl ?_   -- t21
    refine sq_q (qt_assign rfl) rfl ?_   -- t5
    refine sq_end ?_
    refine tr_rseq ?_   -- region 6
    refine sq_q (qt_move rfl) rfl ?_   -- t22
    refine sq_q (qt_move rfl) rfl ?_   -- t23
    refine sq_q (qt_move rfl) rfl ?_   -- t24
    refine sq_make (c := n) rfl rfl (by omega) (by omega) rfl fun r25 => ?_   -- t25
    refine sq_q (qt_index (i := done.length) rfl rfl hlt) rfl ?_   -- t26
    refine sq_store 2 rfl rfl rfl rfl (by simp [Value.cells]; omega) rfl rfl ?_   -- R6.5
    refine sq_end ?_
    refine tr_own ((r25, .cells (zcs (List.replicate n z0)).toArray 35 (0, 0)) :: ([zblk r2 z0] ++ (r16, .cells (wr (done.map mhdr ++ List.replicate (k + 1) (Value.slice none 0 0)) (0 + done.length * 1) [.slice (some ⟨r25, 0, none⟩) n n]).toArray 44 (0, 0)) :: done.map mrow)) (by rw [← made_z, ← hk]; rfl) ?_
    have hget : (wr (done.map mhdr ++ List.replicate (k + 1) (Value.slice none 0 0)) (0 + done.length * 1) [.slice (some ⟨r25, 0, none⟩) n n])[done.length]? = some (.slice (some ⟨r25, 0, none⟩) n n) := by
      rw [Nat.zero_add, Nat.mul_one]
      exact List.getElem?_set_self (by simp)
    refine tr_draw 8 [0, 1, 2, 4, 5, 6] [27, 28, 29, 31, 32, 33] [0, 2, 3, 4, 5, 6, 7, 8, 9, 10, 11, 12, 18, 19, 20, 30, 34, 38, 39, 40, 56, 61, 65, 86, 93, 148] (by kernel_rfl) ?_   -- region 7
    refine dx_late rfl (qt_move rfl) rfl ?_   -- t27
    refine dx_late rfl (qt_move rfl) rfl ?_   -- t28
    refine dx_late rfl (qt_index (i := done.length) rfl rfl hlt) rfl ?_   -- t29
    refine dx_q rfl (qt_load rfl (fun w t => t.o1 2 rfl hget)) rfl ?_   -- t30
    refine dx_late rfl (qt_move rfl) rfl ?_   -- t31
    refine dx_late rfl (qt_move rfl) rfl ?_   -- t32
    refine dx_late rfl (qt_index (i := done.length) rfl rfl hlt) rfl ?_   -- t33
    refine dx_q rfl (qt_load (v := .slice m.rs[done.length].p.1 n m.rs[done.length].p.2) rfl (fun w t => by have h := t.a1 (hat _ hli); unfold Rw.v at h; rwa [hrl] at h)) rfl ?_   -- t34
    refine dx_nil ?_
    repeat (first | refine es_val rfl ?_ rfl | refine es_res rfl (fun x => ?_) rfl | refine es_skip rfl ?_)
    refine es_nil rfl ?_
    refine tx_copy 0 (zcs m.rs[done.length].l) rfl rfl rfl (by rw [zcs_length]; simp) (by rw [zcs_length, hrl]) (one_zcs _) (fun w t => t.rd (hm.2.2 _ (List.getElem_mem hli)).1) rfl rfl ?_   -- t35
    refine tx_end ?_
    repeat (first | (with_reducible refine tr_skip ?_) | (with_reducible refine tr_exit ?_) | (with_reducible refine tr_then ?_) | (with_reducible refine tr_inX ?_) | (with_reducible refine tr_thenX ?_) | (with_reducible refine tr_inN ?_) | (with_reducible refine tr_inR ?_) | (with_reducible refine tr_thenR ?_))
    refine tr_region ?_   -- region 8
    refine sq_q (qt_bin rfl rfl (bin_addI (by omega) (by omega))) rfl ?_   -- t36
    refine sq_q (qt_move rfl) rfl ?_   -- t19
    refine sq_nil ?_
    repeat (first | (with_reducible refine tr_skip ?_) | (with_reducible refine tr_exit ?_) | (with_reducible refine tr_then ?_) | (with_reducible refine tr_inX ?_) | (with_reducible refine tr_thenX ?_) | (with_reducible refine tr_inN ?_) | (with_reducible refine tr_inR ?_) | (with_reducible refine tr_thenR ?_))
    refine tr_perm _ (own_next r25 r16 done m.rs[done.length].l k n [zblk r2 z0] hrl) ?_
    refine tr_round (done ++ [(r25, m.rs[done.length].l)]) ⟨by simp; omega, fun a q hq => ?_⟩ (by simp; omega) ⟨rfl, rfl, rfl, rfl, rfl, by simp; rfl, trivial⟩ ?_ (fun _ _ => trivial)
    · rw [List.getElem?_append] at hq
      split at hq
      · exact hd a q hq
      · rename_i hge
        rw [List.getElem?_singleton] at hq
        split at hq
        · have ha : a = done.length := by omega
          subst ha
          injection hq with hq
          subst hq
          exact ⟨hrl, hli, rfl⟩
        · simp at hq
    · rw [List.length_append, List.length_singleton, show n - (done.length + 1) = k by omega]
      rfl
  ·
    have hdn : done.length = n := by have := of_decide_eq_false hc; omega
    refine tr_exit ?_
    repeat (first | (with_reducible refine tr_skip ?_) | (with_reducible refine tr_exit ?_) | (with_reducible refine tr_then ?_) | (with_reducible refine tr_inX ?_) | (with_reducible refine tr_thenX ?_) | (with_reducible refine tr_inN ?_) | (with_reducible refine tr_inR ?_) | (with_reducible refine tr_thenR ?_))
    refine tr_rseq ?_   -- region 9
    refine sq_call (iv 1) (Lz (1 : Int).natAbs) rfl rfl rfl (fun w t => small_ret 1 w _ (by omega) (by omega)) fun p1 => ?_   -- t37
    refine sq_alloc rfl fun r7 => ?_   -- t7
    refine sq_q (qt_assign rfl) rfl ?_   -- t6
    refine sq_store 0 rfl rfl rfl rfl (Nat.le_refl 2) rfl rfl ?_   -- R9.3
    refine sq_end ?_
    refine tr_seq ?_   -- C4
    refine tr_rseq ?_   -- region 10
    refine sq_q (qt_move rfl) rfl ?_   -- t38
    refine sq_q (qt_move rfl) rfl ?_   -- t39
    refine sq_end ?_
    refine tr_block ?_
    refine tr_loop4 (fun (k : Nat) (qs : List Wr) (pz : Zd) (neg : Bool) => k ≤ n ∧ ∃ g, MG g n n qs ∧ bar n (n - k) k g pz.z neg = D)
      (fun k qs pz neg => [(2, .pointer (some ⟨r2, 0, none⟩)), (3, .int .i64 (n : Int)), (4, .slice (some ⟨r16, 0, none⟩) n n), (6, .bool neg), (7, .pointer (some ⟨r7, 0, none⟩)), (38, .int .i64 (n : Int)), (39, .int .i64 (k : Int))])
      (fun k qs pz neg => zblk r7 pz :: zblk r2 z0 :: mown r16 qs) (fun k qs pz neg w => alli (fun _ _ z => okE (bd B k) w0 z w) qs ∧ okE (bd B k) w0 pz w) (fun k qs pz neg => n - k) 0 done (zd 1 p1) false ⟨Nat.zero_le _, ent m.zs, ⟨hdn, fun a q hq => ⟨(hd a q hq).1, fun b z hz => ?_⟩⟩, ?_⟩ ⟨rfl, rfl, rfl, rfl, rfl, rfl, rfl, trivial⟩ (by rw [hdn, Nat.sub_self]; rfl) (fun w h => ⟨fun a q hq b z hz => .inl ?_, .inr (zd_ok h.2 (Nat.le_trans nl_one hB1))⟩) ?_
    · obtain ⟨_, ha, e⟩ := hd a q hq
      rw [e] at hz
      obtain ⟨hb, ez⟩ := List.getElem?_eq_some_iff.1 hz
      rw [ent_at (by rw [m.zs_len]; exact ha) (by rw [m.zs_at ha, Rw.zs_len]; exact hb)]
      simp [m.zs_at ha, Rw.zs, ez]
    · rw [zd_z, Nat.sub_zero, hD]; rfl
    · obtain ⟨_, ha, e⟩ := hd a q hq
      rw [e] at hz
      exact (hm.2.2 _ (List.getElem_mem ha)).2.2 z (List.mem_of_getElem? hz)
    clear hd hle hdn hc done
    rintro k qs pz neg ⟨hkn, g, hG, hbar⟩
    refine tr_rseq ?_   -- region 11
    refine sq_q (qt_bin rfl rfl bin_lss) rfl ?_   -- t40
    refine sq_end ?_
    refine tr_seq ?_   -- C5
    refine tr_if rfl (fun hc => ?_) (fun hc => ?_)
    ·
      have hlt : k < n := by have := of_decide_eq_true hc; omega
      have hbd := bd_le (B := B) (k := k) (by omega) hB
      have hbd1 := bd_le (B := B) (k := k + 1) (by omega) hB
      refine tr_skip ?_
      repeat (first | (with_reducible refine tr_skip ?_) | (with_reducible refine tr_exit ?_) | (with_reducible refine tr_then ?_) | (with_reducible refine tr_inX ?_) | (with_reducible refine tr_thenX ?_) | (with_reducible refine tr_inN ?_) | (with_reducible refine tr_inR ?_) | (with_reducible refine tr_thenR ?_))
      refine tr_seq ?_   -- C6
      refine tr_block ?_
      refine tr_rseq ?_   -- region 12
      refine sq_q (qt_move rfl) rfl ?_   -- t41
      refine sq_q (qt_assign rfl) rfl ?_   -- t8
      refine sq_end ?_
      refine tr_rseq ?_   -- region 13
      refine sq_q (qt_move rfl) rfl ?_   -- t42
      refine sq_q (qt_assign rfl) rfl ?_   -- t9
      refine sq_end ?_
      refine tr_cut (fun p : Nat => k ≤ p ∧ p ≤ n ∧ piv g k (n - k) k = p ∧ (p < n → g p k ≠ 0)) (fun p => [(2, .pointer (some ⟨r2, 0, none⟩)), (3, .int .i64 (n : Int)), (4, .slice (some ⟨r16, 0, none⟩) n n), (6, .bool neg), (7, .pointer (some ⟨r7, 0, none⟩)), (8, .int .i64 (k : Int)), (9, .int .i64 (p : Int)), (38, .int .i64 (n : Int)), (39, .int .i64 (k : Int))])
        (fun p => zblk r7 pz :: zblk r2 z0 :: mown r16 qs) (fun p w => alli (fun _ _ z => okE (bd B k) w0 z w) qs ∧ okE (bd B k) w0 pz w) ?_ ?_
      ·
        refine tr_block ?_
        refine tr_loop (fun p : Nat => k ≤ p ∧ p ≤ n ∧ piv g k (n - k) k = piv g k (n - p) p) (fun p => [(2, .pointer (some ⟨r2, 0, none⟩)), (3, .int .i64 (n : Int)), (4, .slice (some ⟨r16, 0, none⟩) n n), (6, .bool neg), (7, .pointer (some ⟨r7, 0, none⟩)), (8, .int .i64 (k : Int)), (9, .int .i64 (p : Int)), (38, .int .i64 (n : Int)), (39, .int .i64 (k : Int))])
          (fun p => zblk r7 pz :: zblk r2 z0 :: mown r16 qs) (fun p w => alli (fun _ _ z => okE (bd B k) w0 z w) qs ∧ okE (bd B k) w0 pz w) (fun p => n - p) k ⟨Nat.le_refl _, hkn, rfl⟩ ⟨rfl, rfl, rfl, rfl, rfl, rfl, rfl, rfl, rfl, trivial⟩ rfl (fun _ h => h) ?_
        rintro p ⟨hkp, hpn, hpiv⟩
        refine tr_seq ?_   -- C8
        have hcs : p = n ∨ (p < n ∧ g p k = 0) ∨ (p < n ∧ g p k ≠ 0) := by omega
        rcases hcs with hpe | ⟨hpl, hg0⟩ | ⟨hpl, hg0⟩
        ·
          refine tr_rseq ?_   -- region 14
          refine sq_q (qt_move rfl) rfl ?_   -- t43
          refine sq_q (qt_move rfl) rfl ?_   -- t44
          refine sq_q (qt_bin rfl rfl (bF bin_lss (by omega))) rfl ?_   -- t45
          refine sq_q (qt_move rfl) rfl ?_   -- t46
          refine sq_gF rfl rfl rfl rfl ?_
          refine sq_gF rfl rfl rfl rfl ?_
          refine sq_gF rfl rfl rfl rfl ?_
          refine sq_gF rfl rfl rfl rfl ?_
          refine sq_gF rfl rfl rfl rfl ?_
          refine sq_gF rfl rfl rfl rfl ?_
          refine sq_gF rfl rfl rfl rfl ?_
          refine sq_gF rfl rfl rfl rfl ?_
          refine sq_gF rfl rfl rfl rfl ?_
          refine sq_q (qt_pick rfl rfl) rfl ?_   -- t56
          refine sq_end ?_
          refine tr_ifF rfl ?_
          refine tr_exit ?_
          repeat (first | (with_reducible refine tr_skip ?_) | (with_reducible refine tr_exit ?_) | (with_reducible refine tr_then ?_) | (with_reducible refine tr_inX ?_) | (with_reducible refine tr_thenX ?_) | (with_reducible refine tr_inN ?_) | (with_reducible refine tr_inR ?_) | (with_reducible refine tr_thenR ?_))
          exact tr_mid p ⟨hkp, hpn, by rw [hpiv, hpe, Nat.sub_self]; rfl, fun h => by omega⟩ ⟨rfl, rfl, rfl, rfl, rfl, rfl, rfl, rfl, rfl, trivial⟩ rfl (fun _ h => h)
        ·
          obtain ⟨q, hq, hql⟩ := hG.get hpl
          obtain ⟨z, hz⟩ : ∃ z, q.2[k]? = some z := ⟨_, List.getElem?_eq_getElem (by omega)⟩
          have hzz := (hG.2 p q hq).2 k z hz
          refine tr_rseq ?_   -- region 14
          refine sq_q (qt_move rfl) rfl ?_   -- t43
          refine sq_q (qt_move rfl) rfl ?_   -- t44
          refine sq_q (qt_bin rfl rfl (bT bin_lss (by omega))) rfl ?_   -- t45
          refine sq_q (qt_move rfl) rfl ?_   -- t46
          refine sq_gT rfl rfl ?_
          refine sq_q (qt_move rfl) rfl ?_   -- t47
          refine sq_gT rfl rfl ?_
          refine sq_q (qt_move rfl) rfl ?_   -- t48
          refine sq_gT rfl rfl ?_
          refine sq_q (qt_index (i := p) rfl rfl hpl) rfl ?_   -- t49
          refine sq_gT rfl rfl ?_
          refine sq_q (qt_load rfl (fun w t => t.o1 2 rfl (mout_get hq))) rfl ?_   -- t50
          refine sq_gT rfl rfl ?_
          refine sq_q (qt_move rfl) rfl ?_   -- t51
          refine sq_gT rfl rfl ?_
          refine sq_q (qt_index (i := k) rfl rfl (by omega)) rfl ?_   -- t52
          refine sq_gT rfl rfl ?_
          refine sq_q (qt_load2 rfl (fun w t => t.mz0 (p + 3) (mown_at (o := r16) hq) hz) (fun w t => t.mz1 (p + 3) (mown_at (o := r16) hq) hz)) rfl ?_   -- t53
          refine sq_gT rfl rfl ?_
          refine sq_call (val := fun _ : Unit => .int .i64 z.z.sign) (F := fun _ _ => True) rfl rfl rfl (fun w t => sign_zd ((t.r.1 p q hq k z hz).get t) (by omega)) fun _ => ?_   -- t54
          refine sq_gT rfl rfl ?_
          refine sq_q (qt_bin rfl rfl (bT bin_eql (by rw [hzz, hg0]; rfl))) rfl ?_   -- t55
          refine sq_q (qt_pick rfl rfl) rfl ?_   -- t56
          refine sq_end ?_
          refine tr_ifT rfl ?_
          refine tr_skip ?_
          repeat (first | (with_reducible refine tr_skip ?_) | (with_reducible refine tr_exit ?_) | (with_reducible refine tr_then ?_) | (with_reducible refine tr_inX ?_) | (with_reducible refine tr_thenX ?_) | (with_reducible refine tr_inN ?_) | (with_reducible refine tr_inR ?_) | (with_reducible refine tr_thenR ?_))
          refine tr_block ?_
          refine tr_region ?_   -- region 15
          refine sq_q (qt_move rfl) rfl ?_   -- t57
          refine sq_q (qt_bin rfl rfl (bin_addI (by omega) (by omega))) rfl ?_   -- t58
          refine sq_q (qt_assign rfl) rfl ?_   -- t9
          refine sq_nil ?_
          repeat (first | (with_reducible refine tr_skip ?_) | (with_reducible refine tr_exit ?_) | (with_reducible refine tr_then ?_) | (with_reducible refine tr_inX ?_) | (with_reducible refine tr_thenX ?_) | (with_reducible refine tr_inN ?_) | (with_reducible refine tr_inR ?_) | (with_reducible refine tr_thenR ?_))
          refine tr_round (p + 1) ⟨by omega, by omega, ?_⟩ (by omega) ⟨rfl, rfl, rfl, rfl, rfl, rfl, rfl, rfl, rfl, trivial⟩ rfl (fun _ h => h.1)
          rw [hpiv, show n - p = (n - (p + 1)) + 1 by omega, piv_go hg0]
        ·
          obtain ⟨q, hq, hql⟩ := hG.get hpl
          obtain ⟨z, hz⟩ : ∃ z, q.2[k]? = some z := ⟨_, List.getElem?_eq_getElem (by omega)⟩
          have hzz := (hG.2 p q hq).2 k z hz
          refine tr_rseq ?_   -- region 14
          refine sq_q (qt_move rfl) rfl ?_   -- t43
          refine sq_q (qt_move rfl) rfl ?_   -- t44
          refine sq_q (qt_bin rfl rfl (bT bin_lss (by omega))) rfl ?_   -- t45
          refine sq_q (qt_move rfl) rfl ?_   -- t46
          refine sq_gT rfl rfl ?_
          refine sq_q (qt_move rfl) rfl ?_   -- t47
          refine sq_gT rfl rfl ?_
          refine sq_q (qt_move rfl) rfl ?_   -- t48
          refine sq_gT rfl rfl ?_
          refine sq_q (qt_index (i := p) rfl rfl hpl) rfl ?_   -- t49
          refine sq_gT rfl rfl ?_
          refine sq_q (qt_load rfl (fun w t => t.o1 2 rfl (mout_get hq))) rfl ?_   -- t50
          refine sq_gT rfl rfl ?_
          refine sq_q (qt_move rfl) rfl ?_   -- t51
          refine sq_gT rfl rfl ?_
          refine sq_q (qt_index (i := k) rfl rfl (by omega)) rfl ?_   -- t52
          refine sq_gT rfl rfl ?_
          refine sq_q (qt_load2 rfl (fun w t => t.mz0 (p + 3) (mown_at (o := r16) hq) hz) (fun w t => t.mz1 (p + 3) (mown_at (o := r16) hq) hz)) rfl ?_   -- t53
          refine sq_gT rfl rfl ?_
          refine sq_call (val := fun _ : Unit => .int .i64 z.z.sign) (F := fun _ _ => True) rfl rfl rfl (fun w t => sign_zd ((t.r.1 p q hq k z hz).get t) (by omega)) fun _ => ?_   -- t54
          refine sq_gT rfl rfl ?_
          refine sq_q (qt_bin rfl rfl (bF bin_eql (by rw [hzz]; exact fun h => hg0 (Int.sign_eq_zero_iff_zero.1 h)))) rfl ?_   -- t55
          refine sq_q (qt_pick rfl rfl) rfl ?_   -- t56
          refine sq_end ?_
          refine tr_ifF rfl ?_
          refine tr_exit ?_
          repeat (first | (with_reducible refine tr_skip ?_) | (with_reducible refine tr_exit ?_) | (with_reducible refine tr_then ?_) | (with_reducible refine tr_inX ?_) | (with_reducible refine tr_thenX ?_) | (with_reducible refine tr_inN ?_) | (with_reducible refine tr_inR ?_) | (with_reducible refine tr_thenR ?_))
          exact tr_mid p ⟨hkp, hpn, by rw [hpiv, piv_stop hg0], fun _ => hg0⟩ ⟨rfl, rfl, rfl, rfl, rfl, rfl, rfl, rfl, rfl, trivial⟩ rfl (fun _ h => h.1)
      ·
        rintro p ⟨hkp, hpn, hpiv, hpg⟩
        rw [show n - k = (n - (k + 1)) + 1 by omega, bar, hpiv] at hbar
        refine tr_seq ?_   -- C9
        refine tr_rseq ?_   -- region 16
        refine sq_q (qt_move rfl) rfl ?_   -- t59
        refine sq_q (qt_move rfl) rfl ?_   -- t60
        refine sq_q (qt_bin rfl rfl bin_eql) rfl ?_   -- t61
        refine sq_end ?_
        refine tr_if rfl (fun hc => ?_) (fun hc => ?_)
        ·
          have hpe : p = n := by have := of_decide_eq_true hc; omega
          rw [if_pos hpe] at hbar
          refine tr_rseq ?_   -- region 17
          refine sq_q (qt_build rfl built0) rfl ?_   -- t62
          refine sq_store 1 rfl rfl rfl rfl (by first | (simp [u32s, Value.cells]; done) | (simp [u32s, Value.cells]; omega) | exact Nat.le_refl 2) rfl rfl ?_   -- R17.1
          refine sq_end ?_
          refine tr_ret ?_
          repeat (first | (with_reducible refine tr_skip ?_) | (with_reducible refine tr_exit ?_) | (with_reducible refine tr_then ?_) | (with_reducible refine tr_inX ?_) | (with_reducible refine tr_thenX ?_) | (with_reducible refine tr_inN ?_) | (with_reducible refine tr_inR ?_) | (with_reducible refine tr_thenR ?_))
          refine tr_done (none, 0) (fun a w s t => results_1 rfl (by rw [← hbar, iv_zero]; exact resv_cell 1 s t rfl rfl rfl)) (fun w _ _ _ => ?_)
          rw [← hbar, show (0 : Int).natAbs = 0 from rfl, Lz, limbsOf_zero, nl_zero.2 rfl]
          exact ⟨⟨Rd.nil _ _, Nat.le_refl _⟩, Nat.zero_le _⟩
        ·
          have hpl : p < n := by have := of_decide_eq_false hc; omega
          have hpk := hpg hpl
          rw [if_neg (by omega)] at hbar
          refine tr_skip ?_
          repeat (first | (with_reducible refine tr_skip ?_) | (with_reducible refine tr_exit ?_) | (with_reducible refine tr_then ?_) | (with_reducible refine tr_inX ?_) | (with_reducible refine tr_thenX ?_) | (with_reducible refine tr_inN ?_) | (with_reducible refine tr_inR ?_) | (with_reducible refine tr_thenR ?_))
          refine tr_cut3 (fun (g' : Nat → Nat → Int) (qs' : List Wr) (neg' : Bool) => MG g' n n qs' ∧ bar n (n - (k + 1)) (k + 1) (elim g' k pz.z) (g' k k) neg' = D) (fun g' qs' neg' => [(2, .pointer (some ⟨r2, 0, none⟩)), (3, .int .i64 (n : Int)), (4, .slice (some ⟨r16, 0, none⟩) n n), (6, .bool neg'), (7, .pointer (some ⟨r7, 0, none⟩)), (8, .int .i64 (k : Int)), (38, .int .i64 (n : Int)), (39, .int .i64 (k : Int))])
            (fun g' qs' neg' => zblk r7 pz :: zblk r2 z0 :: mown r16 qs') (fun g' qs' neg' w => alli (fun _ _ z => okE (bd B k) w0 z w) qs' ∧ okE (bd B k) w0 pz w) ?_ ?_
          ·
            refine tr_rseq ?_   -- region 18
            refine sq_q (qt_move rfl) rfl ?_   -- t63
            refine sq_q (qt_move rfl) rfl ?_   -- t64
            refine sq_q (qt_bin rfl rfl bin_neq) rfl ?_   -- t65
            refine sq_end ?_
            refine tr_if rfl (fun hc => ?_) (fun hc => ?_)
            ·
              have hne : p ≠ k := by have := of_decide_eq_true hc; omega
              rw [if_neg hne] at hbar
              obtain ⟨qp, hqp, _⟩ := hG.get hpl
              obtain ⟨qk, hqk, _⟩ := hG.get hlt
              refine tr_rdraw 12 [2, 3, 8, 9, 10] [68, 69, 74, 75, 76] [0, 2, 3, 4, 5, 6, 7, 8, 9, 10, 11, 12, 18, 19, 20, 38, 39, 40, 56, 61, 65, 66, 67, 73, 77, 86, 93, 148] (by kernel_rfl) ?_   -- region 19
              refine dx_q rfl (qt_move rfl) rfl ?_   -- t66
              refine dx_q rfl (qt_move rfl) rfl ?_   -- t67
              refine dx_late rfl (qt_move rfl) rfl ?_   -- t68
              refine dx_late rfl (qt_move rfl) rfl ?_   -- t69
              refine dx_q rfl (qt_move rfl) rfl ?_   -- t70
              refine dx_q rfl (qt_move rfl) rfl ?_   -- t71
              refine dx_q rfl (qt_index (i := k) rfl rfl hlt) rfl ?_   -- t72
              refine dx_q rfl (qt_load rfl (fun w t => t.o1 2 rfl (mout_get hqk))) rfl ?_   -- t73
              refine dx_late rfl (qt_move rfl) rfl ?_   -- t74
              refine dx_late rfl (qt_move rfl) rfl ?_   -- t75
              refine dx_late rfl (qt_index (i := p) rfl rfl hpl) rfl ?_   -- t76
              refine dx_q rfl (qt_load rfl (fun w t => t.o1 2 rfl (mout_get hqp))) rfl ?_   -- t77
              refine dx_nil ?_
              repeat (first | refine es_val rfl ?_ rfl | refine es_res rfl (fun x => ?_) rfl | refine es_skip rfl ?_)
              refine es_nil rfl ?_
              refine tx_q (qt_index (i := p) rfl rfl hpl) rfl rfl rfl ?_   -- t78
              refine tx_store 2 rfl rfl rfl rfl (show 0 + p * 1 + 1 ≤ (qs.map mhdr ++ List.replicate 0 (Value.slice none 0 0)).length by simp; have := hG.1; omega) rfl rfl rfl ?_   -- _
              refine tx_q (qt_index (i := k) rfl rfl hlt) rfl rfl rfl ?_   -- t79
              refine tx_store 2 rfl rfl rfl rfl (show 0 + k * 1 + 1 ≤ (wr (qs.map mhdr ++ List.replicate 0 (Value.slice none 0 0)) (0 + p * 1) [mhdr qk]).length by rw [wr_length]; simp; have := hG.1; omega) rfl rfl rfl ?_   -- _
              refine tx_endk ?_
              refine tr_region ?_   -- region 20
              refine sq_q (qt_move rfl) rfl ?_   -- t80
              refine sq_q (qt_not rfl) rfl ?_   -- t81
              refine sq_q (qt_assign rfl) rfl ?_   -- t6
              refine sq_nil ?_
              repeat (first | (with_reducible refine tr_skip ?_) | (with_reducible refine tr_exit ?_) | (with_reducible refine tr_then ?_) | (with_reducible refine tr_inX ?_) | (with_reducible refine tr_thenX ?_) | (with_reducible refine tr_inN ?_) | (with_reducible refine tr_inR ?_) | (with_reducible refine tr_thenR ?_))
              refine tr_perm (zblk r7 pz :: zblk r2 z0 :: mown r16 (qswap qs p k qp qk)) ?_ ?_
              · have e : (r16, Obj.cells (wr (wr (qs.map mhdr ++ List.replicate 0 (Value.slice none 0 0)) (0 + p * 1) [mhdr qk]) (0 + k * 1) [mhdr qp]).toArray 44 (0, 0)) = mout r16 (qswap qs p k qp qk) 0 := by
                  unfold mout
                  rw [← qswap_hdr hqp hqk]
                  simp only [wr, Nat.zero_add, Nat.mul_one]
                show (zblk r7 pz :: zblk r2 z0 :: (r16, Obj.cells (wr (wr (qs.map mhdr ++ List.replicate 0 (Value.slice none 0 0)) (0 + p * 1) [mhdr qk]) (0 + k * 1) [mhdr qp]).toArray 44 (0, 0)) :: qs.map mrow).Perm _
                rw [e]
                exact ((((qswap_perm hqp hqk).symm.map mrow).cons _).cons _).cons _
              exact tr_mid3 (swp g p k) (qswap qs p k qp qk) (!neg) ⟨hG.swap hqp hqk, hbar⟩ ⟨rfl, rfl, rfl, rfl, rfl, rfl, rfl, rfl, trivial⟩ rfl (fun w h => ⟨h.1.swap hqp hqk, h.2⟩)
            ·
              have hpe : p = k := by have := of_decide_eq_false hc; omega
              rw [if_pos hpe] at hbar
              refine tr_skip ?_
              repeat (first | (with_reducible refine tr_skip ?_) | (with_reducible refine tr_exit ?_) | (with_reducible refine tr_then ?_) | (with_reducible refine tr_inX ?_) | (with_reducible refine tr_thenX ?_) | (with_reducible refine tr_inN ?_) | (with_reducible refine tr_inR ?_) | (with_reducible refine tr_thenR ?_))
              exact tr_mid3 g qs neg ⟨hG, hbar⟩ ⟨rfl, rfl, rfl, rfl, rfl, rfl, rfl, rfl, trivial⟩ rfl (fun w h => h)
          ·
            clear hG hbar hpg hpiv
            rintro g' qs' neg' ⟨hG, hbar⟩
            refine tr_seq ?_   -- C11
            refine tr_rseq ?_   -- region 21
            refine sq_q (qt_move rfl) rfl ?_   -- t82
            refine sq_q (qt_bin rfl rfl (bin_addI (by omega) (by omega))) rfl ?_   -- t83
            refine sq_q (qt_assign rfl) rfl ?_   -- t10
            refine sq_end ?_
            refine tr_block ?_
            refine tr_loop2 (fun (i : Nat) (qs : List Wr) => k + 1 ≤ i ∧ i ≤ n ∧ MG (elimP g' k pz.z i 0) n n qs) (fun i qs => [(2, .pointer (some ⟨r2, 0, none⟩)), (3, .int .i64 (n : Int)), (4, .slice (some ⟨r16, 0, none⟩) n n), (6, .bool neg'), (7, .pointer (some ⟨r7, 0, none⟩)), (8, .int .i64 (k : Int)), (10, .int .i64 (i : Int)), (38, .int .i64 (n : Int)), (39, .int .i64 (k : Int))])
              (fun i qs => zblk r7 pz :: zblk r2 z0 :: mown r16 qs) (fun i qs w => alli (fun a b z => okE (bb B k i 0 a b) w0 z w) qs ∧ okE (bd B k) w0 pz w) (fun i qs => n - i) (k + 1) qs' ⟨Nat.le_refl _, hlt, hG.congr (fun a b _ _ => by unfold elimP; rw [if_neg (by omega)])⟩ ⟨rfl, rfl, rfl, rfl, rfl, rfl, rfl, rfl, rfl, trivial⟩ rfl (fun w h => ⟨h.1.mono fun a b z hz => by unfold bb; rw [if_neg (by unfold dn; omega)]; exact hz, h.2⟩) ?_
            clear hG
            rintro i qs ⟨hki, hin, hG⟩
            refine tr_seq ?_   -- C12
            refine tr_rseq ?_   -- region 22
            refine sq_q (qt_move rfl) rfl ?_   -- t84
            refine sq_q (qt_move rfl) rfl ?_   -- t85
            refine sq_q (qt_bin rfl rfl bin_lss) rfl ?_   -- t86
            refine sq_end ?_
            refine tr_if rfl (fun hc => ?_) (fun hc => ?_)
            ·
              have hil : i < n := by have := of_decide_eq_true hc; omega
              refine tr_skip ?_
              repeat (first | (with_reducible refine tr_skip ?_) | (with_reducible refine tr_exit ?_) | (with_reducible refine tr_then ?_) | (with_reducible refine tr_inX ?_) | (with_reducible refine tr_thenX ?_) | (with_reducible refine tr_inN ?_) | (with_reducible refine tr_inR ?_) | (with_reducible refine tr_thenR ?_))
              refine tr_seq ?_   -- C13
              refine tr_block ?_
              refine tr_rseq ?_   -- region 24
              refine sq_q (qt_move rfl) rfl ?_   -- t89
              refine sq_q (qt_bin rfl rfl (bin_addI (by omega) (by omega))) rfl ?_   -- t90
              refine sq_q (qt_assign rfl) rfl ?_   -- t11
              refine sq_end ?_
              refine tr_block ?_
              refine tr_loop2 (fun (j : Nat) (qs : List Wr) => k + 1 ≤ j ∧ j ≤ n ∧ MG (elimP g' k pz.z i j) n n qs) (fun j qs => [(2, .pointer (some ⟨r2, 0, none⟩)), (3, .int .i64 (n : Int)), (4, .slice (some ⟨r16, 0, none⟩) n n), (6, .bool neg'), (7, .pointer (some ⟨r7, 0, none⟩)), (8, .int .i64 (k : Int)), (10, .int .i64 (i : Int)), (11, .int .i64 (j : Int)), (38, .int .i64 (n : Int)), (39, .int .i64 (k : Int))])
                (fun j qs => zblk r7 pz :: zblk r2 z0 :: mown r16 qs) (fun j qs w => alli (fun a b z => okE (bb B k i j a b) w0 z w) qs ∧ okE (bd B k) w0 pz w) (fun j qs => n - j) (k + 1) qs ⟨Nat.le_refl _, hlt, hG.congr (fun a b _ _ => by unfold elimP; congr 1; exact propext (by omega))⟩ ⟨rfl, rfl, rfl, rfl, rfl, rfl, rfl, rfl, rfl, rfl, trivial⟩ rfl (fun w h => ⟨h.1.mono fun a b z hz => by have e : bb B k i (k + 1) a b = bb B k i 0 a b := (by unfold bb; congr 1; exact propext (by unfold dn; omega)); rw [e]; exact hz, h.2⟩) ?_
              clear hG
              rintro j qs ⟨hkj, hjn, hG⟩
              refine tr_seq ?_   -- C14
              refine tr_rseq ?_   -- region 25
              refine sq_q (qt_move rfl) rfl ?_   -- t91
              refine sq_q (qt_move rfl) rfl ?_   -- t92
              refine sq_q (qt_bin rfl rfl bin_lss) rfl ?_   -- t93
              refine sq_end ?_
              refine tr_if rfl (fun hc => ?_) (fun hc => ?_)
              ·
                have hjl : j < n := by have := of_decide_eq_true hc; omega
                obtain ⟨qk, hqk, hqkl⟩ := hG.get hlt
                obtain ⟨qi, hqi, hqil⟩ := hG.get hil
                obtain ⟨zkk, hkk⟩ : ∃ z, qk.2[k]? = some z := ⟨_, List.getElem?_eq_getElem (by omega)⟩
                obtain ⟨zkj, hkjz⟩ : ∃ z, qk.2[j]? = some z := ⟨_, List.getElem?_eq_getElem (by omega)⟩
                obtain ⟨zik, hik⟩ : ∃ z, qi.2[k]? = some z := ⟨_, List.getElem?_eq_getElem (by omega)⟩
                obtain ⟨zij, hij⟩ : ∃ z, qi.2[j]? = some z := ⟨_, List.getElem?_eq_getElem (by omega)⟩
                have ekk : zkk.z = g' k k := by rw [(hG.2 k qk hqk).2 k zkk hkk]; unfold elimP; rw [if_neg (by omega)]
                have ekj : zkj.z = g' k j := by rw [(hG.2 k qk hqk).2 j zkj hkjz]; unfold elimP; rw [if_neg (by omega)]
                have eik : zik.z = g' i k := by rw [(hG.2 i qi hqi).2 k zik hik]; unfold elimP; rw [if_neg (by omega)]
                have eij : zij.z = g' i j := by rw [(hG.2 i qi hqi).2 j zij hij]; unfold elimP; rw [if_neg (by omega)]
                have hlow : ∀ a b, ¬ dn k i j a b → bb B k i j a b = bd B k := fun a b h => by unfold bb; rw [if_neg h]
                have bkk := hlow k k (by unfold dn; omega)
                have bkj := hlow k j (by unfold dn; omega)
                have bik := hlow i k (by unfold dn; omega)
                have bij := hlow i j (by unfold dn; omega)
                obtain ⟨Xv, hXv⟩ : ∃ X, X = zkk.z * zij.z - zik.z * zkj.z := ⟨_, rfl⟩
                refine tr_skip ?_
                repeat (first | (with_reducible refine tr_skip ?_) | (with_reducible refine tr_exit ?_) | (with_reducible refine tr_then ?_) | (with_reducible refine tr_inX ?_) | (with_reducible refine tr_thenX ?_) | (with_reducible refine tr_inN ?_) | (with_reducible refine tr_inR ?_) | (with_reducible refine tr_thenR ?_))
                refine tr_seq ?_   -- C15
                refine tr_block ?_
                refine tr_have (fun w t => (⟨nl_zd ((t.r.1 k qk hqk k zkk hkk).get t), nl_zd ((t.r.1 i qi hqi j zij hij).get t), nl_zd ((t.r.1 i qi hqi k zik hik).get t), nl_zd ((t.r.1 k qk hqk j zkj hkjz).get t)⟩ : nl zkk.z.natAbs ≤ bb B k i j k k ∧ nl zij.z.natAbs ≤ bb B k i j i j ∧ nl zik.z.natAbs ≤ bb B k i j i k ∧ nl zkj.z.natAbs ≤ bb B k i j k j)) fun hb => ?_
                obtain ⟨hb1, hb2, hb3, hb4⟩ := hb
                rw [bkk] at hb1
                rw [bij] at hb2
                rw [bik] at hb3
                rw [bkj] at hb4
                have hm1 := nl_imul zkk.z zij.z
                have hm2 := nl_imul zik.z zkj.z
                have hm3 := nl_isub (zkk.z * zij.z) (zik.z * zkj.z)
                rw [← hXv] at hm3
                have hXb : nl Xv.natAbs ≤ bd B (k + 1) := by rw [bd]; omega
                refine tr_rdraw 32 [] [] [0, 2, 3, 4, 5, 6, 7, 8, 9, 10, 11, 12, 18, 19, 20, 38, 39, 40, 56, 61, 65, 86, 93, 126, 148] (by kernel_rfl) ?_   -- region 27
                refine dx_q rfl (qt_move rfl) rfl ?_   -- t96
                refine dx_q rfl (qt_move rfl) rfl ?_   -- t97
                refine dx_q rfl (qt_index (i := k) rfl rfl hlt) rfl ?_   -- t98
                refine dx_q rfl (qt_load rfl (fun w t => t.o1 2 rfl (mout_get hqk))) rfl ?_   -- t99
                refine dx_q rfl (qt_move rfl) rfl ?_   -- t100
                refine dx_q rfl (qt_index (i := k) rfl rfl (by omega)) rfl ?_   -- t101
                refine dx_q rfl (qt_load2 rfl (fun w t => t.mz0 (k + 3) (mown_at (o := r16) hqk) hkk) (fun w t => t.mz1 (k + 3) (mown_at (o := r16) hqk) hkk)) rfl ?_   -- t102
                refine dx_q rfl (qt_move rfl) rfl ?_   -- t103
                refine dx_q rfl (qt_move rfl) rfl ?_   -- t104
                refine dx_q rfl (qt_index (i := i) rfl rfl hil) rfl ?_   -- t105
                refine dx_q rfl (qt_load rfl (fun w t => t.o1 2 rfl (mout_get hqi))) rfl ?_   -- t106
                refine dx_q rfl (qt_move rfl) rfl ?_   -- t107
                refine dx_q rfl (qt_index (i := j) rfl rfl (by omega)) rfl ?_   -- t108
                refine dx_q rfl (qt_load2 rfl (fun w t => t.mz0 (i + 3) (mown_at (o := r16) hqi) hij) (fun w t => t.mz1 (i + 3) (mown_at (o := r16) hqi) hij)) rfl ?_   -- t109
                refine dx_call (iv (zkk.z * zij.z)) (Lz (zkk.z * zij.z).natAbs) rfl rfl rfl (fun w t => mul_zd ((t.r.1 k qk hqk k zkk hkk).get t) ((t.r.1 i qi hqi j zij hij).get t) (by rw [bkk, bij]; omega)) ?_   -- t110
                refine dx_q rfl (qt_move rfl) rfl ?_   -- t111
                refine dx_q rfl (qt_move rfl) rfl ?_   -- t112
                refine dx_q rfl (qt_index (i := i) rfl rfl hil) rfl ?_   -- t113
                refine dx_q rfl (qt_load rfl (fun w t => t.o1 2 rfl (mout_get hqi))) rfl ?_   -- t114
                refine dx_q rfl (qt_move rfl) rfl ?_   -- t115
                refine dx_q rfl (qt_index (i := k) rfl rfl (by omega)) rfl ?_   -- t116
                refine dx_q rfl (qt_load2 rfl (fun w t => t.mz0 (i + 3) (mown_at (o := r16) hqi) hik) (fun w t => t.mz1 (i + 3) (mown_at (o := r16) hqi) hik)) rfl ?_   -- t117
                refine dx_q rfl (qt_move rfl) rfl ?_   -- t118
                refine dx_q rfl (qt_move rfl) rfl ?_   -- t119
                refine dx_q rfl (qt_index (i := k) rfl rfl hlt) rfl ?_   -- t120
                refine dx_q rfl (qt_load rfl (fun w t => t.o1 2 rfl (mout_get hqk))) rfl ?_   -- t121
                refine dx_q rfl (qt_move rfl) rfl ?_   -- t122
                refine dx_q rfl (qt_index (i := j) rfl rfl (by omega)) rfl ?_   -- t123
                refine dx_q rfl (qt_load2 rfl (fun w t => t.mz0 (k + 3) (mown_at (o := r16) hqk) hkjz) (fun w t => t.mz1 (k + 3) (mown_at (o := r16) hqk) hkjz)) rfl ?_   -- t124
                refine dx_call (iv (zik.z * zkj.z)) (Lz (zik.z * zkj.z).natAbs) rfl rfl rfl (fun w t => mul_zd ((t.r.1 i qi hqi k zik hik).get t) ((t.r.1 k qk hqk j zkj hkjz).get t) (by rw [bik, bkj]; omega)) ?_   -- t125
                refine dx_call2 110 125 (iv Xv) (Lz Xv.natAbs) rfl rfl rfl (by simp) (by simp) (fun _ _ => rfl) (fun _ _ => rfl) (fun y z w t => by rw [hXv]; exact sub_iv t.r.1.2 t.r.2 (by omega) (by omega)) ?_   -- t126
                refine dx_alloc rfl ?_   -- t12
                refine dx_nil ?_
                repeat (first | refine es_val rfl ?_ rfl | refine es_skip rfl ?_)
                refine es_res rfl (fun r12 => ?_) rfl
                repeat (first | refine es_val rfl ?_ rfl | refine es_skip rfl ?_)
                refine es_res rfl (fun x26 => ?_) rfl
                repeat (first | refine es_val rfl ?_ rfl | refine es_skip rfl ?_)
                refine es_adopt (zblk r12 z0 :: zblk r7 pz :: zblk r2 z0 :: mown r16 qs) (fun w => (alli (fun a b z => okE (bb B k i j a b) w0 z w) qs ∧ okE (bd B k) w0 pz w) ∧ Lz Xv.natAbs x26 w) rfl (fun w t => t.adoptL t.r.1.2.1 t.r.1.2.2.1 t.r.1.2.2.2 (not_u32b_z0 _ _) (fun w h => ⟨h.1.1, h.2⟩) (((LimbR.alli _ (fun a b z => LimbR.okE _ _ z) qs).and (LimbR.okE _ _ _)).and (LimbR.lm _ _))) ?_
                refine tx_store 0 rfl rfl rfl rfl (Nat.le_refl 2) rfl rfl rfl ?_   -- _
                refine tx_endk ?_
                refine tr_own (zblk r12 (zd Xv x26) :: zblk r7 pz :: zblk r2 z0 :: mown r16 qs) rfl ?_
                refine tr_draw 12 [10, 11] [137, 138] [0, 2, 3, 4, 5, 6, 7, 8, 9, 10, 11, 12, 18, 19, 20, 38, 39, 40, 56, 61, 65, 86, 93, 131, 132, 136, 148] (by kernel_rfl) ?_   -- region 28
                refine dx_q rfl (qt_move rfl) rfl ?_   -- t128
                refine dx_q rfl (qt_move rfl) rfl ?_   -- t129
                refine dx_q rfl (qt_index (i := i) rfl rfl hil) rfl ?_   -- t130
                refine dx_q rfl (qt_load rfl (fun w t => t.o1 3 rfl (mout_get hqi))) rfl ?_   -- t131
                refine dx_q rfl (qt_move rfl) rfl ?_   -- t132
                refine dx_q rfl (qt_load2 rfl (fun w t => t.atO 0 rfl rfl) (fun w t => t.atO 0 rfl rfl)) rfl ?_   -- t133
                refine dx_q rfl (qt_load2 rfl (fun w t => t.atO 1 rfl rfl) (fun w t => t.atO 1 rfl rfl)) rfl ?_   -- t134
                refine dx_call (fun q : Sv × Sv => .tuple #[iv (Xv / pz.z) q.1, iv (dmr Xv pz.z) q.2, .bool (decide (pz.z ≠ 0))]) (fun q w => Lz (Xv / pz.z).natAbs q.1 w ∧ Lz (dmr Xv pz.z).natAbs q.2 w) rfl rfl rfl (fun w t => divmod_iz t.r.2 (t.r.1.2.get t) (by omega) (by omega)) ?_   -- t135
                refine dx_q1 135 (fun q : Sv × Sv => .tuple #[iv (Xv / pz.z) q.1, iv (dmr Xv pz.z) q.2, .bool (decide (pz.z ≠ 0))]) rfl rfl (fun o ho => mem_looksAt (by rw [ho]; simp [Op.operands])) (fun _ => qt_move rfl) rfl ?_   -- t127
                refine dx_q1 127 (fun q : Sv × Sv => iv (Xv / pz.z) q.1) rfl rfl (fun o ho => mem_looksAt (by rw [ho]; simp [Op.operands])) (fun _ => qt_extract rfl rfl) rfl ?_   -- t136
                refine dx_dead 127 rfl rfl (fun q => ⟨_, _, rfl, rfl⟩) ?_   -- t137
                refine dx_dead 127 rfl rfl (fun q => ⟨_, _, rfl, rfl⟩) ?_   -- t138
                refine dx_nil ?_
                repeat (first | refine es_val rfl ?_ rfl | refine es_res rfl (fun x => ?_) rfl | refine es_skip rfl ?_)
                refine es_nil rfl ?_
                refine tx_q (qt_index (i := j) rfl rfl (by omega)) rfl rfl rfl ?_   -- t139
                refine tx_store (i + 4) rfl rfl (mown_at (o := r16) hqi) rfl (show 0 + j * 2 + 2 ≤ (zcs qi.2).length by rw [zcs_length]; omega) rfl rfl rfl ?_   -- _
                refine tx_end ?_
                refine tr_own (zblk r12 (zd Xv x26) :: zblk r7 pz :: zblk r2 z0 :: mown r16 (qs.set i (qi.1, qi.2.set j (zd (Xv / pz.z) x.1)))) (by rw [← mown_wr (zd (Xv / pz.z) x.1) hqi (by omega)]; rfl) ?_
                refine tr_drop (zblk r7 pz :: zblk r2 z0 :: mown r16 (qs.set i (qi.1, qi.2.set j (zd (Xv / pz.z) x.1)))) (List.sublist_cons_self ..) ?_
                repeat (first | (with_reducible refine tr_skip ?_) | (with_reducible refine tr_exit ?_) | (with_reducible refine tr_then ?_) | (with_reducible refine tr_inX ?_) | (with_reducible refine tr_thenX ?_) | (with_reducible refine tr_inN ?_) | (with_reducible refine tr_inR ?_) | (with_reducible refine tr_thenR ?_))
                refine tr_region ?_   -- region 26
                refine sq_q (qt_move rfl) rfl ?_   -- t94
                refine sq_q (qt_bin rfl rfl (bin_addI (by omega) (by omega))) rfl ?_   -- t95
                refine sq_q (qt_assign rfl) rfl ?_   -- t11
                refine sq_nil ?_
                repeat (first | (with_reducible refine tr_skip ?_) | (with_reducible refine tr_exit ?_) | (with_reducible refine tr_then ?_) | (with_reducible refine tr_inX ?_) | (with_reducible refine tr_thenX ?_) | (with_reducible refine tr_inN ?_) | (with_reducible refine tr_inR ?_) | (with_reducible refine tr_thenR ?_))
                have hv : Xv / pz.z = elm g' k pz.z i j := by unfold elm; rw [hXv, ekk, eij, eik, ekj]
                refine tr_round2 (j + 1) (qs.set i (qi.1, qi.2.set j (zd (Xv / pz.z) x.1))) ⟨by omega, by omega, (hG.set hqi (zd (Xv / pz.z) x.1) _ (zd_z _ _)).congr (fun a b _ _ => ?_)⟩ (by omega) ⟨rfl, rfl, rfl, rfl, rfl, rfl, rfl, rfl, rfl, rfl, trivial⟩ rfl (fun w h => ⟨h.1.1.1.set hqi (.inr (zd_ok h.2.1 ?_)) (fun a b z hab hz => hz.mono (bb_mono fun hd => ?_)), h.1.1.2⟩)
                · unfold gset elimP
                  by_cases hab : a = i ∧ b = j
                  · rw [if_pos hab, if_pos (by omega), hv, hab.1, hab.2]
                  · rw [if_neg hab]
                    congr 1
                    exact propext (by omega)
                · refine Nat.le_trans (nl_idiv _ _) (Nat.le_trans hXb ?_)
                  unfold bb
                  rw [if_pos (by unfold dn; omega)]
                  exact Nat.le_refl _
                · unfold dn at hd ⊢
                  omega
              ·
                have hje : j = n := by have := of_decide_eq_false hc; omega
                refine tr_exit ?_
                repeat (first | (with_reducible refine tr_skip ?_) | (with_reducible refine tr_exit ?_) | (with_reducible refine tr_then ?_) | (with_reducible refine tr_inX ?_) | (with_reducible refine tr_thenX ?_) | (with_reducible refine tr_inN ?_) | (with_reducible refine tr_inR ?_) | (with_reducible refine tr_thenR ?_))
                refine tr_region ?_   -- region 23
                refine sq_q (qt_move rfl) rfl ?_   -- t87
                refine sq_q (qt_bin rfl rfl (bin_addI (by omega) (by omega))) rfl ?_   -- t88
                refine sq_q (qt_assign rfl) rfl ?_   -- t10
                refine sq_nil ?_
                repeat (first | (with_reducible refine tr_skip ?_) | (with_reducible refine tr_exit ?_) | (with_reducible refine tr_then ?_) | (with_reducible refine tr_inX ?_) | (with_reducible refine tr_thenX ?_) | (with_reducible refine tr_inN ?_) | (with_reducible refine tr_inR ?_) | (with_reducible refine tr_thenR ?_))
                refine tr_round2 (i + 1) qs ⟨by omega, by omega, hG.congr (fun a b _ hb => ?_)⟩ (by omega) ⟨rfl, rfl, rfl, rfl, rfl, rfl, rfl, rfl, rfl, trivial⟩ rfl (fun w h => ⟨h.1.mono fun a b z hz => hz.mono (bb_mono fun hd => ?_), h.2⟩)
                · unfold elimP
                  congr 1
                  exact propext (by omega)
                · unfold dn at hd ⊢
                  omega
            ·
              have hie : i = n := by have := of_decide_eq_false hc; omega
              obtain ⟨qk, hqk, hqkl⟩ := hG.get hlt
              obtain ⟨zkk, hkk⟩ : ∃ z, qk.2[k]? = some z := ⟨_, List.getElem?_eq_getElem (by omega)⟩
              have ekk : zkk.z = g' k k := by rw [(hG.2 k qk hqk).2 k zkk hkk]; unfold elimP; rw [if_neg (by omega)]
              refine tr_exit ?_
              repeat (first | (with_reducible refine tr_skip ?_) | (with_reducible refine tr_exit ?_) | (with_reducible refine tr_then ?_) | (with_reducible refine tr_inX ?_) | (with_reducible refine tr_thenX ?_) | (with_reducible refine tr_inN ?_) | (with_reducible refine tr_inR ?_) | (with_reducible refine tr_thenR ?_))
              refine tr_region ?_   -- region 29
              refine sq_q (qt_move rfl) rfl ?_   -- t140
              refine sq_q (qt_move rfl) rfl ?_   -- t141
              refine sq_q (qt_index (i := k) rfl rfl hlt) rfl ?_   -- t142
              refine sq_q (qt_load rfl (fun w t => t.o1 2 rfl (mout_get hqk))) rfl ?_   -- t143
              refine sq_q (qt_move rfl) rfl ?_   -- t144
              refine sq_q (qt_index (i := k) rfl rfl (by omega)) rfl ?_   -- t145
              refine sq_q (qt_load2 rfl (fun w t => t.mz0 (k + 3) (mown_at (o := r16) hqk) hkk) (fun w t => t.mz1 (k + 3) (mown_at (o := r16) hqk) hkk)) rfl ?_   -- t146
              refine sq_store 0 rfl rfl rfl rfl (Nat.le_refl 2) rfl rfl ?_   -- R29.7
              refine sq_nil ?_
              repeat (first | (with_reducible refine tr_skip ?_) | (with_reducible refine tr_exit ?_) | (with_reducible refine tr_then ?_) | (with_reducible refine tr_inX ?_) | (with_reducible refine tr_thenX ?_) | (with_reducible refine tr_inN ?_) | (with_reducible refine tr_inR ?_) | (with_reducible refine tr_thenR ?_))
              refine tr_region ?_   -- region 30
              refine sq_q (qt_bin rfl rfl (bin_addI (by omega) (by omega))) rfl ?_   -- t147
              refine sq_q (qt_move rfl) rfl ?_   -- t39
              refine sq_nil ?_
              repeat (first | (with_reducible refine tr_skip ?_) | (with_reducible refine tr_exit ?_) | (with_reducible refine tr_then ?_) | (with_reducible refine tr_inX ?_) | (with_reducible refine tr_thenX ?_) | (with_reducible refine tr_inN ?_) | (with_reducible refine tr_inR ?_) | (with_reducible refine tr_thenR ?_))
              refine tr_own (zblk r7 zkk :: zblk r2 z0 :: mown r16 qs) rfl ?_
              refine tr_round4 (k + 1) qs zkk neg' ⟨hlt, elim g' k pz.z, hG.congr (fun a b ha _ => ?_), by rw [ekk]; exact hbar⟩ (by omega) ⟨rfl, rfl, rfl, rfl, rfl, rfl, rfl, trivial⟩ rfl (fun w h => ⟨h.1.mono fun a b z hz => hz.mono (bb_le B k _ _ a b), (h.1 k qk hqk k zkk hkk).mono (bb_le B k _ _ k k)⟩)
              unfold elimP elim
              congr 1
              exact propext (by omega)
    ·
      have hke : k = n := by have := of_decide_eq_false hc; omega
      subst hke
      rw [Nat.sub_self, bar] at hbar
      have hbd := bd_le (B := B) (k := k) hn16 hB
      refine tr_exit ?_
      repeat (first | (with_reducible refine tr_skip ?_) | (with_reducible refine tr_exit ?_) | (with_reducible refine tr_then ?_) | (with_reducible refine tr_inX ?_) | (with_reducible refine tr_thenX ?_) | (with_reducible refine tr_inN ?_) | (with_reducible refine tr_inR ?_) | (with_reducible refine tr_thenR ?_))
      refine tr_seq ?_   -- C16
      refine tr_have (fun w t => nl_zd (t.r.2.get t)) fun hnz => ?_
      refine tr_rseq ?_   -- region 31
      refine sq_q (qt_move rfl) rfl ?_   -- t148
      refine sq_end ?_
      refine tr_if rfl (fun hc => ?_) (fun hc => ?_)
      ·
        rw [if_pos hc] at hbar
        refine tr_rseq ?_   -- region 32
        refine sq_q (qt_load2 rfl (fun w t => t.atO 0 rfl rfl) (fun w t => t.atO 0 rfl rfl)) rfl ?_   -- t149
        refine sq_call (iv (-pz.z)) (Lz (-pz.z).natAbs) rfl rfl rfl (fun w t => neg_zd (t.r.2.get t) (by omega)) fun x => ?_   -- t150
        refine sq_store 1 rfl rfl rfl rfl (by first | (simp [u32s, Value.cells]; done) | (simp [u32s, Value.cells]; omega) | exact Nat.le_refl 2) rfl rfl ?_   -- R32.2
        refine sq_end ?_
        refine tr_ret ?_
        repeat (first | (with_reducible refine tr_skip ?_) | (with_reducible refine tr_exit ?_) | (with_reducible refine tr_then ?_) | (with_reducible refine tr_inX ?_) | (with_reducible refine tr_thenX ?_) | (with_reducible refine tr_inN ?_) | (with_reducible refine tr_inR ?_) | (with_reducible refine tr_thenR ?_))
        rw [← hbar]
        exact tr_done x (fun a w s t => results_1 rfl (resv_cell 1 s t rfl rfl rfl)) (fun w h _ _ => ⟨h.2, by rw [Int.natAbs_neg]; omega⟩)
      ·
        rw [if_neg (by rw [hc]; decide)] at hbar
        refine tr_skip ?_
        repeat (first | (with_reducible refine tr_skip ?_) | (with_reducible refine tr_exit ?_) | (with_reducible refine tr_then ?_) | (with_reducible refine tr_inX ?_) | (with_reducible refine tr_thenX ?_) | (with_reducible refine tr_inN ?_) | (with_reducible refine tr_inR ?_) | (with_reducible refine tr_thenR ?_))
        refine tr_rseq ?_   -- region 33
        refine sq_q (qt_load2 rfl (fun w t => t.atO 0 rfl rfl) (fun w t => t.atO 0 rfl rfl)) rfl ?_   -- t151
        refine sq_call (iv pz.z) (Lz pz.z.natAbs) rfl rfl rfl (fun w t => norm_zd (t.r.2.get t) (by omega)) fun x => ?_   -- t152
        refine sq_store 1 rfl rfl rfl rfl (by first | (simp [u32s, Value.cells]; done) | (simp [u32s, Value.cells]; omega) | exact Nat.le_refl 2) rfl rfl ?_   -- R33.2
        refine sq_end ?_
        refine tr_ret ?_
        repeat (first | (with_reducible refine tr_skip ?_) | (with_reducible refine tr_exit ?_) | (with_reducible refine tr_then ?_) | (with_reducible refine tr_inX ?_) | (with_reducible refine tr_thenX ?_) | (with_reducible refine tr_inN ?_) | (with_reducible refine tr_inR ?_) | (with_reducible refine tr_thenR ?_))
        rw [← hbar]
        exact tr_done x (fun a w s t => results_1 rfl (resv_cell 1 s t rfl rfl rfl)) (fun w h _ _ => ⟨h.2, by omega⟩)
end Go.Qk
end
section
/- What Det answers. -/
set_option linter.unusedVariables false
namespace Go.Qk
open Go Go.Proofs Go.RowKit
def detO (L : List (List Int)) : Option Int := if sqb (shp L) = true then some (bdet L.length (ent L)) else none
def optZV (o : Option Int) (p : Sv) : Value := .tuple #[iv (o.getD 0) p, .bool o.isSome]
def optZF (o : Option Int) (p : Sv) (w : World) : Prop := Lz (o.getD 0).natAbs p w ∧ nl (o.getD 0).natAbs ≤ 549755813887
theorem sqb_inv {α : Type} {L : List (List α)} (h : sqb (shp L) = true) : 1 ≤ L.length ∧ L.length ≤ 16 ∧ ∀ q ∈ L, q.length = L.length := by
  cases hs : shp L with
  | none => rw [hs] at h; simp [sqb] at h
  | some rc =>
    obtain ⟨r, c⟩ := rc
    rw [hs] at h
    have hrc : r = c := by simp [sqb] at h; omega
    obtain ⟨h1, h2, h3, h4, h5, h6⟩ := shp_inv hs
    exact ⟨by omega, by omega, fun q hq => by rw [h6 q hq]; omega⟩
theorem sqr_rows {m : Mt} (h : sqb (shp m.zs) = true) : 1 ≤ m.rs.length ∧ m.rs.length ≤ 16 ∧ ∀ r ∈ m.rs, r.l.length = m.rs.length := by
  obtain ⟨h1, h2, h3⟩ := sqb_inv h
  rw [m.zs_len] at h1 h2 h3
  refine ⟨h1, h2, fun r hr => ?_⟩
  have := h3 r.zs (List.mem_map.2 ⟨r, hr, rfl⟩)
  rwa [Rw.zs_len] at this
theorem lz_zero {w : World} : Lz (0 : Int).natAbs (none, 0) w := by
  rw [show (0 : Int).natAbs = 0 from rfl, Lz, limbsOf_zero]
  exact ⟨Rd.nil _ _, Nat.le_refl _⟩
theorem optZF_none {w : World} : optZF none (none, 0) w := ⟨lz_zero, by rw [show (none.getD (0 : Int)).natAbs = 0 from rfl, nl_zero.2 rfl]; omega⟩
end Go.Qk
end
section
/- Det -/
set_option linter.unusedVariables false
namespace Go.Qk
open Go Go.Proofs Go.RowKit
set_option maxRecDepth 100000
set_option maxHeartbeats 4000000

theorem det_ret (m : Mt) (B : Nat) (w0 : World) (S : Nat → Prop) (hm : m.ok B w0) (hB : B ≤ 8388607) (hB1 : 1 ≤ B) (hlen : m.rs.length ≤ 35184372088832) (hrow : ∀ r ∈ m.rs, r.l.length ≤ 35184372088832) :
    Ret Try.prog 25 [m.v] w0 S (optZV (detO m.zs)) (optZF (detO m.zs)) := by
  refine ret_of Try.func25 rfl Try.ntmps25 rfl ?_
  refine tr_rseq ?_   -- region 0
  refine sq_alloc rfl fun r2 => ?_   -- t2
  refine sq_q (qt_assign rfl) rfl ?_   -- t3
  refine sq_end ?_
  refine tr_seq ?_   -- C1
  refine tr_rseq ?_   -- region 1
  refine sq_q (qt_move rfl) rfl ?_   -- t7
  refine sq_call (val := fun _ : Unit => sqrV (shp m.zs)) (F := fun _ _ => True) rfl rfl rfl (fun w t => square_ret m B w _ (t.mt hm) hlen hrow) fun _ => ?_   -- t8
  refine sq_q (qt_move rfl) rfl ?_   -- t6
  refine sq_q (qt_extract rfl rfl) rfl ?_   -- t9
  refine sq_q (qt_extract rfl rfl) rfl ?_   -- t10
  refine sq_q (qt_assign rfl) rfl ?_   -- t4
  refine sq_q (qt_assign rfl) rfl ?_   -- t5
  refine sq_end ?_
  refine tr_rseq ?_   -- region 2
  refine sq_q (qt_move rfl) rfl ?_   -- t11
  refine sq_q (qt_not rfl) rfl ?_   -- t12
  refine sq_end ?_
  refine tr_if rfl (fun hc => ?_) (fun hc => ?_)
  ·
    have hs : sqb (shp m.zs) = false := by simpa using hc
    have e : detO m.zs = none := by unfold detO; rw [if_neg (by rw [hs]; decide)]
    rw [e]
    refine tr_rseq ?_   -- region 3
    refine sq_q (qt_build rfl built0) rfl ?_   -- t13
    refine sq_store 0 rfl rfl rfl rfl (by first | (simp [u32s, Value.cells]; done) | (simp [u32s, Value.cells]; omega) | exact Nat.le_refl 2) rfl rfl ?_   -- R3.1
    refine sq_q (qt_assign rfl) rfl ?_   -- t3
    refine sq_end ?_
    refine tr_ret ?_
    repeat (first | (with_reducible refine tr_skip ?_) | (with_reducible refine tr_exit ?_) | (with_reducible refine tr_then ?_) | (with_reducible refine tr_inX ?_) | (with_reducible refine tr_thenX ?_) | (with_reducible refine tr_inN ?_) | (with_reducible refine tr_inR ?_) | (with_reducible refine tr_thenR ?_))
    exact tr_done (none, 0) (fun a w s t => results_2 rfl (by show ResV _ _ _ _ (iv 0 (none, 0)); rw [iv_zero]; exact resv_cell 0 s t rfl rfl rfl) (resv_tmp s rfl)) (fun w _ _ _ => optZF_none)
  ·
    have hs : sqb (shp m.zs) = true := by simpa using hc
    have e : detO m.zs = some (bdet m.rs.length (ent m.zs)) := by unfold detO; rw [if_pos hs, m.zs_len]
    rw [e]
    obtain ⟨h1, h2, h3⟩ := sqr_rows hs
    refine tr_skip ?_
    repeat (first | (with_reducible refine tr_skip ?_) | (with_reducible refine tr_exit ?_) | (with_reducible refine tr_then ?_) | (with_reducible refine tr_inX ?_) | (with_reducible refine tr_thenX ?_) | (with_reducible refine tr_inN ?_) | (with_reducible refine tr_inR ?_) | (with_reducible refine tr_thenR ?_))
    refine tr_rseq ?_   -- region 4
    refine sq_q (qt_move rfl) rfl ?_   -- t14
    refine sq_call (iv (bdet m.rs.length (ent m.zs))) (optZF (some (bdet m.rs.length (ent m.zs)))) rfl rfl rfl (fun w t => determinant_ret m B m.rs.length w _ (t.mt hm) hB hB1 rfl h1 h2 h3) fun x => ?_   -- t15
    refine sq_store 0 rfl rfl rfl rfl (by first | (simp [u32s, Value.cells]; done) | (simp [u32s, Value.cells]; omega) | exact Nat.le_refl 2) rfl rfl ?_   -- R4.2
    refine sq_q (qt_assign rfl) rfl ?_   -- t3
    refine sq_end ?_
    refine tr_ret ?_
    repeat (first | (with_reducible refine tr_skip ?_) | (with_reducible refine tr_exit ?_) | (with_reducible refine tr_then ?_) | (with_reducible refine tr_inX ?_) | (with_reducible refine tr_thenX ?_) | (with_reducible refine tr_inN ?_) | (with_reducible refine tr_inR ?_) | (with_reducible refine tr_thenR ?_))
    exact tr_done x (fun a w s t => results_2 rfl (resv_cell 0 s t rfl rfl rfl) (resv_tmp s rfl)) (fun w h _ _ => h.2)
end Go.Qk
end
section
/- Machine integers of 64 bits. -/
set_option linter.unusedVariables false
namespace Go.Qk
open Go Go.Proofs Go.RowKit
instance (z : Int) : Decidable (In64 z) := by unfold In64; infer_instance
def int64V (z : Int) : Value := .tuple #[.int .i64 (if In64 z then z else 0), .bool (decide (In64 z))]
theorem bin_orN64 {P : Program} {t : TypeId} {a b : Nat} (ha : a < 18446744073709551616) (hb : b < 18446744073709551616) : Bin P .or t (.int .u64 (a : Int)) (.int .u64 (b : Int)) (.int .u64 ((a ||| b : Nat) : Int)) := fun w => by
  have e : ((BitVec.ofInt 64 (a : Int)) ||| (BitVec.ofInt 64 (b : Int))).toNat = a ||| b := by
    rw [BitVec.toNat_or]
    have a1 : (BitVec.ofInt 64 (a : Int)).toNat = a := by simp; omega
    have a2 : (BitVec.ofInt 64 (b : Int)).toNat = b := by simp; omega
    rw [a1, a2]
  have hlt : a ||| b < 2 ^ 64 := Nat.or_lt_two_pow (by omega) (by omega)
  have e2 : IntKind.u64.wrap ((a ||| b : Nat) : Int) = ((a ||| b : Nat) : Int) := by rw [wu64]; omega
  change Result.ok (Value.int .u64 (IntKind.u64.wrap ((((BitVec.ofInt 64 (a : Int)) ||| (BitVec.ofInt 64 (b : Int))).toNat : Nat) : Int))) w = _
  rw [e, e2]
theorem or_add {v x k : Nat} (h : v < 2 ^ k) : v ||| (x * 2 ^ k) = v + 2 ^ k * x := by
  rw [Nat.or_comm, Nat.mul_comm, ← Nat.two_pow_add_eq_or_of_lt h]
  omega
theorem qt_toIw {P : Program} {J : World → Prop} {lk : Nat → Option Value} {ty : TypeId} {x : Operand} {src dst : TypeId} {k : IntKind} {a : Int} [hs : InT P src k] [hd : InT P dst .i64] (h : ev lk x = some (.int k a)) : Qt P J lk (.convert src dst x) ty (.int .i64 ((a + 9223372036854775808) % 18446744073709551616 - 9223372036854775808)) := by
  have := qt_conv (J := J) (ty := ty) hs.u hd.u h
  have e : IntKind.i64.wrap a = (a + 9223372036854775808) % 18446744073709551616 - 9223372036854775808 := by
    simp [IntKind.wrap, IntKind.signed, IntKind.bits]
    split <;> omega
  rwa [e] at this
/-- a guard that was itself not reached -/
theorem sq_gU {P : Program} {n : Nat} {w0 : World} {X : List Nat} {S : Nat → Prop} {E : Env} {own : Own} {R : World → Prop} {Q : Exit → Act → World → Prop} {ops : Array Oper} {rest : List Oper} {j : Nat} {dj : Nat} {b : Bool} {op : Op} {ty : TypeId} {d : Nat} {pos : String} {af : Array Edge} (hj : (ops[j]?).bind (·.dst) = some dj) (hv : look E dj = some undef) (hd : Nat.blt d n = true)
    (h : Sq P ops Q n w0 X S rest ((d, undef) :: E) own R) : Sq P ops Q n w0 X S (⟨some d, op, ty, pos, af, some (j, b)⟩ :: rest) E own R := by
  intro a w s t
  have hy : yielded ops a.tmps j = none := by
    unfold yielded
    rw [hj, Option.bind_some, s.has _ _ hv]
    rfl
  unfold wpList
  have e2 : Region.wanted ⟨some d, op, ty, pos, af, some (j, b)⟩ (yielded ops a.tmps) = false := by
    simp only [Region.wanted, hy]
    cases b <;> rfl
  rw [if_neg (by rw [e2]; simp)]
  exact h _ _ (s.put hd undef) t
/-- the index i of an ascending list below n -/
def ascAt (n : Int) (l : List Int) (i : Nat) : Bool := decide (0 ≤ l.getD i 0) && decide (l.getD i 0 < n) && (decide (i = 0) || decide (l.getD (i - 1) 0 < l.getD i 0))
def ascB (n : Int) (l : List Int) : Bool := decide (0 < l.length) && (List.range l.length).all (ascAt n l)
theorem ascB_false {n : Int} {l : List Int} {k : Nat} (hk : k < l.length) (h : ascAt n l k = false) : ascB n l = false := by
  unfold ascB
  rw [show (List.range l.length).all (ascAt n l) = false from by
    rw [List.all_eq_false]
    exact ⟨k, List.mem_range.2 hk, by rw [h]; decide⟩]
  simp
theorem ascB_all {n : Int} {l : List Int} (h : ∀ i, i < l.length → ascAt n l i = true) : ascB n l = decide (0 < l.length) := by
  unfold ascB
  rw [show (List.range l.length).all (ascAt n l) = true from by
    rw [List.all_eq_true]
    exact fun i hi => h i (List.mem_range.1 hi)]
  simp
end Go.Qk
end
