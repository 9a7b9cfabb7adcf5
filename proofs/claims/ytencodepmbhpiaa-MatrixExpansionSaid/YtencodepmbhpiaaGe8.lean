/- Lemmas and contracts of functions that the law reaches: B2, B3, Mh, B4. -/
import Derived.Test.YtencodepmbhpiaaGe7
set_option linter.unusedVariables false
set_option linter.unusedSimpArgs false
section
/- Lists without an index, parts of a matrix. -/
set_option linter.unusedVariables false
namespace Go.Qk
open Go Go.Proofs Go.RowKit
set_option maxRecDepth 100000
set_option maxHeartbeats 4000000

theorem without_ret (n : Nat) (i : Int) (w0 : World) (S : Nat → Prop) (hn : n ≤ 65536) :
    Ret Try.prog 72 [.int .i64 (n : Int), .int .i64 i] w0 S (fun p : Sv => .slice p.1 (wo n i).length p.2) (fun p w => Rd p.1 (ints (wo n i)) w ∧ (wo n i).length ≤ p.2) := by
  refine ret_of Try.func72 rfl Try.ntmps72 rfl ?_
  refine tr_rseq ?_   -- region 0
  refine sq_q (qt_assign rfl) rfl ?_   -- t4
  refine sq_end ?_
  refine tr_rseq ?_   -- region 1
  refine sq_q (qt_assign rfl) rfl ?_   -- t5
  refine sq_end ?_
  refine tr_seq ?_   -- C1
  refine tr_rseq ?_   -- region 2
  refine sq_q (qt_assign rfl) rfl ?_   -- t6
  refine sq_end ?_
  refine tr_block ?_
  refine tr_loop2 (fun (k : Nat) (p : Gr) => k ≤ n ∧ grOk 1 (wo k i).length (ints (wo k i)) p) (fun k p => [(0, .int .i64 (n : Int)), (1, .int .i64 i), (5, grV (wo k i).length p), (6, .int .i64 (k : Int))]) (fun k p => grO 3 (ints (wo k i)) p) (fun _ _ _ => True) (fun k _ => n - k) 0 none ⟨Nat.zero_le _, rfl, rfl⟩ ⟨rfl, rfl, rfl, rfl, trivial⟩ rfl (fun _ _ => trivial) ?_
  rintro k p ⟨hk, hok⟩
  refine tr_seq ?_   -- C2
  refine tr_rseq ?_   -- region 3
  refine sq_q (qt_move rfl) rfl ?_   -- t7
  refine sq_q (qt_move rfl) rfl ?_   -- t8
  refine sq_q (qt_bin rfl rfl bin_lss) rfl ?_   -- t9
  refine sq_end ?_
  refine tr_if rfl (fun hc => ?_) (fun hc => ?_)
  ·
    have hlt : k < n := by have := of_decide_eq_true hc; omega
    have hol : (wo k i).length ≤ k := wo_length k i
    refine tr_skip ?_
    repeat (first | (with_reducible refine tr_skip ?_) | (with_reducible refine tr_exit ?_) | (with_reducible refine tr_then ?_) | (with_reducible refine tr_inX ?_) | (with_reducible refine tr_thenX ?_) | (with_reducible refine tr_inN ?_) | (with_reducible refine tr_inR ?_) | (with_reducible refine tr_thenR ?_))
    refine tr_seq ?_   -- C3
    refine tr_block ?_
    refine tr_rseq ?_   -- region 5
    refine sq_q (qt_move rfl) rfl ?_   -- t12
    refine sq_q (qt_move rfl) rfl ?_   -- t13
    refine sq_q (qt_bin rfl rfl bin_neq) rfl ?_   -- t14
    refine sq_end ?_
    refine tr_if rfl (fun hc => ?_) (fun hc => ?_)
    ·
      have hne : (k : Int) ≠ i := of_decide_eq_true hc
      refine tr_region ?_   -- region 6
      refine sq_q (qt_move rfl) rfl ?_   -- t15
      refine sq_q (qt_move rfl) rfl ?_   -- t16
      refine sq_lit (vs := [(0, .int .i64 (k : Int))]) (cells := [.int .i64 (k : Int)]) rfl rfl rfl (by simp [Instr.fill, Value.cells, show Array.range 1 = #[0] from by decide]) rfl fun r17 => ?_   -- t17
      refine sq_own ((r17, .cells [Value.int .i64 (k : Int)].toArray 3 (0, 0)) :: (grO 3 (ints (wo k i)) p ++ [])) (by rw [List.append_nil]) ?_
      refine sq_grow (p := p) (k := (wo k i).length) (m := 1) (xs := ints (wo k i)) (news := [.int .i64 (k : Int)]) (own' := []) rfl rfl hok rfl (by omega) (by omega) (by omega) rfl rfl rfl rfl fun p' hok' => ?_
      rw [List.append_nil]   -- t18
      refine sq_q (qt_assign rfl) rfl ?_   -- t5
      refine sq_nil ?_
      repeat (first | (with_reducible refine tr_skip ?_) | (with_reducible refine tr_exit ?_) | (with_reducible refine tr_then ?_) | (with_reducible refine tr_inX ?_) | (with_reducible refine tr_thenX ?_) | (with_reducible refine tr_inN ?_) | (with_reducible refine tr_inR ?_) | (with_reducible refine tr_thenR ?_))
      refine tr_region ?_   -- region 4
      refine sq_q (qt_move rfl) rfl ?_   -- t10
      refine sq_q (qt_bin rfl rfl (bin_addI (by omega) (by omega))) rfl ?_   -- t11
      refine sq_q (qt_assign rfl) rfl ?_   -- t6
      refine sq_nil ?_
      repeat (first | (with_reducible refine tr_skip ?_) | (with_reducible refine tr_exit ?_) | (with_reducible refine tr_then ?_) | (with_reducible refine tr_inX ?_) | (with_reducible refine tr_thenX ?_) | (with_reducible refine tr_inN ?_) | (with_reducible refine tr_inR ?_) | (with_reducible refine tr_thenR ?_))
      have e : wo (k + 1) i = wo k i ++ [k] := wo_ne hne
      have e2 : ints (wo k i) ++ [Value.int .i64 (k : Int)] = ints (wo (k + 1) i) := by rw [e]; simp [ints]
      have e3 : (wo k i).length + 1 = (wo (k + 1) i).length := by rw [e]; simp
      rw [e2, e3] at hok'
      refine tr_round2 (k + 1) p' ⟨by omega, hok'⟩ (by omega) ⟨rfl, rfl, by rw [← e3]; rfl, rfl, trivial⟩ (by rw [← e2]) (fun _ h => h)
    ·
      have heq : (k : Int) = i := by have := of_decide_eq_false hc; omega
      refine tr_skip ?_
      repeat (first | (with_reducible refine tr_skip ?_) | (with_reducible refine tr_exit ?_) | (with_reducible refine tr_then ?_) | (with_reducible refine tr_inX ?_) | (with_reducible refine tr_thenX ?_) | (with_reducible refine tr_inN ?_) | (with_reducible refine tr_inR ?_) | (with_reducible refine tr_thenR ?_))
      refine tr_region ?_   -- region 4
      refine sq_q (qt_move rfl) rfl ?_   -- t10
      refine sq_q (qt_bin rfl rfl (bin_addI (by omega) (by omega))) rfl ?_   -- t11
      refine sq_q (qt_assign rfl) rfl ?_   -- t6
      refine sq_nil ?_
      repeat (first | (with_reducible refine tr_skip ?_) | (with_reducible refine tr_exit ?_) | (with_reducible refine tr_then ?_) | (with_reducible refine tr_inX ?_) | (with_reducible refine tr_thenX ?_) | (with_reducible refine tr_inN ?_) | (with_reducible refine tr_inR ?_) | (with_reducible refine tr_thenR ?_))
      have e : wo (k + 1) i = wo k i := wo_eq heq
      refine tr_round2 (k + 1) p ⟨by omega, by rw [e]; exact hok⟩ (by omega) ⟨rfl, rfl, by rw [e]; rfl, rfl, trivial⟩ (by rw [e]) (fun _ h => h)
  ·
    have hkn : k = n := by have := of_decide_eq_false hc; omega
    subst hkn
    refine tr_exit ?_
    repeat (first | (with_reducible refine tr_skip ?_) | (with_reducible refine tr_exit ?_) | (with_reducible refine tr_then ?_) | (with_reducible refine tr_inX ?_) | (with_reducible refine tr_thenX ?_) | (with_reducible refine tr_inN ?_) | (with_reducible refine tr_inR ?_) | (with_reducible refine tr_thenR ?_))
    refine tr_rseq ?_   -- region 7
    refine sq_q (qt_move rfl) rfl ?_   -- t19
    refine sq_q (qt_assign rfl) rfl ?_   -- t4
    refine sq_end ?_
    refine tr_ret ?_
    repeat (first | (with_reducible refine tr_skip ?_) | (with_reducible refine tr_exit ?_) | (with_reducible refine tr_then ?_) | (with_reducible refine tr_inX ?_) | (with_reducible refine tr_thenX ?_) | (with_reducible refine tr_inN ?_) | (with_reducible refine tr_inR ?_) | (with_reducible refine tr_thenR ?_))
    exact tr_done (grP p) (fun a w s t => results_1 rfl (resv_tmp s (by rw [← grP_v hok]; rfl))) (fun w _ ho _ => grP_rd hok ho)

theorem select_ret (m : Mt) (rs cs : List Nat) (p q : Sv) (B : Nat) (w0 : World) (S : Nat → Prop) (K : Zd → Prop) (hm : m.ok B w0) (hK : m.al K) (hp : Rd p.1 (ints rs) w0) (hq : Rd q.1 (ints cs) w0) (hrs : ∀ a ∈ rs, a < m.rs.length) (hcs : ∀ r ∈ m.rs, ∀ b ∈ cs, b < r.l.length) (hrl : rs.length ≤ 65536) (hcl : cs.length ≤ 65536) :
    Ret Try.prog 71 [m.v, .slice p.1 rs.length p.2, .slice q.1 cs.length q.2] w0 S Mt.v (fun x w => x.fr w ∧ x.al K ∧ x.zs = rs.map fun a => cs.map fun b => ent m.zs a b) := by
  refine ret_of Try.func71 rfl Try.ntmps71 rfl ?_
  refine tr_rseq ?_   -- region 0
  refine sq_q (qt_assign rfl) rfl ?_   -- t6
  refine sq_end ?_
  refine tr_rseq ?_   -- region 1
  refine sq_q (qt_assign rfl) rfl ?_   -- t7
  refine sq_end ?_
  refine tr_seq ?_   -- C1
  refine tr_rseq ?_   -- region 2
  refine sq_q (qt_move rfl) rfl ?_   -- t13
  refine sq_q (qt_len rfl) rfl ?_   -- t14
  refine sq_q (qt_move rfl) rfl ?_   -- t15
  refine sq_end ?_
  refine tr_block ?_
  refine tr_loop2 (fun (done : List Rw) (g : Gr) => done.length ≤ rs.length ∧ done.map Rw.zs = ((rs.take done.length).map fun a => cs.map fun b => ent m.zs a b) ∧ (∀ r ∈ done, ∀ z ∈ r.l, K z) ∧ grOk 1 done.length (done.map Rw.v) g) (fun done g => [(0, m.v), (2, .slice q.1 cs.length q.2), (7, grV done.length g), (13, .slice p.1 rs.length p.2), (14, .int .i64 (rs.length : Int)), (15, .int .i64 (done.length : Int))]) (fun done g => grO 44 (done.map Rw.v) g) (fun done g w => ∀ r ∈ done, Rd r.p.1 (zcs r.l) w ∧ r.l.length ≤ r.p.2) (fun done g => rs.length - done.length) [] none ⟨Nat.zero_le _, rfl, by simp, rfl, rfl⟩ ⟨rfl, rfl, rfl, rfl, rfl, rfl, trivial⟩ rfl (fun _ _ => by simp) ?_
  rintro done g ⟨hle, hzs, hcan, hok⟩
  refine tr_rseq ?_   -- region 3
  refine sq_q (qt_bin rfl rfl bin_lss) rfl ?_   -- t16
  refine sq_end ?_
  refine tr_seq ?_   -- C2
  refine tr_if rfl (fun hc => ?_) (fun hc => ?_)
  ·
    have hlt : done.length < rs.length := by have := of_decide_eq_true hc; omega
    obtain ⟨a, ha⟩ : ∃ a, a = rs[done.length] := ⟨_, rfl⟩
    have ham : a < m.rs.length := hrs a (by rw [ha]; exact List.getElem_mem hlt)
    have hga : (ints rs)[done.length]? = some (.int .i64 (a : Int)) := by simp [ints, hlt, ha]
    obtain ⟨rp, op, ep, hatp⟩ := hp.at_ hga
    obtain ⟨ro, oo, evm, hat⟩ := hm.at_ (show 0 < m.rs.length by omega)
    refine tr_sub [(0, .slice (some ⟨ro, oo, none⟩) m.rs.length m.p.2), (2, .slice q.1 cs.length q.2), (7, grV done.length g), (13, .slice (some ⟨rp, op, none⟩) rs.length p.2), (14, .int .i64 (rs.length : Int)), (15, .int .i64 (done.length : Int))] ⟨congrArg some evm, rfl, rfl, by show some (Value.slice p.1 rs.length p.2) = _; rw [ep], rfl, rfl, trivial⟩ ?_
    refine tr_skip ?_
    repeat (first | (with_reducible refine tr_skip ?_) | (with_reducible refine tr_exit ?_) | (with_reducible refine tr_then ?_) | (with_reducible refine tr_inX ?_) | (with_reducible refine tr_thenX ?_) | (with_reducible refine tr_inN ?_) | (with_reducible refine tr_inR ?_) | (with_reducible refine tr_thenR ?_))
    refine tr_seq ?_   -- C3
    refine tr_block ?_
    refine tr_rseq ?_   -- region 4
    refine sq_q (qt_index (i := done.length) rfl rfl hlt) rfl ?_   -- t17
    refine sq_q (qt_load rfl (fun w t => t.a1 hatp)) rfl ?_   -- t18
    refine sq_q (qt_assign rfl) rfl ?_   -- t9
    refine sq_end ?_
    refine tr_rseq ?_   -- region 5
    refine sq_q (qt_assign rfl) rfl ?_   -- t10
    refine sq_end ?_
    refine tr_seq ?_   -- C4
    refine tr_rseq ?_   -- region 6
    refine sq_q (qt_move rfl) rfl ?_   -- t19
    refine sq_q (qt_len rfl) rfl ?_   -- t20
    refine sq_q (qt_move rfl) rfl ?_   -- t21
    refine sq_end ?_
    refine tr_block ?_
    refine tr_own (grO 35 (zcs []) none ++ grO 44 (done.map Rw.v) g) rfl ?_
    refine tr_loop2 (fun (zs : List Zd) (h : Gr) => zs.length ≤ cs.length ∧ zs.map Zd.z = ((cs.take zs.length).map fun b => ent m.zs a b) ∧ (∀ z ∈ zs, K z) ∧ grOk 2 zs.length (zcs zs) h) (fun zs h => [(0, .slice (some ⟨ro, oo, none⟩) m.rs.length m.p.2), (2, .slice q.1 cs.length q.2), (7, grV done.length g), (9, .int .i64 (a : Int)), (10, grV zs.length h), (13, .slice (some ⟨rp, op, none⟩) rs.length p.2), (14, .int .i64 (rs.length : Int)), (15, .int .i64 (done.length : Int)), (19, .slice q.1 cs.length q.2), (20, .int .i64 (cs.length : Int)), (21, .int .i64 (zs.length : Int))]) (fun zs h => grO 35 (zcs zs) h ++ grO 44 (done.map Rw.v) g) (fun zs h w => ∀ r ∈ done, Rd r.p.1 (zcs r.l) w ∧ r.l.length ≤ r.p.2) (fun zs h => cs.length - zs.length) [] none ⟨Nat.zero_le _, rfl, by simp, rfl, rfl⟩ ⟨rfl, rfl, rfl, rfl, rfl, rfl, rfl, rfl, rfl, rfl, rfl, trivial⟩ rfl (fun _ h => h) ?_
    rintro zs h ⟨hle2, hzs2, hcan2, hok2⟩
    refine tr_rseq ?_   -- region 7
    refine sq_q (qt_bin rfl rfl bin_lss) rfl ?_   -- t22
    refine sq_end ?_
    refine tr_seq ?_   -- C5
    refine tr_if rfl (fun hc => ?_) (fun hc => ?_)
    ·
      have hlt2 : zs.length < cs.length := by have := of_decide_eq_true hc; omega
      obtain ⟨b, hb⟩ : ∃ b, b = cs[zs.length] := ⟨_, rfl⟩
      have hbm : b < m.rs[a].l.length := hcs _ (List.getElem_mem ham) b (by rw [hb]; exact List.getElem_mem hlt2)
      have hgb : (ints cs)[zs.length]? = some (.int .i64 (b : Int)) := by simp [ints, hlt2, hb]
      obtain ⟨rq, oq, eq, hatq⟩ := hq.at_ hgb
      obtain ⟨rr, orr, evr, hatr⟩ := (hm.2.2 _ (List.getElem_mem ham)).at_ (show 0 < m.rs[a].l.length by omega)
      have hrw := hat a ham
      rw [evr] at hrw
      obtain ⟨hz0, hz1⟩ := hatr b hbm
      have hzc := hK _ (List.getElem_mem ham) _ (List.getElem_mem hbm)
      have hze : m.rs[a].l[b].z = ent m.zs a b := (mt_ent ham hbm).symm
      obtain ⟨z, hzz⟩ : ∃ z, z = m.rs[a].l[b] := ⟨_, rfl⟩
      rw [← hzz] at hz0 hz1 hzc hze
      refine tr_sub [(0, .slice (some ⟨ro, oo, none⟩) m.rs.length m.p.2), (2, .slice q.1 cs.length q.2), (7, grV done.length g), (9, .int .i64 (a : Int)), (10, grV zs.length h), (13, .slice (some ⟨rp, op, none⟩) rs.length p.2), (14, .int .i64 (rs.length : Int)), (15, .int .i64 (done.length : Int)), (19, .slice (some ⟨rq, oq, none⟩) cs.length q.2), (20, .int .i64 (cs.length : Int)), (21, .int .i64 (zs.length : Int))] ⟨rfl, rfl, rfl, rfl, rfl, rfl, rfl, rfl, by show some (Value.slice q.1 cs.length q.2) = _; rw [eq], rfl, rfl, trivial⟩ ?_
      refine tr_skip ?_
      repeat (first | (with_reducible refine tr_skip ?_) | (with_reducible refine tr_exit ?_) | (with_reducible refine tr_then ?_) | (with_reducible refine tr_inX ?_) | (with_reducible refine tr_thenX ?_) | (with_reducible refine tr_inN ?_) | (with_reducible refine tr_inR ?_) | (with_reducible refine tr_thenR ?_))
      refine tr_seq ?_   -- C6
      refine tr_block ?_
      refine tr_rseq ?_   -- region 8
      refine sq_q (qt_index (i := zs.length) rfl rfl hlt2) rfl ?_   -- t23
      refine sq_q (qt_load rfl (fun w t => t.a1 hatq)) rfl ?_   -- t24
      refine sq_q (qt_assign rfl) rfl ?_   -- t12
      refine sq_end ?_
      refine tr_region ?_   -- region 9
      refine sq_q (qt_move rfl) rfl ?_   -- t25
      refine sq_q (qt_move rfl) rfl ?_   -- t26
      refine sq_q (qt_move rfl) rfl ?_   -- t27
      refine sq_q (qt_index (i := a) rfl rfl ham) rfl ?_   -- t28
      refine sq_q (qt_load rfl (fun w t => t.a1 hrw)) rfl ?_   -- t29
      refine sq_q (qt_move rfl) rfl ?_   -- t30
      refine sq_q (qt_index (i := b) rfl rfl hbm) rfl ?_   -- t31
      refine sq_q (qt_load2 rfl (fun w t => t.atA hz0) (fun w t => t.atA hz1)) rfl ?_   -- t32
      refine sq_lit (vs := [(0, .agg #[.bool z.n, slv z.xs z.p])]) (cells := zcs [z]) rfl rfl rfl (by simp [Instr.fill, Value.cells, zcs, Zd.cs, show Array.range 2 = #[0, 1] from by decide]) rfl fun r33 => ?_   -- t33
      refine sq_grow (p := h) (k := zs.length) (m := 1) (xs := zcs zs) (news := zcs [z]) (own' := grO 44 (done.map Rw.v) g) rfl rfl hok2 rfl (by omega) (by omega) (by omega) rfl rfl rfl rfl fun h' hok' => ?_   -- t34
      refine sq_q (qt_assign rfl) rfl ?_   -- t10
      refine sq_nil ?_
      repeat (first | (with_reducible refine tr_skip ?_) | (with_reducible refine tr_exit ?_) | (with_reducible refine tr_then ?_) | (with_reducible refine tr_inX ?_) | (with_reducible refine tr_thenX ?_) | (with_reducible refine tr_inN ?_) | (with_reducible refine tr_inR ?_) | (with_reducible refine tr_thenR ?_))
      refine tr_region ?_   -- region 10
      refine sq_q (qt_bin rfl rfl (bin_addI (by omega) (by omega))) rfl ?_   -- t35
      refine sq_q (qt_move rfl) rfl ?_   -- t21
      refine sq_nil ?_
      repeat (first | (with_reducible refine tr_skip ?_) | (with_reducible refine tr_exit ?_) | (with_reducible refine tr_then ?_) | (with_reducible refine tr_inX ?_) | (with_reducible refine tr_thenX ?_) | (with_reducible refine tr_inN ?_) | (with_reducible refine tr_inR ?_) | (with_reducible refine tr_thenR ?_))
      have e3 : (zs ++ [z]).length = zs.length + 1 := by simp
      refine tr_round2 (zs ++ [z]) h' ⟨by omega, ?_, ?_, ?_⟩ (by omega) ⟨rfl, rfl, rfl, rfl, by rw [e3]; rfl, rfl, rfl, rfl, by rw [eq]; rfl, rfl, by rw [e3]; rfl, trivial⟩ (by rw [zcs_append]) (fun w hh => hh)
      · rw [e3, List.take_succ_eq_append_getElem hlt2, List.map_append, List.map_append, hzs2, ← hb]
        simp [hze]
      · intro z' hz'
        rcases List.mem_append.1 hz' with h1 | h1
        · exact hcan2 z' h1
        · rw [List.mem_singleton.1 h1]; exact hzc
      · rw [e3, zcs_append]; exact hok'
    ·
      have hze : zs.length = cs.length := by have := of_decide_eq_false hc; omega
      refine tr_exit ?_
      repeat (first | (with_reducible refine tr_skip ?_) | (with_reducible refine tr_exit ?_) | (with_reducible refine tr_then ?_) | (with_reducible refine tr_inX ?_) | (with_reducible refine tr_thenX ?_) | (with_reducible refine tr_inN ?_) | (with_reducible refine tr_inR ?_) | (with_reducible refine tr_thenR ?_))
      refine tr_retireG hok2 ?_
      refine tr_sub [(0, .slice (some ⟨ro, oo, none⟩) m.rs.length m.p.2), (2, .slice q.1 cs.length q.2), (7, grV done.length g), (10, Rw.v ⟨zs, grP h⟩), (13, .slice (some ⟨rp, op, none⟩) rs.length p.2), (14, .int .i64 (rs.length : Int)), (15, .int .i64 (done.length : Int))] ⟨rfl, rfl, rfl, congrArg some (grP_v hok2), rfl, rfl, rfl, trivial⟩ ?_
      refine tr_region ?_   -- region 11
      refine sq_q (qt_move rfl) rfl ?_   -- t36
      refine sq_q (qt_move rfl) rfl ?_   -- t37
      refine sq_lit (vs := [(0, Rw.v ⟨zs, grP h⟩)]) (cells := [Rw.v ⟨zs, grP h⟩]) rfl rfl rfl (by simp [Instr.fill, Value.cells, Rw.v, show Array.range 1 = #[0] from by decide]) rfl fun r38 => ?_   -- t38
      refine sq_own ((r38, .cells [Rw.v ⟨zs, grP h⟩].toArray 44 (0, 0)) :: (grO 44 (done.map Rw.v) g ++ [])) (by rw [List.append_nil]) ?_
      refine sq_grow (p := g) (k := done.length) (m := 1) (xs := done.map Rw.v) (news := [Rw.v ⟨zs, grP h⟩]) (own' := []) rfl rfl hok rfl (by omega) (by omega) (by omega) rfl rfl rfl rfl fun g' hok' => ?_
      rw [List.append_nil]   -- t39
      refine sq_q (qt_assign rfl) rfl ?_   -- t7
      refine sq_nil ?_
      repeat (first | (with_reducible refine tr_skip ?_) | (with_reducible refine tr_exit ?_) | (with_reducible refine tr_then ?_) | (with_reducible refine tr_inX ?_) | (with_reducible refine tr_thenX ?_) | (with_reducible refine tr_inN ?_) | (with_reducible refine tr_inR ?_) | (with_reducible refine tr_thenR ?_))
      refine tr_region ?_   -- region 12
      refine sq_q (qt_bin rfl rfl (bin_addI (by omega) (by omega))) rfl ?_   -- t40
      refine sq_q (qt_move rfl) rfl ?_   -- t15
      refine sq_nil ?_
      repeat (first | (with_reducible refine tr_skip ?_) | (with_reducible refine tr_exit ?_) | (with_reducible refine tr_then ?_) | (with_reducible refine tr_inX ?_) | (with_reducible refine tr_thenX ?_) | (with_reducible refine tr_inN ?_) | (with_reducible refine tr_inR ?_) | (with_reducible refine tr_thenR ?_))
      have e3 : (done ++ [Rw.mk zs (grP h)]).length = done.length + 1 := by simp
      refine tr_have (p := zs.length ≤ (grP h).2) (fun w t => by
        match h, hok2 with
        | none, h3 => rw [h3.1]; exact Nat.zero_le _
        | some (g0, c0, sl0), h3 => exact h3.1) fun hcap => ?_
      refine tr_round2 (done ++ [⟨zs, grP h⟩]) g' ⟨by omega, ?_, ?_, ?_⟩ (by omega) ⟨congrArg some evm.symm, rfl, by rw [e3]; rfl, by rw [ep]; rfl, rfl, by rw [e3]; rfl, trivial⟩ (by rw [List.map_append]; rfl) (fun w hh r hr => ?_)
      · rw [e3, List.take_succ_eq_append_getElem hlt, List.map_append, List.map_append, hzs, ← ha]
        congr 1
        show [zs.map Zd.z] = _
        rw [hzs2, hze, List.take_length]
        rfl
      · intro r hr
        rcases List.mem_append.1 hr with h1 | h1
        · exact hcan r h1
        · rw [List.mem_singleton.1 h1]; exact hcan2
      · rw [e3, List.map_append]; exact hok'
      · rcases List.mem_append.1 hr with h1 | h1
        · exact hh.1 _ h1
        · rw [List.mem_singleton.1 h1]; exact ⟨hh.2, hcap⟩
  ·
    have hlr : done.length = rs.length := by have := of_decide_eq_false hc; omega
    refine tr_exit ?_
    repeat (first | (with_reducible refine tr_skip ?_) | (with_reducible refine tr_exit ?_) | (with_reducible refine tr_then ?_) | (with_reducible refine tr_inX ?_) | (with_reducible refine tr_thenX ?_) | (with_reducible refine tr_inN ?_) | (with_reducible refine tr_inR ?_) | (with_reducible refine tr_thenR ?_))
    refine tr_rseq ?_   -- region 13
    refine sq_q (qt_move rfl) rfl ?_   -- t41
    refine sq_q (qt_assign rfl) rfl ?_   -- t6
    refine sq_end ?_
    refine tr_ret ?_
    repeat (first | (with_reducible refine tr_skip ?_) | (with_reducible refine tr_exit ?_) | (with_reducible refine tr_then ?_) | (with_reducible refine tr_inX ?_) | (with_reducible refine tr_thenX ?_) | (with_reducible refine tr_inN ?_) | (with_reducible refine tr_inR ?_) | (with_reducible refine tr_thenR ?_))
    refine tr_done ⟨done, grP g⟩ (fun a w s t => results_1 rfl (resv_tmp s (by show some (grV done.length g) = some (Mt.v ⟨done, grP g⟩); rw [grP_v hok]; rfl))) (fun w h ho _ => ⟨⟨(grP_rd hok ho).1, (grP_rd hok ho).2, h⟩, hcan, ?_⟩)
    show done.map Rw.zs = _
    rw [hzs, hlr, List.take_length]
end Go.Qk
end
section
/- Expansion along the first row. -/
set_option linter.unusedVariables false
namespace Go.Qk
open Go Go.Proofs Go.RowKit
set_option maxRecDepth 100000
set_option maxHeartbeats 4000000

theorem expansion_step (n : Nat) (IH : ∀ k, k < n → ∀ (m : Mt) (B : Nat) (w0 : World) (S : Nat → Prop), m.ok B w0 → m.rs.length = k → (∀ q ∈ m.rs, q.l.length = k) → lb B k ≤ 1000000000 → Ret Try.prog 29 [m.v] w0 S (iv (lap k (ent m.zs))) (fun p w => Lz (lap k (ent m.zs)).natAbs p w ∧ nl (lap k (ent m.zs)).natAbs ≤ lb B k))
    (m : Mt) (B : Nat) (w0 : World) (S : Nat → Prop) (hm : m.ok B w0) (hl : m.rs.length = n) (hr : ∀ q ∈ m.rs, q.l.length = n) (hb : lb B n ≤ 1000000000) (hn : n ≤ 65536) :
    Ret Try.prog 29 [m.v] w0 S (iv (lap n (ent m.zs))) (fun p w => Lz (lap n (ent m.zs)).natAbs p w ∧ nl (lap n (ent m.zs)).natAbs ≤ lb B n) := by
  refine ret_of Try.func29 rfl Try.ntmps29 rfl ?_
  refine tr_rseq ?_   -- region 0
  refine sq_alloc rfl fun r2 => ?_   -- t2
  refine sq_end ?_
  refine tr_seq ?_   -- C1
  refine tr_rseq ?_   -- region 1
  refine sq_q (qt_move rfl) rfl ?_   -- t7
  refine sq_q (qt_len rfl) rfl ?_   -- t8
  refine sq_q (qt_bin rfl rfl bin_eql) rfl ?_   -- t9
  refine sq_end ?_
  refine tr_if rfl (fun hc => ?_) (fun hc => ?_)
  ·
    have h0 : n = 0 := by have := of_decide_eq_true hc; omega
    subst h0
    refine tr_rseq ?_   -- region 2
    refine sq_call (iv 1) (Lz (1 : Int).natAbs) rfl rfl rfl (fun w t => rsmall_ret 1 w _ (by omega) (by omega)) fun x => ?_   -- t10
    refine sq_store 0 rfl rfl rfl rfl (Nat.le_refl 2) rfl rfl ?_   -- R2.1
    refine sq_end ?_
    refine tr_ret ?_
    repeat (first | (with_reducible refine tr_skip ?_) | (with_reducible refine tr_exit ?_) | (with_reducible refine tr_then ?_) | (with_reducible refine tr_inX ?_) | (with_reducible refine tr_thenX ?_) | (with_reducible refine tr_inN ?_) | (with_reducible refine tr_inR ?_) | (with_reducible refine tr_thenR ?_))
    exact tr_done x (fun a w s t => results_1 rfl (resv_cell 0 s t rfl rfl rfl)) (fun w h _ _ => ⟨h.2, nl_64 (a := 1) (by decide)⟩)
  ·
    obtain ⟨k, rfl⟩ : ∃ k, n = k + 1 := ⟨n - 1, by have := of_decide_eq_false hc; omega⟩
    obtain ⟨g, hg⟩ : ∃ g : Mf, g = ent m.zs := ⟨_, rfl⟩
    obtain ⟨G, hG⟩ : ∃ G : Nat → Int, G = fun j => sg j * g 0 j * lap k (mnr g j) := ⟨_, rfl⟩
    have hlap : lap (k + 1) (ent m.zs) = sumN (k + 1) G := by rw [hG, hg]; rfl
    rw [hlap]
    have hm0 : 0 < m.rs.length := by omega
    obtain ⟨ro, oo, evm, hat⟩ := hm.at_ hm0
    obtain ⟨rr, orr, evr, hatr⟩ := (hm.2.2 _ (List.getElem_mem hm0)).at_ (show 0 < m.rs[0].l.length by rw [hr _ (List.getElem_mem hm0)]; omega)
    have hrl0 : m.rs[0].l.length = k + 1 := hr _ (List.getElem_mem hm0)
    have hrw := hat 0 hm0
    rw [evr] at hrw
    have hlb : lb B k ≤ 1000000000 := by rw [lb] at hb; omega
    have hBb : B + lb B k + (k + 1) ≤ 1000000000 := hb
    refine tr_skip ?_
    repeat (first | (with_reducible refine tr_skip ?_) | (with_reducible refine tr_exit ?_) | (with_reducible refine tr_then ?_) | (with_reducible refine tr_inX ?_) | (with_reducible refine tr_thenX ?_) | (with_reducible refine tr_inN ?_) | (with_reducible refine tr_inR ?_) | (with_reducible refine tr_thenR ?_))
    refine tr_rseq ?_   -- region 3
    refine sq_q (qt_build rfl built0) rfl ?_   -- t11
    refine sq_alloc rfl fun r3 => ?_   -- t3
    refine sq_store 0 rfl rfl rfl rfl (Nat.le_refl 2) rfl rfl ?_   -- R3.2
    refine sq_end ?_
    refine tr_seq ?_   -- C2
    refine tr_rseq ?_   -- region 4
    refine sq_q (qt_move rfl) rfl ?_   -- t12
    refine sq_q (qt_len rfl) rfl ?_   -- t13
    refine sq_q (qt_move rfl) rfl ?_   -- t14
    refine sq_end ?_
    refine tr_block ?_
    refine tr_own [zblk r3 (zd (sumN 0 G) (none, 0)), zblk r2 z0] (by rw [zblk_zero]; rfl) ?_
    refine tr_loop2 (fun (j : Nat) (p : Sv) => j ≤ k + 1 ∧ nl (sumN j G).natAbs ≤ B + lb B k + j) (fun j p => [(0, .slice (some ⟨ro, oo, none⟩) (k + 1) m.p.2), (2, .pointer (some ⟨r2, 0, none⟩)), (3, .pointer (some ⟨r3, 0, none⟩)), (13, .int .i64 ((k + 1 : Nat) : Int)), (14, .int .i64 (j : Int))])
      (fun j p => [zblk r3 (zd (sumN j G) p), zblk r2 z0]) (fun j p w => Lz (sumN j G).natAbs p w) (fun j p => k + 1 - j) 0 (none, 0) ⟨Nat.zero_le _, by rw [show (sumN 0 G).natAbs = 0 from rfl, nl_zero.2 rfl]; omega⟩ ⟨by rw [← hl]; exact congrArg some evm, rfl, rfl, congrArg (fun z => some (Value.int .i64 ((z : Nat) : Int))) hl, rfl, trivial⟩ rfl (fun w _ => lz_zero) ?_
    rintro j p ⟨hj, hsb⟩
    refine tr_rseq ?_   -- region 5
    refine sq_q (qt_bin rfl rfl bin_lss) rfl ?_   -- t15
    refine sq_end ?_
    refine tr_seq ?_   -- C3
    refine tr_if rfl (fun hc => ?_) (fun hc => ?_)
    ·
      have hlt : j < k + 1 := by have := of_decide_eq_true hc; omega
      have hjl : j < m.rs[0].l.length := by omega
      obtain ⟨hz0, hz1⟩ := hatr j hjl
      have hzok := (hm.2.2 _ (List.getElem_mem hm0)).2.2 _ (List.getElem_mem hjl)
      have hze : m.rs[0].l[j].z = g 0 j := by rw [hg]; exact (mt_ent hm0 hjl).symm
      obtain ⟨D, hD⟩ : ∃ D, D = lap k (mnr g j) := ⟨_, rfl⟩
      obtain ⟨Pj, hP⟩ : ∃ Pj, Pj = g 0 j * D := ⟨_, rfl⟩
      have hGj : G j = sg j * Pj := by rw [hG, hP, hD]; exact Int.mul_assoc _ _ _
      have hs1 : sumN (j + 1) G = sumN j G + G j := rfl
      have evm' : m.v = .slice (some ⟨ro, oo, none⟩) m.rs.length m.p.2 := evm
      have htl := fun (w : World) (h : m.ok B w) => Mt.tl_ok h evm'
      have hcap : k + 1 ≤ m.p.2 := by have := hm.2.1; omega
      have htll : (m.tl ro oo).rs.length = k := by show (m.rs.drop 1).length = k; rw [List.length_drop]; omega
      have etl : (m.tl ro oo).v = .slice (some ⟨ro, if m.p.2 = 1 then oo else oo + 1 * 1, none⟩) (k + 1 - 1) (m.p.2 - 1) := by unfold Mt.v; rw [htll]; rfl
      have hnlb : nl (g 0 j).natAbs ≤ B := by rw [← hze]; exact nl_zd hzok
      refine tr_skip ?_
      repeat (first | (with_reducible refine tr_skip ?_) | (with_reducible refine tr_exit ?_) | (with_reducible refine tr_then ?_) | (with_reducible refine tr_inX ?_) | (with_reducible refine tr_thenX ?_) | (with_reducible refine tr_inN ?_) | (with_reducible refine tr_inR ?_) | (with_reducible refine tr_thenR ?_))
      refine tr_seq ?_   -- C4
      refine tr_block ?_
      refine tr_rseq ?_   -- region 6
      refine sq_q (qt_move rfl) rfl ?_   -- t16
      refine sq_q (qt_assign rfl) rfl ?_   -- t4
      refine sq_end ?_
      refine tr_rdraw 16 [] [] [0, 2, 3, 4, 5, 6, 9, 13, 14, 15, 31, 42] (by kernel_rfl) ?_   -- region 7
      refine dx_q rfl (qt_move rfl) rfl ?_   -- t17
      refine dx_q rfl (qt_sliceL' (l := 1) rfl rfl (by omega) (by omega)) rfl ?_   -- t18
      refine dx_q rfl (qt_move rfl) rfl ?_   -- t19
      refine dx_q rfl (qt_len rfl) rfl ?_   -- t20
      refine dx_call (fun p : Sv => .slice p.1 (k + 1) p.2) (fun p w => Rd p.1 (ints (List.range (k + 1))) w ∧ k + 1 ≤ p.2) rfl rfl rfl (fun w t => by have h := fun S' => without_ret (k + 1) (-1) w S' hn; rw [wo_neg, List.length_range] at h; exact h _) ?_   -- t21
      refine dx_q rfl (qt_move rfl) rfl ?_   -- t22
      refine dx_q rfl (qt_len rfl) rfl ?_   -- t23
      refine dx_q rfl (qt_bin rfl rfl (bin_subI (by omega) (by omega))) rfl ?_
      rw [show (((k + 1 : Nat) : Int)) - 1 = (k : Int) by omega]   -- t24
      refine dx_q1 21 (fun p : Sv => .slice p.1 k p.2) rfl rfl (fun o ho => mem_looksAt (by rw [ho]; simp [Op.operands])) (fun p => qt_have (p := k + 1 ≤ p.2) (fun w t => t.r.2.2) fun hp => qt_sliceH rfl rfl (by omega)) rfl ?_   -- t25
      refine dx_q rfl (qt_move rfl) rfl ?_   -- t26
      refine dx_q rfl (qt_len rfl) rfl ?_   -- t27
      refine dx_q rfl (qt_move rfl) rfl ?_   -- t28
      refine dx_call (fun p : Sv => .slice p.1 k p.2) (fun p w => Rd p.1 (ints ((List.range k).map (sk j))) w ∧ k ≤ p.2) rfl rfl rfl (fun w t => by have h := fun S' => without_ret (k + 1) (j : Int) w S' hn; rw [wo_at hlt, List.length_map, List.length_range] at h; exact h _) ?_   -- t29
      refine dx_call2 25 29 Mt.v (fun x w => x.fr w ∧ x.al (fun z => z.ok B w0) ∧ x.zs = grid (mnr g j) k k) rfl rfl rfl (by simp) (by simp) (fun _ _ => rfl) (fun _ _ => rfl) (fun y z w t => by
        have h := fun S' => select_ret (m.tl ro oo) (List.range k) ((List.range k).map (sk j)) y z B w S' (fun z => z.ok B w0) (htl w (t.mt hm)) (fun q hq z hz => (hm.2.2 q (List.mem_of_mem_drop hq)).2.2 z hz) (by have := t.r.1.2.1; rw [List.range_succ, show ints (List.range k ++ [k]) = ints (List.range k) ++ ints [k] by simp [ints]] at this; exact this.left) t.r.2.1 (fun a ha => by rw [htll]; exact List.mem_range.1 ha) (fun q hq b hb => by rw [hr q (List.mem_of_mem_drop hq)]; obtain ⟨i, hi, rfl⟩ := List.mem_map.1 hb; exact sk_lt (List.mem_range.1 hi)) (by simp; omega) (by simp; omega)
        rw [etl, List.length_map, List.length_range] at h
        refine (h _).imp fun x w' hx => ⟨hx.1, hx.2.1, ?_⟩
        rw [hx.2.2]
        unfold grid
        refine List.map_congr_left fun a ha => ?_
        rw [List.map_map]
        refine List.map_congr_left fun b hb => ?_
        show ent (m.tl ro oo).zs a (sk j b) = g (a + 1) (sk j b)
        rw [Mt.tl_ent hm0, hg]) ?_   -- t30
      refine dx_call1 30 (iv D) (fun p w => Lz D.natAbs p w ∧ nl D.natAbs ≤ lb B k) rfl rfl (by simp) rfl (fun _ => rfl) (fun _ => rfl) (fun y w t => by
        obtain ⟨q1, q2⟩ := mt_lens t.r.2.2.2
        have h := fun S' => IH k (by omega) y B w S' (t.r.2.1.ok t.r.2.2.1 t) q1 q2 hlb
        have e : lap k (ent y.zs) = D := by rw [hD, t.r.2.2.2]; exact lap_congr fun a b ha hb => ent_grid ha hb
        rw [e] at h
        exact h _) ?_   -- t31
      refine dx_alloc rfl ?_   -- t5
      refine dx_nil ?_
      repeat (first | refine es_val rfl ?_ rfl | refine es_skip rfl ?_)
      refine es_res rfl (fun r5 => ?_) rfl
      repeat (first | refine es_val rfl ?_ rfl | refine es_skip rfl ?_)
      refine es_res rfl (fun x31 => ?_) rfl
      repeat (first | refine es_val rfl ?_ rfl | refine es_skip rfl ?_)
      refine es_adopt (zblk r5 z0 :: zblk r3 (zd (sumN j G) p) :: zblk r2 z0 :: []) (fun w => Lz (sumN j G).natAbs p w ∧ (Lz D.natAbs x31 w ∧ nl D.natAbs ≤ lb B k)) rfl (fun w t => t.adoptL t.r.1.2.1 t.r.1.2.2.1 t.r.1.2.2.2 (not_u32b_z0 _ _) (fun w h => ⟨h.1.1, h.2⟩) ((LimbR.lm _ _).and ((LimbR.lm _ _).and (LimbR.const _)))) ?_
      refine tx_store 0 rfl rfl rfl rfl (Nat.le_refl 2) rfl rfl rfl ?_   -- _
      refine tx_endk ?_
      refine tr_have (fun w t => t.r.2.2) fun hDb => ?_
      refine tr_own (zblk r5 (zd D x31) :: zblk r3 (zd (sumN j G) p) :: zblk r2 z0 :: []) rfl ?_
      have hPb : nl Pj.natAbs ≤ B + lb B k := by have := nl_imul (g 0 j) D; rw [hP]; omega
      have hGb : nl (G j).natAbs ≤ B + lb B k := by rw [hGj, sg_nl]; exact hPb
      have hsb' : nl (sumN (j + 1) G).natAbs ≤ B + lb B k + (j + 1) := by have := nl_iadd (sumN j G) (G j); rw [hs1]; omega
      refine tr_rdraw 9 [] [] [0, 2, 3, 4, 5, 6, 9, 13, 14, 15, 39, 42] (by kernel_rfl) ?_   -- region 8
      refine dx_q rfl (qt_move rfl) rfl ?_   -- t32
      refine dx_q rfl (qt_index (i := 0) rfl rfl (by omega)) rfl ?_   -- t33
      refine dx_q rfl (qt_load rfl (fun w t => t.a1 hrw)) rfl ?_   -- t34
      refine dx_q rfl (qt_move rfl) rfl ?_   -- t35
      refine dx_q rfl (qt_index (i := j) rfl rfl hjl) rfl ?_   -- t36
      refine dx_q rfl (qt_load2 rfl (fun w t => t.atA hz0) (fun w t => t.atA hz1)) rfl ?_   -- t37
      refine dx_q rfl (qt_load2 rfl (fun w t => t.atO 0 rfl rfl) (fun w t => t.atO 0 rfl rfl)) rfl ?_   -- t38
      refine dx_call (iv Pj) (Lz Pj.natAbs) rfl rfl rfl (fun w t => by have h := fun S' => rmul_zd (S := S') (t.zd hzok) (zd_ok t.r.2.1 hDb) (by omega); rw [zd_z, hze, ← hP] at h; exact h _) ?_   -- t39
      refine dx_alloc rfl ?_   -- t6
      refine dx_nil ?_
      repeat (first | refine es_val rfl ?_ rfl | refine es_skip rfl ?_)
      refine es_res rfl (fun r6 => ?_) rfl
      repeat (first | refine es_val rfl ?_ rfl | refine es_skip rfl ?_)
      refine es_res rfl (fun x39 => ?_) rfl
      repeat (first | refine es_val rfl ?_ rfl | refine es_skip rfl ?_)
      refine es_adopt (zblk r6 z0 :: zblk r5 (zd D x31) :: zblk r3 (zd (sumN j G) p) :: zblk r2 z0 :: []) (fun w => Lz (sumN j G).natAbs p w ∧ Lz Pj.natAbs x39 w) rfl (fun w t => t.adoptL t.r.1.2.1 t.r.1.2.2.1 t.r.1.2.2.2 (not_u32b_z0 _ _) (fun w h => ⟨h.1.1.1, h.2⟩) ((LimbR.lm _ _).and (LimbR.lm _ _))) ?_
      refine tx_store 0 rfl rfl rfl rfl (Nat.le_refl 2) rfl rfl rfl ?_   -- _
      refine tx_endk ?_
      refine tr_own (zblk r6 (zd Pj x39) :: zblk r5 (zd D x31) :: zblk r3 (zd (sumN j G) p) :: zblk r2 z0 :: []) rfl ?_
      refine tr_seq ?_   -- C5
      refine tr_rseq ?_   -- region 9
      refine sq_q (qt_move rfl) rfl ?_   -- t40
      refine sq_q (qt_bin rfl rfl (bin_rem (by omega) (by omega))) rfl ?_   -- t41
      refine sq_q (qt_bin rfl rfl bin_eql) rfl ?_   -- t42
      refine sq_end ?_
      refine tr_if rfl (fun hc => ?_) (fun hc => ?_)
      ·
        have hsg : sg j = -1 := by have := of_decide_eq_true hc; unfold sg; rw [if_pos (by omega)]
        have hQ : G j = -Pj := by rw [hGj, hsg]; omega
        refine tr_region ?_   -- region 10
        refine sq_q (qt_load2 rfl (fun w t => t.atO 0 rfl rfl) (fun w t => t.atO 0 rfl rfl)) rfl ?_   -- t43
        refine sq_call (iv (G j)) (Lz (G j).natAbs) rfl rfl rfl (fun w t => by rw [hQ]; exact rneg_iv t.r.2 (by omega)) fun x44 => ?_   -- t44
        refine sq_store 0 rfl rfl rfl rfl (Nat.le_refl 2) rfl rfl ?_   -- R10.2
        refine sq_nil ?_
        refine tr_own (zblk r6 (zd (G j) x44) :: zblk r5 (zd D x31) :: zblk r3 (zd (sumN j G) p) :: zblk r2 z0 :: []) rfl ?_
        refine tr_weak (fun w => Lz (sumN j G).natAbs p w ∧ Lz (G j).natAbs x44 w) (fun w h => ⟨h.1.1, h.2⟩) ?_
        repeat (first | (with_reducible refine tr_skip ?_) | (with_reducible refine tr_exit ?_) | (with_reducible refine tr_then ?_) | (with_reducible refine tr_inX ?_) | (with_reducible refine tr_thenX ?_) | (with_reducible refine tr_inN ?_) | (with_reducible refine tr_inR ?_) | (with_reducible refine tr_thenR ?_))
        refine tr_region ?_   -- region 11
        refine sq_q (qt_load2 rfl (fun w t => t.atO 2 rfl rfl) (fun w t => t.atO 2 rfl rfl)) rfl ?_   -- t45
        refine sq_q (qt_load2 rfl (fun w t => t.atO 0 rfl rfl) (fun w t => t.atO 0 rfl rfl)) rfl ?_   -- t46
        refine sq_call (iv (sumN (j + 1) G)) (Lz (sumN (j + 1) G).natAbs) rfl rfl rfl (fun w t => by rw [hs1]; exact radd_iv t.r.1 t.r.2 (by omega) (by omega)) fun x47 => ?_   -- t47
        refine sq_store 2 rfl rfl rfl rfl (Nat.le_refl 2) rfl rfl ?_   -- R11.3
        refine sq_nil ?_
        repeat (first | (with_reducible refine tr_skip ?_) | (with_reducible refine tr_exit ?_) | (with_reducible refine tr_then ?_) | (with_reducible refine tr_inX ?_) | (with_reducible refine tr_thenX ?_) | (with_reducible refine tr_inN ?_) | (with_reducible refine tr_inR ?_) | (with_reducible refine tr_thenR ?_))
        refine tr_region ?_   -- region 12
        refine sq_q (qt_bin rfl rfl (bin_addI (by omega) (by omega))) rfl ?_   -- t48
        refine sq_q (qt_move rfl) rfl ?_   -- t14
        refine sq_nil ?_
        repeat (first | (with_reducible refine tr_skip ?_) | (with_reducible refine tr_exit ?_) | (with_reducible refine tr_then ?_) | (with_reducible refine tr_inX ?_) | (with_reducible refine tr_thenX ?_) | (with_reducible refine tr_inN ?_) | (with_reducible refine tr_inR ?_) | (with_reducible refine tr_thenR ?_))
        refine tr_own (zblk r6 (zd (G j) x44) :: zblk r5 (zd D x31) :: zblk r3 (zd (sumN (j + 1) G) x47) :: zblk r2 z0 :: []) rfl ?_
        refine tr_drop (zblk r3 (zd (sumN (j + 1) G) x47) :: zblk r2 z0 :: []) ((List.Sublist.refl _).cons _ |>.cons _) ?_
        refine tr_round2 (j + 1) x47 ⟨hlt, hsb'⟩ (by omega) ⟨rfl, rfl, rfl, rfl, rfl, trivial⟩ rfl (fun w h => h.2)
      ·
        have hsg : sg j = 1 := by have := of_decide_eq_false hc; unfold sg; rw [if_neg (by omega)]
        have hQ : Pj = G j := by rw [hGj, hsg]; omega
        refine tr_own (zblk r6 (zd (G j) x39) :: zblk r5 (zd D x31) :: zblk r3 (zd (sumN j G) p) :: zblk r2 z0 :: []) (by rw [hQ]) ?_
        refine tr_weak (fun w => Lz (sumN j G).natAbs p w ∧ Lz (G j).natAbs x39 w) (fun w h => ⟨h.1, by rw [← hQ]; exact h.2⟩) ?_
        refine tr_skip ?_
        repeat (first | (with_reducible refine tr_skip ?_) | (with_reducible refine tr_exit ?_) | (with_reducible refine tr_then ?_) | (with_reducible refine tr_inX ?_) | (with_reducible refine tr_thenX ?_) | (with_reducible refine tr_inN ?_) | (with_reducible refine tr_inR ?_) | (with_reducible refine tr_thenR ?_))
        refine tr_region ?_   -- region 11
        refine sq_q (qt_load2 rfl (fun w t => t.atO 2 rfl rfl) (fun w t => t.atO 2 rfl rfl)) rfl ?_   -- t45
        refine sq_q (qt_load2 rfl (fun w t => t.atO 0 rfl rfl) (fun w t => t.atO 0 rfl rfl)) rfl ?_   -- t46
        refine sq_call (iv (sumN (j + 1) G)) (Lz (sumN (j + 1) G).natAbs) rfl rfl rfl (fun w t => by rw [hs1]; exact radd_iv t.r.1 t.r.2 (by omega) (by omega)) fun x47 => ?_   -- t47
        refine sq_store 2 rfl rfl rfl rfl (Nat.le_refl 2) rfl rfl ?_   -- R11.3
        refine sq_nil ?_
        repeat (first | (with_reducible refine tr_skip ?_) | (with_reducible refine tr_exit ?_) | (with_reducible refine tr_then ?_) | (with_reducible refine tr_inX ?_) | (with_reducible refine tr_thenX ?_) | (with_reducible refine tr_inN ?_) | (with_reducible refine tr_inR ?_) | (with_reducible refine tr_thenR ?_))
        refine tr_region ?_   -- region 12
        refine sq_q (qt_bin rfl rfl (bin_addI (by omega) (by omega))) rfl ?_   -- t48
        refine sq_q (qt_move rfl) rfl ?_   -- t14
        refine sq_nil ?_
        repeat (first | (with_reducible refine tr_skip ?_) | (with_reducible refine tr_exit ?_) | (with_reducible refine tr_then ?_) | (with_reducible refine tr_inX ?_) | (with_reducible refine tr_thenX ?_) | (with_reducible refine tr_inN ?_) | (with_reducible refine tr_inR ?_) | (with_reducible refine tr_thenR ?_))
        refine tr_own (zblk r6 (zd (G j) x39) :: zblk r5 (zd D x31) :: zblk r3 (zd (sumN (j + 1) G) x47) :: zblk r2 z0 :: []) rfl ?_
        refine tr_drop (zblk r3 (zd (sumN (j + 1) G) x47) :: zblk r2 z0 :: []) ((List.Sublist.refl _).cons _ |>.cons _) ?_
        refine tr_round2 (j + 1) x47 ⟨hlt, hsb'⟩ (by omega) ⟨rfl, rfl, rfl, rfl, rfl, trivial⟩ rfl (fun w h => h.2)
    ·
      have hjk : j = k + 1 := by have := of_decide_eq_false hc; omega
      subst hjk
      refine tr_exit ?_
      repeat (first | (with_reducible refine tr_skip ?_) | (with_reducible refine tr_exit ?_) | (with_reducible refine tr_then ?_) | (with_reducible refine tr_inX ?_) | (with_reducible refine tr_thenX ?_) | (with_reducible refine tr_inN ?_) | (with_reducible refine tr_inR ?_) | (with_reducible refine tr_thenR ?_))
      refine tr_rseq ?_   -- region 13
      refine sq_q (qt_load2 rfl (fun w t => t.atO 0 rfl rfl) (fun w t => t.atO 0 rfl rfl)) rfl ?_   -- t49
      refine sq_store 1 rfl rfl rfl rfl (Nat.le_refl 2) rfl rfl ?_   -- R13.1
      refine sq_end ?_
      refine tr_ret ?_
      repeat (first | (with_reducible refine tr_skip ?_) | (with_reducible refine tr_exit ?_) | (with_reducible refine tr_then ?_) | (with_reducible refine tr_inX ?_) | (with_reducible refine tr_thenX ?_) | (with_reducible refine tr_inN ?_) | (with_reducible refine tr_inR ?_) | (with_reducible refine tr_thenR ?_))
      exact tr_done p (fun a w s t => results_1 rfl (resv_cell 1 s t rfl rfl rfl)) (fun w h _ _ => ⟨h, hsb⟩)
end Go.Qk
end
section
/- Expansion, of every size. -/
set_option linter.unusedVariables false
namespace Go.Qk
open Go Go.Proofs Go.RowKit
theorem expansion_ret : ∀ (n : Nat), n ≤ 65536 → ∀ (m : Mt) (B : Nat) (w0 : World) (S : Nat → Prop), m.ok B w0 → m.rs.length = n → (∀ q ∈ m.rs, q.l.length = n) → lb B n ≤ 1000000000 → Ret Try.prog 29 [m.v] w0 S (iv (lap n (ent m.zs))) (fun p w => Lz (lap n (ent m.zs)).natAbs p w ∧ nl (lap n (ent m.zs)).natAbs ≤ lb B n) := by
  intro n
  induction n using Nat.strongRecOn with
  | _ n ih =>
    intro hn m B w0 S hm hl hr hb
    exact expansion_step n (fun k hk m' B' w' S' h1 h2 h3 h4 => ih k hk (by omega) m' B' w' S' h1 h2 h3 h4) m B w0 S hm hl hr hb hn
theorem expansion_g {m : Mt} {n : Nat} {a : Mf} {w : World} {S : Nat → Prop} (h : optF 2 (some (grid a n n)) m w) (hn : n ≤ 5) :
    Ret Try.prog 29 [m.v] w S (iv (lap n a)) (fun p w => Lz (lap n a).natAbs p w ∧ nl (lap n a).natAbs ≤ 1000) := by
  obtain ⟨h1, h2⟩ := mt_lens (show m.zs = grid a n n from h.2.1)
  have hlb : lb 2 n ≤ 1000 := by
    have : n = 0 ∨ n = 1 ∨ n = 2 ∨ n = 3 ∨ n = 4 ∨ n = 5 := by omega
    rcases this with rfl | rfl | rfl | rfl | rfl | rfl <;> decide
  have g := expansion_ret n (by omega) m 2 w S h.1 h1 h2 (by omega)
  have e : lap n (ent m.zs) = lap n a := by rw [show m.zs = grid a n n from h.2.1]; exact lap_congr fun i j hi hj => ent_grid hi hj
  rw [e] at g
  exact g.imp fun p w h => ⟨h.1, Nat.le_trans h.2 hlb⟩
end Go.Qk
end
section
/- The walk of MatrixExpansion. -/
set_option linter.unusedVariables false
namespace Go.Qk
open Go Go.Proofs Go.RowKit
set_option maxRecDepth 100000
set_option maxHeartbeats 4000000

theorem matrixExpansion_ret (gx : Gd) (w0 : World) (S : Nat → Prop) (hx : gx.ok w0) :
    Ret Try.prog 5 [gx.v] w0 S (fun _ : Unit => .bool true) (fun _ _ => True) := by
  obtain ⟨n, hn⟩ : ∃ n, n = 1 + gx.r % 5 := ⟨_, rfl⟩
  have hn1 : 1 ≤ n := by omega
  have hn5 : n ≤ 5 := by have := Nat.mod_lt gx.r (show 0 < 5 by omega); omega
  have hn16 : n ≤ 16 := by omega
  obtain ⟨a, ha⟩ : ∃ a : Mf, a = gx.sq.e 5 := ⟨_, rfl⟩
  have hA : gx.sq.zs 5 = grid a n n := by rw [ha, hn]; rfl
  clear ha hn
  refine ret_of Try.func5 rfl Try.ntmps5 rfl ?_
  refine tr_rseq ?_   -- region 0
  refine sq_box rfl rfl fun r1 => ?_   -- t1
  refine sq_q (qt_assign rfl) rfl ?_   -- t2
  refine sq_end ?_
  refine tr_rseq ?_   -- region 1
  refine sq_q (qt_load_agg (vs := [.int .u8 (gx.r : Int), .int .u8 (gx.c : Int), .slice gx.p.1 gx.l.length gx.p.2]) rfl rfl (fun w t j v hv => by rw [Nat.zero_add]; exact t.atO 0 rfl hv)) rfl ?_   -- t6
  refine sq_call Mt.v (optF 2 (some (grid a n n))) rfl rfl rfl (fun w t => (gsquare_ret gx 5 w _ (t.gd hx) (by omega) (by omega)).imp fun m w h => by rw [hA] at h; exact h) fun mA => ?_   -- t7
  refine sq_q (qt_assign rfl) rfl ?_   -- t3
  refine sq_end ?_
  refine tr_rseq ?_   -- region 2
  refine sq_q (qt_move rfl) rfl ?_   -- t9
  refine sq_call (optZV (some (lap n a))) (optZF (some (lap n a))) rfl rfl rfl (fun w t => det_g t.r.2 hn1 hn16 (by omega) (by omega)) fun p8 => ?_   -- t10
  refine sq_q (qt_move rfl) rfl ?_   -- t8
  refine sq_q (qt_extract rfl rfl) rfl ?_   -- t11
  refine sq_q (qt_extract rfl rfl) rfl ?_   -- t12
  refine sq_alloc rfl fun r4 => ?_   -- t4
  refine sq_store 0 rfl rfl rfl rfl (Nat.le_refl 2) rfl rfl ?_   -- R2.6
  refine sq_q (qt_assign rfl) rfl ?_   -- t5
  refine sq_end ?_
  refine tr_rdraw0 [0, 1, 2, 3, 4, 5] (by kernel_rfl) ?_   -- region 3
  refine dx_q rfl (qt_move rfl) rfl ?_   -- t13
  refine dx_q rfl (qt_move rfl) rfl ?_   -- t14
  refine dx_gT rfl rfl rfl ?_
  refine dx_q rfl (qt_load2 rfl (fun w t => t.atO 0 rfl rfl) (fun w t => t.atO 0 rfl rfl)) rfl ?_   -- t15
  refine dx_gT rfl rfl rfl ?_
  refine dx_q rfl (qt_move rfl) rfl ?_   -- t16
  refine dx_gT rfl rfl rfl ?_
  refine dx_call (iv (lap n a)) (fun p w => Lz (lap n a).natAbs p w ∧ nl (lap n a).natAbs ≤ 1000) rfl rfl rfl (fun w t => expansion_g t.r.1.2 hn5) ?_   -- t17
  refine dx_gT rfl rfl rfl ?_
  refine dx_callv1 17 (v := .bool true) (F := fun _ _ => True) rfl rfl (by simp) (fun _ => rfl) (fun _ => rfl) (fun y w t => by
    have h4 := t.r.2.2
    have h := fun S' => rsame_ret (lap n a) (lap n a) p8 y w S' t.r.1.2.1 t.r.2.1 (by omega) (by omega)
    rw [decide_eq_true rfl] at h
    exact h _) ?_   -- t18
  refine dx_q rfl (qt_pick rfl rfl) rfl ?_   -- t19
  refine dx_q rfl (qt_move rfl) rfl ?_   -- t20
  refine dx_gT rfl rfl rfl ?_
  refine dx_callv (v := .bool true) (F := fun _ _ => True) rfl rfl rfl (fun w t => awake_ret w _) ?_   -- t21
  refine dx_q rfl (qt_pick rfl rfl) rfl ?_   -- t22
  refine dx_q rfl (qt_assign rfl) rfl ?_   -- t2
  refine dx_nil ?_
  repeat (first | refine es_val rfl ?_ rfl | refine es_res rfl (fun x => ?_) rfl | refine es_skip rfl ?_)
  refine es_nil rfl ?_
  refine tx_endk ?_
  refine tr_ret ?_
  repeat (first | (with_reducible refine tr_skip ?_) | (with_reducible refine tr_exit ?_) | (with_reducible refine tr_then ?_) | (with_reducible refine tr_inX ?_) | (with_reducible refine tr_thenX ?_) | (with_reducible refine tr_inN ?_) | (with_reducible refine tr_inR ?_) | (with_reducible refine tr_thenR ?_))
  exact tr_done () (fun a w s t => results_1 rfl (resv_tmp s rfl)) (fun _ _ _ _ => trivial)
end Go.Qk
end
