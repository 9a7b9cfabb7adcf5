/- Lemmas and contracts of functions that the law reaches. -/
import Derived.Test.YtencodepmbhpiaaGy2
set_option linter.unusedVariables false
set_option linter.unusedSimpArgs false
section
set_option linter.unusedVariables false
namespace Go.Qk
open Go Go.Proofs
set_option maxRecDepth 100000
set_option maxHeartbeats 4000000
theorem divide_ret (xs ys : List Nat) (A B : Option Addr) (ca cb : Nat) (w : World) (S : Nat → Prop) (hx : Rd A (u32s xs) w) (hy : Rd B (u32s ys) w) (lx : lim xs) (ly : lim ys) (cx : canon xs) (cy : canon ys) (hb : xs.length ≤ 35184372088832) (hb' : ys.length ≤ 35184372088832) (hne : ys ≠ []) :
    Ret Try.prog 122 [.slice A xs.length ca, .slice B ys.length cb] w S (fun p : Sv × Sv => .tuple #[slv (limbsOf (val xs / val ys)) p.1, slv (limbsOf (val xs % val ys)) p.2]) (fun p w => Lm (limbsOf (val xs / val ys)) p.1 w ∧ Lm (limbsOf (val xs % val ys)) p.2 w) := by
  have hyl : 0 < ys.length := by
    rcases Nat.eq_zero_or_pos ys.length with h | h
    · exact absurd (List.eq_nil_of_length_eq_zero h) hne
    · exact h
  have hY0 : 0 < val ys := Nat.lt_of_lt_of_le (Nat.pow_pos (by decide)) (val_ge cy hne)
  refine ret_of Try.func122 rfl Try.ntmps122 rfl ?_
  refine tr_rseq ?_
  refine sq_q (qt_assign rfl) rfl ?_
  refine sq_q (qt_assign rfl) rfl ?_
  refine sq_end ?_
  refine tr_seq ?_
  refine tr_rseq ?_
  refine sq_q (qt_move rfl) rfl ?_
  refine sq_q (qt_move rfl) rfl ?_
  refine sq_call (val := fun _ : Unit => .int .i64 (cmp3 (val xs) (val ys))) (F := fun _ _ => True) rfl rfl rfl (fun w t => compare_ret xs ys A B ca cb w _ (t.rd hx) (t.rd hy) lx ly cx cy (by omega) (by omega)) fun _ => ?_
  refine sq_q (qt_bin rfl rfl bin_lss) rfl ?_
  refine sq_end ?_
  refine tr_if rfl (fun hc => ?_) (fun hc => ?_)
  ·
    have hlt : val xs < val ys := by
      have h := of_decide_eq_true hc
      unfold cmp3 at h
      split at h
      · assumption
      · split at h <;> omega
    refine tr_rseq ?_
    refine sq_q (qt_move rfl) rfl ?_
    refine sq_appendNil (u32s xs) rfl rfl rfl rfl (by rw [u32s_length, Nat.mul_one]) (by omega) (fun w t => t.rd hx) rfl fun p => ?_
    refine sq_q (qt_assign rfl) rfl ?_
    refine sq_q (qt_assign rfl) rfl ?_
    refine sq_end ?_
    refine tr_ret ?_
    repeat with_reducible first | refine tr_skip ?_ | refine tr_exit ?_ | refine tr_then ?_ | refine tr_inX ?_ | refine tr_thenX ?_ | refine tr_inN ?_ | refine tr_inR ?_ | refine tr_thenR ?_
    refine tr_done ((none, 0), p) (fun a w s t => results_2 rfl (resv_tmp s ?_) (resv_tmp s ?_)) ?_
    · rw [Nat.div_eq_of_lt hlt, limbsOf_zero]; rfl
    · rw [Nat.mod_eq_of_lt hlt, ← canon_eq cx lx]; rfl
    · rintro w ⟨_, h1, h2⟩ _ _
      rw [Nat.div_eq_of_lt hlt, limbsOf_zero, Nat.mod_eq_of_lt hlt, ← canon_eq cx lx]
      exact ⟨⟨Rd.nil _ _, Nat.le_refl _⟩, h1, h2⟩
  ·
    have hge : val ys ≤ val xs := by
      have h := of_decide_eq_false hc
      unfold cmp3 at h
      split at h
      · omega
      · omega
    have hlen : ys.length ≤ xs.length := by
      rcases Nat.lt_or_ge xs.length ys.length with h | h
      · have := val_lt_of_length lx cy h; omega
      · exact h
    refine tr_skip ?_
    repeat with_reducible first | refine tr_skip ?_ | refine tr_exit ?_ | refine tr_then ?_ | refine tr_inX ?_ | refine tr_thenX ?_ | refine tr_inN ?_ | refine tr_inR ?_ | refine tr_thenR ?_
    refine tr_seq ?_
    refine tr_rseq ?_
    refine sq_q (qt_move rfl) rfl ?_
    refine sq_q (qt_len rfl) rfl ?_
    refine sq_q (qt_bin rfl rfl bin_eql) rfl ?_
    refine sq_end ?_
    refine tr_if rfl (fun hc => ?_) (fun hc => ?_)
    ·
      have hl1 : ys.length = 1 := by have := of_decide_eq_true hc; omega
      have hlt0 : 0 < ys.length := by omega
      have gy := ly _ (List.getElem_mem hlt0)
      have hval1 : val ys = ys[0] := by
        rw [val_top1 (k := 0) hl1]
        simp [val]
      obtain ⟨rb, ob, rfl, hbt⟩ := hy.at_ (u32s_get hlt0)
      refine tr_rseq ?_
      refine sq_q (qt_move rfl) rfl ?_
      refine sq_q (qt_move rfl) rfl ?_
      refine sq_q (qt_index (i := 0) rfl rfl (by omega)) rfl ?_
      refine sq_q (qt_load rfl (fun w t => t.a1 hbt)) rfl ?_
      refine sq_call (fun p : Sv => .tuple #[slv (limbsOf (val xs / ys[0])) p, .int .u32 ((val xs % ys[0] : Nat) : Int)]) (Lm (limbsOf (val xs / ys[0]))) rfl rfl rfl (fun w t => shortDivide_ret xs ys[0] A ca w _ (t.rd hx) lx hb (by omega) gy) fun p => ?_
      refine sq_q (qt_move rfl) rfl ?_
      refine sq_q (qt_extract rfl rfl) rfl ?_
      refine sq_q (qt_extract rfl rfl) rfl ?_
      refine sq_q (qt_assign rfl) rfl ?_
      refine sq_q (qt_assign rfl) rfl ?_
      refine sq_end ?_
      refine tr_rseq ?_
      refine sq_q (qt_move rfl) rfl ?_
      refine sq_q (qt_move rfl) rfl ?_
      refine sq_lit (vs := [(0, .int .u32 ((val xs % ys[0] : Nat) : Int))]) (cells := u32s [val xs % ys[0]]) rfl rfl rfl (by simp [Instr.fill, u32s, Value.cells, show Array.range 1 = #[0] from by decide]) rfl fun r32 => ?_
      refine sq_call (val := fun _ : Unit => .slice (some ⟨r32, 0, none⟩) (trimL [val xs % ys[0]]).length (trimL [val xs % ys[0]]).length) (F := fun _ _ => True) rfl rfl rfl (fun w t => ?_) fun _ => ?_
      · have h := fun S' => trim_ret [val xs % ys[0]] (some ⟨r32, 0, none⟩) 1 w S' (Rd.own (t.has _ (ownAt_mem (i := 0) rfl))) (by simp) (by simp)
        exact h _
      refine sq_q (qt_assign rfl) rfl ?_
      refine sq_q (qt_assign rfl) rfl ?_
      refine sq_end ?_
      refine tr_ret ?_
      repeat with_reducible first | refine tr_skip ?_ | refine tr_exit ?_ | refine tr_then ?_ | refine tr_inX ?_ | refine tr_thenX ?_ | refine tr_inN ?_ | refine tr_inR ?_ | refine tr_thenR ?_
      have hm : trimL [val xs % ys[0]] = limbsOf (val xs % ys[0]) := by
        have hlt := Nat.mod_lt (val xs) (show 0 < ys[0] by omega)
        rw [trimL_limbsOf (by intro x hx; simp at hx; omega)]
        simp [val]
      refine tr_done (p, (some ⟨r32, 0, none⟩, (trimL [val xs % ys[0]]).length)) (fun a w s t => results_2 rfl (resv_tmp s ?_) (resv_tmp s ?_)) ?_
      · rw [hval1]; rfl
      · rw [hval1, ← hm]; rfl
      · rintro w ⟨⟨_, h1⟩, _⟩ ho _
        rw [hval1]
        refine ⟨h1, ?_⟩
        rw [← hm]
        exact lm_trim (ho _ (ownAt_mem (i := 0) rfl))
    ·
      have hl2 : ys.length ≠ 1 := by have := of_decide_eq_false hc; omega
      obtain ⟨k, hk⟩ : ∃ k, ys.length = k + 2 := ⟨ys.length - 2, by omega⟩
      have hltk : k + 1 < ys.length := by omega
      have gtop := ly _ (List.getElem_mem hltk)
      have htop0 : ys[k + 1] ≠ 0 := by
        have := canon_last cy hne
        rw [List.getLast_eq_getElem] at this
        have e : ys.length - 1 = k + 1 := by omega
        simpa [e] using this
      obtain ⟨m, hm⟩ : ∃ m, xs.length = k + 2 + m := ⟨xs.length - (k + 2), by omega⟩
      rw [hk]
      obtain ⟨rb, ob, rfl, hbt⟩ := hy.at_ (u32s_get hltk)
      refine tr_skip ?_
      repeat with_reducible first | refine tr_skip ?_ | refine tr_exit ?_ | refine tr_then ?_ | refine tr_inX ?_ | refine tr_thenX ?_ | refine tr_inN ?_ | refine tr_inR ?_ | refine tr_thenR ?_
      refine tr_rseq ?_
      refine sq_q (qt_move rfl) rfl ?_
      refine sq_q (qt_move rfl) rfl ?_
      refine sq_q (qt_len rfl) rfl ?_
      refine sq_q (qt_bin rfl rfl (bin_subN (a := k + 2) (b := 1) rfl (by omega) (by omega))) rfl ?_
      refine sq_q (qt_index (i := k + 1) rfl rfl (by omega)) rfl ?_
      refine sq_q (qt_load rfl (fun w t => t.a1 hbt)) rfl ?_
      refine sq_call (fun s : Nat => .int .i64 (s : Int)) (fun s _ => s ≤ 31 ∧ (ys[k + 1] + 1) * 2 ^ s ≤ 4294967296) rfl rfl rfl (fun w t => lz32_ret ys[k + 1] w _ gtop htop0) fun sh => ?_
      refine sq_have (fun w t => t.r.2) fun hsh => ?_
      obtain ⟨hs1, hs2⟩ := hsh
      refine sq_q (qt_to64 rfl (by omega) (by omega)) rfl ?_
      refine sq_q (qt_assign rfl) rfl ?_
      refine sq_end ?_
      rw [← hk]
      refine tr_rsc ?_
      refine sc_take 0 rfl (by kernel_rfl) (by repeat (first | exact pk_body | refine pk_then ?_ | refine pk_in ?_)) (qt_move rfl) rfl ?_
      refine sc_take 1 rfl (by kernel_rfl) (by repeat (first | exact pk_body | refine pk_then ?_ | refine pk_in ?_)) (qt_move rfl) rfl ?_
      refine sc_take 3 rfl (by kernel_rfl) (by repeat (first | exact pk_body | refine pk_then ?_ | refine pk_in ?_)) (qt_move rfl) rfl ?_
      refine sc_take 4 rfl (by kernel_rfl) (by repeat (first | exact pk_body | refine pk_then ?_ | refine pk_in ?_)) (qt_move rfl) rfl ?_
      refine sc_take 6 rfl (by kernel_rfl) (by repeat (first | exact pk_body | refine pk_then ?_ | refine pk_in ?_)) (qt_move rfl) rfl ?_
      refine sc_take 7 rfl (by kernel_rfl) (by repeat (first | exact pk_body | refine pk_then ?_ | refine pk_in ?_)) (qt_len rfl) rfl ?_
      refine sc_call 2 (fun p : Nat × List Nat => .slice (some ⟨p.1, 0, none⟩) (xs.length + 1) (xs.length + 1)) (fun p w' => w.heap.size ≤ p.1 ∧ w'.heap[p.1]? = some (.cells (u32s p.2).toArray 57 (0, 0)) ∧ p.2.length = xs.length + 1 ∧ lim p.2 ∧ val p.2 = val xs * 2 ^ sh) rfl (by kernel_rfl) rfl rfl rfl (fun w t => (shift_ret xs sh A ca w _ (t.rd hx) lx hb (by omega)).imp fun p w' h => ⟨Nat.le_trans t.size h.1, h.2⟩) fun pu => ?_
      refine sc_call 5 (fun p : Nat × List Nat => .slice (some ⟨p.1, 0, none⟩) (ys.length + 1) (ys.length + 1)) (fun p w' => (w.heap.size ≤ p.1 ∧ pu.1 ≠ p.1) ∧ w'.heap[p.1]? = some (.cells (u32s p.2).toArray 57 (0, 0)) ∧ p.2.length = ys.length + 1 ∧ lim p.2 ∧ val p.2 = val ys * 2 ^ sh) rfl (by kernel_rfl) rfl rfl rfl (fun w t => (shift_ret ys sh _ cb w _ (t.rd hy) ly hb' (by omega)).imp fun p w' h => ⟨⟨Nat.le_trans t.size h.1, fun e => by have := (Array.getElem?_eq_some_iff.1 t.r.2.2.1).1; omega⟩, h.2⟩) fun pv => ?_
      refine sc_take 8 rfl (by kernel_rfl) (by repeat (first | exact pk_body | refine pk_then ?_ | refine pk_in ?_)) (qt_sliceH rfl rfl (show ys.length ≤ ys.length + 1 by omega) ) rfl ?_
      refine sc_take 9 rfl (by kernel_rfl) (by repeat (first | exact pk_body | refine pk_then ?_ | refine pk_in ?_)) (qt_assign rfl) rfl ?_
      refine sc_take 10 rfl (by kernel_rfl) (by repeat (first | exact pk_body | refine pk_then ?_ | refine pk_in ?_)) (qt_assign rfl) rfl ?_
      refine sc_endk (by kernel_rfl) ?_
      obtain ⟨ru, zu⟩ := pu
      obtain ⟨rv, zv⟩ := pv
      refine tr_have (fun w' t => (⟨t.r.2.1, t.r.2.2.2, t.r.1.2.2.2⟩ : (w.heap.size ≤ rv ∧ ru ≠ rv) ∧ (zv.length = ys.length + 1 ∧ lim zv ∧ val zv = val ys * 2 ^ sh) ∧ (zu.length = xs.length + 1 ∧ lim zu ∧ val zu = val xs * 2 ^ sh))) fun hh => ?_
      obtain ⟨⟨_, hruv⟩, ⟨hv1, hv2, hv3⟩, hu1, hu2, hu3⟩ := hh
      refine tr_adopt [(ru, .cells (u32s zu).toArray 57 (0, 0)), (rv, .cells (u32s zv).toArray 57 (0, 0))] (fun w t => ⟨fun p hp => ?_, by simpa using hruv⟩) ?_
      · simp at hp
        rcases hp with rfl | rfl
        · exact ⟨t.r.1.2.1, t.r.1.2.2.1⟩
        · exact ⟨t.r.2.1.1, t.r.2.2.1⟩
      obtain ⟨vs, hvs⟩ : ∃ vs, vs = zv.take (k + 2) := ⟨_, rfl⟩
      have hvl : vs.length = k + 2 := by rw [hvs]; simp; omega
      have lvs : lim vs := by rw [hvs]; exact lim_take hv2 _
      have hP : 0 < 2 ^ sh := Nat.pow_pos (by decide)
      have hYs : val ys * 2 ^ sh < 4294967296 ^ (k + 2) := kn_top hk ly hs2
      have hVv : val vs = val ys * 2 ^ sh := by rw [hvs]; exact kn_vs (by omega) hv3 hYs
      have hVpos : 0 < val vs := by rw [hVv]; exact Nat.mul_pos hY0 hP
      have hYlow : 4294967296 ^ (k + 1) ≤ val ys := by
        have h := val_ge cy hne
        rwa [hk] at h
      have hVlow : 4294967296 ^ (k + 1) ≤ val vs := by
        rw [hVv]
        exact Nat.le_trans hYlow (Nat.le_mul_of_pos_right _ hP)
      have hVlt : val vs < 4294967296 ^ (k + 2) := by rw [hVv]; exact hYs
      have hvtop : 0 < vs[k + 1] := kn_vtop hvl lvs hVlow
      have hinit : val zu < val vs * 4294967296 ^ (m + 1) := by rw [hu3, hVv]; exact kn_init hm lx hYlow hP
      rw [hm, hk]
      refine tr_rseq ?_
      refine sq_q (qt_move rfl) rfl ?_
      refine sq_q (qt_len rfl) rfl ?_
      refine sq_q (qt_move rfl) rfl ?_
      refine sq_q (qt_len rfl) rfl ?_
      refine sq_q (qt_bin rfl rfl (bin_subN (a := k + 2 + m) (b := k + 2) rfl (by omega) (by omega))) rfl ?_
      refine sq_q (qt_bin rfl rfl (bin_addI (by omega) (by omega))) rfl ?_
      refine sq_make (c := m + 1) (sq_cast (show (((k + 2 + m - (k + 2) : Nat) : Int) + 1) = ((m + 1 : Nat) : Int) by omega)) (sq_cast (show (((k + 2 + m - (k + 2) : Nat) : Int) + 1) = ((m + 1 : Nat) : Int) by omega)) (by omega) (by omega) rfl fun r57 => ?_
      refine sq_q (qt_assign rfl) rfl ?_
      refine sq_end ?_
      refine tr_seq ?_
      refine tr_rseq ?_
      refine sq_q (qt_move rfl) rfl ?_
      refine sq_q (qt_len rfl) rfl ?_
      refine sq_q (qt_bin rfl rfl (bin_subI (by omega) (by omega))) rfl ?_
      refine sq_q (qt_assign rfl) rfl ?_
      refine sq_end ?_
      refine tr_block ?_
      refine tr_loop3 (fun (j : Nat) (qs us : List Nat) => j + qs.length = m + 1 ∧ lim qs ∧ us.length = k + 2 + m + 1 ∧ lim us ∧ val zu = val vs * (4294967296 ^ j * val qs) + val us ∧ val us < val vs * 4294967296 ^ j)
        (fun j qs us => [(9, .slice (some ⟨ru, 0, none⟩) (k + 2 + m + 1) (k + 2 + m + 1)), (10, .slice (some ⟨rv, 0, none⟩) (k + 2) (k + 2 + 1)), (1, .slice (some ⟨rb, ob, none⟩) (k + 2) cb), (8, .int .u64 (sh : Int)), (11, .slice (some ⟨r57, 0, none⟩) (m + 1) (m + 1)), (12, .int .i64 ((j : Int) - 1))])
        (fun j qs us => [(r57, .cells (u32s (List.replicate j 0 ++ qs)).toArray 57 (0, 0)), (ru, .cells (u32s us).toArray 57 (0, 0)), (rv, .cells (u32s zv).toArray 57 (0, 0))]) (fun _ _ _ _ => True) (fun j qs us => j) (m + 1) [] zu ⟨Nat.add_zero _, by simp [lim], by omega, hu2, by rw [val, Nat.mul_zero, Nat.mul_zero, Nat.zero_add], hinit⟩ ⟨rfl, rfl, rfl, rfl, rfl, rfl, trivial⟩ (by rw [made_u32]; simp) (fun _ _ => trivial) ?_
      rintro j qs us ⟨hj, hlq, hul, hlu, hinv, hlt⟩
      refine tr_seq ?_
      refine tr_rseq ?_
      refine sq_q (qt_move rfl) rfl ?_
      refine sq_q (qt_bin rfl rfl bin_geq) rfl ?_
      refine sq_end ?_
      refine tr_if rfl (fun hc => ?_) (fun hc => ?_)
      ·
        have hj0 : 0 < j := by have := of_decide_eq_true hc; omega
        obtain ⟨i, rfl⟩ : ∃ i, j = i + 1 := ⟨j - 1, by omega⟩
        have ei : (((i + 1 : Nat) : Int) - 1) = (i : Int) := by omega
        obtain ⟨pre, mid, post, hsplit, hprel, hmidl, lpre, lmid, lpost, hpost0, hval, hpl, hmidlt⟩ := kn_cut (show i + (k + 3) ≤ us.length by omega) hlu hVpos hVlt hlt
        have hdig : val mid / val vs < 4294967296 := by rw [Nat.div_lt_iff_lt_mul hVpos, Nat.mul_comm]; exact hmidlt
        have hdm := Nat.div_add_mod (val mid) (val vs)
        have hmod := Nat.mod_lt (val mid) hVpos
        refine tr_sub [(9, .slice (some ⟨ru, 0, none⟩) (k + 2 + m + 1) (k + 2 + m + 1)), (10, .slice (some ⟨rv, 0, none⟩) (k + 2) (k + 2 + 1)), (1, .slice (some ⟨rb, ob, none⟩) (k + 2) cb), (8, .int .u64 (sh : Int)), (11, .slice (some ⟨r57, 0, none⟩) (m + 1) (m + 1)), (12, .int .i64 (i : Int))] ⟨rfl, rfl, rfl, rfl, rfl, congrArg (fun z => some (Value.int .i64 z)) ei, trivial⟩ ?_
        refine tr_skip ?_
        repeat with_reducible first | refine tr_skip ?_ | refine tr_exit ?_ | refine tr_then ?_ | refine tr_inX ?_ | refine tr_thenX ?_ | refine tr_inN ?_ | refine tr_inR ?_ | refine tr_thenR ?_
        refine tr_seq ?_
        refine tr_block ?_
        refine tr_region ?_
        refine sq_q (qt_move rfl) rfl ?_
        refine sq_q (qt_move rfl) rfl ?_
        refine sq_q (qt_move rfl) rfl ?_
        refine sq_q (qt_move rfl) rfl ?_
        refine sq_q (qt_move rfl) rfl ?_
        refine sq_q (qt_move rfl) rfl ?_
        refine sq_q (qt_len rfl) rfl ?_
        refine sq_q (qt_bin rfl rfl (bin_addI (by omega) (by omega))) rfl ?_
        refine sq_q (qt_bin rfl rfl (bin_addI (by omega) (by omega))) rfl ?_
        refine sq_q (qt_sliceLH (l := i) (h := i + (k + 2) + 1) rfl rfl rfl (by omega) (by omega) (by omega)) rfl ?_
        refine sq_q (qt_move rfl) rfl ?_
        refine sq_callU 1 (r := ru) (fun _ : List Nat => .int .u32 ((val mid / val vs : Nat) : Int)) (fun us' => .cells (u32s (pre ++ us' ++ post)).toArray 57 (0, 0)) (fun us' => us'.length = k + 3 ∧ lim us' ∧ val us' = val mid % val vs) rfl rfl rfl rfl (fun w t => ?_) fun mid' hmid' => ?_
        · have hown := t.has _ (ownAt_mem (i := 1) rfl)
          rw [hsplit] at hown
          have hv := Rd.own (t.has _ (ownAt_mem (i := 2) rfl))
          have hv' := hv.take (k + 2)
          rw [u32s_take, ← hvs] at hv'
          have h := digit_ret pre mid post vs k ru (some ⟨rv, 0, none⟩) (k + 2 + m + 1 - i) (k + 2 + 1) w hown hv' (fun rb ob e => by injection e with e; injection e with e _ _; rw [← e]; exact fun h => hruv h.symm) lmid lvs hvl hmidl (by omega) hmidlt hvtop
          have ea : (0 + i * 1) = pre.length := by omega
          have eb : i + (k + 2) + 1 - i = k + 3 := by omega
          show RetU _ _ [.slice (some ⟨ru, 0 + i * 1, none⟩) (i + (k + 2) + 1 - i) (k + 2 + m + 1 - i), _] _ _ _ _ _
          rw [ea, eb]
          exact h
        obtain ⟨hm1, hm2, hm3⟩ := hmid'
        refine sq_q (qt_index (i := i) rfl rfl (by omega)) rfl ?_
        refine sq_store 0 rfl rfl rfl rfl (by simp [u32s, Value.cells] <;> omega) rfl rfl ?_
        refine sq_nil ?_
        repeat with_reducible first | refine tr_skip ?_ | refine tr_exit ?_ | refine tr_then ?_ | refine tr_inX ?_ | refine tr_thenX ?_ | refine tr_inN ?_ | refine tr_inR ?_ | refine tr_thenR ?_
        refine tr_region ?_
        refine sq_q (qt_move rfl) rfl ?_
        refine sq_q (qt_bin rfl rfl (bin_subI (by omega) (by omega))) rfl ?_
        refine sq_q (qt_assign rfl) rfl ?_
        refine sq_nil ?_
        repeat with_reducible first | refine tr_skip ?_ | refine tr_exit ?_ | refine tr_then ?_ | refine tr_inX ?_ | refine tr_thenX ?_ | refine tr_inN ?_ | refine tr_inR ?_ | refine tr_thenR ?_
        refine tr_round3 i (val mid / val vs :: qs) (pre ++ mid' ++ post) ⟨by simp; omega, lim_cons.2 ⟨hdig, hlq⟩, ?_, ?_, ?_, ?_⟩ (by omega) ⟨rfl, rfl, rfl, rfl, rfl, rfl, trivial⟩ ?_ (fun _ _ => trivial)
        · have : us.length = pre.length + mid.length + post.length := by
            have h := congrArg List.length hsplit
            simp at h
            omega
          simp
          omega
        · exact lim_append.2 ⟨lim_append.2 ⟨lpre, hm2⟩, lpost⟩
        · have e1 : val (pre ++ mid' ++ post) = val pre + 4294967296 ^ i * val mid' := by
            rw [List.append_assoc, val_append, val_append, hprel, hpost0, Nat.mul_zero, Nat.add_zero]
          rw [e1, hm3]
          exact kn_inv hinv hval hdm
        · have e1 : val (pre ++ mid' ++ post) = val pre + 4294967296 ^ i * val mid' := by
            rw [List.append_assoc, val_append, val_append, hprel, hpost0, Nat.mul_zero, Nat.add_zero]
          rw [e1, hm3]
          exact kn_low hpl hmod
        · have e : (u32s (List.replicate (i + 1) 0 ++ qs)).set i (.int .u32 ((val mid / val vs : Nat) : Int)) = u32s (List.replicate i 0 ++ val mid / val vs :: qs) := by
            rw [u32s_set, kn_put]
          rw [← e]
          simp only [wr, Value.cells, Nat.mul_one, Nat.zero_add]
          rfl
      ·
        have hj0 : j = 0 := by have := of_decide_eq_false hc; omega
        subst hj0
        simp only [Nat.pow_zero, Nat.one_mul, Nat.mul_one] at hinv hlt
        have hql : qs.length = m + 1 := by omega
        obtain ⟨us', hus'⟩ : ∃ us', us' = us.take (k + 2) := ⟨_, rfl⟩
        have hul' : us'.length = k + 2 := by rw [hus']; simp; omega
        have lus' : lim us' := by rw [hus']; exact lim_take hlu _
        have hUval : val us' = val us := by rw [hus']; exact kn_last' (by omega) hlt hVlt
        obtain ⟨hQ, hR⟩ := kn_shift (X := val xs) (Y := val ys) (P := 2 ^ sh) (Q := val qs) (U := val us) hP hY0 (by rw [← hu3, hinv, hVv]) (by rw [← hVv]; exact hlt)
        have hq : trimL qs = limbsOf (val xs / val ys) := by rw [trimL_limbsOf hlq, hQ]
        have hr : limbsOf (val (trimL us') / 2 ^ sh) = limbsOf (val xs % val ys) := by rw [trimL_val, hUval, hR]
        have htl := trimL_length us'
        refine tr_exit ?_
        repeat with_reducible first | refine tr_skip ?_ | refine tr_exit ?_ | refine tr_then ?_ | refine tr_inX ?_ | refine tr_thenX ?_ | refine tr_inN ?_ | refine tr_inR ?_ | refine tr_thenR ?_
        simp only [List.replicate_zero, List.nil_append]
        refine tr_rdraw0 [0, 1, 4, 5, 6, 7, 8, 9, 10, 11, 12, 16, 21, 62] (by kernel_rfl) ?_
        refine dx_q rfl (qt_move rfl) rfl ?_
        refine dx_callv (v := .slice (some ⟨r57, 0, none⟩) (trimL qs).length (trimL qs).length) (F := fun _ _ => True) rfl rfl rfl (fun w t => ?_) ?_
        · have h := fun S' => trim_ret qs (some ⟨r57, 0, none⟩) (m + 1) w S' (Rd.own (t.has _ (ownAt_mem (i := 0) rfl))) (by omega) (by omega)
          rw [hql] at h
          exact h _
        refine dx_q rfl (qt_move rfl) rfl ?_
        refine dx_q rfl (qt_move rfl) rfl ?_
        refine dx_q rfl (qt_len rfl) rfl ?_
        refine dx_q rfl (qt_sliceH rfl rfl (show k + 2 ≤ k + 2 + m + 1 by omega) ) rfl ?_
        refine dx_callv (v := .slice (some ⟨ru, 0, none⟩) (trimL us').length (trimL us').length) (F := fun _ _ => True) rfl rfl rfl (fun w t => ?_) ?_
        · have hrd := (Rd.own (t.has _ (ownAt_mem (i := 1) rfl))).take (k + 2)
          rw [u32s_take, ← hus'] at hrd
          have h := fun S' => trim_ret us' (some ⟨ru, 0, none⟩) (k + 2 + m + 1) w S' hrd (by omega) (by omega)
          rw [hul'] at h
          exact h _
        refine dx_q rfl (qt_move rfl) rfl ?_
        refine dx_call (slv (limbsOf (val (trimL us') / 2 ^ sh))) (Lm (limbsOf (val (trimL us') / 2 ^ sh))) rfl rfl rfl (fun w t => ?_) ?_
        · have hrd := ((Rd.own (t.has _ (ownAt_mem (i := 1) rfl))).take (k + 2))
          rw [u32s_take, ← hus'] at hrd
          have hrd' := hrd.take (trimL us').length
          rw [u32s_take, trimL_take] at hrd'
          refine unshift_ret (trimL us') sh (some ⟨ru, 0, none⟩) (trimL us').length w _ hrd' (fun x hx => lus' x (by rw [← trimL_take] at hx; exact List.mem_of_mem_take hx)) (by omega) (by omega)
        refine dx_q rfl (qt_assign rfl) rfl ?_
        refine dx_q1 86 (slv (limbsOf (val (trimL us') / 2 ^ sh))) rfl rfl (fun o ho => mem_looksAt (by rw [ho]; simp [Op.operands])) (fun x => qt_assign rfl) rfl ?_
        refine dx_nil ?_
        repeat (first | refine es_val rfl ?_ rfl | refine es_res rfl (fun x => ?_) rfl | refine es_skip rfl ?_)
        refine es_nil rfl ?_
        refine tx_endk ?_
        refine tr_ret ?_
        repeat with_reducible first | refine tr_skip ?_ | refine tr_exit ?_ | refine tr_then ?_ | refine tr_inX ?_ | refine tr_thenX ?_ | refine tr_inN ?_ | refine tr_inR ?_ | refine tr_thenR ?_
        refine tr_done ((some ⟨r57, 0, none⟩, (trimL qs).length), x) (fun a w s t => results_2 rfl (resv_tmp s ?_) (resv_tmp s ?_)) ?_
        · rw [← hq]; rfl
        · rw [← hr]; rfl
        · rintro w ⟨_, h1⟩ ho _
          rw [← hq, ← hr]
          exact ⟨lm_trim (ho _ (ownAt_mem (i := 0) rfl)), h1⟩
end Go.Qk
end
section
set_option linter.unusedVariables false
namespace Go.Qk
open Go Go.Proofs Go.RowKit
/-- an integer's value: sign and magnitude -/
def ig (n : Bool) (xs : List Nat) (p : Sv) : Value := .agg #[.bool n, slv xs p]
/-- the integer z in its one proper form -/
def iv (z : Int) (p : Sv) : Value := ig (decide (z < 0)) (limbsOf z.natAbs) p
/-- its limbs stand at p -/
abbrev Lz (m : Nat) (p : Sv) (w : World) : Prop := Lm (limbsOf m) p w
def nl (m : Nat) : Nat := (limbsOf m).length
def sgn (n : Bool) (m : Nat) : Int := if n = true then -(m : Int) else m
def sgP (m : Nat) (A : Option Addr) : Sv := if m = 0 then (none, 0) else (A, (limbsOf m).length)
theorem limbsOf_eq_nil {m : Nat} : limbsOf m = [] ↔ m = 0 := by
  constructor
  · intro h
    have := val_limbsOf m
    rw [h] at this
    simpa [val] using this.symm
  · rintro rfl; exact limbsOf_zero
theorem nl_zero {m : Nat} : nl m = 0 ↔ m = 0 := by rw [nl, List.length_eq_zero_iff, limbsOf_eq_nil]
theorem sgn_natAbs (n : Bool) (m : Nat) : (sgn n m).natAbs = m := by unfold sgn; split <;> omega
theorem iv_sgn {n : Bool} {m : Nat} (p : Sv) (h : m ≠ 0) : iv (sgn n m) p = ig n (limbsOf m) p := by
  unfold iv
  rw [sgn_natAbs]
  congr 1
  cases n <;> simp [sgn] <;> omega
theorem iv_zero : iv 0 (none, 0) = .agg #[.bool false, .slice none 0 0] := by
  unfold iv ig slv
  simp [limbsOf_zero]
theorem iv_sgP {n : Bool} {m : Nat} {A : Option Addr} (h : m ≠ 0) : iv (sgn n m) (sgP m A) = .agg #[.bool n, .slice A (limbsOf m).length (limbsOf m).length] := by
  rw [iv_sgn _ h, sgP, if_neg h]; rfl
theorem iv_sgP0 {n : Bool} {A : Option Addr} : iv (sgn n 0) (sgP 0 A) = .agg #[.bool false, .slice none 0 0] := by
  rw [sgP, if_pos rfl, show sgn n 0 = 0 by unfold sgn; split <;> rfl, iv_zero]
theorem sgn_self (z : Int) : sgn (decide (z < 0)) z.natAbs = z := by
  unfold sgn
  by_cases h : z < 0
  · simp [h]; omega
  · simp [h]; omega
theorem Lz.sgP {m : Nat} {A : Option Addr} {w : World} (h : Rd A (u32s (limbsOf m)) w) : Lz m (sgP m A) w := by
  unfold Go.Qk.sgP
  split
  · rename_i h0; subst h0; rw [Lz, limbsOf_zero]; exact ⟨Rd.nil _ _, Nat.le_refl _⟩
  · exact ⟨h, Nat.le_refl _⟩
section
variable {P : Program} {w0 w : World} {X : List Nat} {S : Nat → Prop} {own : Own} {R : World → Prop}
/-- what the caller knows stays known when a call comes back -/
theorem SS.carry (t : SS w0 X S own R w) {f : FuncId} {vs : List Value} {α : Type} {val : α → Value} {F : α → World → Prop} (h : Ret P f vs w (Nn w0 S own w) val F) : Ret P f vs w (Nn w0 S own w) val (fun x w' => F x w' ∧ R w') := by
  refine h.mono fun e w' ⟨x, e1, hb, hf⟩ => ⟨x, e1, hb, fun w'' hs hk => ⟨hf w'' hs hk, ?_⟩⟩
  refine t.keep w'' (Nat.le_trans hb.size hs) fun k h1 h2 h3 => ?_
  rw [hk k (.inr ⟨h1, h2, h3⟩) (Nat.lt_of_lt_of_le h2 hb.size), hb.block k h2]
end
theorem trim_ret' (xs : List Nat) (A : Option Addr) (cap : Nat) (w : World) (S : Nat → Prop) (hrd : Rd A (u32s xs) w) (hcap : xs.length ≤ cap) (hb : xs.length ≤ 35184372088832) (lx : lim xs) :
    Ret Try.prog 121 [.slice A xs.length cap] w S (fun _ : Unit => .slice A (limbsOf (val xs)).length (limbsOf (val xs)).length) (fun _ _ => True) := by
  have h := trim_ret xs A cap w S hrd hcap (by omega)
  rwa [trimL_limbsOf lx] at h
theorem cut_rd {xs : List Nat} {p : Sv} {w : World} (h : Lm xs p w) (lx : lim xs) : Rd p.1 (u32s (limbsOf (val xs))) w := by
  have := h.1.take (trimL xs).length
  rwa [u32s_take, trimL_take, trimL_limbsOf lx] at this
theorem SS.lm {xs : List Nat} {p : Sv} {w0 w : World} {S : Nat → Prop} {own : Own} {R : World → Prop} (t : SS w0 [] S own R w) (h : Lm xs p w0) : Lm xs p w := ⟨t.rd h.1, h.2⟩
theorem lt_pow_nl (m : Nat) : m < 4294967296 ^ nl m := by
  have h := val_lt (lim_limbsOf m)
  rwa [val_limbsOf] at h
theorem nl_le {m k : Nat} (h : m < 4294967296 ^ k) : nl m ≤ k := limbsOf_length_le h
theorem nl_mono {a b : Nat} (h : a ≤ b) : nl a ≤ nl b := nl_le (Nat.lt_of_le_of_lt h (lt_pow_nl b))
theorem nl_val {xs : List Nat} (lx : lim xs) : nl (val xs) ≤ xs.length := nl_le (val_lt lx)
theorem nl_mul (a b : Nat) : nl (a * b) ≤ nl a + nl b := by
  refine nl_le ?_
  rw [Nat.pow_add]
  exact Nat.mul_lt_mul'' (lt_pow_nl a) (lt_pow_nl b)
theorem nl_add (a b : Nat) : nl (a + b) ≤ max (nl a) (nl b) + 1 := by
  refine nl_le ?_
  rw [Nat.pow_succ]
  have h1 := Nat.lt_of_lt_of_le (lt_pow_nl a) (Nat.pow_le_pow_right (n := 4294967296) (by decide) (Nat.le_max_left (nl a) (nl b)))
  have h2 := Nat.lt_of_lt_of_le (lt_pow_nl b) (Nat.pow_le_pow_right (n := 4294967296) (by decide) (Nat.le_max_right (nl a) (nl b)))
  generalize 4294967296 ^ (max (nl a) (nl b)) = B at *
  omega
section
variable {m m' : Nat} {A A' : Option Addr} {c c' : Nat} {w : World} {S : Nat → Prop}
theorem plus_lz (hx : Rd A (u32s (limbsOf m)) w) (hy : Rd A' (u32s (limbsOf m')) w) (hb : nl m ≤ 35184372088832) (hb' : nl m' ≤ 35184372088832) :
    Ret Try.prog 117 [.slice A (limbsOf m).length c, .slice A' (limbsOf m').length c'] w S (slv (limbsOf (m + m'))) (Lz (m + m')) := by
  have h := plus_ret (limbsOf m) (limbsOf m') A A' c c' w S hx hy (lim_limbsOf m) (lim_limbsOf m') hb hb'
  rwa [val_limbsOf, val_limbsOf] at h
theorem minus_lz (hx : Rd A (u32s (limbsOf m)) w) (hy : Rd A' (u32s (limbsOf m')) w) (hb : nl m ≤ 35184372088832) (hv : m' ≤ m) :
    Ret Try.prog 119 [.slice A (limbsOf m).length c, .slice A' (limbsOf m').length c'] w S (slv (limbsOf (m - m'))) (Lz (m - m')) := by
  have h := minus_ret (limbsOf m) (limbsOf m') A A' c c' w S hx hy (lim_limbsOf m) (lim_limbsOf m') hb (nl_mono hv) (by rwa [val_limbsOf, val_limbsOf])
  rwa [val_limbsOf, val_limbsOf] at h
theorem times_lz (hx : Rd A (u32s (limbsOf m)) w) (hy : Rd A' (u32s (limbsOf m')) w) (hb : nl m ≤ 35184372088832) (hb' : nl m' ≤ 35184372088832) :
    Ret Try.prog 115 [.slice A (limbsOf m).length c, .slice A' (limbsOf m').length c'] w S (slv (limbsOf (m * m'))) (Lz (m * m')) := by
  have h := times_ret (limbsOf m) (limbsOf m') A A' c c' w S hx hy (lim_limbsOf m) (lim_limbsOf m') hb hb'
  rwa [val_limbsOf, val_limbsOf] at h
theorem compare_lz (hx : Rd A (u32s (limbsOf m)) w) (hy : Rd A' (u32s (limbsOf m')) w) (hb : nl m ≤ 35184372088832) (hb' : nl m' ≤ 35184372088832) :
    Ret Try.prog 118 [.slice A (limbsOf m).length c, .slice A' (limbsOf m').length c'] w S (fun _ : Unit => .int .i64 (cmp3 m m')) (fun _ _ => True) := by
  unfold nl at hb hb'
  have h := compare_ret (limbsOf m) (limbsOf m') A A' c c' w S hx hy (lim_limbsOf m) (lim_limbsOf m') (canon_limbsOf m) (canon_limbsOf m') (by omega) (by omega)
  rwa [val_limbsOf, val_limbsOf] at h
theorem divide_lz (hx : Rd A (u32s (limbsOf m)) w) (hy : Rd A' (u32s (limbsOf m')) w) (hb : nl m ≤ 35184372088832) (hb' : nl m' ≤ 35184372088832) (h0 : m' ≠ 0) :
    Ret Try.prog 122 [.slice A (limbsOf m).length c, .slice A' (limbsOf m').length c'] w S (fun p : Sv × Sv => .tuple #[slv (limbsOf (m / m')) p.1, slv (limbsOf (m % m')) p.2]) (fun p w => Lz (m / m') p.1 w ∧ Lz (m % m') p.2 w) := by
  have h := divide_ret (limbsOf m) (limbsOf m') A A' c c' w S hx hy (lim_limbsOf m) (lim_limbsOf m') (canon_limbsOf m) (canon_limbsOf m') hb hb' (fun e => h0 (limbsOf_eq_nil.1 e))
  simpa only [val_limbsOf] using h
end
section
variable {P : Program} {J : World → Prop} {lk : Nat → Option Value} {ty : TypeId}
theorem qt_to64m {x : Operand} {src dst : TypeId} {k : IntKind} {a : Int} [hs : InT P src k] [hd : InT P dst .u64] (h : ev lk x = some (.int k a)) : Qt P J lk (.convert src dst x) ty (.int .u64 (a % 18446744073709551616)) := by
  have := qt_conv (J := J) (ty := ty) hs.u hd.u h
  rwa [wu64] at this
theorem qt_negU {x : Operand} {xt : TypeId} {a : Int} (h : ev lk x = some (.int .u64 a)) : Qt P J lk (.unOp .neg xt x) ty (.int .u64 ((0 - a) % 18446744073709551616)) := by
  have := qt_neg (P := P) (J := J) (ty := ty) (xt := xt) h
  rwa [wu64] at this
end
theorem one_u32s (xs : List Nat) : one' (u32s xs) = true := by
  simp only [one', u32s, List.all_map, List.all_eq_true]
  intro x _
  rfl
theorem sgn_true (m : Nat) : sgn true m = -(m : Int) := rfl
theorem sgn_false (m : Nat) : sgn false m = (m : Int) := rfl
/-- the Euclidean division, from the magnitudes -/
theorem ediv_of {a b q r : Int} (hb : b ≠ 0) (h : r + b * q = a) (h0 : 0 ≤ r) (h1 : r < b.natAbs) : a / b = q ∧ a % b = r := by
  rcases Int.lt_or_gt_of_ne hb with hb' | hb'
  · have h := (Int.ediv_emod_unique (a := a) (b := -b) (r := r) (q := -q) (by omega)).2 ⟨by rw [← h]; grind, h0, by omega⟩
    rw [Int.ediv_neg, Int.emod_neg] at h
    omega
  · exact (Int.ediv_emod_unique (by omega)).2 ⟨h, h0, by omega⟩
theorem dm_up {n' : Bool} {m m' : Nat} (h : m' ≠ 0) (hr : 0 < m % m') : sgn true m / sgn n' m' = sgn (true != n') (m / m' + 1) ∧ sgn true m % sgn n' m' = ((m' - m % m' : Nat) : Int) := by
  have hlt := Nat.mod_lt m (Nat.pos_of_ne_zero h)
  have hdm := Nat.div_add_mod m m'
  refine ediv_of (by cases n' <;> simp [sgn] <;> omega) ?_ (by omega) (by rw [sgn_natAbs]; omega)
  generalize m / m' = q at *
  generalize m % m' = r at *
  subst hdm
  have e : ((m' - r : Nat) : Int) = (m' : Int) - r := by omega
  rw [e]
  cases n' <;> simp [sgn] <;> grind
theorem dm_keep {n n' : Bool} {m m' : Nat} (h : m' ≠ 0) (hr : n = true → m % m' = 0) : sgn n m / sgn n' m' = sgn (n != n') (m / m') ∧ sgn n m % sgn n' m' = ((m % m' : Nat) : Int) := by
  have hlt := Nat.mod_lt m (Nat.pos_of_ne_zero h)
  have hdm := Nat.div_add_mod m m'
  refine ediv_of (by cases n' <;> simp [sgn] <;> omega) ?_ (by omega) (by rw [sgn_natAbs]; omega)
  generalize m / m' = q at *
  generalize m % m' = r at *
  subst hdm
  cases n <;> cases n' <;> simp [sgn] at hr ⊢ <;> grind
end Go.Qk
end
section
set_option linter.unusedVariables false
namespace Go.Qk
open Go Go.Proofs
set_option maxRecDepth 100000
set_option maxHeartbeats 4000000
theorem signed_ret (n : Bool) (xs : List Nat) (A : Option Addr) (c : Nat) (w : World) (S : Nat → Prop) (hx : Rd A (u32s xs) w) (lx : lim xs) (hc : xs.length ≤ c) (hb : xs.length ≤ 35184372088832) :
    Ret Try.prog 107 [.bool n, .slice A xs.length c] w S (fun _ : Unit => iv (sgn n (val xs)) (sgP (val xs) A)) (fun _ _ => True) := by
  have ht : trimL xs = limbsOf (val xs) := trimL_limbsOf lx
  refine ret_of Try.func107 rfl Try.ntmps107 rfl ?_
  refine tr_rseq ?_
  refine sq_alloc rfl fun r4 => ?_
  refine sq_end ?_
  refine tr_rseq ?_
  refine sq_q (qt_move rfl) rfl ?_
  refine sq_call (val := fun _ : Unit => .slice A (limbsOf (val xs)).length (limbsOf (val xs)).length) (F := fun _ _ => True) rfl rfl rfl (fun w t => trim_ret' xs A c w _ (t.rd hx) hc hb lx) fun _ => ?_
  refine sq_q (qt_assign rfl) rfl ?_
  refine sq_end ?_
  refine tr_seq ?_
  refine tr_rseq ?_
  refine sq_q (qt_move rfl) rfl ?_
  refine sq_q (qt_len rfl) rfl ?_
  refine sq_q (qt_bin rfl rfl bin_eql) rfl ?_
  refine sq_end ?_
  refine tr_if rfl (fun hc => ?_) (fun hc => ?_)
  ·
    have h0 : val xs = 0 := by
      have h := of_decide_eq_true hc
      exact nl_zero.1 (by unfold nl; omega)
    refine tr_rseq ?_
    refine sq_q (qt_build rfl built0) rfl ?_
    refine sq_store 0 rfl rfl rfl rfl (by first | (simp [u32s, Value.cells]; done) | (simp [u32s, Value.cells]; omega) | exact Nat.le_refl 2) rfl rfl ?_
    refine sq_end ?_
    refine tr_ret ?_
    repeat with_reducible first | refine tr_skip ?_ | refine tr_exit ?_ | refine tr_then ?_ | refine tr_inX ?_ | refine tr_thenX ?_ | refine tr_inN ?_ | refine tr_inR ?_ | refine tr_thenR ?_
    refine tr_done () (fun a w s t => results_1 rfl ?_) (fun _ _ _ _ => trivial)
    rw [h0, iv_sgP0]
    exact resv_cell 0 s t rfl rfl rfl
  ·
    have h0 : val xs ≠ 0 := by
      intro h
      have h' := of_decide_eq_false hc
      rw [h, limbsOf_zero] at h'
      exact h' rfl
    refine tr_skip ?_
    repeat with_reducible first | refine tr_skip ?_ | refine tr_exit ?_ | refine tr_then ?_ | refine tr_inX ?_ | refine tr_thenX ?_ | refine tr_inN ?_ | refine tr_inR ?_ | refine tr_thenR ?_
    refine tr_rseq ?_
    refine sq_q (qt_move rfl) rfl ?_
    refine sq_q (qt_move rfl) rfl ?_
    refine sq_q (qt_build rfl (built2 _ _ _ _)) rfl ?_
    refine sq_store 0 rfl rfl rfl rfl (by first | (simp [u32s, Value.cells]; done) | (simp [u32s, Value.cells]; omega) | exact Nat.le_refl 2) rfl rfl ?_
    refine sq_end ?_
    refine tr_ret ?_
    repeat with_reducible first | refine tr_skip ?_ | refine tr_exit ?_ | refine tr_then ?_ | refine tr_inX ?_ | refine tr_thenX ?_ | refine tr_inN ?_ | refine tr_inR ?_ | refine tr_thenR ?_
    refine tr_done () (fun a w s t => results_1 rfl ?_) (fun _ _ _ _ => trivial)
    rw [iv_sgP h0]
    exact resv_cell 0 s t rfl rfl rfl
theorem magnitude_ret (n : Bool) (xs : List Nat) (p : Sv) (w : World) (S : Nat → Prop) (hx : Lm xs p w) (lx : lim xs) (hb : xs.length ≤ 35184372088832) :
    Ret Try.prog 114 [ig n xs p] w S (fun _ : Unit => .slice p.1 (limbsOf (val xs)).length (limbsOf (val xs)).length) (fun _ _ => True) := by
  have hxr := cut_rd hx lx
  have hxn := nl_val lx
  refine ret_of Try.func114 rfl Try.ntmps114 rfl ?_
  refine tr_rseq ?_
  refine sq_box rfl rfl fun r1 => ?_
  refine sq_q (qt_assign rfl) rfl ?_
  refine sq_end ?_
  refine tr_rseq ?_
  refine sq_q (qt_fieldAddr rfl) rfl ?_
  refine sq_q (qt_load rfl (fun w t => t.atO 0 rfl rfl)) rfl ?_
  refine sq_call (val := fun _ : Unit => .slice p.1 (limbsOf (val xs)).length (limbsOf (val xs)).length) (F := fun _ _ => True) rfl rfl rfl (fun w t => trim_ret' xs p.1 p.2 w _ (t.rd hx.1) hx.2 hb lx) fun _ => ?_
  refine sq_q (qt_assign rfl) rfl ?_
  refine sq_end ?_
  refine tr_ret ?_
  repeat with_reducible first | refine tr_skip ?_ | refine tr_exit ?_ | refine tr_then ?_ | refine tr_inX ?_ | refine tr_thenX ?_ | refine tr_inN ?_ | refine tr_inR ?_ | refine tr_thenR ?_
  exact tr_done () (fun a w s t => results_1 rfl (resv_tmp s rfl)) (fun _ _ _ _ => trivial)
end Go.Qk
end
section
set_option linter.unusedVariables false
namespace Go.Qk
open Go Go.Proofs Go.RowKit
theorem signed_own (n : Bool) (m : Nat) (A : Option Addr) (c : Nat) (w : World) (S : Nat → Prop) (hx : Rd A (u32s (limbsOf m)) w) (hc : (limbsOf m).length ≤ c) (hb : nl m ≤ 35184372088832) :
    Ret Try.prog 107 [.bool n, .slice A (limbsOf m).length c] w S (fun _ : Unit => iv (sgn n m) (sgP m A)) (fun _ _ => True) := by
  have h := signed_ret n (limbsOf m) A c w S hx (lim_limbsOf m) hc hb
  rwa [val_limbsOf] at h
theorem signed_lz {w0 w : World} {X : List Nat} {S : Nat → Prop} {own : Own} {R : World → Prop} (t : SS w0 X S own R w) (n : Bool) (m : Nat) (p : Sv) (hp : ∀ w, R w → Lz m p w) (hb : nl m ≤ 35184372088832) :
    Ret Try.prog 107 [.bool n, slv (limbsOf m) p] w (Nn w0 S own w) (iv (sgn n m)) (Lz m) := by
  refine (t.carry (signed_own n m p.1 p.2 w _ (hp w t.r).1 (hp w t.r).2 hb)).mono ?_
  rintro e w' ⟨x, rfl, hb, hf⟩
  exact ⟨sgP m p.1, rfl, hb, fun w'' hs hk => Lz.sgP (hp _ (hf w'' hs hk).2).1⟩
end Go.Qk
end
section
set_option linter.unusedVariables false
namespace Go.Qk
open Go Go.Proofs
set_option maxRecDepth 100000
set_option maxHeartbeats 4000000
theorem normalize_ret (n : Bool) (xs : List Nat) (p : Sv) (w : World) (S : Nat → Prop) (hx : Lm xs p w) (lx : lim xs) (hb : xs.length ≤ 35184372088832) :
    Ret Try.prog 90 [ig n xs p] w S (iv (sgn n (val xs))) (Lz (val xs)) := by
  have hxr := cut_rd hx lx
  have hxn := nl_val lx
  have hl : (limbsOf (val xs)).length ≤ 35184372088832 := Nat.le_trans hxn hb
  have hbm : nl (val xs) ≤ 35184372088832 := hl
  refine ret_of Try.func90 rfl Try.ntmps90 rfl ?_
  refine tr_rseq ?_
  refine sq_box rfl rfl fun r1 => ?_
  refine sq_alloc rfl fun r2 => ?_
  refine sq_end ?_
  refine tr_rseq ?_
  refine sq_q (qt_load2 rfl (fun w t => t.atO 1 rfl rfl) (fun w t => t.atO 1 rfl rfl)) rfl ?_
  refine sq_call (val := fun _ : Unit => .slice p.1 (limbsOf (val xs)).length (limbsOf (val xs)).length) (F := fun _ _ => True) rfl rfl rfl (fun w t => magnitude_ret n xs p w _ (t.lm hx) lx hb) fun _ => ?_
  refine sq_q (qt_assign rfl) rfl ?_
  refine sq_end ?_
  refine tr_rseq ?_
  refine sq_q (qt_move rfl) rfl ?_
  refine sq_q (qt_len rfl) rfl ?_
  refine sq_make rfl rfl (by omega) (by omega) rfl fun r9 => ?_
  refine sq_q (qt_assign rfl) rfl ?_
  refine sq_end ?_
  rw [made_u32]
  refine tr_rseq ?_
  refine sq_q (qt_move rfl) rfl ?_
  refine sq_q (qt_move rfl) rfl ?_
  refine sq_copy 0 (u32s (limbsOf (val xs))) rfl rfl rfl (by simp [u32s]) (by simp [u32s]) (one_u32s _) (fun w t => t.rd hxr) rfl ?_
  refine sq_end ?_
  refine tr_rseq ?_
  refine sq_q (qt_fieldAddr rfl) rfl ?_
  refine sq_q (qt_load rfl (fun w t => t.atO 2 rfl rfl)) rfl ?_
  refine sq_q (qt_move rfl) rfl ?_
  refine sq_call (val := fun _ : Unit => iv (sgn n (val xs)) (sgP (val xs) (some ⟨r9, 0, none⟩))) (F := fun _ _ => True) rfl rfl rfl (fun w t => signed_own n (val xs) _ _ w _ (Rd.own (t.has _ (ownAt_mem (i := 0) rfl))) (Nat.le_refl _) hbm) fun _ => ?_
  refine sq_store 1 rfl rfl rfl rfl (Nat.le_refl 2) rfl rfl ?_
  refine sq_end ?_
  refine tr_ret ?_
  repeat with_reducible first | refine tr_skip ?_ | refine tr_exit ?_ | refine tr_then ?_ | refine tr_inX ?_ | refine tr_thenX ?_ | refine tr_inN ?_ | refine tr_inR ?_ | refine tr_thenR ?_
  refine tr_done (sgP (val xs) (some ⟨r9, 0, none⟩)) (fun a w s t => results_1 rfl (resv_cell 1 s t rfl rfl rfl)) (fun w _ ho _ => Lz.sgP (Rd.own (ho _ (ownAt_mem (i := 0) rfl))))
theorem small_ret (a : Int) (w : World) (S : Nat → Prop) (h0 : -9223372036854775808 ≤ a) (h1 : a < 9223372036854775808) :
    Ret Try.prog 66 [.int .i64 a] w S (iv a) (Lz a.natAbs) := by
  have ha : a.natAbs ≤ 9223372036854775808 := by omega
  have hxs : val [a.natAbs % 4294967296, a.natAbs / 4294967296] = a.natAbs := by simp [val]; omega
  refine ret_of Try.func66 rfl Try.ntmps66 rfl ?_
  refine tr_rseq ?_
  refine sq_alloc rfl fun r2 => ?_
  refine sq_end ?_
  refine tr_rseq ?_
  refine sq_q (qt_move rfl) rfl ?_
  refine sq_q (qt_to64m rfl) rfl ?_
  refine sq_q (qt_assign rfl) rfl ?_
  refine sq_end ?_
  refine tr_cut (fun _ : Unit => True) (fun _ => [(0, .int .i64 a), (2, .pointer (some ⟨r2, 0, none⟩)), (3, .int .u64 ((a.natAbs : Nat) : Int))]) (fun _ => [(r2, .cells #[.bool false, .slice none 0 0] 35 (0, 0))]) (fun _ _ => True) ?_ ?_
  ·
    refine tr_rseq ?_
    refine sq_q (qt_move rfl) rfl ?_
    refine sq_q (qt_bin rfl rfl bin_lss) rfl ?_
    refine sq_end ?_
    refine tr_if rfl (fun hc => ?_) (fun hc => ?_)
    ·
      have hc := of_decide_eq_true hc
      refine tr_region ?_
      refine sq_q (qt_move rfl) rfl ?_
      refine sq_q (qt_negU rfl) rfl ?_
      refine sq_q (qt_assign rfl) rfl ?_
      refine sq_nil ?_
      repeat with_reducible first | refine tr_skip ?_ | refine tr_exit ?_ | refine tr_then ?_ | refine tr_inX ?_ | refine tr_thenX ?_ | refine tr_inN ?_ | refine tr_inR ?_ | refine tr_thenR ?_
      refine tr_mid () trivial ⟨rfl, rfl, congrArg (fun z => some (Value.int .u64 z)) (show (0 - a % 18446744073709551616) % 18446744073709551616 = ((a.natAbs : Nat) : Int) by omega), trivial⟩ rfl (fun _ h => h)
    ·
      have hc := of_decide_eq_false hc
      refine tr_skip ?_
      repeat with_reducible first | refine tr_skip ?_ | refine tr_exit ?_ | refine tr_then ?_ | refine tr_inX ?_ | refine tr_thenX ?_ | refine tr_inN ?_ | refine tr_inR ?_ | refine tr_thenR ?_
      refine tr_mid () trivial ⟨rfl, rfl, congrArg (fun z => some (Value.int .u64 z)) (show a % 18446744073709551616 = ((a.natAbs : Nat) : Int) by omega), trivial⟩ rfl (fun _ h => h)
  ·
    rintro _ _
    refine tr_rseq ?_
    refine sq_q (qt_move rfl) rfl ?_
    refine sq_q (qt_bin rfl rfl bin_lss) rfl ?_
    refine sq_q (qt_move rfl) rfl ?_
    refine sq_q (qt_to32 rfl) rfl ?_
    refine sq_q (qt_move rfl) rfl ?_
    refine sq_q (qt_bin rfl rfl (bin_shrU 32 rfl (by omega) (by omega))) rfl ?_
    refine sq_q (qt_to32 rfl) rfl ?_
    refine sq_sub [(2, .pointer (some ⟨r2, 0, none⟩)), (11, .bool (decide (a < 0))), (13, .int .u32 ((a.natAbs % 4294967296 : Nat) : Int)), (16, .int .u32 ((a.natAbs / 4294967296 : Nat) : Int))] ?_ ?_
    · exact ⟨rfl, rfl, congrArg (fun z => some (Value.int .u32 z)) (show ((a.natAbs : Nat) : Int) % 4294967296 = ((a.natAbs % 4294967296 : Nat) : Int) by omega), congrArg (fun z => some (Value.int .u32 z)) (show ((a.natAbs : Nat) : Int) / 2 ^ 32 % 4294967296 = ((a.natAbs / 4294967296 : Nat) : Int) by omega), trivial⟩
    refine sq_lit (vs := [(0, .int .u32 ((a.natAbs % 4294967296 : Nat) : Int)), (1, .int .u32 ((a.natAbs / 4294967296 : Nat) : Int))]) (cells := u32s [a.natAbs % 4294967296, a.natAbs / 4294967296]) rfl rfl rfl (by simp [Instr.fill, u32s, Value.cells, show Array.range 2 = #[0, 1] from by decide]) rfl fun r17 => ?_
    refine sq_call (val := fun _ : Unit => iv a (sgP a.natAbs (some ⟨r17, 0, none⟩))) (F := fun _ _ => True) rfl rfl rfl (fun w t => ?_) fun _ => ?_
    · have h := fun S' => signed_ret (decide (a < 0)) [a.natAbs % 4294967296, a.natAbs / 4294967296] (some ⟨r17, 0, none⟩) 2 w S' (Rd.own (t.has _ (ownAt_mem (i := 0) rfl))) (by intro x hx; simp at hx; omega) (Nat.le_refl 2) (by simp)
      rw [hxs, sgn_self] at h
      exact h _
    refine sq_store 1 rfl rfl rfl rfl (Nat.le_refl 2) rfl rfl ?_
    refine sq_end ?_
    refine tr_ret ?_
    repeat with_reducible first | refine tr_skip ?_ | refine tr_exit ?_ | refine tr_then ?_ | refine tr_inX ?_ | refine tr_thenX ?_ | refine tr_inN ?_ | refine tr_inR ?_ | refine tr_thenR ?_
    refine tr_done (sgP a.natAbs (some ⟨r17, 0, none⟩)) (fun a w s t => results_1 rfl (resv_cell 1 s t rfl rfl rfl)) (fun w _ ho _ => ?_)
    have hl : limbsOf a.natAbs = trimL [a.natAbs % 4294967296, a.natAbs / 4294967296] := by rw [trimL_limbsOf (by intro x hx; simp at hx; omega), hxs]
    have h := (lm_trim (ho _ (ownAt_mem (i := 0) rfl))).1
    rw [← hl] at h
    exact Lz.sgP h
theorem sign_ret (n : Bool) (xs : List Nat) (p : Sv) (w : World) (S : Nat → Prop) (hx : Lm xs p w) (lx : lim xs) (hb : xs.length ≤ 35184372088832) :
    Ret Try.prog 108 [ig n xs p] w S (fun _ : Unit => .int .i64 (sgn n (val xs)).sign) (fun _ _ => True) := by
  have hxr := cut_rd hx lx
  have hxn := nl_val lx
  have hl : (limbsOf (val xs)).length ≤ 35184372088832 := Nat.le_trans hxn hb
  refine ret_of Try.func108 rfl Try.ntmps108 rfl ?_
  refine tr_rseq ?_
  refine sq_box rfl rfl fun r1 => ?_
  refine sq_q (qt_assign rfl) rfl ?_
  refine sq_end ?_
  refine tr_seq ?_
  refine tr_block ?_
  refine tr_rseq ?_
  refine sq_q (qt_load2 rfl (fun w t => t.atO 0 rfl rfl) (fun w t => t.atO 0 rfl rfl)) rfl ?_
  refine sq_call (val := fun _ : Unit => .slice p.1 (limbsOf (val xs)).length (limbsOf (val xs)).length) (F := fun _ _ => True) rfl rfl rfl (fun w t => magnitude_ret n xs p w _ (t.lm hx) lx hb) fun _ => ?_
  refine sq_q (qt_len rfl) rfl ?_
  refine sq_q (qt_bin rfl rfl bin_eql) rfl ?_
  refine sq_q (qt_assign rfl) rfl ?_
  refine sq_end ?_
  refine tr_if rfl (fun hc => ?_) (fun hc => ?_)
  ·
    have h0 : (val xs) = 0 := nl_zero.1 (by have := of_decide_eq_true hc; unfold nl; omega)
    refine tr_rseq ?_
    refine sq_q (qt_assign rfl) rfl ?_
    refine sq_end ?_
    refine tr_ret ?_
    repeat with_reducible first | refine tr_skip ?_ | refine tr_exit ?_ | refine tr_then ?_ | refine tr_inX ?_ | refine tr_thenX ?_ | refine tr_inN ?_ | refine tr_inR ?_ | refine tr_thenR ?_
    refine tr_done () (fun a w s t => results_1 rfl (resv_tmp s ?_)) (fun _ _ _ _ => trivial)
    rw [h0, show sgn n 0 = 0 by unfold sgn; split <;> rfl]
    rfl
  ·
    have h0 : (val xs) ≠ 0 := by
      intro h
      have := of_decide_eq_false hc
      rw [h, limbsOf_zero] at this
      exact this rfl
    refine tr_rseq ?_
    refine sq_q (qt_fieldAddr rfl) rfl ?_
    refine sq_q (qt_load rfl (fun w t => t.atO 0 rfl rfl)) rfl ?_
    refine sq_q (qt_assign rfl) rfl ?_
    refine sq_end ?_
    refine tr_if rfl (fun hc => ?_) (fun hc => ?_)
    ·
      subst hc
      refine tr_rseq ?_
      refine sq_q (qt_assign rfl) rfl ?_
      refine sq_end ?_
      refine tr_ret ?_
      repeat with_reducible first | refine tr_skip ?_ | refine tr_exit ?_ | refine tr_then ?_ | refine tr_inX ?_ | refine tr_thenX ?_ | refine tr_inN ?_ | refine tr_inR ?_ | refine tr_thenR ?_
      refine tr_done () (fun a w s t => results_1 rfl (resv_tmp s ?_)) (fun _ _ _ _ => trivial)
      rw [show sgn true (val xs) = -((val xs) : Int) from rfl, Int.sign_eq_neg_one_of_neg (by omega)]
      rfl
    ·
      subst hc
      refine tr_skip ?_
      repeat with_reducible first | refine tr_skip ?_ | refine tr_exit ?_ | refine tr_then ?_ | refine tr_inX ?_ | refine tr_thenX ?_ | refine tr_inN ?_ | refine tr_inR ?_ | refine tr_thenR ?_
      refine tr_rseq ?_
      refine sq_q (qt_assign rfl) rfl ?_
      refine sq_end ?_
      refine tr_ret ?_
      repeat with_reducible first | refine tr_skip ?_ | refine tr_exit ?_ | refine tr_then ?_ | refine tr_inX ?_ | refine tr_thenX ?_ | refine tr_inN ?_ | refine tr_inR ?_ | refine tr_thenR ?_
      refine tr_done () (fun a w s t => results_1 rfl (resv_tmp s ?_)) (fun _ _ _ _ => trivial)
      rw [show sgn false (val xs) = ((val xs) : Int) from rfl, Int.sign_eq_one_of_pos (by omega)]
      rfl
end Go.Qk
end
section
set_option linter.unusedVariables false
namespace Go.Qk
open Go Go.Proofs
set_option maxRecDepth 100000
set_option maxHeartbeats 4000000
theorem neg_ret (n : Bool) (xs : List Nat) (p : Sv) (w : World) (S : Nat → Prop) (hx : Lm xs p w) (lx : lim xs) (hb : xs.length ≤ 35184372088832) :
    Ret Try.prog 81 [ig n xs p] w S (iv (-(sgn n (val xs)))) (Lz (val xs)) := by
  have hxr := cut_rd hx lx
  have hxn := nl_val lx
  have hz := sgn_natAbs n (val xs)
  refine ret_of Try.func81 rfl Try.ntmps81 rfl ?_
  refine tr_rseq ?_
  refine sq_box rfl rfl fun r1 => ?_
  refine sq_alloc rfl fun r2 => ?_
  refine sq_end ?_
  refine tr_rseq ?_
  refine sq_q (qt_load2 rfl (fun w t => t.atO 1 rfl rfl) (fun w t => t.atO 1 rfl rfl)) rfl ?_
  refine sq_call (iv (sgn n (val xs))) (Lz (val xs)) rfl rfl rfl (fun w t => normalize_ret n xs p w _ (t.lm hx) lx hb) fun q => ?_
  refine sq_store 1 rfl rfl rfl rfl (Nat.le_refl 2) rfl rfl ?_
  refine sq_end ?_
  refine tr_rseq ?_
  refine sq_q (qt_fieldAddr rfl) rfl ?_
  refine sq_q (qt_load rfl (fun w t => t.atO 1 rfl rfl)) rfl ?_
  refine sq_q (qt_not rfl) rfl ?_
  refine sq_q (qt_fieldAddr rfl) rfl ?_
  refine sq_q (qt_load rfl (fun w t => t.atO 1 rfl rfl)) rfl ?_
  refine sq_call (iv (-(sgn n (val xs)))) (Lz (val xs)) rfl rfl rfl (fun w t => ?_) fun x => ?_
  · have h := fun hp => signed_lz t (!decide (sgn n (val xs) < 0)) (sgn n (val xs)).natAbs q hp (by rw [hz]; omega)
    rw [hz, show sgn (!decide (sgn n (val xs) < 0)) (val xs) = -(sgn n (val xs)) by cases n <;> by_cases h0 : (val xs) = 0 <;> simp [sgn] <;> omega] at h
    have e : (sgn n (val xs)).natAbs = (val xs) := hz
    show Ret _ _ [.bool (!decide (sgn n (val xs) < 0)), slv (limbsOf (sgn n (val xs)).natAbs) q] _ _ _ _
    rw [e]
    exact h fun w h => h.2
  refine sq_store 0 rfl rfl rfl rfl (Nat.le_refl 2) rfl rfl ?_
  refine sq_end ?_
  refine tr_ret ?_
  repeat with_reducible first | refine tr_skip ?_ | refine tr_exit ?_ | refine tr_then ?_ | refine tr_inX ?_ | refine tr_thenX ?_ | refine tr_inN ?_ | refine tr_inR ?_ | refine tr_thenR ?_
  exact tr_done x (fun a w s t => results_1 rfl (resv_cell 0 s t rfl rfl rfl)) (fun w h _ _ => h.2)
theorem add_ret (n n' : Bool) (xs ys : List Nat) (p p' : Sv) (w : World) (S : Nat → Prop) (hx : Lm xs p w) (lx : lim xs) (hy : Lm ys p' w) (ly : lim ys) (hb : xs.length < 35184372088832) (hb' : ys.length < 35184372088832) :
    Ret Try.prog 93 [ig n xs p, ig n' ys p'] w S (iv (sgn n (val xs) + sgn n' (val ys))) (Lz (sgn n (val xs) + sgn n' (val ys)).natAbs) := by
  have hxr := cut_rd hx lx
  have hxn := nl_val lx
  have hyr := cut_rd hy ly
  have hyn := nl_val ly
  refine ret_of Try.func93 rfl Try.ntmps93 rfl ?_
  refine tr_rseq ?_
  refine sq_box rfl rfl fun r2 => ?_
  refine sq_box rfl rfl fun r3 => ?_
  refine sq_alloc rfl fun r4 => ?_
  refine sq_end ?_
  refine tr_rdraw0 [0, 1, 2, 3, 4, 5, 6, 15, 25] (by kernel_rfl) ?_
  refine dx_q rfl (qt_load2 rfl (fun w t => t.atO 2 rfl rfl) (fun w t => t.atO 2 rfl rfl)) rfl ?_
  refine dx_callv (v := .slice p.1 (limbsOf (val xs)).length (limbsOf (val xs)).length) (F := fun _ _ => True) rfl rfl rfl (fun w t => magnitude_ret n xs p w _ (t.lm hx) lx (by omega)) ?_
  refine dx_q rfl (qt_load2 rfl (fun w t => t.atO 1 rfl rfl) (fun w t => t.atO 1 rfl rfl)) rfl ?_
  refine dx_callv (v := .slice p'.1 (limbsOf (val ys)).length (limbsOf (val ys)).length) (F := fun _ _ => True) rfl rfl rfl (fun w t => magnitude_ret n' ys p' w _ (t.lm hy) ly (by omega)) ?_
  refine dx_q rfl (qt_assign rfl) rfl ?_
  refine dx_q rfl (qt_assign rfl) rfl ?_
  refine dx_nil ?_
  repeat (first | refine es_val rfl ?_ rfl | refine es_res rfl (fun x => ?_) rfl | refine es_skip rfl ?_)
  refine es_nil rfl ?_
  refine tx_endk ?_
  refine tr_seq ?_
  refine tr_rseq ?_
  refine sq_q (qt_fieldAddr rfl) rfl ?_
  refine sq_q (qt_load rfl (fun w t => t.atO 2 rfl rfl)) rfl ?_
  refine sq_q (qt_fieldAddr rfl) rfl ?_
  refine sq_q (qt_load rfl (fun w t => t.atO 1 rfl rfl)) rfl ?_
  refine sq_q (qt_binB rfl rfl (bin_eqlB boolT _ _)) rfl ?_
  refine sq_end ?_
  refine tr_if rfl (fun hc => ?_) (fun hc => ?_)
  ·
    have hnn : n = n' := by simpa using hc
    have hs : sgn n (val xs) + sgn n' (val ys) = sgn n ((val xs) + (val ys)) := by subst hnn; cases n <;> simp [sgn] <;> omega
    rw [hs, sgn_natAbs]
    have hnl := nl_add (val xs) (val ys)
    refine tr_rdraw 6 [] [] [0, 1, 2, 3, 4, 5, 6, 15, 21, 25] (by kernel_rfl) ?_
    refine dx_q rfl (qt_fieldAddr rfl) rfl ?_
    refine dx_q rfl (qt_load rfl (fun w t => t.atO 2 rfl rfl)) rfl ?_
    refine dx_q rfl (qt_move rfl) rfl ?_
    refine dx_q rfl (qt_move rfl) rfl ?_
    refine dx_call (slv (limbsOf ((val xs) + (val ys)))) (Lz ((val xs) + (val ys))) rfl rfl rfl (fun w t => plus_lz (t.rd hxr) (t.rd hyr) (by omega) (by omega)) ?_
    refine dx_call1 20 (iv (sgn n ((val xs) + (val ys)))) (Lz ((val xs) + (val ys))) rfl rfl (by simp) rfl (fun _ => rfl) (fun _ => rfl) (fun y w t => signed_lz t n ((val xs) + (val ys)) y (fun w h => h.2) (by omega)) ?_
    refine dx_nil ?_
    repeat (first | refine es_val rfl ?_ rfl | refine es_res rfl (fun x => ?_) rfl | refine es_skip rfl ?_)
    refine es_nil rfl ?_
    refine tx_store 0 rfl rfl rfl rfl (by first | (simp [u32s, Value.cells]; done) | (simp [u32s, Value.cells]; omega) | exact Nat.le_refl 2) rfl rfl rfl ?_
    refine tx_endk ?_
    refine tr_ret ?_
    repeat with_reducible first | refine tr_skip ?_ | refine tr_exit ?_ | refine tr_then ?_ | refine tr_inX ?_ | refine tr_thenX ?_ | refine tr_inN ?_ | refine tr_inR ?_ | refine tr_thenR ?_
    exact tr_done x (fun a w s t => results_1 rfl (resv_cell 0 s t rfl rfl rfl)) (fun w h _ _ => h.2)
  ·
    have hnn : n' = !n := by cases n <;> cases n' <;> simp at hc ⊢
    refine tr_skip ?_
    repeat with_reducible first | refine tr_skip ?_ | refine tr_exit ?_ | refine tr_then ?_ | refine tr_inX ?_ | refine tr_thenX ?_ | refine tr_inN ?_ | refine tr_inR ?_ | refine tr_thenR ?_
    refine tr_seq ?_
    refine tr_rseq ?_
    refine sq_q (qt_move rfl) rfl ?_
    refine sq_q (qt_move rfl) rfl ?_
    refine sq_call (val := fun _ : Unit => .int .i64 (cmp3 (val xs) (val ys))) (F := fun _ _ => True) rfl rfl rfl (fun w t => compare_lz (t.rd hxr) (t.rd hyr) (by omega) (by omega)) fun _ => ?_
    refine sq_q (qt_bin rfl rfl bin_geq) rfl ?_
    refine sq_end ?_
    refine tr_if rfl (fun hc => ?_) (fun hc => ?_)
    ·
      have hle : (val ys) ≤ (val xs) := by
        have h := of_decide_eq_true hc
        unfold cmp3 at h
        split at h
        · omega
        · omega
      have hs : sgn n (val xs) + sgn n' (val ys) = sgn n ((val xs) - (val ys)) := by subst hnn; cases n <;> simp [sgn] <;> omega
      rw [hs, sgn_natAbs]
      have hnl := nl_mono (Nat.sub_le (val xs) (val ys))
      refine tr_rdraw 6 [] [] [0, 1, 2, 3, 4, 5, 6, 15, 25, 31] (by kernel_rfl) ?_
      refine dx_q rfl (qt_fieldAddr rfl) rfl ?_
      refine dx_q rfl (qt_load rfl (fun w t => t.atO 2 rfl rfl)) rfl ?_
      refine dx_q rfl (qt_move rfl) rfl ?_
      refine dx_q rfl (qt_move rfl) rfl ?_
      refine dx_call (slv (limbsOf ((val xs) - (val ys)))) (Lz ((val xs) - (val ys))) rfl rfl rfl (fun w t => minus_lz (t.rd hxr) (t.rd hyr) (by omega) hle) ?_
      refine dx_call1 30 (iv (sgn n ((val xs) - (val ys)))) (Lz ((val xs) - (val ys))) rfl rfl (by simp) rfl (fun _ => rfl) (fun _ => rfl) (fun y w t => signed_lz t n ((val xs) - (val ys)) y (fun w h => h.2) (by omega)) ?_
      refine dx_nil ?_
      repeat (first | refine es_val rfl ?_ rfl | refine es_res rfl (fun x => ?_) rfl | refine es_skip rfl ?_)
      refine es_nil rfl ?_
      refine tx_store 0 rfl rfl rfl rfl (by first | (simp [u32s, Value.cells]; done) | (simp [u32s, Value.cells]; omega) | exact Nat.le_refl 2) rfl rfl rfl ?_
      refine tx_endk ?_
      refine tr_ret ?_
      repeat with_reducible first | refine tr_skip ?_ | refine tr_exit ?_ | refine tr_then ?_ | refine tr_inX ?_ | refine tr_thenX ?_ | refine tr_inN ?_ | refine tr_inR ?_ | refine tr_thenR ?_
      exact tr_done x (fun a w s t => results_1 rfl (resv_cell 0 s t rfl rfl rfl)) (fun w h _ _ => h.2)
    ·
      have hle : (val xs) ≤ (val ys) := by
        have h := of_decide_eq_false hc
        unfold cmp3 at h
        split at h
        · omega
        · split at h <;> omega
      have hs : sgn n (val xs) + sgn n' (val ys) = sgn n' ((val ys) - (val xs)) := by subst hnn; cases n <;> simp [sgn] <;> omega
      rw [hs, sgn_natAbs]
      have hnl := nl_mono (Nat.sub_le (val ys) (val xs))
      refine tr_skip ?_
      repeat with_reducible first | refine tr_skip ?_ | refine tr_exit ?_ | refine tr_then ?_ | refine tr_inX ?_ | refine tr_thenX ?_ | refine tr_inN ?_ | refine tr_inR ?_ | refine tr_thenR ?_
      refine tr_rdraw 6 [] [] [0, 1, 2, 3, 4, 5, 6, 15, 25, 37] (by kernel_rfl) ?_
      refine dx_q rfl (qt_fieldAddr rfl) rfl ?_
      refine dx_q rfl (qt_load rfl (fun w t => t.atO 1 rfl rfl)) rfl ?_
      refine dx_q rfl (qt_move rfl) rfl ?_
      refine dx_q rfl (qt_move rfl) rfl ?_
      refine dx_call (slv (limbsOf ((val ys) - (val xs)))) (Lz ((val ys) - (val xs))) rfl rfl rfl (fun w t => minus_lz (t.rd hyr) (t.rd hxr) (by omega) hle) ?_
      refine dx_call1 36 (iv (sgn n' ((val ys) - (val xs)))) (Lz ((val ys) - (val xs))) rfl rfl (by simp) rfl (fun _ => rfl) (fun _ => rfl) (fun y w t => signed_lz t n' ((val ys) - (val xs)) y (fun w h => h.2) (by omega)) ?_
      refine dx_nil ?_
      repeat (first | refine es_val rfl ?_ rfl | refine es_res rfl (fun x => ?_) rfl | refine es_skip rfl ?_)
      refine es_nil rfl ?_
      refine tx_store 0 rfl rfl rfl rfl (by first | (simp [u32s, Value.cells]; done) | (simp [u32s, Value.cells]; omega) | exact Nat.le_refl 2) rfl rfl rfl ?_
      refine tx_endk ?_
      refine tr_ret ?_
      repeat with_reducible first | refine tr_skip ?_ | refine tr_exit ?_ | refine tr_then ?_ | refine tr_inX ?_ | refine tr_thenX ?_ | refine tr_inN ?_ | refine tr_inR ?_ | refine tr_thenR ?_
      exact tr_done x (fun a w s t => results_1 rfl (resv_cell 0 s t rfl rfl rfl)) (fun w h _ _ => h.2)
end Go.Qk
end
section
set_option linter.unusedVariables false
namespace Go.Qk
open Go Go.Proofs
set_option maxRecDepth 100000
set_option maxHeartbeats 4000000
theorem sub_ret (n n' : Bool) (xs ys : List Nat) (p p' : Sv) (w : World) (S : Nat → Prop) (hx : Lm xs p w) (lx : lim xs) (hy : Lm ys p' w) (ly : lim ys) (hb : xs.length < 35184372088832) (hb' : ys.length < 35184372088832) :
    Ret Try.prog 109 [ig n xs p, ig n' ys p'] w S (iv (sgn n (val xs) - sgn n' (val ys))) (Lz (sgn n (val xs) - sgn n' (val ys)).natAbs) := by
  have hxr := cut_rd hx lx
  have hxn := nl_val lx
  have hyr := cut_rd hy ly
  have hyn := nl_val ly
  have hs : sgn n (val xs) - sgn n' (val ys) = sgn n (val xs) + sgn (!n') (val ys) := by cases n' <;> simp [sgn] <;> omega
  rw [hs]
  refine ret_of Try.func109 rfl Try.ntmps109 rfl ?_
  refine tr_rseq ?_
  refine sq_box rfl rfl fun r2 => ?_
  refine sq_box rfl rfl fun r3 => ?_
  refine sq_alloc rfl fun r4 => ?_
  refine sq_end ?_
  refine tr_rseq ?_
  refine sq_q (qt_load2 rfl (fun w t => t.atO 2 rfl rfl) (fun w t => t.atO 2 rfl rfl)) rfl ?_
  refine sq_q (qt_fieldAddr rfl) rfl ?_
  refine sq_q (qt_load rfl (fun w t => t.atO 1 rfl rfl)) rfl ?_
  refine sq_q (qt_not rfl) rfl ?_
  refine sq_q (qt_fieldAddr rfl) rfl ?_
  refine sq_q (qt_load rfl (fun w t => t.atO 1 rfl rfl)) rfl ?_
  refine sq_q (qt_build rfl (built2 _ _ _ _)) rfl ?_
  refine sq_call (iv (sgn n (val xs) + sgn (!n') (val ys))) (Lz (sgn n (val xs) + sgn (!n') (val ys)).natAbs) rfl rfl rfl (fun w t => add_ret n (!n') xs ys p p' w _ (t.lm hx) lx (t.lm hy) ly hb hb') fun x => ?_
  refine sq_store 0 rfl rfl rfl rfl (by first | (simp [u32s, Value.cells]; done) | (simp [u32s, Value.cells]; omega) | exact Nat.le_refl 2) rfl rfl ?_
  refine sq_end ?_
  refine tr_ret ?_
  repeat with_reducible first | refine tr_skip ?_ | refine tr_exit ?_ | refine tr_then ?_ | refine tr_inX ?_ | refine tr_thenX ?_ | refine tr_inN ?_ | refine tr_inR ?_ | refine tr_thenR ?_
  exact tr_done x (fun a w s t => results_1 rfl (resv_cell 0 s t rfl rfl rfl)) (fun w h _ _ => h.2)
theorem mul_ret (n n' : Bool) (xs ys : List Nat) (p p' : Sv) (w : World) (S : Nat → Prop) (hx : Lm xs p w) (lx : lim xs) (hy : Lm ys p' w) (ly : lim ys) (hb : xs.length + ys.length ≤ 35184372088832) :
    Ret Try.prog 87 [ig n xs p, ig n' ys p'] w S (iv (sgn n (val xs) * sgn n' (val ys))) (Lz (sgn n (val xs) * sgn n' (val ys)).natAbs) := by
  have hxr := cut_rd hx lx
  have hxn := nl_val lx
  have hyr := cut_rd hy ly
  have hyn := nl_val ly
  have hs : sgn n (val xs) * sgn n' (val ys) = sgn (n != n') ((val xs) * (val ys)) := by cases n <;> cases n' <;> simp [sgn, Int.neg_mul, Int.mul_neg]
  rw [hs, sgn_natAbs]
  have hnl := nl_mul (val xs) (val ys)
  refine ret_of Try.func87 rfl Try.ntmps87 rfl ?_
  refine tr_rseq ?_
  refine sq_box rfl rfl fun r2 => ?_
  refine sq_box rfl rfl fun r3 => ?_
  refine sq_alloc rfl fun r4 => ?_
  refine sq_end ?_
  refine tr_rdraw 11 [] [] [0, 1, 2, 3, 4, 15] (by kernel_rfl) ?_
  refine dx_q rfl (qt_fieldAddr rfl) rfl ?_
  refine dx_q rfl (qt_load rfl (fun w t => t.atO 2 rfl rfl)) rfl ?_
  refine dx_q rfl (qt_fieldAddr rfl) rfl ?_
  refine dx_q rfl (qt_load rfl (fun w t => t.atO 1 rfl rfl)) rfl ?_
  refine dx_q rfl (qt_binB rfl rfl (bin_neqB boolT _ _)) rfl ?_
  refine dx_q rfl (qt_load2 rfl (fun w t => t.atO 2 rfl rfl) (fun w t => t.atO 2 rfl rfl)) rfl ?_
  refine dx_callv (v := .slice p.1 (limbsOf (val xs)).length (limbsOf (val xs)).length) (F := fun _ _ => True) rfl rfl rfl (fun w t => magnitude_ret n xs p w _ (t.lm hx) lx (by omega)) ?_
  refine dx_q rfl (qt_load2 rfl (fun w t => t.atO 1 rfl rfl) (fun w t => t.atO 1 rfl rfl)) rfl ?_
  refine dx_callv (v := .slice p'.1 (limbsOf (val ys)).length (limbsOf (val ys)).length) (F := fun _ _ => True) rfl rfl rfl (fun w t => magnitude_ret n' ys p' w _ (t.lm hy) ly (by omega)) ?_
  refine dx_call (slv (limbsOf ((val xs) * (val ys)))) (Lz ((val xs) * (val ys))) rfl rfl rfl (fun w t => times_lz (t.rd hxr) (t.rd hyr) (by omega) (by omega)) ?_
  refine dx_call1 14 (iv (sgn (n != n') ((val xs) * (val ys)))) (Lz ((val xs) * (val ys))) rfl rfl (by simp) rfl (fun _ => rfl) (fun _ => rfl) (fun y w t => signed_lz t (n != n') ((val xs) * (val ys)) y (fun w h => h.2) (by omega)) ?_
  refine dx_nil ?_
  repeat (first | refine es_val rfl ?_ rfl | refine es_res rfl (fun x => ?_) rfl | refine es_skip rfl ?_)
  refine es_nil rfl ?_
  refine tx_store 0 rfl rfl rfl rfl (by first | (simp [u32s, Value.cells]; done) | (simp [u32s, Value.cells]; omega) | exact Nat.le_refl 2) rfl rfl rfl ?_
  refine tx_endk ?_
  refine tr_ret ?_
  repeat with_reducible first | refine tr_skip ?_ | refine tr_exit ?_ | refine tr_then ?_ | refine tr_inX ?_ | refine tr_thenX ?_ | refine tr_inN ?_ | refine tr_inR ?_ | refine tr_thenR ?_
  exact tr_done x (fun a w s t => results_1 rfl (resv_cell 0 s t rfl rfl rfl)) (fun w h _ _ => h.2)
theorem divmod_ret (n n' : Bool) (xs ys : List Nat) (p p' : Sv) (w : World) (S : Nat → Prop) (hx : Lm xs p w) (lx : lim xs) (hy : Lm ys p' w) (ly : lim ys) (hb : xs.length < 35184372088832) (hb' : ys.length < 35184372088832) :
    Ret Try.prog 110 [ig n xs p, ig n' ys p'] w S (fun q : Sv × Sv => .tuple #[iv (sgn n (val xs) / sgn n' (val ys)) q.1, iv (if (val ys) = 0 then 0 else sgn n (val xs) % sgn n' (val ys)) q.2, .bool (decide ((val ys) ≠ 0))]) (fun q w => Lz (sgn n (val xs) / sgn n' (val ys)).natAbs q.1 w ∧ Lz (if (val ys) = 0 then 0 else sgn n (val xs) % sgn n' (val ys)).natAbs q.2 w) := by
  have hxr := cut_rd hx lx
  have hxn := nl_val lx
  have hyr := cut_rd hy ly
  have hyn := nl_val ly
  refine ret_of Try.func110 rfl Try.ntmps110 rfl ?_
  refine tr_rseq ?_
  refine sq_box rfl rfl fun r2 => ?_
  refine sq_box rfl rfl fun r3 => ?_
  refine sq_alloc rfl fun r4 => ?_
  refine sq_alloc rfl fun r5 => ?_
  refine sq_q (qt_assign rfl) rfl ?_
  refine sq_end ?_
  refine tr_rseq ?_
  refine sq_q (qt_load2 rfl (fun w t => t.atO 2 rfl rfl) (fun w t => t.atO 2 rfl rfl)) rfl ?_
  refine sq_call (val := fun _ : Unit => .slice p'.1 (limbsOf (val ys)).length (limbsOf (val ys)).length) (F := fun _ _ => True) rfl rfl rfl (fun w t => magnitude_ret n' ys p' w _ (t.lm hy) ly (by omega)) fun _ => ?_
  refine sq_q (qt_assign rfl) rfl ?_
  refine sq_end ?_
  refine tr_seq ?_
  refine tr_rseq ?_
  refine sq_q (qt_move rfl) rfl ?_
  refine sq_q (qt_len rfl) rfl ?_
  refine sq_q (qt_bin rfl rfl bin_eql) rfl ?_
  refine sq_end ?_
  refine tr_if rfl (fun hc => ?_) (fun hc => ?_)
  ·
    have h0 : (val ys) = 0 := nl_zero.1 (by have := of_decide_eq_true hc; unfold nl; omega)
    refine tr_rseq ?_
    refine sq_q (qt_build rfl built0) rfl ?_
    refine sq_q (qt_build rfl built0) rfl ?_
    refine sq_store 1 rfl rfl rfl rfl (by first | (simp [u32s, Value.cells]; done) | (simp [u32s, Value.cells]; omega) | exact Nat.le_refl 2) rfl rfl ?_
    refine sq_store 0 rfl rfl rfl rfl (by first | (simp [u32s, Value.cells]; done) | (simp [u32s, Value.cells]; omega) | exact Nat.le_refl 2) rfl rfl ?_
    refine sq_q (qt_assign rfl) rfl ?_
    refine sq_end ?_
    refine tr_ret ?_
    repeat with_reducible first | refine tr_skip ?_ | refine tr_exit ?_ | refine tr_then ?_ | refine tr_inX ?_ | refine tr_thenX ?_ | refine tr_inN ?_ | refine tr_inR ?_ | refine tr_thenR ?_
    have e1 : sgn n (val xs) / sgn n' (val ys) = 0 := by rw [h0, show sgn n' 0 = 0 by unfold sgn; split <;> rfl, Int.ediv_zero]
    rw [e1, if_pos h0]
    rw [show decide (val ys ≠ 0) = false from decide_eq_false (fun h => absurd h0 h)]
    refine tr_done ((none, 0), (none, 0)) (fun a w s t => results_3 rfl (by rw [iv_zero]; exact resv_cell 1 s t rfl rfl rfl) (by rw [iv_zero]; exact resv_cell 0 s t rfl rfl rfl) (resv_tmp s rfl)) (fun w _ _ _ => ?_)
    rw [show (0 : Int).natAbs = 0 from rfl, Lz, limbsOf_zero]
    exact ⟨⟨Rd.nil _ _, Nat.le_refl _⟩, Rd.nil _ _, Nat.le_refl _⟩
  ·
    have h0 : (val ys) ≠ 0 := by
      intro h
      have := of_decide_eq_false hc
      rw [h, limbsOf_zero] at this
      exact this rfl
    rw [if_neg h0]
    obtain ⟨D, hD⟩ : ∃ D, D = sgn n (val xs) / sgn n' (val ys) := ⟨_, rfl⟩
    obtain ⟨M, hM⟩ : ∃ M, M = sgn n (val xs) % sgn n' (val ys) := ⟨_, rfl⟩
    rw [← hD, ← hM]
    have hmod := Nat.mod_lt (val xs) (Nat.pos_of_ne_zero h0)
    have hq1 := nl_mono (Nat.div_le_self (val xs) (val ys))
    have hq2 := nl_add ((val xs) / (val ys)) 1
    have hq3 : nl 1 ≤ 1 := nl_le (by decide)
    have hq4 := nl_mono (Nat.le_of_lt hmod)
    have hq5 := nl_mono (Nat.sub_le (val ys) ((val xs) % (val ys)))
    refine tr_skip ?_
    repeat with_reducible first | refine tr_skip ?_ | refine tr_exit ?_ | refine tr_then ?_ | refine tr_inX ?_ | refine tr_thenX ?_ | refine tr_inN ?_ | refine tr_inR ?_ | refine tr_thenR ?_
    refine tr_rseq ?_
    refine sq_q (qt_load2 rfl (fun w t => t.atO 3 rfl rfl) (fun w t => t.atO 3 rfl rfl)) rfl ?_
    refine sq_call (val := fun _ : Unit => .slice p.1 (limbsOf (val xs)).length (limbsOf (val xs)).length) (F := fun _ _ => True) rfl rfl rfl (fun w t => magnitude_ret n xs p w _ (t.lm hx) lx (by omega)) fun _ => ?_
    refine sq_q (qt_move rfl) rfl ?_
    refine sq_call (fun q : Sv × Sv => .tuple #[slv (limbsOf ((val xs) / (val ys))) q.1, slv (limbsOf ((val xs) % (val ys))) q.2]) (fun q w => Lz ((val xs) / (val ys)) q.1 w ∧ Lz ((val xs) % (val ys)) q.2 w) rfl rfl rfl (fun w t => divide_lz (t.rd hxr) (t.rd hyr) (by omega) (by omega) h0) fun qr => ?_
    refine sq_q (qt_move rfl) rfl ?_
    refine sq_q (qt_extract rfl rfl) rfl ?_
    refine sq_q (qt_extract rfl rfl) rfl ?_
    refine sq_q (qt_assign rfl) rfl ?_
    refine sq_q (qt_assign rfl) rfl ?_
    refine sq_end ?_
    refine tr_seq ?_
    have hcs : n = false ∨ (n = true ∧ (val xs) % (val ys) = 0) ∨ (n = true ∧ 0 < (val xs) % (val ys)) := by cases n <;> simp <;> omega
    rcases hcs with rfl | ⟨rfl, hr⟩ | ⟨rfl, hr⟩
    ·
      have e1 := hD.trans (dm_keep (n := false) (n' := n') (m := val xs) h0 (by simp)).1
      have e2 := hM.trans (dm_keep (n := false) (n' := n') (m := val xs) h0 (by simp)).2
      refine tr_rseq ?_
      refine sq_q (qt_fieldAddr rfl) rfl ?_
      refine sq_q (qt_load rfl (fun w t => t.atO 3 rfl rfl)) rfl ?_
      refine sq_q (qt_move rfl) rfl ?_
      refine sq_gF rfl rfl rfl rfl ?_
      refine sq_gF rfl rfl rfl rfl ?_
      refine sq_gF rfl rfl rfl rfl ?_
      refine sq_q (qt_pick rfl rfl) rfl ?_
      refine sq_end ?_
      refine tr_ifF rfl ?_
      refine tr_skip ?_
      repeat with_reducible first | refine tr_skip ?_ | refine tr_exit ?_ | refine tr_then ?_ | refine tr_inX ?_ | refine tr_thenX ?_ | refine tr_inN ?_ | refine tr_inR ?_ | refine tr_thenR ?_
      refine tr_rseq ?_
      refine sq_q (qt_fieldAddr rfl) rfl ?_
      first | refine sq_q (qt_load rfl (fun w t => t.atO 3 rfl rfl)) rfl ?_ | refine sq_q (qt_load rfl (fun w t => t.atO 4 rfl rfl)) rfl ?_
      refine sq_q (qt_fieldAddr rfl) rfl ?_
      first | refine sq_q (qt_load rfl (fun w t => t.atO 2 rfl rfl)) rfl ?_ | refine sq_q (qt_load rfl (fun w t => t.atO 3 rfl rfl)) rfl ?_
      refine sq_q (qt_binB rfl rfl (bin_neqB boolT _ _)) rfl ?_
      refine sq_q (qt_move rfl) rfl ?_
      refine sq_call (iv D) (Lz D.natAbs) rfl rfl rfl (fun w t => by rw [e1, sgn_natAbs]; exact signed_lz t _ _ _ (fun w h => by first | exact h.2.1 | exact h.1.2) (by omega)) fun x43 => ?_
      refine sq_q (qt_move rfl) rfl ?_
      refine sq_call (iv M) (Lz M.natAbs) rfl rfl rfl (fun w t => by rw [e2, Int.natAbs_natCast]; exact signed_lz t false _ _ (fun w h => by first | exact h.1.2.2 | exact h.1.2) (by omega)) fun x45 => ?_
      first | refine sq_store 1 rfl rfl rfl rfl (Nat.le_refl 2) rfl rfl ?_ | refine sq_store 2 rfl rfl rfl rfl (Nat.le_refl 2) rfl rfl ?_
      first | refine sq_store 0 rfl rfl rfl rfl (Nat.le_refl 2) rfl rfl ?_ | refine sq_store 1 rfl rfl rfl rfl (Nat.le_refl 2) rfl rfl ?_
      refine sq_q (qt_assign rfl) rfl ?_
      refine sq_end ?_
      refine tr_ret ?_
      repeat with_reducible first | refine tr_skip ?_ | refine tr_exit ?_ | refine tr_then ?_ | refine tr_inX ?_ | refine tr_thenX ?_ | refine tr_inN ?_ | refine tr_inR ?_ | refine tr_thenR ?_
      refine tr_done (x43, x45) (fun a w s t => results_3 rfl (by first | exact resv_cell 1 s t rfl rfl rfl | exact resv_cell 2 s t rfl rfl rfl) (by first | exact resv_cell 0 s t rfl rfl rfl | exact resv_cell 1 s t rfl rfl rfl) (resv_tmp s (by rw [decide_eq_true h0]; rfl))) (fun w h _ _ => ⟨h.1.2, h.2⟩)
    ·
      have e1 := hD.trans (dm_keep (n := true) (n' := n') (m := val xs) h0 (fun _ => hr)).1
      have e2 := hM.trans (dm_keep (n := true) (n' := n') (m := val xs) h0 (fun _ => hr)).2
      have hl0 : (limbsOf ((val xs) % (val ys))).length = 0 := by rw [hr, limbsOf_zero]; rfl
      refine tr_rseq ?_
      refine sq_q (qt_fieldAddr rfl) rfl ?_
      refine sq_q (qt_load rfl (fun w t => t.atO 3 rfl rfl)) rfl ?_
      refine sq_q (qt_move rfl) rfl ?_
      refine sq_gT rfl rfl ?_
      refine sq_q (qt_move rfl) rfl ?_
      refine sq_gT rfl rfl ?_
      refine sq_q (qt_len rfl) rfl ?_
      refine sq_gT rfl rfl ?_
      refine sq_q (qt_bin rfl rfl (bF bin_gtr (by omega))) rfl ?_
      refine sq_q (qt_pick rfl rfl) rfl ?_
      refine sq_end ?_
      refine tr_ifF rfl ?_
      refine tr_skip ?_
      repeat with_reducible first | refine tr_skip ?_ | refine tr_exit ?_ | refine tr_then ?_ | refine tr_inX ?_ | refine tr_thenX ?_ | refine tr_inN ?_ | refine tr_inR ?_ | refine tr_thenR ?_
      refine tr_rseq ?_
      refine sq_q (qt_fieldAddr rfl) rfl ?_
      first | refine sq_q (qt_load rfl (fun w t => t.atO 3 rfl rfl)) rfl ?_ | refine sq_q (qt_load rfl (fun w t => t.atO 4 rfl rfl)) rfl ?_
      refine sq_q (qt_fieldAddr rfl) rfl ?_
      first | refine sq_q (qt_load rfl (fun w t => t.atO 2 rfl rfl)) rfl ?_ | refine sq_q (qt_load rfl (fun w t => t.atO 3 rfl rfl)) rfl ?_
      refine sq_q (qt_binB rfl rfl (bin_neqB boolT _ _)) rfl ?_
      refine sq_q (qt_move rfl) rfl ?_
      refine sq_call (iv D) (Lz D.natAbs) rfl rfl rfl (fun w t => by rw [e1, sgn_natAbs]; exact signed_lz t _ _ _ (fun w h => by first | exact h.2.1 | exact h.1.2) (by omega)) fun x43 => ?_
      refine sq_q (qt_move rfl) rfl ?_
      refine sq_call (iv M) (Lz M.natAbs) rfl rfl rfl (fun w t => by rw [e2, Int.natAbs_natCast]; exact signed_lz t false _ _ (fun w h => by first | exact h.1.2.2 | exact h.1.2) (by omega)) fun x45 => ?_
      first | refine sq_store 1 rfl rfl rfl rfl (Nat.le_refl 2) rfl rfl ?_ | refine sq_store 2 rfl rfl rfl rfl (Nat.le_refl 2) rfl rfl ?_
      first | refine sq_store 0 rfl rfl rfl rfl (Nat.le_refl 2) rfl rfl ?_ | refine sq_store 1 rfl rfl rfl rfl (Nat.le_refl 2) rfl rfl ?_
      refine sq_q (qt_assign rfl) rfl ?_
      refine sq_end ?_
      refine tr_ret ?_
      repeat with_reducible first | refine tr_skip ?_ | refine tr_exit ?_ | refine tr_then ?_ | refine tr_inX ?_ | refine tr_thenX ?_ | refine tr_inN ?_ | refine tr_inR ?_ | refine tr_thenR ?_
      refine tr_done (x43, x45) (fun a w s t => results_3 rfl (by first | exact resv_cell 1 s t rfl rfl rfl | exact resv_cell 2 s t rfl rfl rfl) (by first | exact resv_cell 0 s t rfl rfl rfl | exact resv_cell 1 s t rfl rfl rfl) (resv_tmp s (by rw [decide_eq_true h0]; rfl))) (fun w h _ _ => ⟨h.1.2, h.2⟩)
    ·
      have e1 := hD.trans (dm_up (n' := n') (m := val xs) h0 hr).1
      have e2 := hM.trans (dm_up (n' := n') (m := val xs) h0 hr).2
      have hl0 : (limbsOf ((val xs) % (val ys))).length ≠ 0 := fun h => by have := nl_zero.1 h; omega
      refine tr_rseq ?_
      refine sq_q (qt_fieldAddr rfl) rfl ?_
      refine sq_q (qt_load rfl (fun w t => t.atO 3 rfl rfl)) rfl ?_
      refine sq_q (qt_move rfl) rfl ?_
      refine sq_gT rfl rfl ?_
      refine sq_q (qt_move rfl) rfl ?_
      refine sq_gT rfl rfl ?_
      refine sq_q (qt_len rfl) rfl ?_
      refine sq_gT rfl rfl ?_
      refine sq_q (qt_bin rfl rfl (bT bin_gtr (by omega))) rfl ?_
      refine sq_q (qt_pick rfl rfl) rfl ?_
      refine sq_end ?_
      refine tr_ifT rfl ?_
      refine tr_region ?_
      refine sq_q (qt_move rfl) rfl ?_
      refine sq_lit (vs := [(0, .int .u32 1)]) (cells := u32s [1]) rfl rfl rfl (by simp [Instr.fill, u32s, Value.cells, show Array.range 1 = #[0] from by decide]) rfl fun r32 => ?_
      refine sq_call (slv (limbsOf ((val xs) / (val ys) + 1))) (Lz ((val xs) / (val ys) + 1)) rfl rfl rfl (fun w t => ?_) fun x33 => ?_
      · have h := fun S' => plus_ret (limbsOf ((val xs) / (val ys))) [1] qr.1.1 (some ⟨r32, 0, none⟩) qr.1.2 1 w S' (t.r.2.1.1) (Rd.own (t.has _ (ownAt_mem (i := 0) rfl))) (lim_limbsOf _) (by intro x hx; simp at hx; omega) (by unfold nl at *; omega) (by simp)
        rw [val_limbsOf, show val [1] = 1 by simp [val]] at h
        exact h _
      refine sq_q (qt_move rfl) rfl ?_
      refine sq_q (qt_move rfl) rfl ?_
      refine sq_call (slv (limbsOf ((val ys) - (val xs) % (val ys)))) (Lz ((val ys) - (val xs) % (val ys))) rfl rfl rfl (fun w t => minus_lz (t.rd hyr) (t.r.1.2.2.1) (by omega) (by omega)) fun x36 => ?_
      refine sq_q (qt_assign rfl) rfl ?_
      refine sq_q (qt_assign rfl) rfl ?_
      refine sq_nil ?_
      repeat with_reducible first | refine tr_skip ?_ | refine tr_exit ?_ | refine tr_then ?_ | refine tr_inX ?_ | refine tr_thenX ?_ | refine tr_inN ?_ | refine tr_inR ?_ | refine tr_thenR ?_
      refine tr_rseq ?_
      refine sq_q (qt_fieldAddr rfl) rfl ?_
      first | refine sq_q (qt_load rfl (fun w t => t.atO 3 rfl rfl)) rfl ?_ | refine sq_q (qt_load rfl (fun w t => t.atO 4 rfl rfl)) rfl ?_
      refine sq_q (qt_fieldAddr rfl) rfl ?_
      first | refine sq_q (qt_load rfl (fun w t => t.atO 2 rfl rfl)) rfl ?_ | refine sq_q (qt_load rfl (fun w t => t.atO 3 rfl rfl)) rfl ?_
      refine sq_q (qt_binB rfl rfl (bin_neqB boolT _ _)) rfl ?_
      refine sq_q (qt_move rfl) rfl ?_
      refine sq_call (iv D) (Lz D.natAbs) rfl rfl rfl (fun w t => by rw [e1, sgn_natAbs]; exact signed_lz t _ _ _ (fun w h => by first | exact h.2.1 | exact h.1.2) (by omega)) fun x43 => ?_
      refine sq_q (qt_move rfl) rfl ?_
      refine sq_call (iv M) (Lz M.natAbs) rfl rfl rfl (fun w t => by rw [e2, Int.natAbs_natCast]; exact signed_lz t false _ _ (fun w h => by first | exact h.1.2.2 | exact h.1.2) (by omega)) fun x45 => ?_
      first | refine sq_store 1 rfl rfl rfl rfl (Nat.le_refl 2) rfl rfl ?_ | refine sq_store 2 rfl rfl rfl rfl (Nat.le_refl 2) rfl rfl ?_
      first | refine sq_store 0 rfl rfl rfl rfl (Nat.le_refl 2) rfl rfl ?_ | refine sq_store 1 rfl rfl rfl rfl (Nat.le_refl 2) rfl rfl ?_
      refine sq_q (qt_assign rfl) rfl ?_
      refine sq_end ?_
      refine tr_ret ?_
      repeat with_reducible first | refine tr_skip ?_ | refine tr_exit ?_ | refine tr_then ?_ | refine tr_inX ?_ | refine tr_thenX ?_ | refine tr_inN ?_ | refine tr_inR ?_ | refine tr_thenR ?_
      refine tr_done (x43, x45) (fun a w s t => results_3 rfl (by first | exact resv_cell 1 s t rfl rfl rfl | exact resv_cell 2 s t rfl rfl rfl) (by first | exact resv_cell 0 s t rfl rfl rfl | exact resv_cell 1 s t rfl rfl rfl) (resv_tmp s (by rw [decide_eq_true h0]; rfl))) (fun w h _ _ => ⟨h.1.2, h.2⟩)
end Go.Qk
end
section
set_option linter.unusedVariables false
namespace Go.Qk
open Go Go.RowKit
/-- a row that grows: nil, or a block with its room -/
abbrev Gr := Option (Nat × Nat × List Value)
def grV (n : Nat) : Gr → Value
  | none => .slice none 0 0
  | some (g, c, _) => .slice (some ⟨g, 0, none⟩) n c
def grO (e : TypeId) (xs : List Value) : Gr → Own
  | none => []
  | some (g, _, sl) => [(g, .cells (xs ++ sl).toArray e (0, 0))]
def grOk (sz n : Nat) (xs : List Value) : Gr → Prop
  | none => n = 0 ∧ xs = []
  | some (_, c, sl) => n ≤ c ∧ xs.length = n * sz ∧ xs.length + sl.length = c * sz
section
variable {P : Program} {n : Nat} {w0 : World} {X : List Nat} {S : Nat → Prop} {E : Env} {own : Own} {R : World → Prop} {Q : Exit → Act → World → Prop} {ops : Array Oper} {rest : List Oper}
theorem SS.drop {w : World} {own' : Own} (h : SS w0 X S own R w) (hs : own'.Sublist own) : SS w0 X S own' R w :=
  ⟨h.os, h.tape, h.output, h.size, h.pres, fun p hp => h.lt p (hs.subset hp), fun p hp => h.has p (hs.subset hp), h.nd.sublist hs, fun w' hs' hk => h.keep w' hs' fun k h1 h2 h3 => hk k h1 h2 fun p hp => h3 p (hs.subset hp)⟩
theorem tr_drop {f : Act → World → Prop} (own' : Own) (hs : own'.Sublist own) (h : Tr n w0 X S E own' R f) : Tr n w0 X S E own R f := fun a w s t => h a w s (t.drop hs)
/-- where the grown row stands -/
def grP : Gr → Sv
  | none => (none, 0)
  | some (g, c, _) => (some ⟨g, 0, none⟩, c)
theorem grP_v {sz m : Nat} {xs : List Value} {p : Gr} (hok : grOk sz m xs p) : grV m p = .slice (grP p).1 m (grP p).2 := by
  match p, hok with
  | none, ⟨h1, h2⟩ => subst h1; rfl
  | some (g, c, sl), _ => rfl
theorem grP_rd {e : TypeId} {sz m : Nat} {xs : List Value} {p : Gr} (hok : grOk sz m xs p) {w : World} (h : ∀ q ∈ grO e xs p, w.heap[q.1]? = some q.2) : Rd (grP p).1 xs w ∧ m ≤ (grP p).2 := by
  match p, hok with
  | none, ⟨h1, h2⟩ => exact ⟨by rw [h2]; exact Rd.nil _ _, by rw [h1]; exact Nat.le_refl _⟩
  | some (g, c, sl), ⟨h1, h2, h3⟩ =>
    refine ⟨?_, h1⟩
    have := (Rd.own (h _ (List.mem_singleton.2 rfl))).take xs.length
    rwa [List.take_left] at this
theorem run_grow {t e : TypeId} {agg : Bool} {sz by_ : Nat} {z : Value} (hs : P.underlying t = some (.slice e)) (hT : TyI P e agg sz by_ z) (hz : z.cells.size = sz) (hsz : 0 < sz) {ty : TypeId} {p : Gr} {r k m c : Nat} {xs news : List Value} {own' : Own} {w : World}
    (hok : grOk sz k xs p) (hl : news.length = m * sz) (hm0 : 0 < m) (hm : k + m ≤ 4611686018427387904) (hb : (k + m) * by_ ≤ 140737488355328) (h1 : one' news = true)
    (t' : SS w0 X S ((r, .cells news.toArray e (0, 0)) :: (grO e xs p ++ own')) R w) :
    ∃ p' w', (Builtin.append_ #[t, t] ty #[grV k p, .slice (some ⟨r, 0, none⟩) m c]).run P w = .ok (grV (k + m) p') w' ∧ grOk sz (k + m) (xs ++ news) p' ∧ SS w0 X S (grO e (xs ++ news) p' ++ own') R w' := by
  obtain ⟨i, i1, i2, i3, i4⟩ := hT.info
  have hr := t'.has _ (List.mem_cons_self ..)
  have hnews : ∀ w1 : World, w1.heap = w.heap → ∀ j v, news[j]? = some v → w1.cell? ((⟨r, 0, none⟩ : Addr).add j) = some v := by
    intro w1 hw1 j v hv
    rw [add_mk, cell_of_row w1 r _ _ e (0, 0) (by rw [hw1]; exact hr)]
    simpa using hv
  have h1' : ∀ u ∈ news, u.oneCell' = true := fun u hu => (List.all_eq_true.1 h1) u hu
  match p, hok, t' with
  | none, ⟨hk, hx⟩, t' =>
    subst hk hx
    have hrun := Go.run_append_nil (P := P) w t ty e i z hs i1 i2 ⟨r, 0, none⟩ m c news (by rw [hl, i3]) (hnews w rfl) hm0 (by omega) (by rw [i4]; simp only [Nat.zero_add] at hb; omega)
    refine ⟨some (w.heap.size, grownCap w m 0 e, (Builtin.zeroCells z.cells (grownCap w m 0 e - m)).toList), _, by rw [Nat.zero_add]; exact hrun, ?_, ?_⟩
    · have hge := grownCap_ge w m 0 e
      refine ⟨by rw [Nat.zero_add]; exact hge, by simpa using hl, ?_⟩
      rw [List.nil_append, hl, Array.length_toList, size_zeroCells, hz, ← Nat.add_mul]
      congr 1
      omega
    · have g := ((t'.drop (own' := own') (List.sublist_cons_self ..)).drawn (w.drawn + 1)).alloc (.cells (news.toArray ++ Builtin.zeroCells z.cells (grownCap w m 0 e - m)) e)
      have e1 : (news.toArray ++ Builtin.zeroCells z.cells (grownCap w m 0 e - m)) = (([] ++ news) ++ (Builtin.zeroCells z.cells (grownCap w m 0 e - m)).toList).toArray := by simp
      rw [e1] at g
      rw [e1]
      exact g
  | some (g, cap, sl), ⟨hk, hx, hcs⟩, t' =>
    have hg := t'.has (g, .cells (xs ++ sl).toArray e (0, 0)) (List.mem_cons_of_mem _ (List.mem_append_left _ (List.mem_singleton.2 rfl)))
    rcases Nat.lt_or_ge cap (k + m) with hc | hc
    · have hlo : xs.length = k * i.size := by rw [i3]; exact hx
      have holds : ∀ j v, xs[j]? = some v → w.cell? ((⟨g, 0, none⟩ : Addr).add j) = some v := by
        intro j v hv
        rw [add_mk, cell_of_row w g _ _ e (0, 0) hg]
        have hj : j < xs.length := by
          rcases Nat.lt_or_ge j xs.length with h | h
          · exact h
          · rw [List.getElem?_eq_none h] at hv; simp at hv
        rw [Nat.zero_add]
        simp only [List.getElem?_toArray, List.getElem?_append_left hj]
        exact hv
      have hrun := Go.run_append_grow (P := P) w t ty e i z hs i1 i2 ⟨g, 0, none⟩ k cap xs hlo holds ⟨r, 0, none⟩ m c news (by rw [hl, i3]) (hnews w rfl) hc (by omega) (growslice_fits hc (by rw [i4]; exact hb))
      refine ⟨some (w.heap.size, grownCap w (k + m) cap e, (Builtin.zeroCells z.cells (grownCap w (k + m) cap e - (k + m))).toList), _, hrun, ?_, ?_⟩
      · have hge := grownCap_ge w (k + m) cap e
        refine ⟨hge, by rw [List.length_append, hx, hl, Nat.add_mul], ?_⟩
        rw [List.length_append, hx, hl, Array.length_toList, size_zeroCells, hz, ← Nat.add_mul, ← Nat.add_mul]
        congr 1
        omega
      · have g' := ((t'.drop (own' := own') ((List.sublist_append_right _ _).trans (List.sublist_cons_self ..))).drawn (w.drawn + 1)).alloc (.cells (xs.toArray ++ news.toArray ++ Builtin.zeroCells z.cells (grownCap w (k + m) cap e - (k + m))) e)
        have e1 : (xs.toArray ++ news.toArray ++ Builtin.zeroCells z.cells (grownCap w (k + m) cap e - (k + m))) = ((xs ++ news) ++ (Builtin.zeroCells z.cells (grownCap w (k + m) cap e - (k + m))).toList).toArray := by simp
        rw [e1] at g'
        rw [e1]
        exact g'
    · have hfit : k * i.size + news.length ≤ (xs ++ sl).toArray.size := by
        rw [i3, hl, ← Nat.add_mul, List.size_toArray, List.length_append, hcs]
        exact Nat.mul_le_mul_right _ hc
      have hrun := Go.run_append_room (P := P) w t ty e i hs i1 g k cap (xs ++ sl).toArray hg ⟨r, 0, none⟩ m c news (by rw [hl, i3]) (hnews w rfl) h1' hc hfit
      have hslen : news.length ≤ sl.length := by
        rw [i3, List.size_toArray, List.length_append] at hfit
        omega
      have e1 : ((xs ++ sl).toArray.toList.take (k * i.size) ++ news ++ (xs ++ sl).toArray.toList.drop (k * i.size + news.length)) = (xs ++ news) ++ sl.drop news.length := by
        rw [i3, ← hx]
        simp [List.drop_append]
      rw [e1] at hrun
      refine ⟨some (g, cap, sl.drop news.length), _, hrun, ?_, ?_⟩
      · refine ⟨hc, by rw [List.length_append, hx, hl, Nat.add_mul], ?_⟩
        rw [List.length_append, List.length_drop]
        omega
      · have hu : Upd g (.cells ((xs ++ news) ++ sl.drop news.length).toArray e (0, 0)) w (w.setRow g ((xs ++ news) ++ sl.drop news.length).toArray) :=
          ⟨rfl, rfl, rfl, by simp, setRow_heap w g _ _ e _ hg, fun k hk => setRow_other w g k _ hk⟩
        have g' := (t'.drop (own' := (g, .cells (xs ++ sl).toArray e (0, 0)) :: own') (List.sublist_cons_self ..)).upd (i := 0) rfl hu
        exact g'
theorem sq_grow {t e : TypeId} {agg : Bool} {sz by_ : Nat} {z : Value} [hs : SlT P t e] [hT : TyI P e agg sz by_ z] {x y : Operand} {p : Gr} {k m c r : Nat} {xs news : List Value} {own' : Own} {ty : TypeId} {d : Nat} {pos : String} {af : Array Edge}
    (hx : ev (look E) x = some (grV k p)) (hy : ev (look E) y = some (.slice (some ⟨r, 0, none⟩) m c)) (hok : grOk sz k xs p) (hl : news.length = m * sz) (hm0 : 0 < m) (hm : k + m ≤ 4611686018427387904) (hb : (k + m) * by_ ≤ 140737488355328) (h1 : one' news = true) (hz : z.cells.size = sz) (hsz : Nat.blt 0 sz = true) (hd : Nat.blt d n = true)
    (h : ∀ p', grOk sz (k + m) (xs ++ news) p' → Sq P ops Q n w0 X S rest ((d, grV (k + m) p') :: E) (grO e (xs ++ news) p' ++ own') R) :
    Sq P ops Q n w0 X S (⟨some d, .call { callee := .builtin .append, args := #[x, y], argTypes := #[t, t] }, ty, pos, af, none⟩ :: rest) E ((r, .cells news.toArray e (0, 0)) :: (grO e xs p ++ own')) R := by
  intro a w s t'
  refine wpList_plain rfl fun K hK => ?_
  obtain ⟨p', w', e1, e2, e3⟩ := run_grow (P := P) (ty := ty) (c := c) hs.u hT hz (by simpa using hsz) hok hl hm0 hm hb h1 t'
  have e : (execOp a.eval ⟨some d, .call { callee := .builtin .append, args := #[x, y], argTypes := #[t, t] }, ty, pos, af, none⟩).run P w = .ok (.value (grV (k + m) p')) w' := by
    have hx' := s.agr x _ hx
    have hy' := s.agr y _ hy
    simp [execOp, resolve, invoke, builtin, hx', hy', e1]
  unfold Oper.wp
  rw [e]
  exact hK _ _ (h p' e2 _ _ (s.put hd _) e3)
end
end Go.Qk
end
section
set_option linter.unusedVariables false
namespace Go.Qk
open Go Go.Proofs
set_option maxRecDepth 100000
theorem rcmp_ret (xs ys : List Nat) (A B : Option Addr) (ca cb : Nat) (w : World) (S : Nat → Prop) (hx : Rd A (u32s xs) w) (hy : Rd B (u32s ys) w) (lx : lim xs) (ly : lim ys) (cx : canon xs) (cy : canon ys) (hb : xs.length < 1152921504606846976) (hb' : ys.length < 1152921504606846976) :
    Ret Try.prog 70 [.slice A xs.length ca, .slice B ys.length cb] w S (fun _ : Unit => .int .i64 (cmp3 (val xs) (val ys))) (fun _ _ => True) := by
  refine ret_of Try.func70 rfl Try.ntmps70 rfl ?_
  refine tr_rseq ?_
  refine sq_q (qt_assign rfl) rfl ?_
  refine sq_end ?_
  refine tr_seq ?_
  refine tr_rseq ?_
  refine sq_q (qt_move rfl) rfl ?_
  refine sq_q (qt_len rfl) rfl ?_
  refine sq_q (qt_move rfl) rfl ?_
  refine sq_q (qt_len rfl) rfl ?_
  refine sq_q (qt_bin rfl rfl bin_neq) rfl ?_
  refine sq_end ?_
  refine tr_if rfl (fun hc => ?_) (fun hc => ?_)
  · have hne : xs.length ≠ ys.length := by have := of_decide_eq_true hc; omega
    refine tr_seq ?_
    refine tr_rseq ?_
    refine sq_q (qt_move rfl) rfl ?_
    refine sq_q (qt_len rfl) rfl ?_
    refine sq_q (qt_move rfl) rfl ?_
    refine sq_q (qt_len rfl) rfl ?_
    refine sq_q (qt_bin rfl rfl bin_lss) rfl ?_
    refine sq_end ?_
    refine tr_if rfl (fun hc => ?_) (fun hc => ?_)
    · have hlt : xs.length < ys.length := by have := of_decide_eq_true hc; omega
      refine tr_rseq ?_
      refine sq_q (qt_assign rfl) rfl ?_
      refine sq_end ?_
      refine tr_ret ?_
      repeat with_reducible first | refine tr_skip ?_ | refine tr_exit ?_ | refine tr_then ?_ | refine tr_inX ?_ | refine tr_thenX ?_ | refine tr_inN ?_ | refine tr_inR ?_ | refine tr_thenR ?_
      refine tr_done () (fun a w s t => results_1 rfl (resv_tmp s ?_)) fun _ _ _ _ => trivial
      rw [cmp3, if_pos (val_lt_of_length lx cy hlt)]; rfl
    · have hlt : ys.length < xs.length := by have := of_decide_eq_false hc; omega
      refine tr_skip ?_
      repeat with_reducible first | refine tr_skip ?_ | refine tr_exit ?_ | refine tr_then ?_ | refine tr_inX ?_ | refine tr_thenX ?_ | refine tr_inN ?_ | refine tr_inR ?_ | refine tr_thenR ?_
      refine tr_rseq ?_
      refine sq_q (qt_assign rfl) rfl ?_
      refine sq_end ?_
      refine tr_ret ?_
      repeat with_reducible first | refine tr_skip ?_ | refine tr_exit ?_ | refine tr_then ?_ | refine tr_inX ?_ | refine tr_thenX ?_ | refine tr_inN ?_ | refine tr_inR ?_ | refine tr_thenR ?_
      refine tr_done () (fun a w s t => results_1 rfl (resv_tmp s ?_)) fun _ _ _ _ => trivial
      have := val_lt_of_length ly cx hlt
      rw [cmp3, if_neg (by omega), if_neg (by omega)]; rfl
  · have hlen : xs.length = ys.length := by have := of_decide_eq_false hc; omega
    refine tr_skip ?_
    repeat with_reducible first | refine tr_skip ?_ | refine tr_exit ?_ | refine tr_then ?_ | refine tr_inX ?_ | refine tr_thenX ?_ | refine tr_inN ?_ | refine tr_inR ?_ | refine tr_thenR ?_
    refine tr_seq ?_
    refine tr_rseq ?_
    refine sq_q (qt_move rfl) rfl ?_
    refine sq_q (qt_len rfl) rfl ?_
    refine sq_q (qt_bin rfl rfl (bin_subI (by omega) (by omega))) rfl ?_
    refine sq_q (qt_assign rfl) rfl ?_
    refine sq_end ?_
    refine tr_block ?_
    refine tr_loop (fun k : Nat => k ≤ xs.length ∧ xs.drop k = ys.drop k) (fun k => [(0, .slice A xs.length ca), (1, .slice B ys.length cb), (5, .int .i64 ((k : Int) - 1))]) (fun _ => []) (fun x w => True) (fun k => k) xs.length ⟨Nat.le_refl _, by rw [List.drop_length, hlen, List.drop_length]⟩ ⟨rfl, rfl, rfl, trivial⟩ rfl (fun _ _ => trivial) ?_
    rintro k ⟨hk, hd⟩
    refine tr_seq ?_
    refine tr_rseq ?_
    refine sq_q (qt_move rfl) rfl ?_
    refine sq_q (qt_bin rfl rfl bin_geq) rfl ?_
    refine sq_end ?_
    refine tr_if rfl (fun hc => ?_) (fun hc => ?_)
    · have hk0 : 0 < k := by have := of_decide_eq_true hc; omega
      obtain ⟨j, rfl⟩ : ∃ j, k = j + 1 := ⟨k - 1, by omega⟩
      have hjx : j < xs.length := by omega
      have hjy : j < ys.length := by omega
      obtain ⟨ra, oa, rfl, hax⟩ := hx.at_ (u32s_get hjx)
      obtain ⟨rb, ob, rfl, hay⟩ := hy.at_ (u32s_get hjy)
      have ej : (((j + 1 : Nat) : Int) - 1) = (j : Int) := by omega
      refine tr_sub [(0, .slice (some ⟨ra, oa, none⟩) xs.length ca), (1, .slice (some ⟨rb, ob, none⟩) ys.length cb), (5, .int .i64 (j : Int))] ⟨rfl, rfl, congrArg (fun z => some (Value.int .i64 z)) ej, trivial⟩ ?_
      refine tr_skip ?_
      repeat with_reducible first | refine tr_skip ?_ | refine tr_exit ?_ | refine tr_then ?_ | refine tr_inX ?_ | refine tr_thenX ?_ | refine tr_inN ?_ | refine tr_inR ?_ | refine tr_thenR ?_
      refine tr_seq ?_
      refine tr_block ?_
      refine tr_rdraw0 [0, 1, 5, 31] (by kernel_rfl) ?_
      refine dx_q rfl (qt_move rfl) rfl ?_
      refine dx_q rfl (qt_move rfl) rfl ?_
      refine dx_q rfl (qt_index rfl rfl hjx) rfl ?_
      refine dx_q rfl (qt_load rfl (fun w t => by rw [Nat.mul_one]; exact t.atA hax)) rfl ?_
      refine dx_q rfl (qt_move rfl) rfl ?_
      refine dx_q rfl (qt_move rfl) rfl ?_
      refine dx_q rfl (qt_index rfl rfl hjy) rfl ?_
      refine dx_q rfl (qt_load rfl (fun w t => by rw [Nat.mul_one]; exact t.atA hay)) rfl ?_
      refine dx_q rfl (qt_bin rfl rfl bin_neq) rfl ?_
      refine dx_nil ?_
      repeat (first | refine es_val rfl ?_ rfl | refine es_res rfl (fun x => ?_) rfl | refine es_skip rfl ?_)
      refine es_nil rfl ?_
      refine tx_endk ?_
      refine tr_if rfl (fun hc => ?_) (fun hc => ?_)
      · have hne : xs[j] ≠ ys[j] := by have := of_decide_eq_true hc; omega
        refine tr_seq ?_
        refine tr_rdraw0 [0, 1, 5, 40] (by kernel_rfl) ?_
        refine dx_q rfl (qt_move rfl) rfl ?_
        refine dx_q rfl (qt_move rfl) rfl ?_
        refine dx_q rfl (qt_index rfl rfl hjx) rfl ?_
        refine dx_q rfl (qt_load rfl (fun w t => by rw [Nat.mul_one]; exact t.atA hax)) rfl ?_
        refine dx_q rfl (qt_move rfl) rfl ?_
        refine dx_q rfl (qt_move rfl) rfl ?_
        refine dx_q rfl (qt_index rfl rfl hjy) rfl ?_
        refine dx_q rfl (qt_load rfl (fun w t => by rw [Nat.mul_one]; exact t.atA hay)) rfl ?_
        refine dx_q rfl (qt_bin rfl rfl bin_lss) rfl ?_
        refine dx_nil ?_
        repeat (first | refine es_val rfl ?_ rfl | refine es_res rfl (fun x => ?_) rfl | refine es_skip rfl ?_)
        refine es_nil rfl ?_
        refine tx_endk ?_
        refine tr_if rfl (fun hc => ?_) (fun hc => ?_)
        · have hlt : xs[j] < ys[j] := by have := of_decide_eq_true hc; omega
          refine tr_rseq ?_
          refine sq_q (qt_assign rfl) rfl ?_
          refine sq_end ?_
          refine tr_ret ?_
          repeat with_reducible first | refine tr_skip ?_ | refine tr_exit ?_ | refine tr_then ?_ | refine tr_inX ?_ | refine tr_thenX ?_ | refine tr_inN ?_ | refine tr_inR ?_ | refine tr_thenR ?_
          refine tr_done () (fun a w s t => results_1 rfl (resv_tmp s ?_)) fun _ _ _ _ => trivial
          rw [cmp3, if_pos (val_lt_of_at lx hjx hjy hd hlt)]; rfl
        · have hlt : ys[j] < xs[j] := by have := of_decide_eq_false hc; omega
          refine tr_skip ?_
          repeat with_reducible first | refine tr_skip ?_ | refine tr_exit ?_ | refine tr_then ?_ | refine tr_inX ?_ | refine tr_thenX ?_ | refine tr_inN ?_ | refine tr_inR ?_ | refine tr_thenR ?_
          refine tr_rseq ?_
          refine sq_q (qt_assign rfl) rfl ?_
          refine sq_end ?_
          refine tr_ret ?_
          repeat with_reducible first | refine tr_skip ?_ | refine tr_exit ?_ | refine tr_then ?_ | refine tr_inX ?_ | refine tr_thenX ?_ | refine tr_inN ?_ | refine tr_inR ?_ | refine tr_thenR ?_
          refine tr_done () (fun a w s t => results_1 rfl (resv_tmp s ?_)) fun _ _ _ _ => trivial
          have := val_lt_of_at ly hjy hjx hd.symm hlt
          rw [cmp3, if_neg (by omega), if_neg (by omega)]; rfl
      · have heq : xs[j] = ys[j] := by have := of_decide_eq_false hc; omega
        refine tr_skip ?_
        repeat with_reducible first | refine tr_skip ?_ | refine tr_exit ?_ | refine tr_then ?_ | refine tr_inX ?_ | refine tr_thenX ?_ | refine tr_inN ?_ | refine tr_inR ?_ | refine tr_thenR ?_
        refine tr_region ?_
        refine sq_q (qt_move rfl) rfl ?_
        refine sq_q (qt_bin rfl rfl (bin_subI (by omega) (by omega))) rfl ?_
        refine sq_q (qt_assign rfl) rfl ?_
        refine sq_nil ?_
        repeat with_reducible first | refine tr_skip ?_ | refine tr_exit ?_ | refine tr_then ?_ | refine tr_inX ?_ | refine tr_thenX ?_ | refine tr_inN ?_ | refine tr_inR ?_ | refine tr_thenR ?_
        refine tr_round j ⟨by omega, ?_⟩ (by omega) ⟨rfl, rfl, rfl, trivial⟩ rfl (fun _ h => h)
        rw [← List.getElem_cons_drop hjx, ← List.getElem_cons_drop hjy, heq, hd]
    · have hk0 : k = 0 := by have := of_decide_eq_false hc; omega
      subst hk0
      refine tr_exit ?_
      repeat with_reducible first | refine tr_skip ?_ | refine tr_exit ?_ | refine tr_then ?_ | refine tr_inX ?_ | refine tr_thenX ?_ | refine tr_inN ?_ | refine tr_inR ?_ | refine tr_thenR ?_
      refine tr_rseq ?_
      refine sq_q (qt_assign rfl) rfl ?_
      refine sq_end ?_
      refine tr_ret ?_
      repeat with_reducible first | refine tr_skip ?_ | refine tr_exit ?_ | refine tr_then ?_ | refine tr_inX ?_ | refine tr_thenX ?_ | refine tr_inN ?_ | refine tr_inR ?_ | refine tr_thenR ?_
      refine tr_done () (fun a w s t => results_1 rfl (resv_tmp s ?_)) fun _ _ _ _ => trivial
      simp only [List.drop_zero] at hd
      rw [cmp3, hd, if_neg (Nat.lt_irrefl _), if_pos rfl]; rfl
theorem rcmp_lz {m m' : Nat} {A A' : Option Addr} {c c' : Nat} {w : World} {S : Nat → Prop} (hx : Rd A (u32s (limbsOf m)) w) (hy : Rd A' (u32s (limbsOf m')) w) (hb : nl m ≤ 35184372088832) (hb' : nl m' ≤ 35184372088832) :
    Ret Try.prog 70 [.slice A (limbsOf m).length c, .slice A' (limbsOf m').length c'] w S (fun _ : Unit => .int .i64 (cmp3 m m')) (fun _ _ => True) := by
  unfold nl at hb hb'
  have h := rcmp_ret (limbsOf m) (limbsOf m') A A' c c' w S hx hy (lim_limbsOf m) (lim_limbsOf m') (canon_limbsOf m) (canon_limbsOf m') (by omega) (by omega)
  rwa [val_limbsOf, val_limbsOf] at h
theorem iv_of (n : Bool) (m : Nat) (p : Sv) : iv (sgn n m) p = .agg #[.bool (n && decide (0 < (limbsOf m).length)), slv (limbsOf m) p] := by
  unfold iv ig
  rw [sgn_natAbs]
  by_cases h : m = 0
  · subst h
    rw [show sgn n 0 = 0 by unfold sgn; split <;> rfl, limbsOf_zero]
    simp
  · have : 0 < (limbsOf m).length := Nat.pos_of_ne_zero fun e => h (nl_zero.1 e)
    rw [decide_eq_true this, Bool.and_true]
    congr 4
    cases n <;> simp [sgn] <;> omega
end Go.Qk
end
section
set_option linter.unusedVariables false
namespace Go.Qk
open Go Go.Proofs
set_option maxRecDepth 100000
set_option maxHeartbeats 4000000
theorem rtrim_ret (xs : List Nat) (A : Option Addr) (c : Nat) (w : World) (S : Nat → Prop) (hrd : Rd A (u32s xs) w) (lx : lim xs) (hc : xs.length ≤ c) (hb : xs.length ≤ 35184372088832) :
    Ret Try.prog 101 [.slice A xs.length c] w S (slv (limbsOf (val xs))) (Lz (val xs)) := by
  refine ret_of Try.func101 rfl Try.ntmps101 rfl ?_
  refine tr_rseq ?_
  refine sq_q (qt_assign rfl) rfl ?_
  refine sq_end ?_
  refine tr_rseq ?_
  refine sq_q (qt_move rfl) rfl ?_
  refine sq_q (qt_len rfl) rfl ?_
  refine sq_q (qt_assign rfl) rfl ?_
  refine sq_end ?_
  refine tr_seq ?_
  refine tr_block ?_
  refine tr_loop (fun k : Nat => k ≤ xs.length ∧ ∀ i (h : i < xs.length), k ≤ i → xs[i] = 0) (fun k => [(0, .slice A xs.length c), (3, .int .i64 (k : Int))]) (fun _ => []) (fun _ _ => True) (fun k => k) xs.length ⟨Nat.le_refl _, fun i h h' => absurd h (by omega)⟩ ⟨rfl, rfl, trivial⟩ rfl (fun _ _ => trivial) ?_
  rintro k ⟨hk, hz⟩
  have ht := trimL_of_take hk hz
  rw [trimL_limbsOf lx] at ht
  refine tr_seq ?_
  have hcs : k = 0 ∨ (∃ h : k - 1 < xs.length, 0 < k ∧ xs[k - 1] = 0) ∨ (∃ h : k - 1 < xs.length, 0 < k ∧ xs[k - 1] ≠ 0) := by
    rcases Nat.eq_zero_or_pos k with h | h
    · exact .inl h
    · have hlt : k - 1 < xs.length := by omega
      by_cases hx : xs[k - 1] = 0
      · exact .inr (.inl ⟨hlt, h, hx⟩)
      · exact .inr (.inr ⟨hlt, h, hx⟩)
  rcases hcs with hk0 | ⟨hlt, hk0, hx0⟩ | ⟨hlt, hk0, hx0⟩
  ·
    have he : limbsOf (val xs) = xs.take k := by rw [ht, hk0]; rfl
    refine tr_rseq ?_
    refine sq_q (qt_move rfl) rfl ?_
    refine sq_q (qt_bin rfl rfl (bF bin_gtr (by omega))) rfl ?_
    refine sq_q (qt_move rfl) rfl ?_
    refine sq_gF rfl rfl rfl rfl ?_
    refine sq_gF rfl rfl rfl rfl ?_
    refine sq_gF rfl rfl rfl rfl ?_
    refine sq_gF rfl rfl rfl rfl ?_
    refine sq_gF rfl rfl rfl rfl ?_
    refine sq_gF rfl rfl rfl rfl ?_
    refine sq_q (qt_pick rfl rfl) rfl ?_
    refine sq_end ?_
    refine tr_ifF rfl ?_
    refine tr_exit ?_
    repeat with_reducible first | refine tr_skip ?_ | refine tr_exit ?_ | refine tr_then ?_ | refine tr_inX ?_ | refine tr_thenX ?_ | refine tr_inN ?_ | refine tr_inR ?_ | refine tr_thenR ?_
    refine tr_rseq ?_
    refine sq_q (qt_move rfl) rfl ?_
    refine sq_q (qt_move rfl) rfl ?_
    refine sq_q (qt_sliceH rfl rfl (by omega) ) rfl ?_
    refine sq_appendNil (u32s (xs.take k)) rfl rfl rfl rfl (by rw [u32s_length, Nat.mul_one]; simp; omega) (by omega) (fun w t => by rw [← u32s_take]; exact (t.rd hrd).take k) rfl fun p => ?_
    refine sq_q (qt_assign rfl) rfl ?_
    refine sq_end ?_
    refine tr_ret ?_
    repeat with_reducible first | refine tr_skip ?_ | refine tr_exit ?_ | refine tr_then ?_ | refine tr_inX ?_ | refine tr_thenX ?_ | refine tr_inN ?_ | refine tr_inR ?_ | refine tr_thenR ?_
    refine tr_done p (fun a w s t => results_1 rfl (resv_tmp s ?_)) (fun w h _ _ => ⟨by rw [he]; exact h.2.1, by rw [he]; simpa [Nat.min_eq_left hk] using h.2.2⟩)
    rw [slv, he, List.length_take, Nat.min_eq_left hk]
    rfl
  ·
    obtain ⟨r, o, rfl, hat⟩ := hrd.at_ (u32s_get hlt)
    refine tr_rseq ?_
    refine sq_q (qt_move rfl) rfl ?_
    refine sq_q (qt_bin rfl rfl (bT bin_gtr (by omega))) rfl ?_
    refine sq_q (qt_move rfl) rfl ?_
    refine sq_gT rfl rfl ?_
    refine sq_q (qt_move rfl) rfl ?_
    refine sq_gT rfl rfl ?_
    refine sq_q (qt_move rfl) rfl ?_
    refine sq_gT rfl rfl ?_
    refine sq_q (qt_bin rfl rfl (bin_subN (b := 1) rfl (by omega) (by omega))) rfl ?_
    refine sq_gT rfl rfl ?_
    refine sq_q (qt_index rfl rfl (by omega)) rfl ?_
    refine sq_gT rfl rfl ?_
    refine sq_q (qt_load rfl (fun w t => by rw [Nat.mul_one]; exact t.atA hat)) rfl ?_
    refine sq_gT rfl rfl ?_
    refine sq_q (qt_bin rfl rfl (bT bin_eql (by omega))) rfl ?_
    refine sq_q (qt_pick rfl rfl) rfl ?_
    refine sq_end ?_
    refine tr_ifT rfl ?_
    refine tr_skip ?_
    repeat with_reducible first | refine tr_skip ?_ | refine tr_exit ?_ | refine tr_then ?_ | refine tr_inX ?_ | refine tr_thenX ?_ | refine tr_inN ?_ | refine tr_inR ?_ | refine tr_thenR ?_
    refine tr_block ?_
    refine tr_region ?_
    refine sq_q (qt_move rfl) rfl ?_
    refine sq_q (qt_bin rfl rfl (bin_subN (b := 1) rfl (by omega) (by omega))) rfl ?_
    refine sq_q (qt_assign rfl) rfl ?_
    refine sq_nil ?_
    repeat with_reducible first | refine tr_skip ?_ | refine tr_exit ?_ | refine tr_then ?_ | refine tr_inX ?_ | refine tr_thenX ?_ | refine tr_inN ?_ | refine tr_inR ?_ | refine tr_thenR ?_
    refine tr_round (k - 1) ⟨by omega, fun i h hi => ?_⟩ (by omega) ⟨rfl, rfl, trivial⟩ rfl (fun _ h => h)
    by_cases e : i = k - 1
    · subst e; exact hx0
    · exact hz i h (by omega)
  ·
    obtain ⟨r, o, rfl, hat⟩ := hrd.at_ (u32s_get hlt)
    have he : limbsOf (val xs) = xs.take k := by rw [ht, show k = k - 1 + 1 by omega, List.take_succ_eq_append_getElem hlt, trimL_concat hx0]
    refine tr_rseq ?_
    refine sq_q (qt_move rfl) rfl ?_
    refine sq_q (qt_bin rfl rfl (bT bin_gtr (by omega))) rfl ?_
    refine sq_q (qt_move rfl) rfl ?_
    refine sq_gT rfl rfl ?_
    refine sq_q (qt_move rfl) rfl ?_
    refine sq_gT rfl rfl ?_
    refine sq_q (qt_move rfl) rfl ?_
    refine sq_gT rfl rfl ?_
    refine sq_q (qt_bin rfl rfl (bin_subN (b := 1) rfl (by omega) (by omega))) rfl ?_
    refine sq_gT rfl rfl ?_
    refine sq_q (qt_index rfl rfl (by omega)) rfl ?_
    refine sq_gT rfl rfl ?_
    refine sq_q (qt_load rfl (fun w t => by rw [Nat.mul_one]; exact t.atA hat)) rfl ?_
    refine sq_gT rfl rfl ?_
    refine sq_q (qt_bin rfl rfl (bF bin_eql (by omega))) rfl ?_
    refine sq_q (qt_pick rfl rfl) rfl ?_
    refine sq_end ?_
    refine tr_ifF rfl ?_
    refine tr_exit ?_
    repeat with_reducible first | refine tr_skip ?_ | refine tr_exit ?_ | refine tr_then ?_ | refine tr_inX ?_ | refine tr_thenX ?_ | refine tr_inN ?_ | refine tr_inR ?_ | refine tr_thenR ?_
    refine tr_rseq ?_
    refine sq_q (qt_move rfl) rfl ?_
    refine sq_q (qt_move rfl) rfl ?_
    refine sq_q (qt_sliceH rfl rfl (by omega) ) rfl ?_
    refine sq_appendNil (u32s (xs.take k)) rfl rfl rfl rfl (by rw [u32s_length, Nat.mul_one]; simp; omega) (by omega) (fun w t => by rw [← u32s_take]; exact (t.rd hrd).take k) rfl fun p => ?_
    refine sq_q (qt_assign rfl) rfl ?_
    refine sq_end ?_
    refine tr_ret ?_
    repeat with_reducible first | refine tr_skip ?_ | refine tr_exit ?_ | refine tr_then ?_ | refine tr_inX ?_ | refine tr_thenX ?_ | refine tr_inN ?_ | refine tr_inR ?_ | refine tr_thenR ?_
    refine tr_done p (fun a w s t => results_1 rfl (resv_tmp s ?_)) (fun w h _ _ => ⟨by rw [he]; exact h.2.1, by rw [he]; simpa [Nat.min_eq_left hk] using h.2.2⟩)
    rw [slv, he, List.length_take, Nat.min_eq_left hk]
    rfl
theorem make_ret (n : Bool) (xs : List Nat) (A : Option Addr) (c : Nat) (w : World) (S : Nat → Prop) (hrd : Rd A (u32s xs) w) (lx : lim xs) (hc : xs.length ≤ c) (hb : xs.length ≤ 35184372088832) :
    Ret Try.prog 98 [.bool n, .slice A xs.length c] w S (iv (sgn n (val xs))) (Lz (val xs)) := by
  refine ret_of Try.func98 rfl Try.ntmps98 rfl ?_
  refine tr_rseq ?_
  refine sq_alloc rfl fun r4 => ?_
  refine sq_end ?_
  refine tr_rseq ?_
  refine sq_q (qt_move rfl) rfl ?_
  refine sq_call (slv (limbsOf (val xs))) (Lz (val xs)) rfl rfl rfl (fun w t => rtrim_ret xs A c w _ (t.rd hrd) lx hc hb) fun p => ?_
  refine sq_q (qt_assign rfl) rfl ?_
  refine sq_end ?_
  cases n
  ·
    refine tr_rseq ?_
    refine sq_q (qt_move rfl) rfl ?_
    refine sq_q (qt_move rfl) rfl ?_
    refine sq_gF rfl rfl rfl rfl ?_
    refine sq_gF rfl rfl rfl rfl ?_
    refine sq_gF rfl rfl rfl rfl ?_
    refine sq_q (qt_pick rfl rfl) rfl ?_
    refine sq_q (qt_move rfl) rfl ?_
    refine sq_q (qt_build rfl (built2 _ _ _ _)) rfl ?_
    refine sq_store 0 rfl rfl rfl rfl (by first | (simp [u32s, Value.cells]; done) | (simp [u32s, Value.cells]; omega) | exact Nat.le_refl 2) rfl rfl ?_
    refine sq_end ?_
    refine tr_ret ?_
    repeat with_reducible first | refine tr_skip ?_ | refine tr_exit ?_ | refine tr_then ?_ | refine tr_inX ?_ | refine tr_thenX ?_ | refine tr_inN ?_ | refine tr_inR ?_ | refine tr_thenR ?_
    refine tr_done p (fun a w s t => results_1 rfl ?_) (fun w h _ _ => h.2)
    rw [iv_of]
    exact resv_cell 0 s t rfl rfl rfl
  ·
    refine tr_rseq ?_
    refine sq_q (qt_move rfl) rfl ?_
    refine sq_q (qt_move rfl) rfl ?_
    refine sq_gT rfl rfl ?_
    refine sq_q (qt_move rfl) rfl ?_
    refine sq_gT rfl rfl ?_
    refine sq_q (qt_len rfl) rfl ?_
    refine sq_gT rfl rfl ?_
    refine sq_q (qt_bin rfl rfl bin_gtr) rfl ?_
    refine sq_q (qt_pick rfl rfl) rfl ?_
    refine sq_q (qt_move rfl) rfl ?_
    refine sq_q (qt_build rfl (built2 _ _ _ _)) rfl ?_
    refine sq_store 0 rfl rfl rfl rfl (by first | (simp [u32s, Value.cells]; done) | (simp [u32s, Value.cells]; omega) | exact Nat.le_refl 2) rfl rfl ?_
    refine sq_end ?_
    refine tr_ret ?_
    repeat with_reducible first | refine tr_skip ?_ | refine tr_exit ?_ | refine tr_then ?_ | refine tr_inX ?_ | refine tr_thenX ?_ | refine tr_inN ?_ | refine tr_inR ?_ | refine tr_thenR ?_
    refine tr_done p (fun a w s t => results_1 rfl ?_) (fun w h _ _ => h.2)
    rw [iv_of, Bool.true_and, show decide (0 < (limbsOf (val xs)).length) = decide ((((limbsOf (val xs)).length : Nat) : Int) > 0) by by_cases h : 0 < (limbsOf (val xs)).length <;> simp [h]]
    exact resv_cell 0 s t rfl rfl rfl
theorem word_ret (n : Bool) (v : Nat) (w : World) (S : Nat → Prop) (hv : v < 18446744073709551616) :
    Ret Try.prog 104 [.bool n, .int .u64 (v : Int)] w S (iv (sgn n v)) (Lz v) := by
  have hxs : val [v % 4294967296, v / 4294967296] = v := by simp [val]; omega
  refine ret_of Try.func104 rfl Try.ntmps104 rfl ?_
  refine tr_rseq ?_
  refine sq_alloc rfl fun r4 => ?_
  refine sq_end ?_
  refine tr_rseq ?_
  refine sq_q (qt_move rfl) rfl ?_
  refine sq_q (qt_move rfl) rfl ?_
  refine sq_q (qt_to32 rfl) rfl ?_
  refine sq_q (qt_move rfl) rfl ?_
  refine sq_q (qt_bin rfl rfl (bin_shrU 32 rfl (by omega) (by omega))) rfl ?_
  refine sq_q (qt_to32 rfl) rfl ?_
  refine sq_sub [(4, .pointer (some ⟨r4, 0, none⟩)), (5, .bool n), (7, .int .u32 ((v % 4294967296 : Nat) : Int)), (10, .int .u32 ((v / 4294967296 : Nat) : Int))] ?_ ?_
  · exact ⟨rfl, rfl, congrArg (fun z => some (Value.int .u32 z)) (show ((v : Nat) : Int) % 4294967296 = ((v % 4294967296 : Nat) : Int) by omega), congrArg (fun z => some (Value.int .u32 z)) (show ((v : Nat) : Int) / 2 ^ 32 % 4294967296 = ((v / 4294967296 : Nat) : Int) by omega), trivial⟩
  refine sq_lit (vs := [(0, .int .u32 ((v % 4294967296 : Nat) : Int)), (1, .int .u32 ((v / 4294967296 : Nat) : Int))]) (cells := u32s [v % 4294967296, v / 4294967296]) rfl rfl rfl (by simp [Instr.fill, u32s, Value.cells, show Array.range 2 = #[0, 1] from by decide]) rfl fun r11 => ?_
  refine sq_call (iv (sgn n v)) (Lz v) rfl rfl rfl (fun w t => ?_) fun x => ?_
  · have h := fun S' => make_ret n [v % 4294967296, v / 4294967296] (some ⟨r11, 0, none⟩) 2 w S' (Rd.own (t.has _ (ownAt_mem (i := 0) rfl))) (by intro x hx; simp at hx; omega) (Nat.le_refl 2) (by simp)
    rw [hxs] at h
    exact h _
  refine sq_store 1 rfl rfl rfl rfl (Nat.le_refl 2) rfl rfl ?_
  refine sq_end ?_
  refine tr_ret ?_
  repeat with_reducible first | refine tr_skip ?_ | refine tr_exit ?_ | refine tr_then ?_ | refine tr_inX ?_ | refine tr_thenX ?_ | refine tr_inN ?_ | refine tr_inR ?_ | refine tr_thenR ?_
  exact tr_done x (fun a w s t => results_1 rfl (resv_cell 1 s t rfl rfl rfl)) (fun w h _ _ => h.2)
theorem rsmall_ret (a : Int) (w : World) (S : Nat → Prop) (h0 : -9223372036854775808 ≤ a) (h1 : a < 9223372036854775808) :
    Ret Try.prog 60 [.int .i64 a] w S (iv a) (Lz a.natAbs) := by
  refine ret_of Try.func60 rfl Try.ntmps60 rfl ?_
  refine tr_rseq ?_
  refine sq_alloc rfl fun r2 => ?_
  refine sq_end ?_
  refine tr_seq ?_
  refine tr_rseq ?_
  refine sq_q (qt_move rfl) rfl ?_
  refine sq_q (qt_bin rfl rfl bin_lss) rfl ?_
  refine sq_end ?_
  refine tr_if rfl (fun hc => ?_) (fun hc => ?_)
  ·
    have hc := of_decide_eq_true hc
    have ea : sgn true a.natAbs = a := by rw [sgn_true]; omega
    refine tr_rseq ?_
    refine sq_q (qt_move rfl) rfl ?_
    refine sq_q (qt_to64m rfl) rfl ?_
    refine sq_q (qt_negU rfl) rfl ?_
    refine sq_sub [(2, .pointer (some ⟨r2, 0, none⟩)), (7, .int .u64 ((a.natAbs : Nat) : Int))] ?_ ?_
    · exact ⟨rfl, congrArg (fun z => some (Value.int .u64 z)) (show (0 - a % 18446744073709551616) % 18446744073709551616 = ((a.natAbs : Nat) : Int) by omega), trivial⟩
    refine sq_call (iv a) (Lz a.natAbs) rfl rfl rfl (fun w t => by have h := fun S' => word_ret true a.natAbs w S' (by omega); rw [ea] at h; exact h _) fun x => ?_
    refine sq_store 0 rfl rfl rfl rfl (by first | (simp [u32s, Value.cells]; done) | (simp [u32s, Value.cells]; omega) | exact Nat.le_refl 2) rfl rfl ?_
    refine sq_end ?_
    refine tr_ret ?_
    repeat with_reducible first | refine tr_skip ?_ | refine tr_exit ?_ | refine tr_then ?_ | refine tr_inX ?_ | refine tr_thenX ?_ | refine tr_inN ?_ | refine tr_inR ?_ | refine tr_thenR ?_
    exact tr_done x (fun a w s t => results_1 rfl (resv_cell 0 s t rfl rfl rfl)) (fun w h _ _ => h.2)
  ·
    have hc := of_decide_eq_false hc
    have ea : sgn false a.natAbs = a := by rw [sgn_false]; omega
    refine tr_skip ?_
    repeat with_reducible first | refine tr_skip ?_ | refine tr_exit ?_ | refine tr_then ?_ | refine tr_inX ?_ | refine tr_thenX ?_ | refine tr_inN ?_ | refine tr_inR ?_ | refine tr_thenR ?_
    refine tr_rseq ?_
    refine sq_q (qt_move rfl) rfl ?_
    refine sq_q (qt_to64m rfl) rfl ?_
    refine sq_sub [(2, .pointer (some ⟨r2, 0, none⟩)), (10, .int .u64 ((a.natAbs : Nat) : Int))] ?_ ?_
    · exact ⟨rfl, congrArg (fun z => some (Value.int .u64 z)) (show a % 18446744073709551616 = ((a.natAbs : Nat) : Int) by omega), trivial⟩
    refine sq_call (iv a) (Lz a.natAbs) rfl rfl rfl (fun w t => by have h := fun S' => word_ret false a.natAbs w S' (by omega); rw [ea] at h; exact h _) fun x => ?_
    refine sq_store 0 rfl rfl rfl rfl (by first | (simp [u32s, Value.cells]; done) | (simp [u32s, Value.cells]; omega) | exact Nat.le_refl 2) rfl rfl ?_
    refine sq_end ?_
    refine tr_ret ?_
    repeat with_reducible first | refine tr_skip ?_ | refine tr_exit ?_ | refine tr_then ?_ | refine tr_inX ?_ | refine tr_thenX ?_ | refine tr_inN ?_ | refine tr_inR ?_ | refine tr_thenR ?_
    exact tr_done x (fun a w s t => results_1 rfl (resv_cell 0 s t rfl rfl rfl)) (fun w h _ _ => h.2)
end Go.Qk
end
section
set_option linter.unusedVariables false
namespace Go.Qk
open Go Go.Proofs
set_option maxRecDepth 100000
set_option maxHeartbeats 4000000
theorem rsame_ret (z z' : Int) (p p' : Sv) (w : World) (S : Nat → Prop) (hx : Lz z.natAbs p w) (hy : Lz z'.natAbs p' w) (hb : nl z.natAbs ≤ 35184372088832) (hb' : nl z'.natAbs ≤ 35184372088832) :
    Ret Try.prog 28 [iv z p, iv z' p'] w S (fun _ : Unit => .bool (decide (z = z'))) (fun _ _ => True) := by
  refine ret_of Try.func28 rfl Try.ntmps28 rfl ?_
  refine tr_rseq ?_
  refine sq_box rfl rfl fun r2 => ?_
  refine sq_box rfl rfl fun r3 => ?_
  refine sq_q (qt_assign rfl) rfl ?_
  refine sq_end ?_
  have hcs : (decide (z < 0) == decide (z' < 0)) = false ∨ ((decide (z < 0) == decide (z' < 0)) = true ∧ (limbsOf z.natAbs).length ≠ (limbsOf z'.natAbs).length) ∨ ((decide (z < 0) == decide (z' < 0)) = true ∧ (limbsOf z.natAbs).length = (limbsOf z'.natAbs).length) := by
    cases h : (decide (z < 0) == decide (z' < 0))
    · exact .inl rfl
    · by_cases h2 : (limbsOf z.natAbs).length = (limbsOf z'.natAbs).length
      · exact .inr (.inr ⟨rfl, h2⟩)
      · exact .inr (.inl ⟨rfl, h2⟩)
  rcases hcs with hs | ⟨hs, hl⟩ | ⟨hs, hl⟩
  ·
    refine tr_rseq ?_
    refine sq_q (qt_fieldAddr rfl) rfl ?_
    refine sq_q (qt_load rfl (fun w t => t.atO 1 rfl rfl)) rfl ?_
    refine sq_q (qt_fieldAddr rfl) rfl ?_
    refine sq_q (qt_load rfl (fun w t => t.atO 0 rfl rfl)) rfl ?_
    refine sq_q (qt_binB rfl rfl (bin_eqlB boolT _ _)) rfl ?_
    rw [hs]
    refine sq_q (qt_move rfl) rfl ?_
    refine sq_gF rfl rfl rfl rfl ?_
    refine sq_gF rfl rfl rfl rfl ?_
    refine sq_gF rfl rfl rfl rfl ?_
    refine sq_gF rfl rfl rfl rfl ?_
    refine sq_gF rfl rfl rfl rfl ?_
    refine sq_gF rfl rfl rfl rfl ?_
    refine sq_gF rfl rfl rfl rfl ?_
    refine sq_q (qt_pick rfl rfl) rfl ?_
    refine sq_q (qt_move rfl) rfl ?_
    refine sq_gF rfl rfl rfl rfl ?_
    refine sq_gF rfl rfl rfl rfl ?_
    refine sq_gF rfl rfl rfl rfl ?_
    refine sq_gF rfl rfl rfl rfl ?_
    refine sq_gF rfl rfl rfl rfl ?_
    refine sq_gF rfl rfl rfl rfl ?_
    refine sq_q (qt_pick rfl rfl) rfl ?_
    refine sq_q (qt_assign rfl) rfl ?_
    refine sq_end ?_
    refine tr_ret ?_
    repeat with_reducible first | refine tr_skip ?_ | refine tr_exit ?_ | refine tr_then ?_ | refine tr_inX ?_ | refine tr_thenX ?_ | refine tr_inN ?_ | refine tr_inR ?_ | refine tr_thenR ?_
    refine tr_done () (fun a w s t => results_1 rfl (resv_tmp s ?_)) (fun _ _ _ _ => trivial)
    rw [show decide (z = z') = false from decide_eq_false (fun h => by subst h; simp at hs)]
    rfl
  ·
    refine tr_rseq ?_
    refine sq_q (qt_fieldAddr rfl) rfl ?_
    refine sq_q (qt_load rfl (fun w t => t.atO 1 rfl rfl)) rfl ?_
    refine sq_q (qt_fieldAddr rfl) rfl ?_
    refine sq_q (qt_load rfl (fun w t => t.atO 0 rfl rfl)) rfl ?_
    refine sq_q (qt_binB rfl rfl (bin_eqlB boolT _ _)) rfl ?_
    rw [hs]
    refine sq_q (qt_move rfl) rfl ?_
    refine sq_gT rfl rfl ?_
    refine sq_q (qt_fieldAddr rfl) rfl ?_
    refine sq_gT rfl rfl ?_
    refine sq_q (qt_load rfl (fun w t => t.atO 1 rfl rfl)) rfl ?_
    refine sq_gT rfl rfl ?_
    refine sq_q (qt_len rfl) rfl ?_
    refine sq_gT rfl rfl ?_
    refine sq_q (qt_fieldAddr rfl) rfl ?_
    refine sq_gT rfl rfl ?_
    refine sq_q (qt_load rfl (fun w t => t.atO 0 rfl rfl)) rfl ?_
    refine sq_gT rfl rfl ?_
    refine sq_q (qt_len rfl) rfl ?_
    refine sq_gT rfl rfl ?_
    refine sq_q (qt_bin rfl rfl (bF bin_eql (by omega))) rfl ?_
    refine sq_q (qt_pick rfl rfl) rfl ?_
    refine sq_q (qt_move rfl) rfl ?_
    refine sq_gF rfl rfl rfl rfl ?_
    refine sq_gF rfl rfl rfl rfl ?_
    refine sq_gF rfl rfl rfl rfl ?_
    refine sq_gF rfl rfl rfl rfl ?_
    refine sq_gF rfl rfl rfl rfl ?_
    refine sq_gF rfl rfl rfl rfl ?_
    refine sq_q (qt_pick rfl rfl) rfl ?_
    refine sq_q (qt_assign rfl) rfl ?_
    refine sq_end ?_
    refine tr_ret ?_
    repeat with_reducible first | refine tr_skip ?_ | refine tr_exit ?_ | refine tr_then ?_ | refine tr_inX ?_ | refine tr_thenX ?_ | refine tr_inN ?_ | refine tr_inR ?_ | refine tr_thenR ?_
    refine tr_done () (fun a w s t => results_1 rfl (resv_tmp s ?_)) (fun _ _ _ _ => trivial)
    rw [show decide (z = z') = false from decide_eq_false (fun h => hl (by rw [h]))]
    rfl
  ·
    have hl' : (((limbsOf z.natAbs).length : Nat) : Int) = (((limbsOf z'.natAbs).length : Nat) : Int) := by rw [hl]
    refine tr_rseq ?_
    refine sq_q (qt_fieldAddr rfl) rfl ?_
    refine sq_q (qt_load rfl (fun w t => t.atO 1 rfl rfl)) rfl ?_
    refine sq_q (qt_fieldAddr rfl) rfl ?_
    refine sq_q (qt_load rfl (fun w t => t.atO 0 rfl rfl)) rfl ?_
    refine sq_q (qt_binB rfl rfl (bin_eqlB boolT _ _)) rfl ?_
    rw [hs]
    refine sq_q (qt_move rfl) rfl ?_
    refine sq_gT rfl rfl ?_
    refine sq_q (qt_fieldAddr rfl) rfl ?_
    refine sq_gT rfl rfl ?_
    refine sq_q (qt_load rfl (fun w t => t.atO 1 rfl rfl)) rfl ?_
    refine sq_gT rfl rfl ?_
    refine sq_q (qt_len rfl) rfl ?_
    refine sq_gT rfl rfl ?_
    refine sq_q (qt_fieldAddr rfl) rfl ?_
    refine sq_gT rfl rfl ?_
    refine sq_q (qt_load rfl (fun w t => t.atO 0 rfl rfl)) rfl ?_
    refine sq_gT rfl rfl ?_
    refine sq_q (qt_len rfl) rfl ?_
    refine sq_gT rfl rfl ?_
    refine sq_q (qt_bin rfl rfl (bT bin_eql (by omega))) rfl ?_
    refine sq_q (qt_pick rfl rfl) rfl ?_
    refine sq_q (qt_move rfl) rfl ?_
    refine sq_gT rfl rfl ?_
    refine sq_q (qt_fieldAddr rfl) rfl ?_
    refine sq_gT rfl rfl ?_
    refine sq_q (qt_load rfl (fun w t => t.atO 1 rfl rfl)) rfl ?_
    refine sq_gT rfl rfl ?_
    refine sq_q (qt_fieldAddr rfl) rfl ?_
    refine sq_gT rfl rfl ?_
    refine sq_q (qt_load rfl (fun w t => t.atO 0 rfl rfl)) rfl ?_
    refine sq_gT rfl rfl ?_
    refine sq_call (val := fun _ : Unit => .int .i64 (cmp3 z.natAbs z'.natAbs)) (F := fun _ _ => True) rfl rfl rfl (fun w t => rcmp_lz (t.rd hx.1) (t.rd hy.1) hb hb') fun _ => ?_
    refine sq_gT rfl rfl ?_
    refine sq_q (qt_bin rfl rfl bin_eql) rfl ?_
    refine sq_q (qt_pick rfl rfl) rfl ?_
    refine sq_q (qt_assign rfl) rfl ?_
    refine sq_end ?_
    refine tr_ret ?_
    repeat with_reducible first | refine tr_skip ?_ | refine tr_exit ?_ | refine tr_then ?_ | refine tr_inX ?_ | refine tr_thenX ?_ | refine tr_inN ?_ | refine tr_inR ?_ | refine tr_thenR ?_
    refine tr_done () (fun a w s t => results_1 rfl (resv_tmp s ?_)) (fun _ _ _ _ => trivial)
    have e : decide (z = z') = decide (cmp3 z.natAbs z'.natAbs = 0) := by
      refine decide_eq_decide.2 ?_
      have hs' : (z < 0) ↔ (z' < 0) := by simpa using hs
      unfold cmp3
      constructor
      · rintro rfl; simp
      · intro h
        split at h
        · omega
        · split at h
          · omega
          · omega
    rw [e]
    rfl
end Go.Qk
end
section
set_option linter.unusedVariables false
namespace Go.Qk
open Go Go.Proofs Go.RowKit
/-- an integer datum: sign, limbs, where they stand -/
structure Zd where
  n : Bool
  xs : List Nat
  p : Sv
def Zd.v (z : Zd) : Value := ig z.n z.xs z.p
def Zd.z (z : Zd) : Int := sgn z.n (val z.xs)
def Zd.cs (z : Zd) : List Value := [.bool z.n, slv z.xs z.p]
def Zd.ok (B : Nat) (z : Zd) (w : World) : Prop := Lm z.xs z.p w ∧ lim z.xs ∧ z.xs.length ≤ B
def Zd.can (z : Zd) : Prop := z.n = decide (z.z < 0) ∧ canon z.xs ∧ lim z.xs
def zd (a : Int) (p : Sv) : Zd := ⟨decide (a < 0), limbsOf a.natAbs, p⟩
def z0 : Zd := ⟨false, [], (none, 0)⟩
theorem zd_z (a : Int) (p : Sv) : (zd a p).z = a := by
  unfold Zd.z zd
  rw [val_limbsOf]
  exact sgn_self a
theorem zd_can (a : Int) (p : Sv) : (zd a p).can := ⟨by rw [zd_z]; rfl, canon_limbsOf _, lim_limbsOf _⟩
theorem zd_ok {a : Int} {p : Sv} {B : Nat} {w : World} (h : Lz a.natAbs p w) (hb : nl a.natAbs ≤ B) : (zd a p).ok B w := ⟨h, lim_limbsOf _, hb⟩
theorem Zd.can_eq {z : Zd} (h : z.can) : z = zd z.z z.p := by
  obtain ⟨h1, h2, h3⟩ := h
  have e : z.z.natAbs = val z.xs := sgn_natAbs _ _
  have : limbsOf z.z.natAbs = z.xs := by rw [e, ← canon_eq h2 h3]
  unfold zd
  rw [← h1, this]
theorem Zd.can_v {z : Zd} (h : z.can) : z.v = iv z.z z.p := by
  conv => lhs; rw [Zd.can_eq h]
  rfl
theorem z0_can : z0.can := ⟨rfl, by unfold canon; rfl, fun _ h => by simp [z0] at h⟩
theorem z0_ok (B : Nat) (w : World) : z0.ok B w := ⟨⟨Rd.nil _ _, Nat.le_refl _⟩, fun _ h => by simp [z0] at h, Nat.zero_le _⟩
def zcs (l : List Zd) : List Value := l.flatMap Zd.cs
theorem zcs_cons (z : Zd) (l : List Zd) : zcs (z :: l) = .bool z.n :: slv z.xs z.p :: zcs l := rfl
theorem zcs_length (l : List Zd) : (zcs l).length = l.length * 2 := by
  induction l with
  | nil => rfl
  | cons z l ih => rw [zcs_cons]; simp [ih]; omega
theorem zcs_get0 {l : List Zd} {j : Nat} (h : j < l.length) : (zcs l)[j * 2]? = some (.bool l[j].n) := by
  induction l generalizing j with
  | nil => simp at h
  | cons z l ih =>
    rw [zcs_cons]
    cases j with
    | zero => rfl
    | succ j => rw [show (j + 1) * 2 = j * 2 + 1 + 1 by omega]; simpa using ih (by simpa using h)
theorem zcs_get1 {l : List Zd} {j : Nat} (h : j < l.length) : (zcs l)[j * 2 + 1]? = some (slv l[j].xs l[j].p) := by
  induction l generalizing j with
  | nil => simp at h
  | cons z l ih =>
    rw [zcs_cons]
    cases j with
    | zero => rfl
    | succ j => rw [show (j + 1) * 2 + 1 = j * 2 + 1 + 1 + 1 by omega]; simpa using ih (by simpa using h)
theorem zcs_set {l : List Zd} {j : Nat} (z : Zd) (h : j < l.length) : wr (zcs l) (0 + j * 2) z.v.cells.toList = zcs (l.set j z) := by
  rw [Nat.zero_add]
  show ((zcs l).set (j * 2) (.bool z.n)).set (j * 2 + 1) (slv z.xs z.p) = _
  induction l generalizing j with
  | nil => simp at h
  | cons y l ih =>
    rw [zcs_cons]
    cases j with
    | zero => rfl
    | succ j =>
      rw [show (j + 1) * 2 = j * 2 + 1 + 1 by omega, List.set_cons_succ, List.set_cons_succ, List.set_cons_succ, List.set_cons_succ, List.set_cons_succ, zcs_cons, ih (by simpa using h)]
theorem made_z (c : Nat) : madeCells (Value.agg #[.bool false, .slice none 0 0]).cells (c * 2) = (zcs (List.replicate c z0)).toArray := by
  apply Array.ext
  · simp [madeCells, zcs_length]
  · intro i h1 h2
    have hi : i < c * 2 := by simpa [madeCells] using h1
    obtain ⟨j, hj⟩ : ∃ j, j = i / 2 := ⟨_, rfl⟩
    have hjc : j < (List.replicate c z0).length := by simp; omega
    have e : ∀ v : Value, (zcs (List.replicate c z0))[i]? = some v → (zcs (List.replicate c z0)).toArray[i] = v := by
      intro v hv
      rw [List.getElem?_eq_getElem (by simpa using h2)] at hv
      simpa using hv
    rcases Nat.mod_two_eq_zero_or_one i with h | h
    · have hi2 : i = j * 2 := by omega
      rw [e (.bool false) (by rw [hi2, zcs_get0 hjc]; simp [z0])]
      simp [madeCells, Value.cells, h]
    · have hi2 : i = j * 2 + 1 := by omega
      rw [e (.slice none 0 0) (by rw [hi2, zcs_get1 hjc]; simp [z0]; rfl)]
      simp [madeCells, Value.cells, h]
theorem made_s (c : Nat) : madeCells (Value.slice none 0 0).cells (c * 1) = (List.replicate c (.slice none 0 0)).toArray := by
  apply Array.ext
  · simp [madeCells]
  · intro i h1 h2
    simp [madeCells, Value.cells, Nat.mod_one]
theorem next_set {α : Type} (l : List α) (k : Nat) (z y : α) : (l ++ List.replicate (k + 1) z).set l.length y = (l ++ [y]) ++ List.replicate k z := by
  rw [List.set_append_right _ _ (Nat.le_refl _)]
  simp [List.replicate_succ]
/-- a row of integers -/
structure Rw where
  l : List Zd
  p : Sv
def Rw.v (r : Rw) : Value := .slice r.p.1 r.l.length r.p.2
def Rw.ok (B : Nat) (r : Rw) (w : World) : Prop := Rd r.p.1 (zcs r.l) w ∧ r.l.length ≤ r.p.2 ∧ ∀ z ∈ r.l, z.ok B w
def Rw.zs (r : Rw) : List Int := r.l.map Zd.z
def Rw.can (r : Rw) : Prop := ∀ z ∈ r.l, z.can
/-- a matrix -/
structure Mt where
  rs : List Rw
  p : Sv
def Mt.v (m : Mt) : Value := .slice m.p.1 m.rs.length m.p.2
def Mt.ok (B : Nat) (m : Mt) (w : World) : Prop := Rd m.p.1 (m.rs.map Rw.v) w ∧ m.rs.length ≤ m.p.2 ∧ ∀ r ∈ m.rs, r.ok B w
def Mt.zs (m : Mt) : List (List Int) := m.rs.map Rw.zs
def Mt.can (m : Mt) : Prop := ∀ r ∈ m.rs, r.can
def grid (g : Nat → Nat → Int) (r c : Nat) : List (List Int) := (List.range r).map fun i => (List.range c).map fun j => g i j
theorem grid_succ (g : Nat → Nat → Int) (r c : Nat) : grid g (r + 1) c = grid g r c ++ [(List.range c).map fun j => g r j] := by simp [grid, List.range_succ]
theorem Zd.ok.mono {B B' : Nat} {z : Zd} {w : World} (h : z.ok B w) (hb : B ≤ B') : z.ok B' w := ⟨h.1, h.2.1, Nat.le_trans h.2.2 hb⟩
theorem Rw.ok.mono {B B' : Nat} {r : Rw} {w : World} (h : r.ok B w) (hb : B ≤ B') : r.ok B' w := ⟨h.1, h.2.1, fun z hz => (h.2.2 z hz).mono hb⟩
theorem Mt.ok.mono {B B' : Nat} {m : Mt} {w : World} (h : m.ok B w) (hb : B ≤ B') : m.ok B' w := ⟨h.1, h.2.1, fun r hr => (h.2.2 r hr).mono hb⟩
section
variable {P : Program} {n : Nat} {w0 w : World} {X : List Nat} {S : Nat → Prop} {E : Env} {own : Own} {R : World → Prop} {Q : Exit → Act → World → Prop} {ops : Array Oper} {rest : List Oper}
theorem SS.zd (t : SS w0 [] S own R w) {B : Nat} {z : Zd} (h : z.ok B w0) : z.ok B w := ⟨t.lm h.1, h.2⟩
theorem SS.rw (t : SS w0 [] S own R w) {B : Nat} {r : Rw} (h : r.ok B w0) : r.ok B w := ⟨t.rd h.1, h.2.1, fun z hz => t.zd (h.2.2 z hz)⟩
theorem SS.mt (t : SS w0 [] S own R w) {B : Nat} {m : Mt} (h : m.ok B w0) : m.ok B w := ⟨t.rd h.1, h.2.1, fun r hr => t.rw (h.2.2 r hr)⟩
/-- a block of the call's own that is written no more -/
theorem SS.retire {r : Nat} {o : Obj} (t : SS w0 [] S ((r, o) :: own) R w) : SS w0 [] S own (fun w => R w ∧ w.heap[r]? = some o) w := by
  have d := t.drop (own' := own) (List.sublist_cons_self ..)
  have hr := t.lt _ (List.mem_cons_self ..)
  have hne : ∀ p ∈ own, p.1 ≠ r := fun p hp => ((List.pairwise_cons.1 t.nd).1 p hp).symm
  have h0 : w0.heap.size ≤ r := by rcases hr.2 with h | h; · simp at h
                                   exact h
  refine ⟨d.os, d.tape, d.output, d.size, d.pres, d.lt, d.has, d.nd, fun w' hs hk => ⟨d.keep w' hs hk, ?_⟩⟩
  rw [hk r (.inl h0) hr.1 hne]
  exact t.has _ (List.mem_cons_self ..)
theorem tr_retire {f : Act → World → Prop} {r : Nat} {o : Obj} (h : Tr n w0 [] S E own (fun w => R w ∧ w.heap[r]? = some o) f) : Tr n w0 [] S E ((r, o) :: own) R f := fun a w s t => h a w s t.retire
theorem tr_own {f : Act → World → Prop} (own' : Own) (e : own = own') (h : Tr n w0 X S E own' R f) : Tr n w0 X S E own R f := by subst e; exact h
theorem sq_own {l : List Oper} (own' : Own) (e : own = own') (h : Sq P ops Q n w0 X S l E own' R) : Sq P ops Q n w0 X S l E own R := by subst e; exact h
end
end Go.Qk
end
section
set_option linter.unusedVariables false
namespace Go.Qk
open Go Go.Proofs Go.RowKit
set_option maxRecDepth 100000
set_option maxHeartbeats 4000000
theorem build_ret (r c B : Nat) (g : Nat → Nat → Int) (f : FuncId) [hB : FnB Try.prog f] (pre cap : List Value) (w : World) (S : Nat → Prop) (hr16 : r ≤ 65536) (hc16 : c ≤ 65536)
    (hf : ∀ i j w' S', i < r → j < c → Below w.heap.size w w' → Ret Try.prog f (pre ++ [.int .i64 (i : Int), .int .i64 (j : Int)] ++ cap) w' S' (iv (g i j)) (fun p w => Lz (g i j).natAbs p w ∧ nl (g i j).natAbs ≤ B)) :
    Ret Try.prog 64 [.int .i64 (r : Int), .int .i64 (c : Int), .func (.func f) pre.toArray cap.toArray] w S Mt.v (fun m w => m.ok B w ∧ m.zs = grid g r c ∧ m.can) := by
  refine ret_of Try.func64 rfl Try.ntmps64 rfl ?_
  refine tr_rseq ?_
  refine sq_q (qt_assign rfl) rfl ?_
  refine sq_end ?_
  refine tr_rseq ?_
  refine sq_q (qt_move rfl) rfl ?_
  refine sq_make (c := r) rfl rfl (by omega) (by omega) rfl fun r11 => ?_
  refine sq_q (qt_assign rfl) rfl ?_
  refine sq_end ?_
  refine tr_seq ?_
  refine tr_rseq ?_
  refine sq_q (qt_move rfl) rfl ?_
  refine sq_q (qt_len rfl) rfl ?_
  refine sq_q (qt_move rfl) rfl ?_
  refine sq_end ?_
  refine tr_block ?_
  refine tr_loop (fun done : List Rw => done.length ≤ r ∧ done.map Rw.zs = grid g done.length c ∧ ∀ q ∈ done, q.can) (fun done => [(1, .int .i64 (c : Int)), (2, .func (.func f) pre.toArray cap.toArray), (7, .slice (some ⟨r11, 0, none⟩) r r), (13, .int .i64 (r : Int)), (14, .int .i64 (done.length : Int))])
    (fun done => [(r11, .cells (done.map Rw.v ++ List.replicate (r - done.length) (Value.slice none 0 0)).toArray 44 (0, 0))]) (fun done w => ∀ q ∈ done, q.ok B w) (fun done => r - done.length) [] ⟨Nat.zero_le _, rfl, by simp⟩ ⟨rfl, rfl, rfl, rfl, rfl, trivial⟩ (by rw [made_s]; rfl) (fun _ _ => by simp) ?_
  rintro done ⟨hle, hz, hcan⟩
  refine tr_rseq ?_
  refine sq_q (qt_bin rfl rfl bin_lss) rfl ?_
  refine sq_end ?_
  refine tr_seq ?_
  refine tr_if rfl (fun hc => ?_) (fun hc => ?_)
  ·
    have hlt : done.length < r := by have := of_decide_eq_true hc; omega
    refine tr_skip ?_
    repeat with_reducible first | refine tr_skip ?_ | refine tr_exit ?_ | refine tr_then ?_ | refine tr_inX ?_ | refine tr_thenX ?_ | refine tr_inN ?_ | refine tr_inR ?_ | refine tr_thenR ?_
    refine tr_seq ?_
    refine tr_block ?_
    refine tr_rseq ?_
    refine sq_q (qt_move rfl) rfl ?_
    refine sq_q (qt_assign rfl) rfl ?_
    refine sq_end ?_
    refine tr_rseq ?_
    refine sq_q (qt_move rfl) rfl ?_
    refine sq_q (qt_move rfl) rfl ?_
    refine sq_q (qt_move rfl) rfl ?_
    refine sq_make (c := c) rfl rfl (by omega) (by omega) rfl fun r20 => ?_
    refine sq_q (qt_index (i := done.length) rfl rfl hlt) rfl ?_
    refine sq_store 1 rfl rfl rfl rfl (by simp [Value.cells]; omega) rfl rfl ?_
    refine sq_end ?_
    obtain ⟨k, hk⟩ : ∃ k, r - done.length = k + 1 := ⟨r - done.length - 1, by omega⟩
    have hk' : r - (done.length + 1) = k := by omega
    have hset : wr (done.map Rw.v ++ List.replicate (k + 1) (Value.slice none 0 0)) (0 + done.length * 1) [Value.slice (some ⟨r20, 0, none⟩) c c] = (done.map Rw.v ++ [Value.slice (some ⟨r20, 0, none⟩) c c]) ++ List.replicate k (Value.slice none 0 0) := by
      have := next_set (done.map Rw.v) k (Value.slice none 0 0) (.slice (some ⟨r20, 0, none⟩) c c)
      rw [List.length_map] at this
      rw [← this, Nat.zero_add, Nat.mul_one]
      rfl
    have hget : ((done.map Rw.v ++ [Value.slice (some ⟨r20, 0, none⟩) c c]) ++ List.replicate k (Value.slice none 0 0))[done.length]? = some (.slice (some ⟨r20, 0, none⟩) c c) := by simp [List.getElem?_append]
    refine tr_own [(r20, .cells (zcs (List.replicate c z0)).toArray 35 (0, 0)), (r11, .cells ((done.map Rw.v ++ [Value.slice (some ⟨r20, 0, none⟩) c c]) ++ List.replicate k (Value.slice none 0 0)).toArray 44 (0, 0))] (by rw [← hset, ← hk, ← made_z]; rfl) ?_
    refine tr_rseq ?_
    refine sq_q (qt_move rfl) rfl ?_
    refine sq_q (qt_move rfl) rfl ?_
    refine sq_q (qt_index (i := done.length) rfl rfl hlt) rfl ?_
    refine sq_q (qt_load rfl (fun w t => t.o1 1 rfl hget)) rfl ?_
    refine sq_q (qt_len rfl) rfl ?_
    refine sq_q (qt_move rfl) rfl ?_
    refine sq_end ?_
    refine tr_block ?_
    refine tr_loop (fun l : List Zd => l.length ≤ c ∧ l.map Zd.z = (List.range l.length).map (fun j => g done.length j) ∧ ∀ z ∈ l, z.can) (fun l => [(1, .int .i64 (c : Int)), (2, .func (.func f) pre.toArray cap.toArray), (7, .slice (some ⟨r11, 0, none⟩) r r), (8, .int .i64 (done.length : Int)), (13, .int .i64 (r : Int)), (14, .int .i64 (done.length : Int)), (26, .int .i64 (c : Int)), (27, .int .i64 (l.length : Int))])
      (fun l => [(r20, .cells (zcs (l ++ List.replicate (c - l.length) z0)).toArray 35 (0, 0)), (r11, .cells ((done.map Rw.v ++ [Value.slice (some ⟨r20, 0, none⟩) c c]) ++ List.replicate k (Value.slice none 0 0)).toArray 44 (0, 0))]) (fun l w => (∀ q ∈ done, q.ok B w) ∧ ∀ z ∈ l, z.ok B w) (fun l => c - l.length) [] ⟨Nat.zero_le _, rfl, by simp⟩ ⟨rfl, rfl, rfl, rfl, rfl, rfl, rfl, rfl, trivial⟩ rfl (fun _ h => ⟨h, by simp⟩) ?_
    rintro l ⟨hl, hlz, hlc⟩
    refine tr_rseq ?_
    refine sq_q (qt_bin rfl rfl bin_lss) rfl ?_
    refine sq_end ?_
    refine tr_seq ?_
    refine tr_if rfl (fun hc => ?_) (fun hc => ?_)
    ·
      have hlt2 : l.length < c := by have := of_decide_eq_true hc; omega
      refine tr_skip ?_
      repeat with_reducible first | refine tr_skip ?_ | refine tr_exit ?_ | refine tr_then ?_ | refine tr_inX ?_ | refine tr_thenX ?_ | refine tr_inN ?_ | refine tr_inR ?_ | refine tr_thenR ?_
      refine tr_seq ?_
      refine tr_block ?_
      refine tr_rseq ?_
      refine sq_q (qt_move rfl) rfl ?_
      refine sq_q (qt_assign rfl) rfl ?_
      refine sq_end ?_
      refine tr_draw 9 [] [] [0, 1, 2, 6, 7, 8, 9, 13, 14, 15, 26, 27, 28, 33, 34, 38] (by kernel_rfl) ?_
      refine dx_q rfl (qt_move rfl) rfl ?_
      refine dx_q rfl (qt_move rfl) rfl ?_
      refine dx_q rfl (qt_index (i := done.length) rfl rfl hlt) rfl ?_
      refine dx_q rfl (qt_load rfl (fun w t => t.o1 1 rfl hget)) rfl ?_
      refine dx_q rfl (qt_move rfl) rfl ?_
      refine dx_q rfl (qt_move rfl) rfl ?_
      refine dx_q rfl (qt_move rfl) rfl ?_
      refine dx_q rfl (qt_move rfl) rfl ?_
      refine dx_call (iv (g done.length l.length)) (fun p w => Lz (g done.length l.length).natAbs p w ∧ nl (g done.length l.length).natAbs ≤ B) rfl rfl rfl (fun w t => hf _ _ w _ hlt hlt2 t.arg) ?_
      refine dx_nil ?_
      repeat (first | refine es_val rfl ?_ rfl | refine es_res rfl (fun x => ?_) rfl | refine es_skip rfl ?_)
      refine es_nil rfl ?_
      refine tx_q (qt_index (i := l.length) rfl rfl hlt2) rfl rfl rfl ?_
      refine tx_store 0 rfl rfl rfl rfl (show 0 + l.length * 2 + 2 ≤ (zcs (l ++ List.replicate (c - l.length) z0)).length by rw [zcs_length]; simp; omega) rfl rfl rfl ?_
      refine tx_end ?_
      repeat with_reducible first | refine tr_skip ?_ | refine tr_exit ?_ | refine tr_then ?_ | refine tr_inX ?_ | refine tr_thenX ?_ | refine tr_inN ?_ | refine tr_inR ?_ | refine tr_thenR ?_
      refine tr_region ?_
      refine sq_q (qt_bin rfl rfl (bin_addI (by omega) (by omega))) rfl ?_
      refine sq_q (qt_move rfl) rfl ?_
      refine sq_nil ?_
      repeat with_reducible first | refine tr_skip ?_ | refine tr_exit ?_ | refine tr_then ?_ | refine tr_inX ?_ | refine tr_thenX ?_ | refine tr_inN ?_ | refine tr_inR ?_ | refine tr_thenR ?_
      obtain ⟨k2, hk2⟩ : ∃ k2, c - l.length = k2 + 1 := ⟨c - l.length - 1, by omega⟩
      refine tr_round (l ++ [zd (g done.length l.length) x]) ⟨by simp; omega, ?_, ?_⟩ (by simp; omega) ⟨rfl, rfl, rfl, rfl, rfl, rfl, rfl, by simp; rfl, trivial⟩ ?_ ?_
      · rw [List.map_append, hlz, List.length_append, List.length_singleton, List.range_succ, List.map_append]
        simp [zd_z]
      · intro z hz
        rcases List.mem_append.1 hz with h | h
        · exact hlc z h
        · rw [List.mem_singleton.1 h]; exact zd_can _ _
      · have e := zcs_set (l := l ++ List.replicate (c - l.length) z0) (j := l.length) (zd (g done.length l.length) x) (by simp; omega)
        rw [hk2, next_set] at e
        rw [List.length_append, List.length_singleton, show c - (l.length + 1) = k2 by omega, ← e, ← hk2]
        rfl
      · rintro w ⟨⟨h1, h2⟩, h3⟩
        refine ⟨h1, fun z hz => ?_⟩
        rcases List.mem_append.1 hz with h | h
        · exact h2 z h
        · rw [List.mem_singleton.1 h]; exact zd_ok h3.1 h3.2
    ·
      have hlc2 : l.length = c := by have := of_decide_eq_false hc; omega
      refine tr_exit ?_
      repeat with_reducible first | refine tr_skip ?_ | refine tr_exit ?_ | refine tr_then ?_ | refine tr_inX ?_ | refine tr_thenX ?_ | refine tr_inN ?_ | refine tr_inR ?_ | refine tr_thenR ?_
      refine tr_retire ?_
      refine tr_region ?_
      refine sq_q (qt_bin rfl rfl (bin_addI (by omega) (by omega))) rfl ?_
      refine sq_q (qt_move rfl) rfl ?_
      refine sq_nil ?_
      repeat with_reducible first | refine tr_skip ?_ | refine tr_exit ?_ | refine tr_then ?_ | refine tr_inX ?_ | refine tr_thenX ?_ | refine tr_inN ?_ | refine tr_inR ?_ | refine tr_thenR ?_
      refine tr_round (done ++ [⟨l, (some ⟨r20, 0, none⟩, c)⟩]) ⟨by simp; omega, ?_, ?_⟩ (by simp; omega) ⟨rfl, rfl, rfl, rfl, by simp; rfl, trivial⟩ ?_ ?_
      · rw [List.length_append, List.length_singleton, grid_succ, List.map_append, hz, ← hlc2, ← hlz]
        rfl
      · intro q hq
        rcases List.mem_append.1 hq with h | h
        · exact hcan q h
        · rw [List.mem_singleton.1 h]; exact hlc
      · rw [List.length_append, List.length_singleton, hk', List.map_append]
        simp only [List.map_cons, List.map_nil, Rw.v, hlc2]
      · rintro w ⟨⟨h1, h2⟩, h3⟩ q hq
        rcases List.mem_append.1 hq with h | h
        · exact h1 q h
        · rw [List.mem_singleton.1 h]
          rw [hlc2, Nat.sub_self, List.replicate_zero, List.append_nil] at h3
          exact ⟨Rd.own h3, Nat.le_of_eq hlc2, h2⟩
  ·
    have hlr : done.length = r := by have := of_decide_eq_false hc; omega
    refine tr_exit ?_
    repeat with_reducible first | refine tr_skip ?_ | refine tr_exit ?_ | refine tr_then ?_ | refine tr_inX ?_ | refine tr_thenX ?_ | refine tr_inN ?_ | refine tr_inR ?_ | refine tr_thenR ?_
    refine tr_rseq ?_
    refine sq_q (qt_move rfl) rfl ?_
    refine sq_q (qt_assign rfl) rfl ?_
    refine sq_end ?_
    refine tr_ret ?_
    repeat with_reducible first | refine tr_skip ?_ | refine tr_exit ?_ | refine tr_then ?_ | refine tr_inX ?_ | refine tr_thenX ?_ | refine tr_inN ?_ | refine tr_inR ?_ | refine tr_thenR ?_
    refine tr_done ⟨done, (some ⟨r11, 0, none⟩, r)⟩ (fun a w s t => results_1 rfl (resv_tmp s ?_)) (fun w h ho _ => ⟨⟨?_, Nat.le_of_eq hlr, h⟩, by rw [← hlr]; exact hz, hcan⟩)
    · unfold Mt.v
      rw [hlr]
      rfl
    · have := Rd.own (ho _ (ownAt_mem (i := 0) rfl))
      rwa [hlr, Nat.sub_self, List.replicate_zero, List.append_nil] at this
end Go.Qk
end
section
set_option linter.unusedVariables false
namespace Go.Qk
open Go Go.Proofs Go.RowKit
/-- a row that is written: its block, its integers -/
abbrev Wr := Nat × List Zd
def mhdr (q : Wr) : Value := .slice (some ⟨q.1, 0, none⟩) q.2.length q.2.length
def mrow (q : Wr) : Nat × Obj := (q.1, .cells (zcs q.2).toArray 35 (0, 0))
def mout (o : Nat) (qs : List Wr) (k : Nat) : Nat × Obj := (o, .cells (qs.map mhdr ++ List.replicate k (Value.slice none 0 0)).toArray 44 (0, 0))
def mown (o : Nat) (qs : List Wr) : Own := mout o qs 0 :: qs.map mrow
/-- the matrix that is read there -/
def mrd (q : Wr) : Rw := ⟨q.2, (some ⟨q.1, 0, none⟩, q.2.length)⟩
def mmt (o : Nat) (qs : List Wr) : Mt := ⟨qs.map mrd, (some ⟨o, 0, none⟩, qs.length)⟩
theorem mmt_v (o : Nat) (qs : List Wr) : (mmt o qs).v = .slice (some ⟨o, 0, none⟩) qs.length qs.length := by simp [mmt, Mt.v]
theorem mmt_zs (o : Nat) (qs : List Wr) : (mmt o qs).zs = qs.map fun q => q.2.map Zd.z := by simp [mmt, Mt.zs, Rw.zs, mrd, Function.comp_def]
theorem mmt_ok {o : Nat} {qs : List Wr} {B : Nat} {w : World} (h : ∀ p ∈ mown o qs, w.heap[p.1]? = some p.2) (hz : ∀ q ∈ qs, ∀ z ∈ q.2, z.ok B w) : (mmt o qs).ok B w := by
  refine ⟨?_, by simp [mmt], ?_⟩
  · have := Rd.own (h (mout o qs 0) (List.mem_cons_self ..))
    rw [List.replicate_zero, List.append_nil] at this
    have e : (qs.map mrd).map Rw.v = qs.map mhdr := by rw [List.map_map]; rfl
    show Rd _ ((qs.map mrd).map Rw.v) w
    rw [e]
    exact this
  · intro r hr
    simp only [mmt, List.mem_map] at hr
    obtain ⟨q, hq, rfl⟩ := hr
    exact ⟨Rd.own (h (mrow q) (List.mem_cons_of_mem _ (List.mem_map.2 ⟨q, hq, rfl⟩))), Nat.le_refl _, hz q hq⟩
theorem ownAt_map {α : Type} (f : α → Nat × Obj) (l : List α) (i : Nat) (a : α) (h : l[i]? = some a) : ownAt (l.map f) i = some (f a) := by
  induction l generalizing i with
  | nil => simp at h
  | cons b l ih =>
    cases i with
    | zero => simp at h; subst h; rfl
    | succ i => exact ih i (by simpa using h)
theorem ownSet_map {α : Type} (f : α → Nat × Obj) (l : List α) (i : Nat) (a b : α) (o : Obj) (h : l[i]? = some a) (hb : f b = ((f a).1, o)) : ownSet (l.map f) i o = (l.set i b).map f := by
  induction l generalizing i with
  | nil => simp at h
  | cons c l ih =>
    cases i with
    | zero =>
      simp at h
      subst h
      show ((f c).1, o) :: l.map f = _
      simp [hb]
    | succ i =>
      show f c :: ownSet (l.map f) i o = _
      rw [ih i (by simpa using h)]
      rfl
theorem mown_at {o : Nat} {qs : List Wr} {i : Nat} {q : Wr} (h : qs[i]? = some q) : ownAt (mown o qs) (i + 1) = some (mrow q) := ownAt_map mrow qs i q h
theorem mown_set {o : Nat} {qs : List Wr} {i : Nat} {q : Wr} {l : List Zd} (h : qs[i]? = some q) (hl : l.length = q.2.length) : ownSet (mown o qs) (i + 1) (.cells (zcs l).toArray 35 (0, 0)) = mown o (qs.set i (q.1, l)) := by
  show mout o qs 0 :: ownSet (qs.map mrow) i _ = _
  rw [ownSet_map mrow qs i q (q.1, l) _ h rfl]
  have e : (qs.set i (q.1, l)).map mhdr = qs.map mhdr := by
    rw [List.map_set]
    have : mhdr (q.1, l) = mhdr q := by unfold mhdr; rw [hl]
    rw [this]
    refine List.ext_getElem? fun k => ?_
    rw [List.getElem?_set]
    split
    · rename_i hk
      subst hk
      rw [List.getElem?_map, h]
      split
      · rfl
      · rename_i hlt
        rw [List.getElem?_eq_none (by simpa using hlt)] at h
        simp at h
    · rfl
  unfold mown mout
  rw [e]
section
variable {P : Program} {n : Nat} {w0 w : World} {X : List Nat} {S : Nat → Prop} {E : Env} {own : Own} {R : World → Prop} {Q : Exit → Act → World → Prop} {ops : Array Oper} {rest : List Oper}
theorem SS.perm {own' : Own} (t : SS w0 X S own R w) (h : own.Perm own') : SS w0 X S own' R w :=
  ⟨t.os, t.tape, t.output, t.size, t.pres, fun p hp => t.lt p (h.mem_iff.2 hp), fun p hp => t.has p (h.mem_iff.2 hp), (h.pairwise_iff (fun h => Ne.symm h)).1 t.nd, fun w' hs hk => t.keep w' hs fun k h1 h2 h3 => hk k h1 h2 fun p hp => h3 p (h.mem_iff.2 hp)⟩
theorem tr_perm {f : Act → World → Prop} (own' : Own) (e : own.Perm own') (h : Tr n w0 X S E own' R f) : Tr n w0 X S E own R f := fun a w s t => h a w s (t.perm e)
/-- fresh blocks, as a call hands them out -/
def Fresh (b : Nat) (l : Own) (w : World) : Prop := (l.Pairwise fun p q => p.1 ≠ q.1) ∧ ∀ p ∈ l, b ≤ p.1 ∧ w.heap[p.1]? = some p.2
theorem tr_adopt0 (ad : Own) {f : Act → World → Prop} (h1 : ∀ w, R w → Fresh w0.heap.size ad w) (h : Tr n w0 X S E ad (fun _ => True) f) : Tr n w0 X S E [] R f :=
  tr_adopt ad (fun w t => ⟨(h1 w t.r).2, by rw [List.append_nil]; exact (h1 w t.r).1⟩) (by rw [List.append_nil]; exact h)
theorem tr_doneF {fn : Func} {α : Type} {val : α → Value} {F : α → World → Prop} (x : α) (hres : ∀ a w, St n a E → SS w0 [] S own R w → (results fn a.tmps).run P w = .ok (val x) w)
    (hF : ∀ w, Fresh w0.heap.size own w → F x w) : Tr n w0 [] S E own R (bodyPost P fn (Rt w0 S val F) .ret) :=
  tr_have (fun w t => t.nd) fun hnd => tr_doneW x hres fun w h1 h2 => hF w ⟨hnd, fun p hp => ⟨h1 p hp, h2 p hp⟩⟩
end
/-- what a matrix function answers -/
def optV (o : Option (List (List Int))) (m : Mt) : Value := .tuple #[m.v, .bool o.isSome]
def optF (B : Nat) (o : Option (List (List Int))) (m : Mt) (w : World) : Prop := m.ok B w ∧ m.zs = o.getD [] ∧ m.can
theorem optF_none (B : Nat) (w : World) : optF B none ⟨[], (none, 0)⟩ w := ⟨⟨Rd.nil _ _, Nat.le_refl _, by simp⟩, rfl, by simp [Mt.can]⟩
def ident (i j : Nat) : Int := if i = j then 1 else 0
def identO (n : Int) : Option (List (List Int)) := if 1 ≤ n ∧ n ≤ 16 then some (grid ident n.toNat n.toNat) else none
theorem nl_one : nl 1 ≤ 1 := nl_le (by decide)
theorem ident_nl (i j : Nat) : nl (ident i j).natAbs ≤ 1 := by
  unfold ident
  split
  · exact nl_one
  · rw [show (0 : Int).natAbs = 0 from rfl, nl_zero.2 rfl]; omega
theorem Fresh.mono {b b' : Nat} {l : Own} {w : World} (h : Fresh b l w) (hb : b' ≤ b) : Fresh b' l w := ⟨h.1, fun p hp => ⟨Nat.le_trans hb (h.2 p hp).1, (h.2 p hp).2⟩⟩
theorem mout_get {qs : List Wr} {i k : Nat} {q : Wr} (h : qs[i]? = some q) : (qs.map mhdr ++ List.replicate k (Value.slice none 0 0))[i]? = some (mhdr q) := by
  have hl : i < qs.length := by
    rcases Nat.lt_or_ge i qs.length with hh | hh
    · exact hh
    · rw [List.getElem?_eq_none hh] at h; simp at h
  rw [List.getElem?_append_left (by simpa using hl), List.getElem?_map, h]
  rfl
/-- the integers that stand in rows -/
def MG (g : Nat → Nat → Int) (r c : Nat) (qs : List Wr) : Prop := qs.length = r ∧ ∀ a q, qs[a]? = some q → q.2.length = c ∧ ∀ b z, q.2[b]? = some z → z.z = g a b
def gset (g : Nat → Nat → Int) (i j : Nat) (v : Int) : Nat → Nat → Int := fun a b => if a = i ∧ b = j then v else g a b
theorem MG.set {g : Nat → Nat → Int} {r c : Nat} {qs : List Wr} (h : MG g r c qs) {i j : Nat} {q : Wr} (hq : qs[i]? = some q) (z : Zd) (v : Int) (hv : z.z = v) : MG (gset g i j v) r c (qs.set i (q.1, q.2.set j z)) := by
  refine ⟨by rw [List.length_set]; exact h.1, fun a p hp => ?_⟩
  rw [List.getElem?_set] at hp
  split at hp
  · rename_i ha
    subst ha
    split at hp
    · injection hp with hp
      subst hp
      refine ⟨by rw [List.length_set]; exact (h.2 i q hq).1, fun b y hy => ?_⟩
      dsimp only at hy
      rw [List.getElem?_set] at hy
      unfold gset
      split at hy
      · rename_i hb
        split at hy
        · injection hy with hy
          rw [if_pos ⟨rfl, hb.symm⟩, ← hy, hv]
        · simp at hy
      · rename_i hb
        rw [if_neg (fun e => hb e.2.symm)]
        exact (h.2 i q hq).2 b y hy
    · simp at hp
  · rename_i ha
    refine ⟨(h.2 a p hp).1, fun b y hy => ?_⟩
    unfold gset
    rw [if_neg (fun e => ha e.1.symm)]
    exact (h.2 a p hp).2 b y hy
theorem MG.get {g : Nat → Nat → Int} {r c : Nat} {qs : List Wr} (h : MG g r c qs) {i : Nat} (hi : i < r) : ∃ q, qs[i]? = some q ∧ q.2.length = c := by
  have hl : i < qs.length := by rw [h.1]; exact hi
  exact ⟨qs[i], List.getElem?_eq_getElem hl, (h.2 i _ (List.getElem?_eq_getElem hl)).1⟩
theorem MG.congr {g g' : Nat → Nat → Int} {r c : Nat} {qs : List Wr} (h : MG g r c qs) (he : ∀ a b, a < r → b < c → g a b = g' a b) : MG g' r c qs := by
  refine ⟨h.1, fun a q hq => ⟨(h.2 a q hq).1, fun b z hz => ?_⟩⟩
  have ha : a < r := by
    rcases Nat.lt_or_ge a r with hh | hh
    · exact hh
    · rw [List.getElem?_eq_none (by rw [h.1]; exact hh)] at hq; simp at hq
  have hb : b < c := by
    rcases Nat.lt_or_ge b c with hh | hh
    · exact hh
    · rw [List.getElem?_eq_none (by rw [(h.2 a q hq).1]; exact hh)] at hz; simp at hz
  rw [← he a b ha hb]
  exact (h.2 a q hq).2 b z hz
theorem MG.zs {g : Nat → Nat → Int} {r c : Nat} {qs : List Wr} (h : MG g r c qs) : qs.map (fun q => q.2.map Zd.z) = grid g r c := by
  unfold grid
  refine List.ext_getElem (by simp [h.1]) fun a h1 h2 => ?_
  have ha : a < qs.length := by simpa using h1
  obtain ⟨e1, e2⟩ := h.2 a _ (List.getElem?_eq_getElem ha)
  simp only [List.getElem_map, List.getElem_range]
  refine List.ext_getElem (by simp [e1]) fun b h3 h4 => ?_
  have hb : b < qs[a].2.length := by simpa using h3
  simp only [List.getElem_map, List.getElem_range]
  exact e2 b _ (List.getElem?_eq_getElem hb)
theorem MG.of_zero {r c : Nat} {qs : List Wr} (h : qs.map (·.2) = List.replicate r (List.replicate c z0)) : MG (fun _ _ => 0) r c qs := by
  have hl : qs.length = r := by have := congrArg List.length h; simpa using this
  refine ⟨hl, fun a q hq => ?_⟩
  have e : q.2 = List.replicate c z0 := by
    have h1 : q.2 ∈ qs.map (·.2) := List.mem_map.2 ⟨q, List.mem_of_getElem? hq, rfl⟩
    rw [h] at h1
    exact List.eq_of_mem_replicate h1
  rw [e]
  refine ⟨by simp, fun b z hz => ?_⟩
  rw [List.eq_of_mem_replicate (List.mem_of_getElem? hz)]
  rfl
/-- a fact of every integer of the rows -/
def allz (F : Zd → Prop) (qs : List Wr) : Prop := ∀ q ∈ qs, ∀ z ∈ q.2, F z
theorem allz.set {F : Zd → Prop} {qs : List Wr} (h : allz F qs) {i j : Nat} {q : Wr} (hq : qs[i]? = some q) {z : Zd} (hz : F z) : allz F (qs.set i (q.1, q.2.set j z)) := by
  intro p hp y hy
  rcases List.mem_or_eq_of_mem_set hp with h1 | h1
  · exact h p h1 y hy
  · subst h1
    rcases List.mem_or_eq_of_mem_set hy with h2 | h2
    · exact h q (List.mem_of_getElem? hq) y h2
    · rw [h2]; exact hz
theorem allz.of_zero {r c : Nat} {qs : List Wr} (h : qs.map (·.2) = List.replicate r (List.replicate c z0)) {F : Zd → Prop} (hF : F z0) : allz F qs := by
  intro q hq z hz
  have h1 : q.2 ∈ qs.map (·.2) := List.mem_map.2 ⟨q, hq, rfl⟩
  rw [h] at h1
  rw [List.eq_of_mem_replicate h1] at hz
  rw [List.eq_of_mem_replicate hz]
  exact hF
theorem mown_wr {o : Nat} {qs : List Wr} {i j : Nat} {q : Wr} (z : Zd) (h : qs[i]? = some q) (hj : j < q.2.length) : ownSet (mown o qs) (i + 1) (.cells (wr (zcs q.2) (0 + j * 2) z.v.cells.toList).toArray 35 (0, 0)) = mown o (qs.set i (q.1, q.2.set j z)) := by
  rw [zcs_set z hj, mown_set h (by simp)]
theorem mmt_can {o : Nat} {qs : List Wr} (h : allz Zd.can qs) : (mmt o qs).can := by
  intro r hr z hz
  simp only [mmt, List.mem_map] at hr
  obtain ⟨q, hq, rfl⟩ := hr
  exact h q hq z hz
end Go.Qk
end
section
set_option linter.unusedVariables false
namespace Go.Qk
open Go Go.Proofs Go.RowKit
set_option maxRecDepth 100000
set_option maxHeartbeats 4000000
theorem ident1_ret (i j : Nat) (w : World) (S : Nat → Prop) :
    Ret Try.prog 65 [.int .i64 (i : Int), .int .i64 (j : Int)] w S (iv (ident i j)) (Lz (ident i j).natAbs) := by
  refine ret_of Try.func65 rfl Try.ntmps65 rfl ?_
  refine tr_rseq ?_
  refine sq_alloc rfl fun r4 => ?_
  refine sq_end ?_
  refine tr_seq ?_
  refine tr_rseq ?_
  refine sq_q (qt_move rfl) rfl ?_
  refine sq_q (qt_move rfl) rfl ?_
  refine sq_q (qt_bin rfl rfl bin_eql) rfl ?_
  refine sq_end ?_
  refine tr_if rfl (fun hc => ?_) (fun hc => ?_)
  ·
    have e : ident i j = 1 := if_pos (by have := of_decide_eq_true hc; omega)
    rw [e]
    refine tr_rseq ?_
    refine sq_call (iv 1) (Lz (1 : Int).natAbs) rfl rfl rfl (fun w t => small_ret 1 w _ (by omega) (by omega)) fun x => ?_
    refine sq_store 0 rfl rfl rfl rfl (by first | (simp [u32s, Value.cells]; done) | (simp [u32s, Value.cells]; omega) | exact Nat.le_refl 2) rfl rfl ?_
    refine sq_end ?_
    refine tr_ret ?_
    repeat with_reducible first | refine tr_skip ?_ | refine tr_exit ?_ | refine tr_then ?_ | refine tr_inX ?_ | refine tr_thenX ?_ | refine tr_inN ?_ | refine tr_inR ?_ | refine tr_thenR ?_
    exact tr_done x (fun a w s t => results_1 rfl (resv_cell 0 s t rfl rfl rfl)) (fun w h _ _ => h.2)
  ·
    have e : ident i j = 0 := if_neg (by have := of_decide_eq_false hc; omega)
    rw [e]
    refine tr_skip ?_
    repeat with_reducible first | refine tr_skip ?_ | refine tr_exit ?_ | refine tr_then ?_ | refine tr_inX ?_ | refine tr_thenX ?_ | refine tr_inN ?_ | refine tr_inR ?_ | refine tr_thenR ?_
    refine tr_rseq ?_
    refine sq_q (qt_build rfl built0) rfl ?_
    refine sq_store 0 rfl rfl rfl rfl (by first | (simp [u32s, Value.cells]; done) | (simp [u32s, Value.cells]; omega) | exact Nat.le_refl 2) rfl rfl ?_
    refine sq_end ?_
    refine tr_ret ?_
    repeat with_reducible first | refine tr_skip ?_ | refine tr_exit ?_ | refine tr_then ?_ | refine tr_inX ?_ | refine tr_thenX ?_ | refine tr_inN ?_ | refine tr_inR ?_ | refine tr_thenR ?_
    refine tr_done (none, 0) (fun a w s t => results_1 rfl (by rw [iv_zero]; exact resv_cell 0 s t rfl rfl rfl)) (fun w _ _ _ => ?_)
    rw [show (0 : Int).natAbs = 0 from rfl, Lz, limbsOf_zero]
    exact ⟨Rd.nil _ _, Nat.le_refl _⟩
theorem identity_ret (n : Int) (w : World) (S : Nat → Prop) :
    Ret Try.prog 20 [.int .i64 n] w S (optV (identO n)) (optF 1 (identO n)) := by
  refine ret_of Try.func20 rfl Try.ntmps20 rfl ?_
  refine tr_rseq ?_
  refine sq_q (qt_assign rfl) rfl ?_
  refine sq_q (qt_assign rfl) rfl ?_
  refine sq_end ?_
  refine tr_seq ?_
  have hcs : n < 1 ∨ (1 ≤ n ∧ 16 < n) ∨ (1 ≤ n ∧ n ≤ 16) := by omega
  rcases hcs with h1 | ⟨h1, h2⟩ | ⟨h1, h2⟩
  ·
    have e : identO n = none := if_neg (by omega)
    rw [e]
    refine tr_rseq ?_
    refine sq_q (qt_move rfl) rfl ?_
    refine sq_q (qt_bin rfl rfl (bT bin_lss (by omega))) rfl ?_
    refine sq_q (qt_move rfl) rfl ?_
    refine sq_gF rfl rfl rfl rfl ?_
    refine sq_gF rfl rfl rfl rfl ?_
    refine sq_q (qt_pick rfl rfl) rfl ?_
    refine sq_end ?_
    refine tr_ifT rfl ?_
    refine tr_rseq ?_
    refine sq_q (qt_assign rfl) rfl ?_
    refine sq_q (qt_assign rfl) rfl ?_
    refine sq_end ?_
    refine tr_ret ?_
    repeat with_reducible first | refine tr_skip ?_ | refine tr_exit ?_ | refine tr_then ?_ | refine tr_inX ?_ | refine tr_thenX ?_ | refine tr_inN ?_ | refine tr_inR ?_ | refine tr_thenR ?_
    exact tr_done ⟨[], (none, 0)⟩ (fun a w s t => results_2 rfl (resv_tmp s rfl) (resv_tmp s rfl)) (fun w _ _ _ => optF_none _ _)
  ·
    have e : identO n = none := if_neg (by omega)
    rw [e]
    refine tr_rseq ?_
    refine sq_q (qt_move rfl) rfl ?_
    refine sq_q (qt_bin rfl rfl (bF bin_lss (by omega))) rfl ?_
    refine sq_q (qt_move rfl) rfl ?_
    refine sq_gT rfl rfl ?_
    refine sq_q (qt_move rfl) rfl ?_
    refine sq_gT rfl rfl ?_
    refine sq_q (qt_bin rfl rfl (bT bin_gtr (by omega))) rfl ?_
    refine sq_q (qt_pick rfl rfl) rfl ?_
    refine sq_end ?_
    refine tr_ifT rfl ?_
    refine tr_rseq ?_
    refine sq_q (qt_assign rfl) rfl ?_
    refine sq_q (qt_assign rfl) rfl ?_
    refine sq_end ?_
    refine tr_ret ?_
    repeat with_reducible first | refine tr_skip ?_ | refine tr_exit ?_ | refine tr_then ?_ | refine tr_inX ?_ | refine tr_thenX ?_ | refine tr_inN ?_ | refine tr_inR ?_ | refine tr_thenR ?_
    exact tr_done ⟨[], (none, 0)⟩ (fun a w s t => results_2 rfl (resv_tmp s rfl) (resv_tmp s rfl)) (fun w _ _ _ => optF_none _ _)
  ·
    have e : identO n = some (grid ident n.toNat n.toNat) := if_pos ⟨h1, h2⟩
    rw [e]
    obtain ⟨k, rfl⟩ : ∃ k : Nat, n = (k : Int) := ⟨n.toNat, by omega⟩
    simp only [Int.toNat_natCast]
    refine tr_rseq ?_
    refine sq_q (qt_move rfl) rfl ?_
    refine sq_q (qt_bin rfl rfl (bF bin_lss (by omega))) rfl ?_
    refine sq_q (qt_move rfl) rfl ?_
    refine sq_gT rfl rfl ?_
    refine sq_q (qt_move rfl) rfl ?_
    refine sq_gT rfl rfl ?_
    refine sq_q (qt_bin rfl rfl (bF bin_gtr (by omega))) rfl ?_
    refine sq_q (qt_pick rfl rfl) rfl ?_
    refine sq_end ?_
    refine tr_ifF rfl ?_
    refine tr_skip ?_
    repeat with_reducible first | refine tr_skip ?_ | refine tr_exit ?_ | refine tr_then ?_ | refine tr_inX ?_ | refine tr_thenX ?_ | refine tr_inN ?_ | refine tr_inR ?_ | refine tr_thenR ?_
    refine tr_rseq ?_
    refine sq_q (qt_move rfl) rfl ?_
    refine sq_q (qt_move rfl) rfl ?_
    refine sq_call Mt.v (fun m w => m.ok 1 w ∧ m.zs = grid ident k k ∧ m.can) rfl rfl rfl (fun w t => build_ret k k 1 ident 65 [] [] w _ (by omega) (by omega) (fun i j w' S' _ _ _ => (ident1_ret i j w' S').imp fun p w h => ⟨h, ident_nl i j⟩)) fun m => ?_
    refine sq_q (qt_assign rfl) rfl ?_
    refine sq_q (qt_assign rfl) rfl ?_
    refine sq_end ?_
    refine tr_ret ?_
    repeat with_reducible first | refine tr_skip ?_ | refine tr_exit ?_ | refine tr_then ?_ | refine tr_inX ?_ | refine tr_thenX ?_ | refine tr_inN ?_ | refine tr_inR ?_ | refine tr_thenR ?_
    exact tr_done m (fun a w s t => results_2 rfl (resv_tmp s rfl) (resv_tmp s rfl)) (fun w h _ _ => h.2)
theorem zero_ret (r c : Nat) (w : World) (S : Nat → Prop) (hr16 : r ≤ 65536) (hc16 : c ≤ 65536) :
    Ret Try.prog 63 [.int .i64 (r : Int), .int .i64 (c : Int)] w S (fun x : Nat × List Wr => .slice (some ⟨x.1, 0, none⟩) r r) (fun x w' => Fresh w.heap.size (mown x.1 x.2) w' ∧ x.2.map (·.2) = List.replicate r (List.replicate c z0)) := by
  refine ret_of Try.func63 rfl Try.ntmps63 rfl ?_
  refine tr_rseq ?_
  refine sq_q (qt_assign rfl) rfl ?_
  refine sq_end ?_
  refine tr_rseq ?_
  refine sq_q (qt_move rfl) rfl ?_
  refine sq_make (c := r) rfl rfl (by omega) (by omega) rfl fun r8 => ?_
  refine sq_q (qt_assign rfl) rfl ?_
  refine sq_end ?_
  refine tr_seq ?_
  refine tr_rseq ?_
  refine sq_q (qt_move rfl) rfl ?_
  refine sq_q (qt_len rfl) rfl ?_
  refine sq_q (qt_move rfl) rfl ?_
  refine sq_end ?_
  refine tr_block ?_
  refine tr_loop (fun done : List Wr => done.length ≤ r ∧ done.map (·.2) = List.replicate done.length (List.replicate c z0)) (fun done => [(1, .int .i64 (c : Int)), (5, .slice (some ⟨r8, 0, none⟩) r r), (10, .int .i64 (r : Int)), (11, .int .i64 (done.length : Int))])
    (fun done => mout r8 done (r - done.length) :: done.map mrow) (fun _ _ => True) (fun done => r - done.length) [] ⟨Nat.zero_le _, rfl⟩ ⟨rfl, rfl, rfl, rfl, trivial⟩ (by rw [made_s]; rfl) (fun _ _ => trivial) ?_
  rintro done ⟨hle, hz⟩
  refine tr_rseq ?_
  refine sq_q (qt_bin rfl rfl bin_lss) rfl ?_
  refine sq_end ?_
  refine tr_seq ?_
  refine tr_if rfl (fun hc => ?_) (fun hc => ?_)
  ·
    have hlt : done.length < r := by have := of_decide_eq_true hc; omega
    refine tr_skip ?_
    repeat with_reducible first | refine tr_skip ?_ | refine tr_exit ?_ | refine tr_then ?_ | refine tr_inX ?_ | refine tr_thenX ?_ | refine tr_inN ?_ | refine tr_inR ?_ | refine tr_thenR ?_
    refine tr_seq ?_
    refine tr_block ?_
    refine tr_rseq ?_
    refine sq_q (qt_move rfl) rfl ?_
    refine sq_q (qt_assign rfl) rfl ?_
    refine sq_end ?_
    refine tr_region ?_
    refine sq_q (qt_move rfl) rfl ?_
    refine sq_q (qt_move rfl) rfl ?_
    refine sq_q (qt_move rfl) rfl ?_
    refine sq_make (c := c) rfl rfl (by omega) (by omega) rfl fun r17 => ?_
    refine sq_q (qt_index (i := done.length) rfl rfl hlt) rfl ?_
    refine sq_store 1 rfl rfl rfl rfl (by simp [Value.cells]; omega) rfl rfl ?_
    refine sq_nil ?_
    repeat with_reducible first | refine tr_skip ?_ | refine tr_exit ?_ | refine tr_then ?_ | refine tr_inX ?_ | refine tr_thenX ?_ | refine tr_inN ?_ | refine tr_inR ?_ | refine tr_thenR ?_
    refine tr_region ?_
    refine sq_q (qt_bin rfl rfl (bin_addI (by omega) (by omega))) rfl ?_
    refine sq_q (qt_move rfl) rfl ?_
    refine sq_nil ?_
    repeat with_reducible first | refine tr_skip ?_ | refine tr_exit ?_ | refine tr_then ?_ | refine tr_inX ?_ | refine tr_thenX ?_ | refine tr_inN ?_ | refine tr_inR ?_ | refine tr_thenR ?_
    obtain ⟨k, hk⟩ : ∃ k, r - done.length = k + 1 := ⟨r - done.length - 1, by omega⟩
    refine tr_perm (mout r8 (done ++ [(r17, List.replicate c z0)]) k :: (done ++ [(r17, List.replicate c z0)]).map mrow) ?_ ?_
    · have hset := next_set (done.map mhdr) k (Value.slice none 0 0) (mhdr (r17, List.replicate c z0))
      rw [List.length_map] at hset
      have e1 : mout r8 (done ++ [(r17, List.replicate c z0)]) k = (r8, .cells (wr (done.map mhdr ++ List.replicate (r - done.length) (Value.slice none 0 0)) (0 + done.length * 1) [mhdr (r17, List.replicate c z0)]).toArray 44 (0, 0)) := by
        unfold mout
        rw [hk, Nat.zero_add, Nat.mul_one, List.map_append]
        show _ = (r8, Obj.cells ((done.map mhdr ++ List.replicate (k + 1) (Value.slice none 0 0)).set done.length (mhdr (r17, List.replicate c z0))).toArray _ _)
        rw [hset]
        rfl
      have e2 : mrow (r17, List.replicate c z0) = (r17, .cells (madeCells (Value.agg #[.bool false, .slice none 0 0]).cells (c * 2)) 35 (0, 0)) := by
        rw [made_z]; rfl
      have e3 : mhdr (r17, List.replicate c z0) = .slice (some ⟨r17, 0, none⟩) c c := by simp [mhdr]
      rw [e1, List.map_append, List.map_cons, List.map_nil, e2, e3]
      exact (List.perm_append_comm (l₁ := [(r17, _)]) (l₂ := _ :: done.map mrow)).trans (by simp; exact List.Perm.refl _)
    refine tr_round (done ++ [(r17, List.replicate c z0)]) ⟨by simp; omega, ?_⟩ (by simp; omega) ⟨rfl, rfl, rfl, by simp; rfl, trivial⟩ ?_ (fun _ _ => trivial)
    · rw [List.map_append, hz, List.length_append, List.length_singleton, List.replicate_succ']
      rfl
    · rw [List.length_append, List.length_singleton, show r - (done.length + 1) = k by omega]
  ·
    have hlr : done.length = r := by have := of_decide_eq_false hc; omega
    refine tr_exit ?_
    repeat with_reducible first | refine tr_skip ?_ | refine tr_exit ?_ | refine tr_then ?_ | refine tr_inX ?_ | refine tr_thenX ?_ | refine tr_inN ?_ | refine tr_inR ?_ | refine tr_thenR ?_
    refine tr_rseq ?_
    refine sq_q (qt_move rfl) rfl ?_
    refine sq_q (qt_assign rfl) rfl ?_
    refine sq_end ?_
    refine tr_ret ?_
    repeat with_reducible first | refine tr_skip ?_ | refine tr_exit ?_ | refine tr_then ?_ | refine tr_inX ?_ | refine tr_thenX ?_ | refine tr_inN ?_ | refine tr_inR ?_ | refine tr_thenR ?_
    refine tr_doneF (r8, done) (fun a w s t => results_1 rfl (resv_tmp s rfl)) (fun w h => ⟨?_, by rw [← hlr]; exact hz⟩)
    rw [hlr, Nat.sub_self] at h
    exact h
end Go.Qk
end
section
set_option linter.unusedVariables false
namespace Go.Qk
open Go Go.Proofs Go.RowKit
theorem zero_call {w0 w : World} {X : List Nat} {S : Nat → Prop} {own : Own} {R : World → Prop} (t : SS w0 X S own R w) (r c : Nat) (hr : r ≤ 65536) (hc : c ≤ 65536) :
    Ret Try.prog 63 [.int .i64 (r : Int), .int .i64 (c : Int)] w (Nn w0 S own w) (fun x : Nat × List Wr => .slice (some ⟨x.1, 0, none⟩) r r) (fun x w' => Fresh w0.heap.size (mown x.1 x.2) w' ∧ x.2.map (·.2) = List.replicate r (List.replicate c z0)) :=
  (zero_ret r c w _ hr hc).imp fun x w' h => ⟨h.1.mono t.size, h.2⟩
theorem rsame_zd {z z' : Zd} {B B' : Nat} {w : World} {S : Nat → Prop} (hz : z.ok B w) (hz' : z'.ok B' w) (c : z.can) (c' : z'.can) (hB : B ≤ 35184372088832) (hB' : B' ≤ 35184372088832) :
    Ret Try.prog 28 [z.v, z'.v] w S (fun _ : Unit => .bool (decide (z.z = z'.z))) (fun _ _ => True) := by
  have e := Zd.can_eq c
  have e' := Zd.can_eq c'
  have h1 : z.xs = limbsOf z.z.natAbs := congrArg Zd.xs e
  have h2 : z'.xs = limbsOf z'.z.natAbs := congrArg Zd.xs e'
  rw [Zd.can_v c, Zd.can_v c']
  have g1 := hz.1
  have g2 := hz'.1
  have b1 := hz.2.2
  have b2 := hz'.2.2
  rw [h1] at g1 b1
  rw [h2] at g2 b2
  exact rsame_ret z.z z'.z z.p z'.p w S g1 g2 (Nat.le_trans b1 hB) (Nat.le_trans b2 hB')
end Go.Qk
end
section
set_option linter.unusedVariables false
namespace Go.Qk
open Go Go.Proofs Go.RowKit
set_option maxRecDepth 100000
set_option maxHeartbeats 4000000
theorem samelist_ret (a b : Rw) (B : Nat) (w0 : World) (S : Nat → Prop) (ha : a.ok B w0) (hb : b.ok B w0) (ca : a.can) (cb : b.can) (hB : B ≤ 35184372088832) (hl : a.l.length ≤ 35184372088832) (hl' : b.l.length ≤ 35184372088832) :
    Ret Try.prog 51 [a.v, b.v] w0 S (fun _ : Unit => .bool (decide (a.zs = b.zs))) (fun _ _ => True) := by
  refine ret_of Try.func51 rfl Try.ntmps51 rfl ?_
  refine tr_rseq ?_
  refine sq_q (qt_assign rfl) rfl ?_
  refine sq_end ?_
  refine tr_seq ?_
  refine tr_rseq ?_
  refine sq_q (qt_move rfl) rfl ?_
  refine sq_q (qt_len rfl) rfl ?_
  refine sq_q (qt_move rfl) rfl ?_
  refine sq_q (qt_len rfl) rfl ?_
  refine sq_q (qt_bin rfl rfl bin_neq) rfl ?_
  refine sq_end ?_
  refine tr_if rfl (fun hc => ?_) (fun hc => ?_)
  ·
    have hne : a.l.length ≠ b.l.length := by have := of_decide_eq_true hc; omega
    refine tr_rseq ?_
    refine sq_q (qt_assign rfl) rfl ?_
    refine sq_end ?_
    refine tr_ret ?_
    repeat with_reducible first | refine tr_skip ?_ | refine tr_exit ?_ | refine tr_then ?_ | refine tr_inX ?_ | refine tr_thenX ?_ | refine tr_inN ?_ | refine tr_inR ?_ | refine tr_thenR ?_
    refine tr_done () (fun _ w s t => results_1 rfl (resv_tmp s ?_)) (fun _ _ _ _ => trivial)
    rw [show decide (a.zs = b.zs) = false from decide_eq_false (fun e => hne (by have := congrArg List.length e; simpa [Rw.zs] using this))]
    rfl
  ·
    have hlen : a.l.length = b.l.length := by have := of_decide_eq_false hc; omega
    refine tr_skip ?_
    repeat with_reducible first | refine tr_skip ?_ | refine tr_exit ?_ | refine tr_then ?_ | refine tr_inX ?_ | refine tr_thenX ?_ | refine tr_inN ?_ | refine tr_inR ?_ | refine tr_thenR ?_
    refine tr_seq ?_
    refine tr_rseq ?_
    refine sq_q (qt_move rfl) rfl ?_
    refine sq_q (qt_len rfl) rfl ?_
    refine sq_q (qt_move rfl) rfl ?_
    refine sq_end ?_
    refine tr_block ?_
    refine tr_loop (fun k : Nat => k ≤ a.l.length ∧ a.zs.take k = b.zs.take k) (fun k => [(0, a.v), (1, b.v), (12, .int .i64 (a.l.length : Int)), (13, .int .i64 (k : Int))]) (fun _ => []) (fun _ _ => True) (fun k => a.l.length - k) 0 ⟨Nat.zero_le _, rfl⟩ ⟨rfl, rfl, rfl, rfl, trivial⟩ rfl (fun _ _ => trivial) ?_
    rintro k ⟨hk, heq⟩
    refine tr_rseq ?_
    refine sq_q (qt_bin rfl rfl bin_lss) rfl ?_
    refine sq_end ?_
    refine tr_seq ?_
    refine tr_if rfl (fun hc => ?_) (fun hc => ?_)
    ·
      have hlt : k < a.l.length := by have := of_decide_eq_true hc; omega
      have hlt' : k < b.l.length := by omega
      have hca := ca _ (List.getElem_mem hlt)
      have hcb := cb _ (List.getElem_mem hlt')
      obtain ⟨ra, oa, ea, ha0⟩ := ha.1.at_ (zcs_get0 hlt)
      obtain ⟨ra1, oa1, ea1, ha1⟩ := ha.1.at_ (zcs_get1 hlt)
      obtain ⟨rb, ob, eb, hb0⟩ := hb.1.at_ (zcs_get0 hlt')
      obtain ⟨rb1, ob1, eb1, hb1⟩ := hb.1.at_ (zcs_get1 hlt')
      rw [ea] at ea1
      injection ea1 with ea1
      injection ea1 with e1 e2 _
      subst e1 e2
      rw [eb] at eb1
      injection eb1 with eb1
      injection eb1 with e1 e2 _
      subst e1 e2
      have eva : a.v = .slice (some ⟨ra, oa, none⟩) a.l.length a.p.2 := by unfold Rw.v; rw [ea]
      have evb : b.v = .slice (some ⟨rb, ob, none⟩) b.l.length b.p.2 := by unfold Rw.v; rw [eb]
      refine tr_sub [(0, .slice (some ⟨ra, oa, none⟩) a.l.length a.p.2), (1, .slice (some ⟨rb, ob, none⟩) b.l.length b.p.2), (12, .int .i64 (a.l.length : Int)), (13, .int .i64 (k : Int))] ⟨congrArg some eva, congrArg some evb, rfl, rfl, trivial⟩ ?_
      refine tr_skip ?_
      repeat with_reducible first | refine tr_skip ?_ | refine tr_exit ?_ | refine tr_then ?_ | refine tr_inX ?_ | refine tr_thenX ?_ | refine tr_inN ?_ | refine tr_inR ?_ | refine tr_thenR ?_
      refine tr_seq ?_
      refine tr_block ?_
      refine tr_rseq ?_
      refine sq_q (qt_move rfl) rfl ?_
      refine sq_q (qt_assign rfl) rfl ?_
      refine sq_end ?_
      refine tr_rdraw0 [0, 1, 4, 5, 10, 12, 13, 14, 25] (by kernel_rfl) ?_
      refine dx_q rfl (qt_move rfl) rfl ?_
      refine dx_q rfl (qt_move rfl) rfl ?_
      refine dx_q rfl (qt_index (i := k) rfl rfl hlt) rfl ?_
      refine dx_q rfl (qt_load2 rfl (fun w t => t.atA ha0) (fun w t => t.atA ha1)) rfl ?_
      refine dx_q rfl (qt_move rfl) rfl ?_
      refine dx_q rfl (qt_move rfl) rfl ?_
      refine dx_q rfl (qt_index (i := k) rfl rfl hlt') rfl ?_
      refine dx_q rfl (qt_load2 rfl (fun w t => t.atA hb0) (fun w t => t.atA hb1)) rfl ?_
      refine dx_callv (v := .bool (decide (a.l[k].z = b.l[k].z))) (F := fun _ _ => True) rfl rfl rfl (fun w t => rsame_zd (t.zd (ha.2.2 _ (List.getElem_mem hlt))) (t.zd (hb.2.2 _ (List.getElem_mem hlt'))) hca hcb hB hB) ?_
      refine dx_q rfl (qt_not rfl) rfl ?_
      refine dx_nil ?_
      repeat (first | refine es_val rfl ?_ rfl | refine es_res rfl (fun x => ?_) rfl | refine es_skip rfl ?_)
      refine es_nil rfl ?_
      refine tx_endk ?_
      refine tr_if rfl (fun hc => ?_) (fun hc => ?_)
      ·
        have hne : a.l[k].z ≠ b.l[k].z := by simpa using hc
        refine tr_rseq ?_
        refine sq_q (qt_assign rfl) rfl ?_
        refine sq_end ?_
        refine tr_ret ?_
        repeat with_reducible first | refine tr_skip ?_ | refine tr_exit ?_ | refine tr_then ?_ | refine tr_inX ?_ | refine tr_thenX ?_ | refine tr_inN ?_ | refine tr_inR ?_ | refine tr_thenR ?_
        refine tr_done () (fun _ w s t => results_1 rfl (resv_tmp s ?_)) (fun _ _ _ _ => trivial)
        rw [show decide (a.zs = b.zs) = false from decide_eq_false (fun e => hne (by have h1 := congrArg (fun l => l[k]?) e; simpa [Rw.zs, hlt, hlt'] using h1))]
        rfl
      ·
        have hz : a.l[k].z = b.l[k].z := by simpa using hc
        refine tr_skip ?_
        repeat with_reducible first | refine tr_skip ?_ | refine tr_exit ?_ | refine tr_then ?_ | refine tr_inX ?_ | refine tr_thenX ?_ | refine tr_inN ?_ | refine tr_inR ?_ | refine tr_thenR ?_
        refine tr_region ?_
        refine sq_q (qt_bin rfl rfl (bin_addI (by omega) (by omega))) rfl ?_
        refine sq_q (qt_move rfl) rfl ?_
        refine sq_nil ?_
        repeat with_reducible first | refine tr_skip ?_ | refine tr_exit ?_ | refine tr_then ?_ | refine tr_inX ?_ | refine tr_thenX ?_ | refine tr_inN ?_ | refine tr_inR ?_ | refine tr_thenR ?_
        refine tr_round (k + 1) ⟨by omega, ?_⟩ (by omega) ⟨congrArg some eva.symm, congrArg some evb.symm, rfl, rfl, trivial⟩ rfl (fun _ h => h)
        have hka : k < a.zs.length := by simpa [Rw.zs] using hlt
        have hkb : k < b.zs.length := by simpa [Rw.zs] using hlt'
        rw [List.take_succ_eq_append_getElem hka, List.take_succ_eq_append_getElem hkb, heq]
        simp [Rw.zs, hz]
    ·
      have hk2 : k = a.l.length := by have := of_decide_eq_false hc; omega
      refine tr_exit ?_
      repeat with_reducible first | refine tr_skip ?_ | refine tr_exit ?_ | refine tr_then ?_ | refine tr_inX ?_ | refine tr_thenX ?_ | refine tr_inN ?_ | refine tr_inR ?_ | refine tr_thenR ?_
      refine tr_rseq ?_
      refine sq_q (qt_assign rfl) rfl ?_
      refine sq_end ?_
      refine tr_ret ?_
      repeat with_reducible first | refine tr_skip ?_ | refine tr_exit ?_ | refine tr_then ?_ | refine tr_inX ?_ | refine tr_thenX ?_ | refine tr_inN ?_ | refine tr_inR ?_ | refine tr_thenR ?_
      refine tr_done () (fun _ w s t => results_1 rfl (resv_tmp s ?_)) (fun _ _ _ _ => trivial)
      have e : a.zs = b.zs := by
        have h1 : a.zs.take k = a.zs := List.take_of_length_le (by simp [Rw.zs, hk2])
        have h2 : b.zs.take k = b.zs := List.take_of_length_le (by simp [Rw.zs, hk2, hlen])
        rw [← h1, ← h2, heq]
      rw [decide_eq_true e]
      rfl
theorem same_ret (a b : Mt) (B : Nat) (w0 : World) (S : Nat → Prop) (ha : a.ok B w0) (hb : b.ok B w0) (ca : a.can) (cb : b.can) (hB : B ≤ 35184372088832) (hl : a.rs.length ≤ 35184372088832) (hl' : b.rs.length ≤ 35184372088832) (hr : ∀ q ∈ a.rs, q.l.length ≤ 35184372088832) (hr' : ∀ q ∈ b.rs, q.l.length ≤ 35184372088832) :
    Ret Try.prog 22 [a.v, b.v] w0 S (fun _ : Unit => .bool (decide (a.zs = b.zs))) (fun _ _ => True) := by
  refine ret_of Try.func22 rfl Try.ntmps22 rfl ?_
  refine tr_rseq ?_
  refine sq_q (qt_assign rfl) rfl ?_
  refine sq_end ?_
  refine tr_seq ?_
  refine tr_rseq ?_
  refine sq_q (qt_move rfl) rfl ?_
  refine sq_q (qt_len rfl) rfl ?_
  refine sq_q (qt_move rfl) rfl ?_
  refine sq_q (qt_len rfl) rfl ?_
  refine sq_q (qt_bin rfl rfl bin_neq) rfl ?_
  refine sq_end ?_
  refine tr_if rfl (fun hc => ?_) (fun hc => ?_)
  ·
    have hne : a.rs.length ≠ b.rs.length := by have := of_decide_eq_true hc; omega
    refine tr_rseq ?_
    refine sq_q (qt_assign rfl) rfl ?_
    refine sq_end ?_
    refine tr_ret ?_
    repeat with_reducible first | refine tr_skip ?_ | refine tr_exit ?_ | refine tr_then ?_ | refine tr_inX ?_ | refine tr_thenX ?_ | refine tr_inN ?_ | refine tr_inR ?_ | refine tr_thenR ?_
    refine tr_done () (fun _ w s t => results_1 rfl (resv_tmp s ?_)) (fun _ _ _ _ => trivial)
    rw [show decide (a.zs = b.zs) = false from decide_eq_false (fun e => hne (by have := congrArg List.length e; simpa [Mt.zs] using this))]
    rfl
  ·
    have hlen : a.rs.length = b.rs.length := by have := of_decide_eq_false hc; omega
    refine tr_skip ?_
    repeat with_reducible first | refine tr_skip ?_ | refine tr_exit ?_ | refine tr_then ?_ | refine tr_inX ?_ | refine tr_thenX ?_ | refine tr_inN ?_ | refine tr_inR ?_ | refine tr_thenR ?_
    refine tr_seq ?_
    refine tr_rseq ?_
    refine sq_q (qt_move rfl) rfl ?_
    refine sq_q (qt_len rfl) rfl ?_
    refine sq_q (qt_move rfl) rfl ?_
    refine sq_end ?_
    refine tr_block ?_
    refine tr_loop (fun k : Nat => k ≤ a.rs.length ∧ a.zs.take k = b.zs.take k) (fun k => [(0, a.v), (1, b.v), (12, .int .i64 (a.rs.length : Int)), (13, .int .i64 (k : Int))]) (fun _ => []) (fun _ _ => True) (fun k => a.rs.length - k) 0 ⟨Nat.zero_le _, rfl⟩ ⟨rfl, rfl, rfl, rfl, trivial⟩ rfl (fun _ _ => trivial) ?_
    rintro k ⟨hk, heq⟩
    refine tr_rseq ?_
    refine sq_q (qt_bin rfl rfl bin_lss) rfl ?_
    refine sq_end ?_
    refine tr_seq ?_
    refine tr_if rfl (fun hc => ?_) (fun hc => ?_)
    ·
      have hlt : k < a.rs.length := by have := of_decide_eq_true hc; omega
      have hlt' : k < b.rs.length := by omega
      obtain ⟨ra, oa, ea, ha0⟩ := ha.1.at_ (i := k) (v := (a.rs[k]).v) (by simp [hlt])
      obtain ⟨rb, ob, eb, hb0⟩ := hb.1.at_ (i := k) (v := (b.rs[k]).v) (by simp [hlt'])
      have eva : a.v = .slice (some ⟨ra, oa, none⟩) a.rs.length a.p.2 := by unfold Mt.v; rw [ea]
      have evb : b.v = .slice (some ⟨rb, ob, none⟩) b.rs.length b.p.2 := by unfold Mt.v; rw [eb]
      refine tr_sub [(0, .slice (some ⟨ra, oa, none⟩) a.rs.length a.p.2), (1, .slice (some ⟨rb, ob, none⟩) b.rs.length b.p.2), (12, .int .i64 (a.rs.length : Int)), (13, .int .i64 (k : Int))] ⟨congrArg some eva, congrArg some evb, rfl, rfl, trivial⟩ ?_
      refine tr_skip ?_
      repeat with_reducible first | refine tr_skip ?_ | refine tr_exit ?_ | refine tr_then ?_ | refine tr_inX ?_ | refine tr_thenX ?_ | refine tr_inN ?_ | refine tr_inR ?_ | refine tr_thenR ?_
      refine tr_seq ?_
      refine tr_block ?_
      refine tr_rseq ?_
      refine sq_q (qt_move rfl) rfl ?_
      refine sq_q (qt_assign rfl) rfl ?_
      refine sq_end ?_
      refine tr_rdraw0 [0, 1, 4, 5, 10, 12, 13, 14, 25] (by kernel_rfl) ?_
      refine dx_q rfl (qt_move rfl) rfl ?_
      refine dx_q rfl (qt_move rfl) rfl ?_
      refine dx_q rfl (qt_index (i := k) rfl rfl hlt) rfl ?_
      refine dx_q rfl (qt_load rfl (fun w t => t.a1 ha0)) rfl ?_
      refine dx_q rfl (qt_move rfl) rfl ?_
      refine dx_q rfl (qt_move rfl) rfl ?_
      refine dx_q rfl (qt_index (i := k) rfl rfl hlt') rfl ?_
      refine dx_q rfl (qt_load rfl (fun w t => t.a1 hb0)) rfl ?_
      refine dx_callv (v := .bool (decide (a.rs[k].zs = b.rs[k].zs))) (F := fun _ _ => True) rfl rfl rfl (fun w t => samelist_ret a.rs[k] b.rs[k] B w _ (t.rw (ha.2.2 _ (List.getElem_mem hlt))) (t.rw (hb.2.2 _ (List.getElem_mem hlt'))) (ca _ (List.getElem_mem hlt)) (cb _ (List.getElem_mem hlt')) hB (hr _ (List.getElem_mem hlt)) (hr' _ (List.getElem_mem hlt'))) ?_
      refine dx_q rfl (qt_not rfl) rfl ?_
      refine dx_nil ?_
      repeat (first | refine es_val rfl ?_ rfl | refine es_res rfl (fun x => ?_) rfl | refine es_skip rfl ?_)
      refine es_nil rfl ?_
      refine tx_endk ?_
      refine tr_if rfl (fun hc => ?_) (fun hc => ?_)
      ·
        have hne : a.rs[k].zs ≠ b.rs[k].zs := by simpa using hc
        refine tr_rseq ?_
        refine sq_q (qt_assign rfl) rfl ?_
        refine sq_end ?_
        refine tr_ret ?_
        repeat with_reducible first | refine tr_skip ?_ | refine tr_exit ?_ | refine tr_then ?_ | refine tr_inX ?_ | refine tr_thenX ?_ | refine tr_inN ?_ | refine tr_inR ?_ | refine tr_thenR ?_
        refine tr_done () (fun _ w s t => results_1 rfl (resv_tmp s ?_)) (fun _ _ _ _ => trivial)
        rw [show decide (a.zs = b.zs) = false from decide_eq_false (fun e => hne (by have h1 := congrArg (fun l => l[k]?) e; simpa [Mt.zs, hlt, hlt'] using h1))]
        rfl
      ·
        have hz : a.rs[k].zs = b.rs[k].zs := by simpa using hc
        refine tr_skip ?_
        repeat with_reducible first | refine tr_skip ?_ | refine tr_exit ?_ | refine tr_then ?_ | refine tr_inX ?_ | refine tr_thenX ?_ | refine tr_inN ?_ | refine tr_inR ?_ | refine tr_thenR ?_
        refine tr_region ?_
        refine sq_q (qt_bin rfl rfl (bin_addI (by omega) (by omega))) rfl ?_
        refine sq_q (qt_move rfl) rfl ?_
        refine sq_nil ?_
        repeat with_reducible first | refine tr_skip ?_ | refine tr_exit ?_ | refine tr_then ?_ | refine tr_inX ?_ | refine tr_thenX ?_ | refine tr_inN ?_ | refine tr_inR ?_ | refine tr_thenR ?_
        refine tr_round (k + 1) ⟨by omega, ?_⟩ (by omega) ⟨congrArg some eva.symm, congrArg some evb.symm, rfl, rfl, trivial⟩ rfl (fun _ h => h)
        have hka : k < a.zs.length := by simpa [Mt.zs] using hlt
        have hkb : k < b.zs.length := by simpa [Mt.zs] using hlt'
        rw [List.take_succ_eq_append_getElem hka, List.take_succ_eq_append_getElem hkb, heq]
        simp [Mt.zs, hz]
    ·
      have hk2 : k = a.rs.length := by have := of_decide_eq_false hc; omega
      refine tr_exit ?_
      repeat with_reducible first | refine tr_skip ?_ | refine tr_exit ?_ | refine tr_then ?_ | refine tr_inX ?_ | refine tr_thenX ?_ | refine tr_inN ?_ | refine tr_inR ?_ | refine tr_thenR ?_
      refine tr_rseq ?_
      refine sq_q (qt_assign rfl) rfl ?_
      refine sq_end ?_
      refine tr_ret ?_
      repeat with_reducible first | refine tr_skip ?_ | refine tr_exit ?_ | refine tr_then ?_ | refine tr_inX ?_ | refine tr_thenX ?_ | refine tr_inN ?_ | refine tr_inR ?_ | refine tr_thenR ?_
      refine tr_done () (fun _ w s t => results_1 rfl (resv_tmp s ?_)) (fun _ _ _ _ => trivial)
      have e : a.zs = b.zs := by
        have h1 : a.zs.take k = a.zs := List.take_of_length_le (by simp [Mt.zs, hk2])
        have h2 : b.zs.take k = b.zs := List.take_of_length_le (by simp [Mt.zs, hk2, hlen])
        rw [← h1, ← h2, heq]
      rw [decide_eq_true e]
      rfl
end Go.Qk
end
section
set_option linter.unusedVariables false
namespace Go.Qk
open Go Go.Proofs Go.RowKit
def i64s (l : List Int) : List Value := l.map fun a => .int .i64 a
def In64 (a : Int) : Prop := -9223372036854775808 ≤ a ∧ a < 9223372036854775808
structure Xr where
  l : List Int
  p : Sv
def Xr.v (r : Xr) : Value := .slice r.p.1 r.l.length r.p.2
def Xr.ok (r : Xr) (w : World) : Prop := Rd r.p.1 (i64s r.l) w ∧ r.l.length ≤ r.p.2 ∧ ∀ a ∈ r.l, In64 a
structure Xm where
  rs : List Xr
  p : Sv
def Xm.v (m : Xm) : Value := .slice m.p.1 m.rs.length m.p.2
def Xm.ok (m : Xm) (w : World) : Prop := Rd m.p.1 (m.rs.map Xr.v) w ∧ m.rs.length ≤ m.p.2 ∧ ∀ r ∈ m.rs, r.ok w
def Xm.zs (m : Xm) : List (List Int) := m.rs.map Xr.l
theorem i64s_get {l : List Int} {i : Nat} (h : i < l.length) : (i64s l)[i]? = some (.int .i64 l[i]) := by simp [i64s, h]
/-- the shape of rows of one length -/
def shp {α : Type} (L : List (List α)) : Option (Nat × Nat) := match L with
  | [] => none
  | r :: _ => if L.length ≤ 16 ∧ 1 ≤ r.length ∧ r.length ≤ 16 ∧ ∀ q ∈ L, q.length = r.length then some (L.length, r.length) else none
theorem shp_none_len {α : Type} {L : List (List α)} (h : L.length < 1 ∨ 16 < L.length) : shp L = none := by
  unfold shp
  split
  · rfl
  · rename_i r l
    exact if_neg (fun e => by have := e.1; simp at h this; omega)
theorem shp_none_row {α : Type} {L : List (List α)} {k : Nat} (hk : k < L.length) (h0 : 0 < L.length) (h : L[k].length < 1 ∨ 16 < L[k].length ∨ L[k].length ≠ L[0].length) : shp L = none := by
  unfold shp
  split
  · rfl
  · rename_i r l
    refine if_neg (fun e => ?_)
    have h1 := e.2.2.2 _ (List.getElem_mem hk)
    have h2 : (r :: l)[0] = r := rfl
    rw [h2, h1] at h
    omega
theorem shp_some {α : Type} {L : List (List α)} (h0 : 0 < L.length) (h1 : L.length ≤ 16) (h2 : 1 ≤ L[0].length) (h3 : L[0].length ≤ 16) (h : ∀ i (hi : i < L.length), L[i].length = L[0].length) : shp L = some (L.length, L[0].length) := by
  unfold shp
  split
  · simp at h0
  · rename_i r l
    refine if_pos ⟨h1, h2, h3, fun q hq => ?_⟩
    obtain ⟨i, hi, rfl⟩ := List.getElem_of_mem hq
    exact h i hi
theorem shp_inv {α : Type} {L : List (List α)} {r c : Nat} (h : shp L = some (r, c)) : L.length = r ∧ 1 ≤ r ∧ r ≤ 16 ∧ 1 ≤ c ∧ c ≤ 16 ∧ ∀ q ∈ L, q.length = c := by
  unfold shp at h
  split at h
  · simp at h
  · rename_i q l
    split at h
    · rename_i e
      injection h with h
      injection h with h4 h5
      subst h4 h5
      exact ⟨rfl, by simp, e.1, e.2.1, e.2.2.1, e.2.2.2⟩
    · simp at h
/-- the entry of rows at a place -/
def ent (L : List (List Int)) (a b : Nat) : Int := (L.getD a []).getD b 0
theorem grid_ent {L : List (List Int)} {r c : Nat} (hr : L.length = r) (hc : ∀ q ∈ L, q.length = c) : grid (ent L) r c = L := by
  unfold grid
  refine List.ext_getElem (by simp [hr]) fun a h1 h2 => ?_
  have hl := hc _ (List.getElem_mem h2)
  simp only [List.getElem_map, List.getElem_range]
  refine List.ext_getElem (by simp [hl]) fun b h3 h4 => ?_
  simp [ent, List.getD, h2, h4]
theorem ent_at {L : List (List Int)} {a b : Nat} (ha : a < L.length) (hb : b < L[a].length) : ent L a b = L[a][b] := by simp [ent, List.getD, ha, hb]
section
variable {w0 w : World} {S : Nat → Prop} {own : Own} {R : World → Prop}
theorem SS.xr (t : SS w0 [] S own R w) {r : Xr} (h : r.ok w0) : r.ok w := ⟨t.rd h.1, h.2⟩
theorem SS.xm (t : SS w0 [] S own R w) {m : Xm} (h : m.ok w0) : m.ok w := ⟨t.rd h.1, h.2.1, fun r hr => t.xr (h.2.2 r hr)⟩
end
def keepO (L : List (List Int)) : Option (List (List Int)) := if (shp L).isSome then some L else none
theorem nl_64 {a : Int} (h : In64 a) : nl a.natAbs ≤ 2 := nl_le (by unfold In64 at h; omega)
def shpV (o : Option (Nat × Nat)) : Value := .tuple #[.int .i64 (((o.getD (0, 0)).1 : Nat) : Int), .int .i64 (((o.getD (0, 0)).2 : Nat) : Int), .bool o.isSome]
theorem Rd.all {A : Option Addr} {vs : List Value} {w : World} (h : Rd A vs w) (h0 : 0 < vs.length) : ∃ r o, A = some ⟨r, o, none⟩ ∧ ∀ i v, vs[i]? = some v → At r (o + i) v w := by
  obtain ⟨r, o, e, _⟩ := h.at_ (i := 0) (v := vs[0]) (by simp [h0])
  refine ⟨r, o, e, fun i v hv => ?_⟩
  obtain ⟨r', o', e', h'⟩ := h.at_ hv
  rw [e] at e'
  injection e' with e'
  injection e' with e1 e2 _
  subst e1 e2
  exact h'
/-- a matrix of one row at least: where its headers stand -/
theorem Mt.ok.at_ {B : Nat} {m : Mt} {w : World} (h : m.ok B w) (h0 : 0 < m.rs.length) : ∃ r o, m.v = .slice (some ⟨r, o, none⟩) m.rs.length m.p.2 ∧ ∀ i (hi : i < m.rs.length), At r (o + i) (m.rs[i]).v w := by
  obtain ⟨r, o, e, ha⟩ := h.1.all (by simpa using h0)
  exact ⟨r, o, by unfold Mt.v; rw [e], fun i hi => ha i _ (by simp [hi])⟩
theorem Rw.ok.at_ {B : Nat} {m : Rw} {w : World} (h : m.ok B w) (h0 : 0 < m.l.length) : ∃ r o, m.v = .slice (some ⟨r, o, none⟩) m.l.length m.p.2 ∧ ∀ i (hi : i < m.l.length), At r (o + i * 2) (.bool m.l[i].n) w ∧ At r (o + i * 2 + 1) (slv m.l[i].xs m.l[i].p) w := by
  obtain ⟨r, o, e, ha⟩ := h.1.all (by rw [zcs_length]; omega)
  exact ⟨r, o, by unfold Rw.v; rw [e], fun i hi => ⟨ha _ _ (zcs_get0 hi), by rw [Nat.add_assoc]; exact ha _ _ (zcs_get1 hi)⟩⟩
theorem Mt.zs_len (m : Mt) : m.zs.length = m.rs.length := by simp [Mt.zs]
theorem Mt.zs_at (m : Mt) {i : Nat} (h : i < m.rs.length) : m.zs[i]'(by rw [m.zs_len]; exact h) = m.rs[i].zs := by simp [Mt.zs]
theorem Rw.zs_len (m : Rw) : m.zs.length = m.l.length := by simp [Rw.zs]
def sqb (o : Option (Nat × Nat)) : Bool := match o with
  | some rc => decide (((rc.1 : Nat) : Int) = ((rc.2 : Nat) : Int))
  | none => false
def sqrV (o : Option (Nat × Nat)) : Value := .tuple #[.int .i64 (((o.getD (0, 0)).1 : Nat) : Int), .bool (sqb o)]
/-- the numbers below n but i -/
def oth (n i : Nat) : List Nat := (List.range n).filter fun k => k != i
def ints (l : List Nat) : List Value := l.map fun (k : Nat) => .int .i64 (k : Int)
theorem oth_ne {k i : Nat} (h : k ≠ i) : oth (k + 1) i = oth k i ++ [k] := by simp [oth, List.range_succ, List.filter_append, h]
theorem oth_eq {k i : Nat} (h : k = i) : oth (k + 1) i = oth k i := by simp [oth, List.range_succ, List.filter_append, h]
theorem oth_length (k i : Nat) : (oth k i).length ≤ k := by
  have := List.length_filter_le (fun k => k != i) (List.range k)
  simpa [oth] using this
end Go.Qk
end
