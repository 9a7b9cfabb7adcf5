/- Lemmas and contracts of functions that the law reaches: I7, M11, Mk, M12, M13, Mn, M14, Aj, M15, M16, Iv, M17, M18, Lw, M19, Op, Lg, S1, S2, S3, T1. -/
import Derived.Test.YtencodepmbhpiaaGc4
import Derived.Deep.SlicePairs
import Derived.SizedLaws
set_option linter.unusedVariables false
set_option linter.unusedSimpArgs false
section
/- Int64 -/
set_option linter.unusedVariables false
namespace Go.Qk
open Go Go.Proofs Go.RowKit
set_option maxRecDepth 100000
set_option maxHeartbeats 4000000

theorem int64_ret (n : Bool) (xs : List Nat) (p : Sv) (w : World) (S : Nat → Prop) (hx : Lm xs p w) (lx : lim xs) (hb : xs.length ≤ 35184372088832) :
    Ret Try.prog 85 [ig n xs p] w S (fun _ : Unit => int64V (sgn n (val xs))) (fun _ _ => True) := by
  have hxr := cut_rd hx lx
  have hxn := nl_val lx
  have hz := sgn_natAbs n (val xs)
  obtain ⟨L, hL⟩ : ∃ L, L = limbsOf (val xs) := ⟨_, rfl⟩
  have hLl : lim L := by rw [hL]; exact lim_limbsOf _
  have hLv : val L = val xs := by rw [hL, val_limbsOf]
  have hLn : L.length = nl (val xs) := by rw [hL]; rfl
  rw [← hL] at hxr
  refine ret_of Try.func85 rfl Try.ntmps85 rfl ?_
  refine tr_rseq ?_   -- region 0
  refine sq_box rfl rfl fun r1 => ?_   -- t1
  refine sq_q (qt_assign rfl) rfl ?_   -- t2
  refine sq_q (qt_assign rfl) rfl ?_   -- t3
  refine sq_end ?_
  refine tr_rseq ?_   -- region 1
  refine sq_q (qt_load2 rfl (fun w t => t.atO 0 rfl rfl) (fun w t => t.atO 0 rfl rfl)) rfl ?_   -- t7
  refine sq_call (val := fun _ : Unit => .slice p.1 L.length L.length) (F := fun _ _ => True) rfl rfl rfl (fun w t => by rw [hL]; exact magnitude_ret n xs p w _ (t.lm hx) lx hb) fun _ => ?_   -- t8
  refine sq_q (qt_assign rfl) rfl ?_   -- t4
  refine sq_end ?_
  refine tr_seq ?_   -- C1
  refine tr_rseq ?_   -- region 2
  refine sq_q (qt_move rfl) rfl ?_   -- t9
  refine sq_q (qt_len rfl) rfl ?_   -- t10
  refine sq_q (qt_bin rfl rfl bin_gtr) rfl ?_   -- t11
  refine sq_end ?_
  refine tr_if rfl (fun hc => ?_) (fun hc => ?_)
  ·
    have hbig : ¬ In64 (sgn n (val xs)) := by
      intro h
      unfold In64 at h
      have h1 : nl (val xs) ≤ 2 := nl_le (by omega)
      have := of_decide_eq_true hc
      omega
    refine tr_rseq ?_   -- region 3
    refine sq_q (qt_assign rfl) rfl ?_   -- t2
    refine sq_q (qt_assign rfl) rfl ?_   -- t3
    refine sq_end ?_
    refine tr_ret ?_
    repeat (first | (with_reducible refine tr_skip ?_) | (with_reducible refine tr_exit ?_) | (with_reducible refine tr_then ?_) | (with_reducible refine tr_inX ?_) | (with_reducible refine tr_thenX ?_) | (with_reducible refine tr_inN ?_) | (with_reducible refine tr_inR ?_) | (with_reducible refine tr_thenR ?_))
    exact tr_done () (fun a w s t => results_2 rfl (resv_tmp s (by rw [if_neg hbig]; rfl)) (resv_tmp s (by rw [decide_eq_false hbig]; rfl))) (fun _ _ _ _ => trivial)
  ·
    have hl2 : L.length ≤ 2 := by have := of_decide_eq_false hc; omega
    refine tr_skip ?_
    repeat (first | (with_reducible refine tr_skip ?_) | (with_reducible refine tr_exit ?_) | (with_reducible refine tr_then ?_) | (with_reducible refine tr_inX ?_) | (with_reducible refine tr_thenX ?_) | (with_reducible refine tr_inN ?_) | (with_reducible refine tr_inR ?_) | (with_reducible refine tr_thenR ?_))
    refine tr_rseq ?_   -- region 4
    refine sq_q (qt_assign rfl) rfl ?_   -- t5
    refine sq_end ?_
    refine tr_seq ?_   -- C2
    refine tr_rseq ?_   -- region 5
    refine sq_q (qt_move rfl) rfl ?_   -- t12
    refine sq_q (qt_len rfl) rfl ?_   -- t13
    refine sq_q (qt_move rfl) rfl ?_   -- t14
    refine sq_end ?_
    refine tr_block ?_
    refine tr_loop (fun k : Nat => k ≤ L.length) (fun k => [(1, .pointer (some ⟨r1, 0, none⟩)), (4, .slice p.1 L.length L.length), (5, .int .u64 ((val (L.take k) : Nat) : Int)), (13, .int .i64 (L.length : Int)), (14, .int .i64 (k : Int))]) (fun _ => [(r1, .cells (ig n xs p).cells 35 (0, 0))]) (fun _ _ => True) (fun k => L.length - k) 0 (Nat.zero_le _) ⟨rfl, rfl, rfl, rfl, rfl, trivial⟩ rfl (fun _ _ => trivial) ?_
    rintro k hk
    refine tr_rseq ?_   -- region 6
    refine sq_q (qt_bin rfl rfl bin_lss) rfl ?_   -- t15
    refine sq_end ?_
    refine tr_seq ?_   -- C3
    refine tr_if rfl (fun hc => ?_) (fun hc => ?_)
    ·
      have hkl : k < L.length := by have := of_decide_eq_true hc; omega
      have gx := hLl _ (List.getElem_mem hkl)
      obtain ⟨ra, oa, ea, hat⟩ := hxr.at_ (u32s_get hkl)
      have hvl := val_lt (lim_take hLl k)
      rw [show (L.take k).length = k by simp; omega] at hvl
      have hk2 : k = 0 ∨ k = 1 := by omega
      have hpow : (4294967296 : Nat) ^ k = 2 ^ (32 * k) := by rw [Nat.pow_mul]
      have hs1 : L[k] * 2 ^ (32 * k) < 18446744073709551616 := by rcases hk2 with h | h <;> simp only [h] at gx ⊢ <;> omega
      have hs2 : val (L.take k) < 18446744073709551616 := by rw [hpow] at hvl; rcases hk2 with h | h <;> rw [h] at hvl ⊢ <;> omega
      have hcast : ((L[k] : Nat) : Int) * 2 ^ (32 * k) = ((L[k] * 2 ^ (32 * k) : Nat) : Int) := by simp
      refine tr_sub [(1, .pointer (some ⟨r1, 0, none⟩)), (4, .slice (some ⟨ra, oa, none⟩) L.length L.length), (5, .int .u64 ((val (L.take k) : Nat) : Int)), (13, .int .i64 (L.length : Int)), (14, .int .i64 (k : Int))] ⟨rfl, by rw [← ea]; rfl, rfl, rfl, rfl, trivial⟩ ?_
      refine tr_skip ?_
      repeat (first | (with_reducible refine tr_skip ?_) | (with_reducible refine tr_exit ?_) | (with_reducible refine tr_then ?_) | (with_reducible refine tr_inX ?_) | (with_reducible refine tr_thenX ?_) | (with_reducible refine tr_inN ?_) | (with_reducible refine tr_inR ?_) | (with_reducible refine tr_thenR ?_))
      refine tr_seq ?_   -- C4
      refine tr_block ?_
      refine tr_rseq ?_   -- region 7
      refine sq_q (qt_move rfl) rfl ?_   -- t16
      refine sq_q (qt_assign rfl) rfl ?_   -- t6
      refine sq_end ?_
      refine tr_region ?_   -- region 8
      refine sq_q (qt_move rfl) rfl ?_   -- t17
      refine sq_q (qt_move rfl) rfl ?_   -- t18
      refine sq_q (qt_move rfl) rfl ?_   -- t19
      refine sq_q (qt_index (i := k) rfl rfl hkl) rfl ?_   -- t20
      refine sq_q (qt_load rfl (fun w t => t.a1 hat)) rfl ?_   -- t21
      refine sq_q (qt_to64 rfl (by omega) (by omega)) rfl ?_   -- t22
      refine sq_q (qt_move rfl) rfl ?_   -- t23
      refine sq_q (qt_bin rfl rfl (bin_mulI (by omega) (by omega))) rfl ?_   -- t24
      refine sq_q (qt_bin rfl rfl (bin_shlU (32 * k) (by omega) (by omega) (by rw [hcast]; omega) (by rw [hcast]; omega))) rfl ?_   -- t25
      refine sq_sub [(1, .pointer (some ⟨r1, 0, none⟩)), (4, .slice (some ⟨ra, oa, none⟩) L.length L.length), (13, .int .i64 (L.length : Int)), (14, .int .i64 (k : Int)), (17, .int .u64 ((val (L.take k) : Nat) : Int)), (25, .int .u64 ((L[k] * 2 ^ (32 * k) : Nat) : Int))] ?_ ?_
      · exact ⟨rfl, rfl, rfl, rfl, rfl, congrArg (fun z => some (Value.int .u64 z)) hcast, trivial⟩
      refine sq_q (qt_bin rfl rfl (bin_orN64 hs2 hs1)) rfl ?_   -- t26
      refine sq_q (qt_assign rfl) rfl ?_   -- t5
      refine sq_nil ?_
      repeat (first | (with_reducible refine tr_skip ?_) | (with_reducible refine tr_exit ?_) | (with_reducible refine tr_then ?_) | (with_reducible refine tr_inX ?_) | (with_reducible refine tr_thenX ?_) | (with_reducible refine tr_inN ?_) | (with_reducible refine tr_inR ?_) | (with_reducible refine tr_thenR ?_))
      refine tr_region ?_   -- region 9
      refine sq_q (qt_bin rfl rfl (bin_addI (by omega) (by omega))) rfl ?_   -- t27
      refine sq_q (qt_move rfl) rfl ?_   -- t14
      refine sq_nil ?_
      repeat (first | (with_reducible refine tr_skip ?_) | (with_reducible refine tr_exit ?_) | (with_reducible refine tr_then ?_) | (with_reducible refine tr_inX ?_) | (with_reducible refine tr_thenX ?_) | (with_reducible refine tr_inN ?_) | (with_reducible refine tr_inR ?_) | (with_reducible refine tr_thenR ?_))
      refine tr_round (k + 1) hkl (by omega) ⟨rfl, by rw [ea]; rfl, congrArg (fun z => some (Value.int .u64 z)) ?_, rfl, rfl, trivial⟩ rfl (fun _ h => h)
      rw [or_add (by rw [← hpow]; exact hvl), val_take_succ hkl, hpow]
    ·
      have hke : k = L.length := by have := of_decide_eq_false hc; omega
      have hvm : val (L.take k) = val xs := by rw [hke, List.take_length, hLv]
      rw [hvm]
      have hm64 : val xs < 18446744073709551616 := by
        have h := lt_pow_nl (val xs)
        have h2 : 4294967296 ^ nl (val xs) ≤ 4294967296 ^ 2 := Nat.pow_le_pow_right (by decide) (by omega)
        omega
      refine tr_exit ?_
      repeat (first | (with_reducible refine tr_skip ?_) | (with_reducible refine tr_exit ?_) | (with_reducible refine tr_then ?_) | (with_reducible refine tr_inX ?_) | (with_reducible refine tr_thenX ?_) | (with_reducible refine tr_inN ?_) | (with_reducible refine tr_inR ?_) | (with_reducible refine tr_thenR ?_))
      refine tr_seq ?_   -- C5
      refine tr_block ?_
      have hcs : n = false ∨ (n = true ∧ val xs ≤ 9223372036854775808) ∨ (n = true ∧ 9223372036854775808 < val xs) := by cases n <;> simp <;> omega
      rcases hcs with rfl | ⟨rfl, hle⟩ | ⟨rfl, hle⟩
      ·
        refine tr_rseq ?_   -- region 10
        refine sq_q (qt_fieldAddr rfl) rfl ?_   -- t29
        refine sq_q (qt_load rfl (fun w t => t.atO 0 rfl rfl)) rfl ?_   -- t30
        refine sq_q (qt_move rfl) rfl ?_   -- t31
        refine sq_gF rfl rfl rfl rfl ?_
        refine sq_gF rfl rfl rfl rfl ?_
        refine sq_q (qt_pick rfl rfl) rfl ?_   -- t34
        refine sq_q (qt_assign rfl) rfl ?_   -- t28
        refine sq_end ?_
        refine tr_ifF rfl ?_
        skip
        ·
          refine tr_rseq ?_   -- region 12
          refine sq_q (qt_fieldAddr rfl) rfl ?_   -- t39
          refine sq_q (qt_load rfl (fun w t => t.atO 0 rfl rfl)) rfl ?_   -- t40
          refine sq_q (qt_not rfl) rfl ?_   -- t41
          refine sq_q (qt_move rfl) rfl ?_   -- t42
          first | (refine sq_gF rfl rfl rfl rfl ?_; done) | (refine sq_gF rfl rfl rfl rfl ?_) | (refine sq_gT rfl rfl ?_; refine sq_q (qt_move rfl) rfl ?_)   -- t43
          first | (refine sq_gF rfl rfl rfl rfl ?_; done) | (refine sq_gF rfl rfl rfl rfl ?_) | (refine sq_gT rfl rfl ?_; refine sq_q (qt_bin rfl rfl bin_leq) rfl ?_)   -- t44
          refine sq_q (qt_pick rfl rfl) rfl ?_   -- t45
          refine sq_q (qt_assign rfl) rfl ?_   -- t38
          refine sq_end ?_
          refine tr_if rfl (fun hc => ?_) (fun hc => ?_)
          ·
            have hle : val xs ≤ 9223372036854775807 := by have h := of_decide_eq_true hc; omega
            have h64 : In64 (sgn false (val xs)) := by rw [sgn_false]; unfold In64; omega
            refine tr_rseq ?_   -- region 13
            refine sq_q (qt_move rfl) rfl ?_   -- t46
            refine sq_q (qt_toI rfl (by omega) (by omega)) rfl ?_   -- t47
            refine sq_q (qt_assign rfl) rfl ?_   -- t2
            refine sq_q (qt_assign rfl) rfl ?_   -- t3
            refine sq_end ?_
            refine tr_ret ?_
            repeat (first | (with_reducible refine tr_skip ?_) | (with_reducible refine tr_exit ?_) | (with_reducible refine tr_then ?_) | (with_reducible refine tr_inX ?_) | (with_reducible refine tr_thenX ?_) | (with_reducible refine tr_inN ?_) | (with_reducible refine tr_inR ?_) | (with_reducible refine tr_thenR ?_))
            exact tr_done () (fun a w s t => results_2 rfl (resv_tmp s (by rw [if_pos h64]; rfl)) (resv_tmp s (by rw [decide_eq_true h64]; rfl))) (fun _ _ _ _ => trivial)
          ·
            have hgt : 9223372036854775807 < val xs := by have h := of_decide_eq_false hc; omega
            have h64 : ¬ In64 (sgn false (val xs)) := by rw [sgn_false]; unfold In64; omega
            refine tr_skip ?_
            repeat (first | (with_reducible refine tr_skip ?_) | (with_reducible refine tr_exit ?_) | (with_reducible refine tr_then ?_) | (with_reducible refine tr_inX ?_) | (with_reducible refine tr_thenX ?_) | (with_reducible refine tr_inN ?_) | (with_reducible refine tr_inR ?_) | (with_reducible refine tr_thenR ?_))
            refine tr_rseq ?_   -- region 14
            refine sq_q (qt_assign rfl) rfl ?_   -- t2
            refine sq_q (qt_assign rfl) rfl ?_   -- t3
            refine sq_end ?_
            refine tr_ret ?_
            repeat (first | (with_reducible refine tr_skip ?_) | (with_reducible refine tr_exit ?_) | (with_reducible refine tr_then ?_) | (with_reducible refine tr_inX ?_) | (with_reducible refine tr_thenX ?_) | (with_reducible refine tr_inN ?_) | (with_reducible refine tr_inR ?_) | (with_reducible refine tr_thenR ?_))
            exact tr_done () (fun a w s t => results_2 rfl (resv_tmp s (by rw [if_neg h64]; rfl)) (resv_tmp s (by rw [decide_eq_false h64]; rfl))) (fun _ _ _ _ => trivial)
      ·
        have h64 : In64 (sgn true (val xs)) := by rw [sgn_true]; unfold In64; omega
        refine tr_rseq ?_   -- region 10
        refine sq_q (qt_fieldAddr rfl) rfl ?_   -- t29
        refine sq_q (qt_load rfl (fun w t => t.atO 0 rfl rfl)) rfl ?_   -- t30
        refine sq_q (qt_move rfl) rfl ?_   -- t31
        refine sq_gT rfl rfl ?_
        refine sq_q (qt_move rfl) rfl ?_   -- t32
        refine sq_gT rfl rfl ?_
        refine sq_q (qt_bin rfl rfl (bT bin_leq (by omega))) rfl ?_   -- t33
        refine sq_q (qt_pick rfl rfl) rfl ?_   -- t34
        refine sq_q (qt_assign rfl) rfl ?_   -- t28
        refine sq_end ?_
        refine tr_ifT rfl ?_
        refine tr_rseq ?_   -- region 11
        refine sq_q (qt_move rfl) rfl ?_   -- t35
        refine sq_q (qt_negU rfl) rfl ?_   -- t36
        refine sq_sub [(1, .pointer (some ⟨r1, 0, none⟩)), (36, .int .u64 ((18446744073709551616 - (val xs : Int)) % 18446744073709551616))] ?_ ?_
        · exact ⟨rfl, congrArg (fun z => some (Value.int .u64 z)) (by omega), trivial⟩
        refine sq_q (qt_toIw rfl) rfl ?_   -- t37
        refine sq_q (qt_assign rfl) rfl ?_   -- t2
        refine sq_q (qt_assign rfl) rfl ?_   -- t3
        refine sq_end ?_
        refine tr_ret ?_
        repeat (first | (with_reducible refine tr_skip ?_) | (with_reducible refine tr_exit ?_) | (with_reducible refine tr_then ?_) | (with_reducible refine tr_inX ?_) | (with_reducible refine tr_thenX ?_) | (with_reducible refine tr_inN ?_) | (with_reducible refine tr_inR ?_) | (with_reducible refine tr_thenR ?_))
        refine tr_done () (fun a w s t => results_2 rfl (resv_tmp s ?_) (resv_tmp s (by rw [decide_eq_true h64]; rfl))) (fun _ _ _ _ => trivial)
        rw [if_pos h64]
        refine congrArg (fun z => some (Value.int .i64 z)) ?_
        rw [sgn_true]
        omega
      ·
        have h64 : ¬ In64 (sgn true (val xs)) := by rw [sgn_true]; unfold In64; omega
        refine tr_rseq ?_   -- region 10
        refine sq_q (qt_fieldAddr rfl) rfl ?_   -- t29
        refine sq_q (qt_load rfl (fun w t => t.atO 0 rfl rfl)) rfl ?_   -- t30
        refine sq_q (qt_move rfl) rfl ?_   -- t31
        refine sq_gT rfl rfl ?_
        refine sq_q (qt_move rfl) rfl ?_   -- t32
        refine sq_gT rfl rfl ?_
        refine sq_q (qt_bin rfl rfl (bF bin_leq (by omega))) rfl ?_   -- t33
        refine sq_q (qt_pick rfl rfl) rfl ?_   -- t34
        refine sq_q (qt_assign rfl) rfl ?_   -- t28
        refine sq_end ?_
        refine tr_ifF rfl ?_
        skip
        ·
          refine tr_rseq ?_   -- region 12
          refine sq_q (qt_fieldAddr rfl) rfl ?_   -- t39
          refine sq_q (qt_load rfl (fun w t => t.atO 0 rfl rfl)) rfl ?_   -- t40
          refine sq_q (qt_not rfl) rfl ?_   -- t41
          refine sq_q (qt_move rfl) rfl ?_   -- t42
          first | (refine sq_gF rfl rfl rfl rfl ?_; done) | (refine sq_gF rfl rfl rfl rfl ?_) | (refine sq_gT rfl rfl ?_; refine sq_q (qt_move rfl) rfl ?_)   -- t43
          first | (refine sq_gF rfl rfl rfl rfl ?_; done) | (refine sq_gF rfl rfl rfl rfl ?_) | (refine sq_gT rfl rfl ?_; refine sq_q (qt_bin rfl rfl bin_leq) rfl ?_)   -- t44
          refine sq_q (qt_pick rfl rfl) rfl ?_   -- t45
          refine sq_q (qt_assign rfl) rfl ?_   -- t38
          refine sq_end ?_
          refine tr_if rfl (fun hc => ?_) (fun hc => ?_)
          ·
            have hle : val xs ≤ 9223372036854775807 := by revert hc; simp
            refine tr_rseq ?_   -- region 13
            refine sq_q (qt_move rfl) rfl ?_   -- t46
            refine sq_q (qt_toI rfl (by omega) (by omega)) rfl ?_   -- t47
            refine sq_q (qt_assign rfl) rfl ?_   -- t2
            refine sq_q (qt_assign rfl) rfl ?_   -- t3
            refine sq_end ?_
            refine tr_ret ?_
            repeat (first | (with_reducible refine tr_skip ?_) | (with_reducible refine tr_exit ?_) | (with_reducible refine tr_then ?_) | (with_reducible refine tr_inX ?_) | (with_reducible refine tr_thenX ?_) | (with_reducible refine tr_inN ?_) | (with_reducible refine tr_inR ?_) | (with_reducible refine tr_thenR ?_))
            exact absurd hc (by simp)
          ·
            refine tr_skip ?_
            repeat (first | (with_reducible refine tr_skip ?_) | (with_reducible refine tr_exit ?_) | (with_reducible refine tr_then ?_) | (with_reducible refine tr_inX ?_) | (with_reducible refine tr_thenX ?_) | (with_reducible refine tr_inN ?_) | (with_reducible refine tr_inR ?_) | (with_reducible refine tr_thenR ?_))
            refine tr_rseq ?_   -- region 14
            refine sq_q (qt_assign rfl) rfl ?_   -- t2
            refine sq_q (qt_assign rfl) rfl ?_   -- t3
            refine sq_end ?_
            refine tr_ret ?_
            repeat (first | (with_reducible refine tr_skip ?_) | (with_reducible refine tr_exit ?_) | (with_reducible refine tr_then ?_) | (with_reducible refine tr_inX ?_) | (with_reducible refine tr_thenX ?_) | (with_reducible refine tr_inN ?_) | (with_reducible refine tr_inR ?_) | (with_reducible refine tr_thenR ?_))
            exact tr_done () (fun a w s t => results_2 rfl (resv_tmp s (by rw [if_neg h64]; rfl)) (resv_tmp s (by rw [decide_eq_false h64]; rfl))) (fun _ _ _ _ => trivial)
end Go.Qk
end
section
/- ascending -/
set_option linter.unusedVariables false
namespace Go.Qk
open Go Go.Proofs Go.RowKit
set_option maxRecDepth 100000
set_option maxHeartbeats 4000000

theorem ascending_ret (l : List Int) (A : Option Addr) (c : Nat) (n : Int) (w : World) (S : Nat → Prop) (hrd : Rd A (i64s l) w) (hb : l.length ≤ 35184372088832) :
    Ret Try.prog 76 [.slice A l.length c, .int .i64 n] w S (fun _ : Unit => .bool (ascB n l)) (fun _ _ => True) := by
  refine ret_of Try.func76 rfl Try.ntmps76 rfl ?_
  refine tr_rseq ?_   -- region 0
  refine sq_q (qt_assign rfl) rfl ?_   -- t4
  refine sq_end ?_
  refine tr_seq ?_   -- C1
  refine tr_rseq ?_   -- region 1
  refine sq_q (qt_move rfl) rfl ?_   -- t7
  refine sq_q (qt_len rfl) rfl ?_   -- t8
  refine sq_q (qt_move rfl) rfl ?_   -- t9
  refine sq_end ?_
  refine tr_block ?_
  refine tr_loop (fun k : Nat => k ≤ l.length ∧ ∀ i, i < k → ascAt n l i = true) (fun k => [(0, .slice A l.length c), (1, .int .i64 n), (7, .slice A l.length c), (8, .int .i64 (l.length : Int)), (9, .int .i64 (k : Int))]) (fun _ => []) (fun _ _ => True) (fun k => l.length - k) 0 ⟨Nat.zero_le _, fun i h => by omega⟩ ⟨rfl, rfl, rfl, rfl, rfl, trivial⟩ rfl (fun _ _ => trivial) ?_
  rintro k ⟨hk, hall⟩
  refine tr_rseq ?_   -- region 2
  refine sq_q (qt_bin rfl rfl bin_lss) rfl ?_   -- t10
  refine sq_end ?_
  refine tr_seq ?_   -- C2
  refine tr_if rfl (fun hc => ?_) (fun hc => ?_)
  ·
    have hlt : k < l.length := by have := of_decide_eq_true hc; omega
    obtain ⟨ra, oa, rfl, hat⟩ := hrd.at_ (i64s_get hlt)
    have hgk : l.getD k 0 = l[k] := by simp [List.getD, hlt]
    refine tr_skip ?_
    repeat (first | (with_reducible refine tr_skip ?_) | (with_reducible refine tr_exit ?_) | (with_reducible refine tr_then ?_) | (with_reducible refine tr_inX ?_) | (with_reducible refine tr_thenX ?_) | (with_reducible refine tr_inN ?_) | (with_reducible refine tr_inR ?_) | (with_reducible refine tr_thenR ?_))
    refine tr_seq ?_   -- C3
    refine tr_block ?_
    refine tr_rseq ?_   -- region 3
    refine sq_q (qt_move rfl) rfl ?_   -- t11
    refine sq_q (qt_index (i := k) rfl rfl hlt) rfl ?_   -- t12
    refine sq_q (qt_load rfl (fun w t => t.a1 hat)) rfl ?_   -- t13
    refine sq_q (qt_assign rfl) rfl ?_   -- t5
    refine sq_q (qt_assign rfl) rfl ?_   -- t6
    refine sq_end ?_
    have hcs : l[k] < 0 ∨ (0 ≤ l[k] ∧ n ≤ l[k]) ∨ ((0 ≤ l[k] ∧ l[k] < n) ∧ k = 0) ∨ ((0 ≤ l[k] ∧ l[k] < n) ∧ 0 < k ∧ l[k] ≤ l[k - 1]) ∨ ((0 ≤ l[k] ∧ l[k] < n) ∧ 0 < k ∧ l[k - 1] < l[k]) := by omega
    rcases hcs with h1 | ⟨h1, h2⟩ | ⟨⟨h1, h2⟩, h3⟩ | ⟨⟨h1, h2⟩, h3, h4⟩ | ⟨⟨h1, h2⟩, h3, h4⟩
    ·
      rw [ascB_false hlt (by unfold ascAt; rw [hgk, decide_eq_false (by omega)]; rfl)]
      refine tr_rseq ?_   -- region 4
      refine sq_q (qt_move rfl) rfl ?_   -- t14
      refine sq_q (qt_bin rfl rfl (bT bin_lss h1)) rfl ?_   -- t15
      refine sq_q (qt_move rfl) rfl ?_   -- t16
      refine sq_gF rfl rfl rfl rfl ?_
      refine sq_gF rfl rfl rfl rfl ?_
      refine sq_gF rfl rfl rfl rfl ?_
      refine sq_q (qt_pick rfl rfl) rfl ?_   -- t20
      refine sq_q (qt_move rfl) rfl ?_   -- t21
      refine sq_gF rfl rfl rfl rfl ?_
      refine sq_gF rfl rfl rfl rfl ?_
      refine sq_gF rfl rfl rfl rfl ?_
      refine sq_gU rfl rfl rfl ?_
      refine sq_gU rfl rfl rfl ?_
      refine sq_gU rfl rfl rfl ?_
      refine sq_gU rfl rfl rfl ?_
      refine sq_gU rfl rfl rfl ?_
      refine sq_gU rfl rfl rfl ?_
      refine sq_gU rfl rfl rfl ?_
      refine sq_gF rfl rfl rfl rfl ?_
      refine sq_q (qt_pick rfl rfl) rfl ?_   -- t33
      refine sq_end ?_
      refine tr_ifT rfl ?_
      refine tr_rseq ?_   -- region 5
      refine sq_q (qt_assign rfl) rfl ?_   -- t4
      refine sq_end ?_
      refine tr_ret ?_
      repeat (first | (with_reducible refine tr_skip ?_) | (with_reducible refine tr_exit ?_) | (with_reducible refine tr_then ?_) | (with_reducible refine tr_inX ?_) | (with_reducible refine tr_thenX ?_) | (with_reducible refine tr_inN ?_) | (with_reducible refine tr_inR ?_) | (with_reducible refine tr_thenR ?_))
      exact tr_done () (fun a w s t => results_1 rfl (resv_tmp s rfl)) (fun _ _ _ _ => trivial)
    ·
      rw [ascB_false hlt (by unfold ascAt; rw [hgk, show decide (l[k] < n) = false from decide_eq_false (by omega), Bool.and_false, Bool.false_and])]
      refine tr_rseq ?_   -- region 4
      refine sq_q (qt_move rfl) rfl ?_   -- t14
      refine sq_q (qt_bin rfl rfl (bF bin_lss (by omega))) rfl ?_   -- t15
      refine sq_q (qt_move rfl) rfl ?_   -- t16
      refine sq_gT rfl rfl ?_
      refine sq_q (qt_move rfl) rfl ?_   -- t17
      refine sq_gT rfl rfl ?_
      refine sq_q (qt_move rfl) rfl ?_   -- t18
      refine sq_gT rfl rfl ?_
      refine sq_q (qt_bin rfl rfl (bT bin_geq h2)) rfl ?_   -- t19
      refine sq_q (qt_pick rfl rfl) rfl ?_   -- t20
      refine sq_q (qt_move rfl) rfl ?_   -- t21
      refine sq_gF rfl rfl rfl rfl ?_
      refine sq_gF rfl rfl rfl rfl ?_
      refine sq_gF rfl rfl rfl rfl ?_
      refine sq_gU rfl rfl rfl ?_
      refine sq_gU rfl rfl rfl ?_
      refine sq_gU rfl rfl rfl ?_
      refine sq_gU rfl rfl rfl ?_
      refine sq_gU rfl rfl rfl ?_
      refine sq_gU rfl rfl rfl ?_
      refine sq_gU rfl rfl rfl ?_
      refine sq_gF rfl rfl rfl rfl ?_
      refine sq_q (qt_pick rfl rfl) rfl ?_   -- t33
      refine sq_end ?_
      refine tr_ifT rfl ?_
      refine tr_rseq ?_   -- region 5
      refine sq_q (qt_assign rfl) rfl ?_   -- t4
      refine sq_end ?_
      refine tr_ret ?_
      repeat (first | (with_reducible refine tr_skip ?_) | (with_reducible refine tr_exit ?_) | (with_reducible refine tr_then ?_) | (with_reducible refine tr_inX ?_) | (with_reducible refine tr_thenX ?_) | (with_reducible refine tr_inN ?_) | (with_reducible refine tr_inR ?_) | (with_reducible refine tr_thenR ?_))
      exact tr_done () (fun a w s t => results_1 rfl (resv_tmp s rfl)) (fun _ _ _ _ => trivial)
    ·
      refine tr_rseq ?_   -- region 4
      refine sq_q (qt_move rfl) rfl ?_   -- t14
      refine sq_q (qt_bin rfl rfl (bF bin_lss (by omega))) rfl ?_   -- t15
      refine sq_q (qt_move rfl) rfl ?_   -- t16
      refine sq_gT rfl rfl ?_
      refine sq_q (qt_move rfl) rfl ?_   -- t17
      refine sq_gT rfl rfl ?_
      refine sq_q (qt_move rfl) rfl ?_   -- t18
      refine sq_gT rfl rfl ?_
      refine sq_q (qt_bin rfl rfl (bF bin_geq (by omega))) rfl ?_   -- t19
      refine sq_q (qt_pick rfl rfl) rfl ?_   -- t20
      refine sq_q (qt_move rfl) rfl ?_   -- t21
      refine sq_gT rfl rfl ?_
      refine sq_q (qt_move rfl) rfl ?_   -- t22
      refine sq_gT rfl rfl ?_
      refine sq_q (qt_bin rfl rfl (bF bin_gtr (by omega))) rfl ?_   -- t23
      refine sq_gT rfl rfl ?_
      refine sq_q (qt_move rfl) rfl ?_   -- t24
      refine sq_gF rfl rfl rfl rfl ?_
      refine sq_gF rfl rfl rfl rfl ?_
      refine sq_gF rfl rfl rfl rfl ?_
      refine sq_gF rfl rfl rfl rfl ?_
      refine sq_gF rfl rfl rfl rfl ?_
      refine sq_gF rfl rfl rfl rfl ?_
      refine sq_gF rfl rfl rfl rfl ?_
      refine sq_gT rfl rfl ?_
      refine sq_q (qt_pick rfl rfl) rfl ?_   -- t32
      refine sq_q (qt_pick rfl rfl) rfl ?_   -- t33
      refine sq_end ?_
      refine tr_ifF rfl ?_
      refine tr_skip ?_
      repeat (first | (with_reducible refine tr_skip ?_) | (with_reducible refine tr_exit ?_) | (with_reducible refine tr_then ?_) | (with_reducible refine tr_inX ?_) | (with_reducible refine tr_thenX ?_) | (with_reducible refine tr_inN ?_) | (with_reducible refine tr_inR ?_) | (with_reducible refine tr_thenR ?_))
      refine tr_region ?_   -- region 6
      refine sq_q (qt_bin rfl rfl (bin_addI (by omega) (by omega))) rfl ?_   -- t34
      refine sq_q (qt_move rfl) rfl ?_   -- t9
      refine sq_nil ?_
      repeat (first | (with_reducible refine tr_skip ?_) | (with_reducible refine tr_exit ?_) | (with_reducible refine tr_then ?_) | (with_reducible refine tr_inX ?_) | (with_reducible refine tr_thenX ?_) | (with_reducible refine tr_inN ?_) | (with_reducible refine tr_inR ?_) | (with_reducible refine tr_thenR ?_))
      refine tr_round (k + 1) ⟨hlt, fun i hi => ?_⟩ (by omega) ⟨rfl, rfl, rfl, rfl, rfl, trivial⟩ rfl (fun _ h => h)
      by_cases e : i = k
      · subst e
        unfold ascAt
        rw [hgk, decide_eq_true h1, decide_eq_true h2, decide_eq_true h3]
        rfl
      · exact hall i (by omega)
    ·
      obtain ⟨_, _, e', hat'⟩ := hrd.at_ (i64s_get (show k - 1 < l.length by omega))
      injection e' with e'
      injection e' with e1 e2 _
      subst e1 e2
      rw [ascB_false hlt (by unfold ascAt; rw [hgk, show decide (k = 0) = false from decide_eq_false (by omega), show l.getD (k - 1) 0 = l[k - 1] by simp [List.getD, show k - 1 < l.length by omega], show decide (l[k - 1] < l[k]) = false from decide_eq_false (by omega)]; simp)]
      refine tr_rseq ?_   -- region 4
      refine sq_q (qt_move rfl) rfl ?_   -- t14
      refine sq_q (qt_bin rfl rfl (bF bin_lss (by omega))) rfl ?_   -- t15
      refine sq_q (qt_move rfl) rfl ?_   -- t16
      refine sq_gT rfl rfl ?_
      refine sq_q (qt_move rfl) rfl ?_   -- t17
      refine sq_gT rfl rfl ?_
      refine sq_q (qt_move rfl) rfl ?_   -- t18
      refine sq_gT rfl rfl ?_
      refine sq_q (qt_bin rfl rfl (bF bin_geq (by omega))) rfl ?_   -- t19
      refine sq_q (qt_pick rfl rfl) rfl ?_   -- t20
      refine sq_q (qt_move rfl) rfl ?_   -- t21
      refine sq_gT rfl rfl ?_
      refine sq_q (qt_move rfl) rfl ?_   -- t22
      refine sq_gT rfl rfl ?_
      refine sq_q (qt_bin rfl rfl (bT bin_gtr (by omega))) rfl ?_   -- t23
      refine sq_gT rfl rfl ?_
      refine sq_q (qt_move rfl) rfl ?_   -- t24
      refine sq_gT rfl rfl ?_
      refine sq_q (qt_move rfl) rfl ?_   -- t25
      refine sq_gT rfl rfl ?_
      refine sq_q (qt_move rfl) rfl ?_   -- t26
      refine sq_gT rfl rfl ?_
      refine sq_q (qt_move rfl) rfl ?_   -- t27
      refine sq_gT rfl rfl ?_
      refine sq_q (qt_bin rfl rfl (bin_subN (a := k) (b := 1) rfl (by omega) (by omega))) rfl ?_   -- t28
      refine sq_gT rfl rfl ?_
      refine sq_q (qt_index (i := k - 1) rfl rfl (by omega)) rfl ?_   -- t29
      refine sq_gT rfl rfl ?_
      refine sq_q (qt_load rfl (fun w t => t.a1 hat')) rfl ?_   -- t30
      refine sq_gT rfl rfl ?_
      refine sq_q (qt_bin rfl rfl (bT bin_leq h4)) rfl ?_   -- t31
      refine sq_gT rfl rfl ?_
      refine sq_q (qt_pick rfl rfl) rfl ?_   -- t32
      refine sq_q (qt_pick rfl rfl) rfl ?_   -- t33
      refine sq_end ?_
      refine tr_ifT rfl ?_
      refine tr_rseq ?_   -- region 5
      refine sq_q (qt_assign rfl) rfl ?_   -- t4
      refine sq_end ?_
      refine tr_ret ?_
      repeat (first | (with_reducible refine tr_skip ?_) | (with_reducible refine tr_exit ?_) | (with_reducible refine tr_then ?_) | (with_reducible refine tr_inX ?_) | (with_reducible refine tr_thenX ?_) | (with_reducible refine tr_inN ?_) | (with_reducible refine tr_inR ?_) | (with_reducible refine tr_thenR ?_))
      exact tr_done () (fun a w s t => results_1 rfl (resv_tmp s rfl)) (fun _ _ _ _ => trivial)
    ·
      obtain ⟨_, _, e', hat'⟩ := hrd.at_ (i64s_get (show k - 1 < l.length by omega))
      injection e' with e'
      injection e' with e1 e2 _
      subst e1 e2
      refine tr_rseq ?_   -- region 4
      refine sq_q (qt_move rfl) rfl ?_   -- t14
      refine sq_q (qt_bin rfl rfl (bF bin_lss (by omega))) rfl ?_   -- t15
      refine sq_q (qt_move rfl) rfl ?_   -- t16
      refine sq_gT rfl rfl ?_
      refine sq_q (qt_move rfl) rfl ?_   -- t17
      refine sq_gT rfl rfl ?_
      refine sq_q (qt_move rfl) rfl ?_   -- t18
      refine sq_gT rfl rfl ?_
      refine sq_q (qt_bin rfl rfl (bF bin_geq (by omega))) rfl ?_   -- t19
      refine sq_q (qt_pick rfl rfl) rfl ?_   -- t20
      refine sq_q (qt_move rfl) rfl ?_   -- t21
      refine sq_gT rfl rfl ?_
      refine sq_q (qt_move rfl) rfl ?_   -- t22
      refine sq_gT rfl rfl ?_
      refine sq_q (qt_bin rfl rfl (bT bin_gtr (by omega))) rfl ?_   -- t23
      refine sq_gT rfl rfl ?_
      refine sq_q (qt_move rfl) rfl ?_   -- t24
      refine sq_gT rfl rfl ?_
      refine sq_q (qt_move rfl) rfl ?_   -- t25
      refine sq_gT rfl rfl ?_
      refine sq_q (qt_move rfl) rfl ?_   -- t26
      refine sq_gT rfl rfl ?_
      refine sq_q (qt_move rfl) rfl ?_   -- t27
      refine sq_gT rfl rfl ?_
      refine sq_q (qt_bin rfl rfl (bin_subN (a := k) (b := 1) rfl (by omega) (by omega))) rfl ?_   -- t28
      refine sq_gT rfl rfl ?_
      refine sq_q (qt_index (i := k - 1) rfl rfl (by omega)) rfl ?_   -- t29
      refine sq_gT rfl rfl ?_
      refine sq_q (qt_load rfl (fun w t => t.a1 hat')) rfl ?_   -- t30
      refine sq_gT rfl rfl ?_
      refine sq_q (qt_bin rfl rfl (bF bin_leq (by omega))) rfl ?_   -- t31
      refine sq_gT rfl rfl ?_
      refine sq_q (qt_pick rfl rfl) rfl ?_   -- t32
      refine sq_q (qt_pick rfl rfl) rfl ?_   -- t33
      refine sq_end ?_
      refine tr_ifF rfl ?_
      refine tr_skip ?_
      repeat (first | (with_reducible refine tr_skip ?_) | (with_reducible refine tr_exit ?_) | (with_reducible refine tr_then ?_) | (with_reducible refine tr_inX ?_) | (with_reducible refine tr_thenX ?_) | (with_reducible refine tr_inN ?_) | (with_reducible refine tr_inR ?_) | (with_reducible refine tr_thenR ?_))
      refine tr_region ?_   -- region 6
      refine sq_q (qt_bin rfl rfl (bin_addI (by omega) (by omega))) rfl ?_   -- t34
      refine sq_q (qt_move rfl) rfl ?_   -- t9
      refine sq_nil ?_
      repeat (first | (with_reducible refine tr_skip ?_) | (with_reducible refine tr_exit ?_) | (with_reducible refine tr_then ?_) | (with_reducible refine tr_inX ?_) | (with_reducible refine tr_thenX ?_) | (with_reducible refine tr_inN ?_) | (with_reducible refine tr_inR ?_) | (with_reducible refine tr_thenR ?_))
      refine tr_round (k + 1) ⟨hlt, fun i hi => ?_⟩ (by omega) ⟨rfl, rfl, rfl, rfl, rfl, trivial⟩ rfl (fun _ h => h)
      by_cases e : i = k
      · subst e
        unfold ascAt
        rw [hgk, decide_eq_true h1, decide_eq_true h2, show l.getD (i - 1) 0 = l[i - 1] by simp [List.getD, show i - 1 < l.length by omega], decide_eq_true h4]
        simp
      · exact hall i (by omega)
  ·
    have hkl : k = l.length := by have := of_decide_eq_false hc; omega
    subst hkl
    refine tr_exit ?_
    repeat (first | (with_reducible refine tr_skip ?_) | (with_reducible refine tr_exit ?_) | (with_reducible refine tr_then ?_) | (with_reducible refine tr_inX ?_) | (with_reducible refine tr_thenX ?_) | (with_reducible refine tr_inN ?_) | (with_reducible refine tr_inR ?_) | (with_reducible refine tr_thenR ?_))
    refine tr_rseq ?_   -- region 7
    refine sq_q (qt_move rfl) rfl ?_   -- t35
    refine sq_q (qt_len rfl) rfl ?_   -- t36
    refine sq_q (qt_bin rfl rfl bin_gtr) rfl ?_   -- t37
    refine sq_q (qt_assign rfl) rfl ?_   -- t4
    refine sq_end ?_
    refine tr_ret ?_
    repeat (first | (with_reducible refine tr_skip ?_) | (with_reducible refine tr_exit ?_) | (with_reducible refine tr_then ?_) | (with_reducible refine tr_inX ?_) | (with_reducible refine tr_thenX ?_) | (with_reducible refine tr_inN ?_) | (with_reducible refine tr_inR ?_) | (with_reducible refine tr_thenR ?_))
    exact tr_done () (fun a w s t => results_1 rfl (resv_tmp s (by rw [ascB_all hall]; exact congrArg (fun b => some (Value.bool b)) (decide_eq_decide.2 (by omega))))) (fun _ _ _ _ => trivial)
end Go.Qk
end
section
/- Matrices whose integers may stand in the memory that was there before. -/
set_option linter.unusedVariables false
namespace Go.Qk
open Go Go.Proofs Go.RowKit
def Mt.okE (B : Nat) (w0 : World) (m : Mt) (w : World) : Prop := Rd m.p.1 (m.rs.map Rw.v) w ∧ m.rs.length ≤ m.p.2 ∧ ∀ r ∈ m.rs, Rd r.p.1 (zcs r.l) w ∧ r.l.length ≤ r.p.2 ∧ ∀ z ∈ r.l, Go.Qk.okE B w0 z w
theorem Mt.okE.get {B : Nat} {w0 w : World} {m : Mt} {S : Nat → Prop} {own : Own} {R : World → Prop} (h : m.okE B w0 w) (t : SS w0 [] S own R w) : m.ok B w :=
  ⟨h.1, h.2.1, fun r hr => ⟨(h.2.2 r hr).1, (h.2.2 r hr).2.1, fun z hz => ((h.2.2 r hr).2.2 z hz).get t⟩⟩
def Mt.al (K : Zd → Prop) (m : Mt) : Prop := ∀ r ∈ m.rs, ∀ z ∈ r.l, K z
end Go.Qk
end
section
/- build, with integers from elsewhere -/
set_option linter.unusedVariables false
namespace Go.Qk
open Go Go.Proofs Go.RowKit
set_option maxRecDepth 100000
set_option maxHeartbeats 4000000

theorem build2_ret (K : Zd → Prop) (r c B : Nat) (g : Nat → Nat → Int) (f : FuncId) [hB : FnB Try.prog f] (pre cap : List Value) (w0 : World) (S : Nat → Prop) (hr16 : r ≤ 65536) (hc16 : c ≤ 65536) 
    (hf : ∀ i j w' S', i < r → j < c → Below w0.heap.size w0 w' → Ret Try.prog f (pre ++ [.int .i64 (i : Int), .int .i64 (j : Int)] ++ cap) w' S' Zd.v (fun z w'' => (z.z = g i j ∧ K z) ∧ okE B w0 z w'')) :
    Ret Try.prog 64 [.int .i64 (r : Int), .int .i64 (c : Int), .func (.func f) pre.toArray cap.toArray] w0 S Mt.v (fun m w => m.okE B w0 w ∧ m.zs = grid g r c ∧ m.al K) := by
  refine ret_of Try.func64 rfl Try.ntmps64 rfl ?_
  refine tr_rseq ?_   -- region 0
  refine sq_q (qt_assign rfl) rfl ?_   -- t6
  refine sq_end ?_
  refine tr_rseq ?_   -- region 1
  refine sq_q (qt_move rfl) rfl ?_   -- t10
  refine sq_make (c := r) rfl rfl (by omega) (by omega) rfl fun r11 => ?_   -- t11
  refine sq_q (qt_assign rfl) rfl ?_   -- t7
  refine sq_end ?_
  refine tr_seq ?_   -- C1
  refine tr_rseq ?_   -- region 2
  refine sq_q (qt_move rfl) rfl ?_   -- t12
  refine sq_q (qt_len rfl) rfl ?_   -- t13
  refine sq_q (qt_move rfl) rfl ?_   -- t14
  refine sq_end ?_
  refine tr_block ?_
  refine tr_loop (fun done : List Rw => done.length ≤ r ∧ done.map Rw.zs = grid g done.length c ∧ ∀ q ∈ done, ∀ z ∈ q.l, K z) (fun done => [(1, .int .i64 (c : Int)), (2, .func (.func f) pre.toArray cap.toArray), (7, .slice (some ⟨r11, 0, none⟩) r r), (13, .int .i64 (r : Int)), (14, .int .i64 (done.length : Int))])
    (fun done => [(r11, .cells (done.map Rw.v ++ List.replicate (r - done.length) (Value.slice none 0 0)).toArray 44 (0, 0))]) (fun done w => ∀ q ∈ done, Rd q.p.1 (zcs q.l) w ∧ q.l.length ≤ q.p.2 ∧ ∀ z ∈ q.l, okE B w0 z w) (fun done => r - done.length) [] ⟨Nat.zero_le _, rfl, by simp⟩ ⟨rfl, rfl, rfl, rfl, rfl, trivial⟩ (by rw [made_s]; rfl) (fun _ _ => by simp) ?_
  rintro done ⟨hle, hz, hcan⟩
  refine tr_rseq ?_   -- region 3
  refine sq_q (qt_bin rfl rfl bin_lss) rfl ?_   -- t15
  refine sq_end ?_
  refine tr_seq ?_   -- C2
  refine tr_if rfl (fun hc => ?_) (fun hc => ?_)
  ·
    have hlt : done.length < r := by have := of_decide_eq_true hc; omega
    refine tr_skip ?_
    repeat (first | (with_reducible refine tr_skip ?_) | (with_reducible refine tr_exit ?_) | (with_reducible refine tr_then ?_) | (with_reducible refine tr_inX ?_) | (with_reducible refine tr_thenX ?_) | (with_reducible refine tr_inN ?_) | (with_reducible refine tr_inR ?_) | (with_reducible refine tr_thenR ?_))
    refine tr_seq ?_   -- C3
    refine tr_block ?_
    refine tr_rseq ?_   -- region 4
    refine sq_q (qt_move rfl) rfl ?_   -- t16
    refine sq_q (qt_assign rfl) rfl ?_   -- t8
    refine sq_end ?_
    refine tr_rseq ?_   -- region 5
    refine sq_q (qt_move rfl) rfl ?_   -- t17
    refine sq_q (qt_move rfl) rfl ?_   -- t18
    refine sq_q (qt_move rfl) rfl ?_   -- t19
    refine sq_make (c := c) rfl rfl (by omega) (by omega) rfl fun r20 => ?_   -- t20
    refine sq_q (qt_index (i := done.length) rfl rfl hlt) rfl ?_   -- t21
    refine sq_store 1 rfl rfl rfl rfl (by simp [Value.cells]; omega) rfl rfl ?_   -- R5.5
    refine sq_end ?_
    obtain ⟨k, hk⟩ : ∃ k, r - done.length = k + 1 := ⟨r - done.length - 1, by omega⟩
    have hk' : r - (done.length + 1) = k := by omega
    have hset : wr (done.map Rw.v ++ List.replicate (k + 1) (Value.slice none 0 0)) (0 + done.length * 1) [Value.slice (some ⟨r20, 0, none⟩) c c] = (done.map Rw.v ++ [Value.slice (some ⟨r20, 0, none⟩) c c]) ++ List.replicate k (Value.slice none 0 0) := by
      have := next_set (done.map Rw.v) k (Value.slice none 0 0) (.slice (some ⟨r20, 0, none⟩) c c)
      rw [List.length_map] at this
      rw [← this, Nat.zero_add, Nat.mul_one]
      rfl
    have hget : ((done.map Rw.v ++ [Value.slice (some ⟨r20, 0, none⟩) c c]) ++ List.replicate k (Value.slice none 0 0))[done.length]? = some (.slice (some ⟨r20, 0, none⟩) c c) := by simp [List.getElem?_append]
    refine tr_own [(r20, .cells (zcs (List.replicate c z0)).toArray 35 (0, 0)), (r11, .cells ((done.map Rw.v ++ [Value.slice (some ⟨r20, 0, none⟩) c c]) ++ List.replicate k (Value.slice none 0 0)).toArray 44 (0, 0))] (by rw [← hset, ← hk, ← made_z]; rfl) ?_
    refine tr_rseq ?_   -- region 6
    refine sq_q (qt_move rfl) rfl ?_   -- t22
    refine sq_q (qt_move rfl) rfl ?_   -- t23
    refine sq_q (qt_index (i := done.length) rfl rfl hlt) rfl ?_   -- t24
    refine sq_q (qt_load rfl (fun w t => t.o1 1 rfl hget)) rfl ?_   -- t25
    refine sq_q (qt_len rfl) rfl ?_   -- t26
    refine sq_q (qt_move rfl) rfl ?_   -- t27
    refine sq_end ?_
    refine tr_block ?_
    refine tr_loop (fun l : List Zd => l.length ≤ c ∧ l.map Zd.z = (List.range l.length).map (fun j => g done.length j) ∧ ∀ z ∈ l, K z) (fun l => [(1, .int .i64 (c : Int)), (2, .func (.func f) pre.toArray cap.toArray), (7, .slice (some ⟨r11, 0, none⟩) r r), (8, .int .i64 (done.length : Int)), (13, .int .i64 (r : Int)), (14, .int .i64 (done.length : Int)), (26, .int .i64 (c : Int)), (27, .int .i64 (l.length : Int))])
      (fun l => [(r20, .cells (zcs (l ++ List.replicate (c - l.length) z0)).toArray 35 (0, 0)), (r11, .cells ((done.map Rw.v ++ [Value.slice (some ⟨r20, 0, none⟩) c c]) ++ List.replicate k (Value.slice none 0 0)).toArray 44 (0, 0))]) (fun l w => (∀ q ∈ done, Rd q.p.1 (zcs q.l) w ∧ q.l.length ≤ q.p.2 ∧ ∀ z ∈ q.l, okE B w0 z w) ∧ ∀ z ∈ l, okE B w0 z w) (fun l => c - l.length) [] ⟨Nat.zero_le _, rfl, by simp⟩ ⟨rfl, rfl, rfl, rfl, rfl, rfl, rfl, rfl, trivial⟩ rfl (fun _ h => ⟨h, by simp⟩) ?_
    rintro l ⟨hl, hlz, hlc⟩
    refine tr_rseq ?_   -- region 7
    refine sq_q (qt_bin rfl rfl bin_lss) rfl ?_   -- t28
    refine sq_end ?_
    refine tr_seq ?_   -- C4
    refine tr_if rfl (fun hc => ?_) (fun hc => ?_)
    ·
      have hlt2 : l.length < c := by have := of_decide_eq_true hc; omega
      refine tr_skip ?_
      repeat (first | (with_reducible refine tr_skip ?_) | (with_reducible refine tr_exit ?_) | (with_reducible refine tr_then ?_) | (with_reducible refine tr_inX ?_) | (with_reducible refine tr_thenX ?_) | (with_reducible refine tr_inN ?_) | (with_reducible refine tr_inR ?_) | (with_reducible refine tr_thenR ?_))
      refine tr_seq ?_   -- C5
      refine tr_block ?_
      refine tr_rseq ?_   -- region 8
      refine sq_q (qt_move rfl) rfl ?_   -- t29
      refine sq_q (qt_assign rfl) rfl ?_   -- t9
      refine sq_end ?_
      refine tr_draw 9 [] [] [0, 1, 2, 6, 7, 8, 9, 13, 14, 15, 26, 27, 28, 33, 34, 38] (by kernel_rfl) ?_   -- region 9
      refine dx_q rfl (qt_move rfl) rfl ?_   -- t30
      refine dx_q rfl (qt_move rfl) rfl ?_   -- t31
      refine dx_q rfl (qt_index (i := done.length) rfl rfl hlt) rfl ?_   -- t32
      refine dx_q rfl (qt_load rfl (fun w t => t.o1 1 rfl hget)) rfl ?_   -- t33
      refine dx_q rfl (qt_move rfl) rfl ?_   -- t34
      refine dx_q rfl (qt_move rfl) rfl ?_   -- t35
      refine dx_q rfl (qt_move rfl) rfl ?_   -- t36
      refine dx_q rfl (qt_move rfl) rfl ?_   -- t37
      refine dx_call Zd.v (fun z w => (z.z = g done.length l.length ∧ K z) ∧ okE B w0 z w) rfl rfl rfl (fun w t => hf _ _ w _ hlt hlt2 t.arg) ?_   -- t38
      refine dx_nil ?_
      repeat (first | refine es_val rfl ?_ rfl | refine es_res rfl (fun x => ?_) rfl | refine es_skip rfl ?_)
      refine es_nil rfl ?_
      refine tx_q (qt_index (i := l.length) rfl rfl hlt2) rfl rfl rfl ?_   -- t39
      refine tx_store 0 rfl rfl rfl rfl (show 0 + l.length * 2 + 2 ≤ (zcs (l ++ List.replicate (c - l.length) z0)).length by rw [zcs_length]; simp; omega) rfl rfl rfl ?_   -- _
      refine tx_end ?_
      repeat (first | (with_reducible refine tr_skip ?_) | (with_reducible refine tr_exit ?_) | (with_reducible refine tr_then ?_) | (with_reducible refine tr_inX ?_) | (with_reducible refine tr_thenX ?_) | (with_reducible refine tr_inN ?_) | (with_reducible refine tr_inR ?_) | (with_reducible refine tr_thenR ?_))
      refine tr_region ?_   -- region 10
      refine sq_q (qt_bin rfl rfl (bin_addI (by omega) (by omega))) rfl ?_   -- t40
      refine sq_q (qt_move rfl) rfl ?_   -- t27
      refine sq_nil ?_
      repeat (first | (with_reducible refine tr_skip ?_) | (with_reducible refine tr_exit ?_) | (with_reducible refine tr_then ?_) | (with_reducible refine tr_inX ?_) | (with_reducible refine tr_thenX ?_) | (with_reducible refine tr_inN ?_) | (with_reducible refine tr_inR ?_) | (with_reducible refine tr_thenR ?_))
      refine tr_have (fun w t => t.r.2.1) fun hx => ?_
      obtain ⟨k2, hk2⟩ : ∃ k2, c - l.length = k2 + 1 := ⟨c - l.length - 1, by omega⟩
      refine tr_round (l ++ [x]) ⟨by simp; omega, ?_, ?_⟩ (by simp; omega) ⟨rfl, rfl, rfl, rfl, rfl, rfl, rfl, by simp; rfl, trivial⟩ ?_ ?_
      · rw [List.map_append, hlz, List.length_append, List.length_singleton, List.range_succ, List.map_append]
        simp [hx.1]
      · intro z hz
        rcases List.mem_append.1 hz with h | h
        · exact hlc z h
        · rw [List.mem_singleton.1 h]; exact hx.2
      · have e := zcs_set (l := l ++ List.replicate (c - l.length) z0) (j := l.length) x (by simp; omega)
        rw [hk2, next_set] at e
        rw [List.length_append, List.length_singleton, show c - (l.length + 1) = k2 by omega, ← e, ← hk2]
        rfl
      · rintro w ⟨⟨h1, h2⟩, h3⟩
        refine ⟨h1, fun z hz => ?_⟩
        rcases List.mem_append.1 hz with h | h
        · exact h2 z h
        · rw [List.mem_singleton.1 h]; exact h3.2
    ·
      have hlc2 : l.length = c := by have := of_decide_eq_false hc; omega
      refine tr_exit ?_
      repeat (first | (with_reducible refine tr_skip ?_) | (with_reducible refine tr_exit ?_) | (with_reducible refine tr_then ?_) | (with_reducible refine tr_inX ?_) | (with_reducible refine tr_thenX ?_) | (with_reducible refine tr_inN ?_) | (with_reducible refine tr_inR ?_) | (with_reducible refine tr_thenR ?_))
      refine tr_retire ?_
      refine tr_region ?_   -- region 11
      refine sq_q (qt_bin rfl rfl (bin_addI (by omega) (by omega))) rfl ?_   -- t41
      refine sq_q (qt_move rfl) rfl ?_   -- t14
      refine sq_nil ?_
      repeat (first | (with_reducible refine tr_skip ?_) | (with_reducible refine tr_exit ?_) | (with_reducible refine tr_then ?_) | (with_reducible refine tr_inX ?_) | (with_reducible refine tr_thenX ?_) | (with_reducible refine tr_inN ?_) | (with_reducible refine tr_inR ?_) | (with_reducible refine tr_thenR ?_))
      refine tr_round (done ++ [⟨l, (some ⟨r20, 0, none⟩, c)⟩]) ⟨by simp; omega, ?_, ?_⟩ (by simp; omega) ⟨rfl, rfl, rfl, rfl, by simp; rfl, trivial⟩ ?_ ?_
      · rw [List.length_append, List.length_singleton, grid_succ, List.map_append, hz, ← hlc2, ← hlz]
        rfl
      · intro q hq
        rcases List.mem_append.1 hq with h | h
        · exact hcan q h
        · rw [List.mem_singleton.1 h]; exact hlc
      · rw [List.length_append, List.length_singleton, hk', List.map_append]
        simp only [List.map_cons, List.map_nil, Rw.v, hlc2]
      · rintro w ⟨⟨h1, h2⟩, h3⟩ q hq
        rcases List.mem_append.1 hq with h | h
        · exact h1 q h
        · rw [List.mem_singleton.1 h]
          rw [hlc2, Nat.sub_self, List.replicate_zero, List.append_nil] at h3
          exact ⟨Rd.own h3, Nat.le_of_eq hlc2, h2⟩
  ·
    have hlr : done.length = r := by have := of_decide_eq_false hc; omega
    refine tr_exit ?_
    repeat (first | (with_reducible refine tr_skip ?_) | (with_reducible refine tr_exit ?_) | (with_reducible refine tr_then ?_) | (with_reducible refine tr_inX ?_) | (with_reducible refine tr_thenX ?_) | (with_reducible refine tr_inN ?_) | (with_reducible refine tr_inR ?_) | (with_reducible refine tr_thenR ?_))
    refine tr_rseq ?_   -- region 12
    refine sq_q (qt_move rfl) rfl ?_   -- t42
    refine sq_q (qt_assign rfl) rfl ?_   -- t6
    refine sq_end ?_
    refine tr_ret ?_
    repeat (first | (with_reducible refine tr_skip ?_) | (with_reducible refine tr_exit ?_) | (with_reducible refine tr_then ?_) | (with_reducible refine tr_inX ?_) | (with_reducible refine tr_thenX ?_) | (with_reducible refine tr_inN ?_) | (with_reducible refine tr_inR ?_) | (with_reducible refine tr_thenR ?_))
    refine tr_done ⟨done, (some ⟨r11, 0, none⟩, r)⟩ (fun a w s t => results_1 rfl (resv_tmp s ?_)) (fun w h ho _ => ⟨⟨?_, Nat.le_of_eq hlr, h⟩, by rw [← hlr]; exact hz, hcan⟩)
    · unfold Mt.v
      rw [hlr]
      rfl
    · have := Rd.own (ho _ (ownAt_mem (i := 0) rfl))
      rwa [hlr, Nat.sub_self, List.replicate_zero, List.append_nil] at this
end Go.Qk
end
section
/- the entries of a minor -/
set_option linter.unusedVariables false
namespace Go.Qk
open Go Go.Proofs Go.RowKit
set_option maxRecDepth 100000
set_option maxHeartbeats 4000000

theorem minor1_ret (m : Mt) (B : Nat) (rs cs : List Int) (A A' : Option Addr) (c c' : Nat) (b3 b4 b5 i j a b : Nat) (w0 w : World) (S : Nat → Prop) (hm : m.ok B w) (hA : Rd A (i64s rs) w) (hA' : Rd A' (i64s cs) w) (h3 : At b3 0 m.v w) (h4 : At b4 0 (.slice A rs.length c) w) (h5 : At b5 0 (.slice A' cs.length c') w) (hi : i < rs.length) (hj : j < cs.length) (ha : rs[i] = (a : Int)) (hb : cs[j] = (b : Int)) (har : a < m.rs.length) (hbr : b < m.rs[a].l.length) :
    Ret Try.prog 77 [.int .i64 (i : Int), .int .i64 (j : Int), .pointer (some ⟨b3, 0, none⟩), .pointer (some ⟨b4, 0, none⟩), .pointer (some ⟨b5, 0, none⟩)] w S (fun _ : Unit => m.rs[a].l[b].v) (fun _ _ => True) := by
  obtain ⟨ro, oo, evm, hat⟩ := hm.at_ (show 0 < m.rs.length by omega)
  obtain ⟨rr, orr, evr, hatr⟩ := (hm.2.2 _ (List.getElem_mem har)).at_ (show 0 < m.rs[a].l.length by omega)
  obtain ⟨r4, o4, e4, hat4⟩ := hA.at_ (i64s_get hi)
  obtain ⟨r5, o5, e5, hat5⟩ := hA'.at_ (i64s_get hj)
  subst e4
  subst e5
  rw [ha] at hat4
  rw [hb] at hat5
  rw [evm] at h3
  have hr := hat a har
  rw [evr] at hr
  obtain ⟨hz0, hz1⟩ := hatr b hbr
  refine ret_of Try.func77 rfl Try.ntmps77 rfl ?_
  refine tr_rseq ?_   -- region 0
  refine sq_alloc rfl fun r7 => ?_   -- t7
  refine sq_end ?_
  refine tr_rdraw 13 [] [] [0, 1, 2, 3, 4, 7, 20] (by kernel_rfl) ?_   -- region 1
  refine dx_q rfl (qt_load rfl (fun w t => t.atA h3)) rfl ?_   -- t8
  refine dx_q rfl (qt_load rfl (fun w t => t.atA h4)) rfl ?_   -- t9
  refine dx_q rfl (qt_move rfl) rfl ?_   -- t10
  refine dx_q rfl (qt_index (i := i) rfl rfl hi) rfl ?_   -- t11
  refine dx_q rfl (qt_load rfl (fun w t => t.a1 hat4)) rfl ?_   -- t12
  refine dx_q rfl (qt_index (i := a) rfl rfl har) rfl ?_   -- t13
  refine dx_q rfl (qt_load rfl (fun w t => t.a1 hr)) rfl ?_   -- t14
  refine dx_q rfl (qt_load rfl (fun w t => t.atA h5)) rfl ?_   -- t15
  refine dx_q rfl (qt_move rfl) rfl ?_   -- t16
  refine dx_q rfl (qt_index (i := j) rfl rfl hj) rfl ?_   -- t17
  refine dx_q rfl (qt_load rfl (fun w t => t.a1 hat5)) rfl ?_   -- t18
  refine dx_q rfl (qt_index (i := b) rfl rfl hbr) rfl ?_   -- t19
  refine dx_q rfl (qt_load2 rfl (fun w t => t.atA hz0) (fun w t => t.atA hz1)) rfl ?_   -- t20
  refine dx_nil ?_
  repeat (first | refine es_val rfl ?_ rfl | refine es_res rfl (fun x => ?_) rfl | refine es_skip rfl ?_)
  refine es_nil rfl ?_
  refine tx_store 0 rfl rfl rfl rfl (by first | (simp [u32s, Value.cells]; done) | (simp [u32s, Value.cells]; omega) | exact Nat.le_refl 2) rfl rfl rfl ?_   -- _
  refine tx_endk ?_
  refine tr_ret ?_
  repeat (first | (with_reducible refine tr_skip ?_) | (with_reducible refine tr_exit ?_) | (with_reducible refine tr_then ?_) | (with_reducible refine tr_inX ?_) | (with_reducible refine tr_thenX ?_) | (with_reducible refine tr_inN ?_) | (with_reducible refine tr_inR ?_) | (with_reducible refine tr_thenR ?_))
  exact tr_done () (fun a w s t => results_1 rfl (resv_cell 0 s t rfl rfl rfl)) (fun _ _ _ _ => trivial)
end Go.Qk
end
section
/- What Minor answers. -/
set_option linter.unusedVariables false
namespace Go.Qk
open Go Go.Proofs Go.RowKit
theorem asc_at {n : Int} {l : List Int} (h : ascB n l = true) : 0 < l.length ∧ ∀ i (hi : i < l.length), 0 ≤ l[i] ∧ l[i] < n ∧ (∀ h0 : 0 < i, l[i - 1]'(by omega) < l[i]) := by
  unfold ascB at h
  simp only [Bool.and_eq_true, decide_eq_true_eq, List.all_eq_true, List.mem_range] at h
  refine ⟨h.1, fun i hi => ?_⟩
  have h2 := h.2 i hi
  unfold ascAt at h2
  simp only [Bool.and_eq_true, Bool.or_eq_true, decide_eq_true_eq] at h2
  have e : l.getD i 0 = l[i] := by simp [List.getD, hi]
  rw [e] at h2
  refine ⟨h2.1.1, h2.1.2, fun h0 => ?_⟩
  have e' : l.getD (i - 1) 0 = l[i - 1]'(by omega) := by simp [List.getD, show i - 1 < l.length by omega]
  rw [e'] at h2
  rcases h2.2 with h3 | h3
  · omega
  · exact h3
theorem asc_ge {n : Int} {l : List Int} (h : ascB n l = true) : ∀ i (hi : i < l.length), (i : Int) ≤ l[i] := by
  obtain ⟨_, h2⟩ := asc_at h
  intro i
  induction i with
  | zero => intro hi; exact (h2 0 hi).1
  | succ i ih =>
    intro hi
    have h3 := (h2 (i + 1) hi).2.2 (by omega)
    have h4 := ih (by omega)
    simp only [Nat.add_sub_cancel] at h3
    omega
theorem asc_len {n : Nat} {l : List Int} (h : ascB n l = true) : l.length ≤ n := by
  obtain ⟨h1, h2⟩ := asc_at h
  have h3 := asc_ge h (l.length - 1) (by omega)
  have h4 := (h2 (l.length - 1) (by omega)).2.1
  omega
/-- the entries of a minor -/
def sel (L : List (List Int)) (rs cs : List Int) (i j : Nat) : Int := ent L (rs.getD i 0).toNat (cs.getD j 0).toNat
def minorP (o : Option (Nat × Nat)) (L : List (List Int)) (rs cs : List Int) : Option Int := match o with
  | some rc => if rs.length = cs.length ∧ ascB rc.1 rs = true ∧ ascB rc.2 cs = true then some (bdet rs.length (ent (grid (sel L rs cs) rs.length cs.length))) else none
  | none => none
def minorO (L : List (List Int)) (rs cs : List Int) : Option Int := minorP (shp L) L rs cs
theorem Rw.ok.below {B : Nat} {r : Rw} {w w' : World} (h : r.ok B w) (hb : Below w.heap.size w w') : r.ok B w' := ⟨h.1.below hb, h.2.1, fun z hz => ⟨⟨(h.2.2 z hz).1.1.below hb, (h.2.2 z hz).1.2⟩, (h.2.2 z hz).2⟩⟩
theorem Mt.ok.below {B : Nat} {m : Mt} {w w' : World} (h : m.ok B w) (hb : Below w.heap.size w w') : m.ok B w' := ⟨h.1.below hb, h.2.1, fun r hr => (h.2.2 r hr).below hb⟩
theorem grid_rows {m : Mt} {g : Nat → Nat → Int} {r c : Nat} (h : m.zs = grid g r c) : m.rs.length = r ∧ ∀ q ∈ m.rs, q.l.length = c := by
  have h1 := congrArg List.length h
  rw [m.zs_len] at h1
  refine ⟨by simpa [grid] using h1, fun q hq => ?_⟩
  have h2 : q.zs ∈ m.zs := List.mem_map.2 ⟨q, hq, rfl⟩
  rw [h] at h2
  simp only [grid, List.mem_map] at h2
  obtain ⟨i, _, e⟩ := h2
  rw [← Rw.zs_len, ← e]
  simp
theorem qt_makeFunc {P : Program} {J : World → Prop} {lk : Nat → Option Value} {ty : TypeId} {f : FuncId} {xs : List Operand} {vs : List Value} (hx : evs lk xs = some vs) : Qt P J lk (.makeFunc (.func f) #[] xs.toArray) ty (.func (.func f) #[] vs.toArray) := fun ρ w hρ _ d pos af g => by
  simp only [execOp]
  have e := evs_map hρ hx
  simp [Instr.makeFunc, e]
end Go.Qk
end
section
/- Minor -/
set_option linter.unusedVariables false
namespace Go.Qk
open Go Go.Proofs Go.RowKit
set_option maxRecDepth 100000
set_option maxHeartbeats 4000000

theorem minor_ret (m : Mt) (B : Nat) (rs cs : List Int) (A A' : Option Addr) (c c' : Nat) (w0 : World) (S : Nat → Prop) (hm : m.ok B w0) (hB : B ≤ 8388607) (hB1 : 1 ≤ B) (hA : Rd A (i64s rs) w0) (hA' : Rd A' (i64s cs) w0) (hlen : m.rs.length ≤ 35184372088832) (hrow : ∀ r ∈ m.rs, r.l.length ≤ 35184372088832) (hrl : rs.length ≤ 35184372088832) (hcl : cs.length ≤ 35184372088832) :
    Ret Try.prog 31 [m.v, .slice A rs.length c, .slice A' cs.length c'] w0 S (optZV (minorO m.zs rs cs)) (optZF (minorO m.zs rs cs)) := by
  obtain ⟨o, ho⟩ : ∃ o, o = shp m.zs := ⟨_, rfl⟩
  have hM : minorO m.zs rs cs = minorP o m.zs rs cs := by rw [ho]; rfl
  rw [hM]
  refine ret_of Try.func31 rfl Try.ntmps31 rfl ?_
  refine tr_rseq ?_   -- region 0
  refine sq_box rfl rfl fun r3 => ?_   -- t3
  refine sq_box rfl rfl fun r4 => ?_   -- t4
  refine sq_box rfl rfl fun r5 => ?_   -- t5
  refine sq_alloc rfl fun r6 => ?_   -- t6
  refine sq_q (qt_assign rfl) rfl ?_   -- t7
  refine sq_end ?_
  refine tr_rseq ?_   -- region 1
  refine sq_q (qt_load rfl (fun w t => t.atO 3 rfl rfl)) rfl ?_   -- t12
  refine sq_call (val := fun _ : Unit => shpV o) (F := fun _ _ => True) rfl rfl rfl (fun w t => by rw [ho]; exact shape_ret m B w _ (t.mt hm) hlen hrow) fun _ => ?_   -- t13
  refine sq_q (qt_move rfl) rfl ?_   -- t11
  refine sq_q (qt_extract rfl rfl) rfl ?_   -- t14
  refine sq_q (qt_extract rfl rfl) rfl ?_   -- t15
  refine sq_q (qt_extract rfl rfl) rfl ?_   -- t16
  refine sq_q (qt_assign rfl) rfl ?_   -- t8
  refine sq_q (qt_assign rfl) rfl ?_   -- t9
  refine sq_q (qt_assign rfl) rfl ?_   -- t10
  refine sq_end ?_
  refine tr_seq ?_   -- C1
  have hcs : o = none ∨ ∃ r k, o = some (r, k) ∧ (rs.length ≠ cs.length ∨ (rs.length = cs.length ∧ (ascB r rs = false ∨ (ascB r rs = true ∧ (ascB k cs = false ∨ ascB k cs = true))))) := by
    cases o with
    | none => exact .inl rfl
    | some rc =>
      refine .inr ⟨rc.1, rc.2, rfl, ?_⟩
      by_cases h : rs.length = cs.length
      · cases h1 : ascB rc.1 rs
        · exact .inr ⟨h, .inl rfl⟩
        · cases h2 : ascB rc.2 cs
          · exact .inr ⟨h, .inr ⟨rfl, .inl rfl⟩⟩
          · exact .inr ⟨h, .inr ⟨rfl, .inr rfl⟩⟩
      · exact .inl h
  rcases hcs with hn | ⟨r, k, hs, h1 | ⟨h1, h2 | ⟨h2, h3 | h3⟩⟩⟩
  ·
    subst hn
    refine tr_rseq ?_   -- region 2
    refine sq_q (qt_move rfl) rfl ?_   -- t17
    refine sq_q (qt_not rfl) rfl ?_   -- t18
    refine sq_q (qt_move rfl) rfl ?_   -- t19
    refine sq_gF rfl rfl rfl rfl ?_
    refine sq_gF rfl rfl rfl rfl ?_
    refine sq_gF rfl rfl rfl rfl ?_
    refine sq_gF rfl rfl rfl rfl ?_
    refine sq_gF rfl rfl rfl rfl ?_
    refine sq_q (qt_pick rfl rfl) rfl ?_   -- t25
    refine sq_q (qt_move rfl) rfl ?_   -- t26
    refine sq_gF rfl rfl rfl rfl ?_
    refine sq_gF rfl rfl rfl rfl ?_
    refine sq_gF rfl rfl rfl rfl ?_
    refine sq_gF rfl rfl rfl rfl ?_
    refine sq_q (qt_pick rfl rfl) rfl ?_   -- t31
    refine sq_q (qt_move rfl) rfl ?_   -- t32
    refine sq_gF rfl rfl rfl rfl ?_
    refine sq_gF rfl rfl rfl rfl ?_
    refine sq_gF rfl rfl rfl rfl ?_
    refine sq_gF rfl rfl rfl rfl ?_
    refine sq_q (qt_pick rfl rfl) rfl ?_   -- t37
    refine sq_end ?_
    refine tr_ifT rfl ?_
    refine tr_rseq ?_   -- region 3
    refine sq_q (qt_build rfl built0) rfl ?_   -- t38
    refine sq_store 0 rfl rfl rfl rfl (by first | (simp [u32s, Value.cells]; done) | (simp [u32s, Value.cells]; omega) | exact Nat.le_refl 2) rfl rfl ?_   -- R3.1
    refine sq_q (qt_assign rfl) rfl ?_   -- t7
    refine sq_end ?_
    refine tr_ret ?_
    repeat (first | (with_reducible refine tr_skip ?_) | (with_reducible refine tr_exit ?_) | (with_reducible refine tr_then ?_) | (with_reducible refine tr_inX ?_) | (with_reducible refine tr_thenX ?_) | (with_reducible refine tr_inN ?_) | (with_reducible refine tr_inR ?_) | (with_reducible refine tr_thenR ?_))
    exact tr_done (none, 0) (fun a w s t => results_2 rfl (by show ResV _ _ _ _ (iv 0 (none, 0)); rw [iv_zero]; exact resv_cell 0 s t rfl rfl rfl) (resv_tmp s rfl)) (fun w _ _ _ => optZF_none)
  ·
    subst hs
    rw [show minorP (some (r, k)) m.zs rs cs = none from if_neg (fun e => h1 e.1)]
    refine tr_rseq ?_   -- region 2
    refine sq_q (qt_move rfl) rfl ?_   -- t17
    refine sq_q (qt_not rfl) rfl ?_   -- t18
    refine sq_q (qt_move rfl) rfl ?_   -- t19
    refine sq_gT rfl rfl ?_
    refine sq_q (qt_load rfl (fun w t => t.atO 2 rfl rfl)) rfl ?_   -- t20
    refine sq_gT rfl rfl ?_
    refine sq_q (qt_len rfl) rfl ?_   -- t21
    refine sq_gT rfl rfl ?_
    refine sq_q (qt_load rfl (fun w t => t.atO 1 rfl rfl)) rfl ?_   -- t22
    refine sq_gT rfl rfl ?_
    refine sq_q (qt_len rfl) rfl ?_   -- t23
    refine sq_gT rfl rfl ?_
    refine sq_q (qt_bin rfl rfl (bT bin_neq (by omega))) rfl ?_   -- t24
    refine sq_q (qt_pick rfl rfl) rfl ?_   -- t25
    refine sq_q (qt_move rfl) rfl ?_   -- t26
    refine sq_gF rfl rfl rfl rfl ?_
    refine sq_gF rfl rfl rfl rfl ?_
    refine sq_gF rfl rfl rfl rfl ?_
    refine sq_gF rfl rfl rfl rfl ?_
    refine sq_q (qt_pick rfl rfl) rfl ?_   -- t31
    refine sq_q (qt_move rfl) rfl ?_   -- t32
    refine sq_gF rfl rfl rfl rfl ?_
    refine sq_gF rfl rfl rfl rfl ?_
    refine sq_gF rfl rfl rfl rfl ?_
    refine sq_gF rfl rfl rfl rfl ?_
    refine sq_q (qt_pick rfl rfl) rfl ?_   -- t37
    refine sq_end ?_
    refine tr_ifT rfl ?_
    refine tr_rseq ?_   -- region 3
    refine sq_q (qt_build rfl built0) rfl ?_   -- t38
    refine sq_store 0 rfl rfl rfl rfl (by first | (simp [u32s, Value.cells]; done) | (simp [u32s, Value.cells]; omega) | exact Nat.le_refl 2) rfl rfl ?_   -- R3.1
    refine sq_q (qt_assign rfl) rfl ?_   -- t7
    refine sq_end ?_
    refine tr_ret ?_
    repeat (first | (with_reducible refine tr_skip ?_) | (with_reducible refine tr_exit ?_) | (with_reducible refine tr_then ?_) | (with_reducible refine tr_inX ?_) | (with_reducible refine tr_thenX ?_) | (with_reducible refine tr_inN ?_) | (with_reducible refine tr_inR ?_) | (with_reducible refine tr_thenR ?_))
    exact tr_done (none, 0) (fun a w s t => results_2 rfl (by show ResV _ _ _ _ (iv 0 (none, 0)); rw [iv_zero]; exact resv_cell 0 s t rfl rfl rfl) (resv_tmp s rfl)) (fun w _ _ _ => optZF_none)
  ·
    subst hs
    rw [show minorP (some (r, k)) m.zs rs cs = none from if_neg (fun e => by rw [e.2.1] at h2; exact absurd h2 (by decide))]
    refine tr_rseq ?_   -- region 2
    refine sq_q (qt_move rfl) rfl ?_   -- t17
    refine sq_q (qt_not rfl) rfl ?_   -- t18
    refine sq_q (qt_move rfl) rfl ?_   -- t19
    refine sq_gT rfl rfl ?_
    refine sq_q (qt_load rfl (fun w t => t.atO 2 rfl rfl)) rfl ?_   -- t20
    refine sq_gT rfl rfl ?_
    refine sq_q (qt_len rfl) rfl ?_   -- t21
    refine sq_gT rfl rfl ?_
    refine sq_q (qt_load rfl (fun w t => t.atO 1 rfl rfl)) rfl ?_   -- t22
    refine sq_gT rfl rfl ?_
    refine sq_q (qt_len rfl) rfl ?_   -- t23
    refine sq_gT rfl rfl ?_
    refine sq_q (qt_bin rfl rfl (bF bin_neq (by omega))) rfl ?_   -- t24
    refine sq_q (qt_pick rfl rfl) rfl ?_   -- t25
    refine sq_q (qt_move rfl) rfl ?_   -- t26
    refine sq_gT rfl rfl ?_
    refine sq_q (qt_load rfl (fun w t => t.atO 2 rfl rfl)) rfl ?_   -- t27
    refine sq_gT rfl rfl ?_
    refine sq_q (qt_move rfl) rfl ?_   -- t28
    refine sq_gT rfl rfl ?_
    refine sq_call (val := fun _ : Unit => .bool false) (F := fun _ _ => True) rfl rfl rfl (fun w t => by have h := fun S' => ascending_ret rs A c r w S' (t.rd hA) hrl; simp only [h2] at h; exact h _) fun _ => ?_   -- t29
    refine sq_gT rfl rfl ?_
    refine sq_q (qt_not rfl) rfl ?_   -- t30
    refine sq_q (qt_pick rfl rfl) rfl ?_   -- t31
    refine sq_q (qt_move rfl) rfl ?_   -- t32
    refine sq_gF rfl rfl rfl rfl ?_
    refine sq_gF rfl rfl rfl rfl ?_
    refine sq_gF rfl rfl rfl rfl ?_
    refine sq_gF rfl rfl rfl rfl ?_
    refine sq_q (qt_pick rfl rfl) rfl ?_   -- t37
    refine sq_end ?_
    refine tr_ifT rfl ?_
    refine tr_rseq ?_   -- region 3
    refine sq_q (qt_build rfl built0) rfl ?_   -- t38
    refine sq_store 0 rfl rfl rfl rfl (by first | (simp [u32s, Value.cells]; done) | (simp [u32s, Value.cells]; omega) | exact Nat.le_refl 2) rfl rfl ?_   -- R3.1
    refine sq_q (qt_assign rfl) rfl ?_   -- t7
    refine sq_end ?_
    refine tr_ret ?_
    repeat (first | (with_reducible refine tr_skip ?_) | (with_reducible refine tr_exit ?_) | (with_reducible refine tr_then ?_) | (with_reducible refine tr_inX ?_) | (with_reducible refine tr_thenX ?_) | (with_reducible refine tr_inN ?_) | (with_reducible refine tr_inR ?_) | (with_reducible refine tr_thenR ?_))
    exact tr_done (none, 0) (fun a w s t => results_2 rfl (by show ResV _ _ _ _ (iv 0 (none, 0)); rw [iv_zero]; exact resv_cell 0 s t rfl rfl rfl) (resv_tmp s rfl)) (fun w _ _ _ => optZF_none)
  ·
    subst hs
    rw [show minorP (some (r, k)) m.zs rs cs = none from if_neg (fun e => by rw [e.2.2] at h3; exact absurd h3 (by decide))]
    refine tr_rseq ?_   -- region 2
    refine sq_q (qt_move rfl) rfl ?_   -- t17
    refine sq_q (qt_not rfl) rfl ?_   -- t18
    refine sq_q (qt_move rfl) rfl ?_   -- t19
    refine sq_gT rfl rfl ?_
    refine sq_q (qt_load rfl (fun w t => t.atO 2 rfl rfl)) rfl ?_   -- t20
    refine sq_gT rfl rfl ?_
    refine sq_q (qt_len rfl) rfl ?_   -- t21
    refine sq_gT rfl rfl ?_
    refine sq_q (qt_load rfl (fun w t => t.atO 1 rfl rfl)) rfl ?_   -- t22
    refine sq_gT rfl rfl ?_
    refine sq_q (qt_len rfl) rfl ?_   -- t23
    refine sq_gT rfl rfl ?_
    refine sq_q (qt_bin rfl rfl (bF bin_neq (by omega))) rfl ?_   -- t24
    refine sq_q (qt_pick rfl rfl) rfl ?_   -- t25
    refine sq_q (qt_move rfl) rfl ?_   -- t26
    refine sq_gT rfl rfl ?_
    refine sq_q (qt_load rfl (fun w t => t.atO 2 rfl rfl)) rfl ?_   -- t27
    refine sq_gT rfl rfl ?_
    refine sq_q (qt_move rfl) rfl ?_   -- t28
    refine sq_gT rfl rfl ?_
    refine sq_call (val := fun _ : Unit => .bool true) (F := fun _ _ => True) rfl rfl rfl (fun w t => by have h := fun S' => ascending_ret rs A c r w S' (t.rd hA) hrl; simp only [h2] at h; exact h _) fun _ => ?_   -- t29
    refine sq_gT rfl rfl ?_
    refine sq_q (qt_not rfl) rfl ?_   -- t30
    refine sq_q (qt_pick rfl rfl) rfl ?_   -- t31
    refine sq_q (qt_move rfl) rfl ?_   -- t32
    refine sq_gT rfl rfl ?_
    refine sq_q (qt_load rfl (fun w t => t.atO 1 rfl rfl)) rfl ?_   -- t33
    refine sq_gT rfl rfl ?_
    refine sq_q (qt_move rfl) rfl ?_   -- t34
    refine sq_gT rfl rfl ?_
    refine sq_call (val := fun _ : Unit => .bool false) (F := fun _ _ => True) rfl rfl rfl (fun w t => by have h := fun S' => ascending_ret cs A' c' k w S' (t.rd hA') hcl; simp only [h3] at h; exact h _) fun _ => ?_   -- t35
    refine sq_gT rfl rfl ?_
    refine sq_q (qt_not rfl) rfl ?_   -- t36
    refine sq_q (qt_pick rfl rfl) rfl ?_   -- t37
    refine sq_end ?_
    refine tr_ifT rfl ?_
    refine tr_rseq ?_   -- region 3
    refine sq_q (qt_build rfl built0) rfl ?_   -- t38
    refine sq_store 0 rfl rfl rfl rfl (by first | (simp [u32s, Value.cells]; done) | (simp [u32s, Value.cells]; omega) | exact Nat.le_refl 2) rfl rfl ?_   -- R3.1
    refine sq_q (qt_assign rfl) rfl ?_   -- t7
    refine sq_end ?_
    refine tr_ret ?_
    repeat (first | (with_reducible refine tr_skip ?_) | (with_reducible refine tr_exit ?_) | (with_reducible refine tr_then ?_) | (with_reducible refine tr_inX ?_) | (with_reducible refine tr_thenX ?_) | (with_reducible refine tr_inN ?_) | (with_reducible refine tr_inR ?_) | (with_reducible refine tr_thenR ?_))
    exact tr_done (none, 0) (fun a w s t => results_2 rfl (by show ResV _ _ _ _ (iv 0 (none, 0)); rw [iv_zero]; exact resv_cell 0 s t rfl rfl rfl) (resv_tmp s rfl)) (fun w _ _ _ => optZF_none)
  ·
    subst hs
    rw [show minorP (some (r, k)) m.zs rs cs = some (bdet rs.length (ent (grid (sel m.zs rs cs) rs.length cs.length))) from if_pos ⟨h1, h2, h3⟩]
    refine tr_rseq ?_   -- region 2
    refine sq_q (qt_move rfl) rfl ?_   -- t17
    refine sq_q (qt_not rfl) rfl ?_   -- t18
    refine sq_q (qt_move rfl) rfl ?_   -- t19
    refine sq_gT rfl rfl ?_
    refine sq_q (qt_load rfl (fun w t => t.atO 2 rfl rfl)) rfl ?_   -- t20
    refine sq_gT rfl rfl ?_
    refine sq_q (qt_len rfl) rfl ?_   -- t21
    refine sq_gT rfl rfl ?_
    refine sq_q (qt_load rfl (fun w t => t.atO 1 rfl rfl)) rfl ?_   -- t22
    refine sq_gT rfl rfl ?_
    refine sq_q (qt_len rfl) rfl ?_   -- t23
    refine sq_gT rfl rfl ?_
    refine sq_q (qt_bin rfl rfl (bF bin_neq (by omega))) rfl ?_   -- t24
    refine sq_q (qt_pick rfl rfl) rfl ?_   -- t25
    refine sq_q (qt_move rfl) rfl ?_   -- t26
    refine sq_gT rfl rfl ?_
    refine sq_q (qt_load rfl (fun w t => t.atO 2 rfl rfl)) rfl ?_   -- t27
    refine sq_gT rfl rfl ?_
    refine sq_q (qt_move rfl) rfl ?_   -- t28
    refine sq_gT rfl rfl ?_
    refine sq_call (val := fun _ : Unit => .bool true) (F := fun _ _ => True) rfl rfl rfl (fun w t => by have h := fun S' => ascending_ret rs A c r w S' (t.rd hA) hrl; simp only [h2] at h; exact h _) fun _ => ?_   -- t29
    refine sq_gT rfl rfl ?_
    refine sq_q (qt_not rfl) rfl ?_   -- t30
    refine sq_q (qt_pick rfl rfl) rfl ?_   -- t31
    refine sq_q (qt_move rfl) rfl ?_   -- t32
    refine sq_gT rfl rfl ?_
    refine sq_q (qt_load rfl (fun w t => t.atO 1 rfl rfl)) rfl ?_   -- t33
    refine sq_gT rfl rfl ?_
    refine sq_q (qt_move rfl) rfl ?_   -- t34
    refine sq_gT rfl rfl ?_
    refine sq_call (val := fun _ : Unit => .bool true) (F := fun _ _ => True) rfl rfl rfl (fun w t => by have h := fun S' => ascending_ret cs A' c' k w S' (t.rd hA') hcl; simp only [h3] at h; exact h _) fun _ => ?_   -- t35
    refine sq_gT rfl rfl ?_
    refine sq_q (qt_not rfl) rfl ?_   -- t36
    refine sq_q (qt_pick rfl rfl) rfl ?_   -- t37
    refine sq_end ?_
    refine tr_ifF rfl ?_
    refine tr_skip ?_
    repeat (first | (with_reducible refine tr_skip ?_) | (with_reducible refine tr_exit ?_) | (with_reducible refine tr_then ?_) | (with_reducible refine tr_inX ?_) | (with_reducible refine tr_thenX ?_) | (with_reducible refine tr_inN ?_) | (with_reducible refine tr_inR ?_) | (with_reducible refine tr_thenR ?_))
    obtain ⟨q1, q2, q3, q4, q5, q6⟩ := shp_inv ho.symm
    have hn1 := asc_len h2
    have hra := asc_at h2
    have hca := asc_at h3
    rw [m.zs_len] at q1
    have hcol : ∀ q ∈ m.rs, q.l.length = k := fun q hq => by rw [← Rw.zs_len]; exact q6 _ (List.mem_map.2 ⟨q, hq, rfl⟩)
    refine tr_rseq ?_   -- region 4
    refine sq_q (qt_load rfl (fun w t => t.atO 2 rfl rfl)) rfl ?_   -- t39
    refine sq_q (qt_len rfl) rfl ?_   -- t40
    refine sq_q (qt_load rfl (fun w t => t.atO 1 rfl rfl)) rfl ?_   -- t41
    refine sq_q (qt_len rfl) rfl ?_   -- t42
    refine sq_q (qt_makeFunc rfl) rfl ?_   -- t43
    refine sq_call Mt.v (fun m' w => m'.okE B w0 w ∧ m'.zs = grid (sel m.zs rs cs) rs.length cs.length) rfl rfl rfl (fun w t => ?_) fun m' => ?_
    · refine (build2_ret (fun z => z.ok B w0) rs.length cs.length B (sel m.zs rs cs) 77 [] [.pointer (some ⟨r3, 0, none⟩), .pointer (some ⟨r4, 0, none⟩), .pointer (some ⟨r5, 0, none⟩)] w _ (by omega) (by omega) (fun i j w' S' hi hj hbel => ?_)).imp fun m' w' h => ⟨⟨h.1.1, h.1.2.1, fun q hq => ⟨(h.1.2.2 q hq).1, (h.1.2.2 q hq).2.1, fun z hz => .inl (h.2.2 q hq z hz)⟩⟩, h.2.1⟩
      have ga := hra.2 i hi
      have gb := hca.2 j hj
      have har : rs[i].toNat < m.rs.length := by omega
      have hbr : cs[j].toNat < (m.rs[rs[i].toNat]).l.length := by rw [hcol _ (List.getElem_mem har)]; omega
      refine (minor1_ret m B rs cs A A' c c' r3 r4 r5 i j rs[i].toNat cs[j].toNat w0 w' S' ((t.mt hm).below hbel) ((t.rd hA).below hbel) ((t.rd hA').below hbel) ((t.atO 3 rfl rfl).below hbel) ((t.atO 2 rfl rfl).below hbel) ((t.atO 1 rfl rfl).below hbel) hi hj (by omega) (by omega) har hbr).mono ?_
      rintro e w'' ⟨_, rfl, hb, _⟩
      have hz0 : (m.rs[rs[i].toNat].l[cs[j].toNat]).ok B w0 := (hm.2.2 _ (List.getElem_mem har)).2.2 _ (List.getElem_mem hbr)
      refine ⟨m.rs[rs[i].toNat].l[cs[j].toNat], rfl, hb, fun _ _ _ => ⟨⟨?_, hz0⟩, .inl ((t.zd hz0))⟩⟩
      unfold sel
      rw [show rs.getD i 0 = rs[i] by simp [List.getD, hi], show cs.getD j 0 = cs[j] by simp [List.getD, hj], ent_at (by rw [m.zs_len]; exact har) (by rw [m.zs_at har, Rw.zs_len]; exact hbr)]
      simp [m.zs_at har, Rw.zs]
    refine sq_have (fun w t => t.r.2.2) fun hgz => ?_   -- t44
    refine sq_call (iv (bdet rs.length (ent (grid (sel m.zs rs cs) rs.length cs.length)))) (optZF (some (bdet rs.length (ent (grid (sel m.zs rs cs) rs.length cs.length))))) rfl rfl rfl (fun w t => by rw [← hgz]; exact determinant_ret m' B rs.length w _ (t.r.2.1.get t) hB hB1 (grid_rows hgz).1 (by omega) (by omega) (fun q hq => by rw [(grid_rows hgz).2 q hq]; omega)) fun x => ?_   -- t45
    refine sq_store 0 rfl rfl rfl rfl (by first | (simp [u32s, Value.cells]; done) | (simp [u32s, Value.cells]; omega) | exact Nat.le_refl 2) rfl rfl ?_   -- R4.7
    refine sq_q (qt_assign rfl) rfl ?_   -- t7
    refine sq_end ?_
    refine tr_ret ?_
    repeat (first | (with_reducible refine tr_skip ?_) | (with_reducible refine tr_exit ?_) | (with_reducible refine tr_then ?_) | (with_reducible refine tr_inX ?_) | (with_reducible refine tr_thenX ?_) | (with_reducible refine tr_inN ?_) | (with_reducible refine tr_inR ?_) | (with_reducible refine tr_thenR ?_))
    exact tr_done x (fun a w s t => results_2 rfl (resv_cell 0 s t rfl rfl rfl) (resv_tmp s rfl)) (fun w h _ _ => h.2)
end Go.Qk
end
section
/- What Adjugate answers. -/
set_option linter.unusedVariables false
namespace Go.Qk
open Go Go.Proofs Go.RowKit
def othI (n i : Nat) : List Int := (oth n i).map fun (k : Nat) => (k : Int)
theorem i64s_othI (n i : Nat) : i64s (othI n i) = ints (oth n i) := by simp [i64s, othI, ints]
theorem othI_length (n i : Nat) : (othI n i).length = (oth n i).length := by simp [othI]
/-- an entry of the adjugate -/
def adjE (L : List (List Int)) (n i j : Nat) : Int := if (i + j) % 2 = 1 then -((minorO L (othI n j) (othI n i)).getD 0) else (minorO L (othI n j) (othI n i)).getD 0
/-- a slot that nobody reads is set, in the tail -/
theorem tx_any {P : Program} {n : Nat} {w0 : World} {X : List Nat} {S : Nat → Prop} {E : Env} {own : Own} {R : World → Prop} {Q : Exit → Act → World → Prop} {ops : Array Oper} {sl : List Nat} {Γ : Ctx} {os : List Oper} {x : Operand} {ty : TypeId} {d : Nat} {pos : String} {af : Array Edge} (hE : noLate sl E = true) (hd : noLate [d] E = true)
    (h : Tx P ops Q n sl Γ os (Sx n w0 X S E own R)) : Tx P ops Q n sl Γ (⟨some d, .assign x, ty, pos, af, none⟩ :: os) (Sx n w0 X S E own R) := by
  refine ⟨Sx n w0 X S E own R, sx_closed hE, fun a w hs hdf hst hl => ⟨rfl, ?_⟩, h⟩
  have e : (execOp a.eval ⟨some d, .assign x, ty, pos, af, none⟩).run P w = .ok (.value (a.eval x)) w := by simp [execOp]
  unfold Oper.wp
  rw [e]
  exact ⟨⟨_, rfl⟩, sx_closed hd a w d _ (List.mem_singleton.2 rfl) hst⟩
theorem minor_call {m : Mt} {B : Nat} {n i j : Nat} {p q : Sv} {w : World} {S : Nat → Prop} (hm : m.ok B w) (hB : B ≤ 8388607) (hB1 : 1 ≤ B) (hlen : m.rs.length = n) (hn : n ≤ 16) (hrow : ∀ r ∈ m.rs, r.l.length = n) (hp : Rd p.1 (ints (oth n j)) w) (hq : Rd q.1 (ints (oth n i)) w) :
    Ret Try.prog 31 [m.v, .slice p.1 (oth n j).length p.2, .slice q.1 (oth n i).length q.2] w S (optZV (minorO m.zs (othI n j) (othI n i))) (optZF (minorO m.zs (othI n j) (othI n i))) := by
  have h1 := oth_length n j
  have h2 := oth_length n i
  have h := minor_ret m B (othI n j) (othI n i) p.1 q.1 p.2 q.2 w S hm hB hB1 (by rw [i64s_othI]; exact hp) (by rw [i64s_othI]; exact hq) (by omega) (fun r hr => by rw [hrow r hr]; omega) (by rw [othI_length]; omega) (by rw [othI_length]; omega)
  rwa [othI_length, othI_length] at h
def adjO (L : List (List Int)) : Option (List (List Int)) := if sqb (shp L) = true then (if L.length = 1 then identO 1 else some (grid (adjE L L.length) L.length L.length)) else none
theorem Mt.al_can {m : Mt} (h : m.al Zd.can) : m.can := h
end Go.Qk
end
section
/- the entries of the adjugate -/
set_option linter.unusedVariables false
namespace Go.Qk
open Go Go.Proofs Go.RowKit
set_option maxRecDepth 100000
set_option maxHeartbeats 4000000

theorem adj1_ret (m : Mt) (B n b2 b3 i j : Nat) (w : World) (S : Nat → Prop) (hm : m.ok B w) (hB : B ≤ 8388607) (hB1 : 1 ≤ B) (hlen : m.rs.length = n) (hn16 : n ≤ 16) (hrow : ∀ r ∈ m.rs, r.l.length = n) (h2 : At b2 0 m.v w) (h3 : At b3 0 (.int .i64 (n : Int)) w) (hi : i < n) (hj : j < n) :
    Ret Try.prog 79 [.int .i64 (i : Int), .int .i64 (j : Int), .pointer (some ⟨b2, 0, none⟩), .pointer (some ⟨b3, 0, none⟩)] w S (iv (adjE m.zs n i j)) (fun p w => Lz (adjE m.zs n i j).natAbs p w ∧ nl (adjE m.zs n i j).natAbs ≤ 549755813887) := by
  obtain ⟨o, ho⟩ : ∃ o, o = minorO m.zs (othI n j) (othI n i) := ⟨_, rfl⟩
  have hA : adjE m.zs n i j = if (i + j) % 2 = 1 then -(o.getD 0) else o.getD 0 := by rw [ho]; rfl
  rw [hA]
  refine ret_of Try.func79 rfl Try.ntmps79 rfl ?_
  refine tr_rseq ?_   -- region 0
  refine sq_alloc rfl fun r6 => ?_   -- t6
  refine sq_end ?_
  refine tr_rdraw 12 [10] [19] [0, 1, 2, 3, 6, 7, 18, 24] (by kernel_rfl) ?_   -- region 1
  refine dx_q rfl (qt_load rfl (fun w t => t.atA h2)) rfl ?_   -- t10
  refine dx_q rfl (qt_load rfl (fun w t => t.atA h3)) rfl ?_   -- t11
  refine dx_q rfl (qt_move rfl) rfl ?_   -- t12
  refine dx_call (fun p : Sv => .slice p.1 (oth n j).length p.2) (fun p w => Rd p.1 (ints (oth n j)) w ∧ (oth n j).length ≤ p.2) rfl rfl rfl (fun w t => others_ret n j w _ (by omega)) ?_   -- t13
  refine dx_q rfl (qt_load rfl (fun w t => t.atA h3)) rfl ?_   -- t14
  refine dx_q rfl (qt_move rfl) rfl ?_   -- t15
  refine dx_call (fun p : Sv => .slice p.1 (oth n i).length p.2) (fun p w => Rd p.1 (ints (oth n i)) w ∧ (oth n i).length ≤ p.2) rfl rfl rfl (fun w t => others_ret n i w _ (by omega)) ?_   -- t16
  refine dx_call2 13 16 (optZV o) (optZF o) rfl rfl rfl (by simp) (by simp) (fun _ _ => rfl) (fun _ _ => rfl) (fun y z w t => by rw [ho]; exact minor_call (t.mt hm) hB hB1 hlen hn16 hrow t.r.1.2.1 t.r.2.1) ?_   -- t17
  refine dx_q1 17 (optZV o) rfl rfl (fun o ho => mem_looksAt (by rw [ho]; simp [Op.operands])) (fun _ => qt_move rfl) rfl ?_   -- t9
  refine dx_q1 9 (iv (o.getD 0)) rfl rfl (fun o ho => mem_looksAt (by rw [ho]; simp [Op.operands])) (fun _ => qt_extract rfl rfl) rfl ?_   -- t18
  refine dx_dead 9 rfl rfl (fun q => ⟨_, _, rfl, rfl⟩) ?_   -- t19
  refine dx_alloc rfl ?_   -- t7
  refine dx_nil ?_
  repeat (first | refine es_val rfl ?_ rfl | refine es_skip rfl ?_)
  refine es_res rfl (fun r7 => ?_) rfl
  repeat (first | refine es_val rfl ?_ rfl | refine es_skip rfl ?_)
  refine es_res rfl (fun x18 => ?_) rfl
  repeat (first | refine es_val rfl ?_ rfl | refine es_skip rfl ?_)
  refine es_adopt [zblk r7 z0, zblk r6 z0] (fun w => optZF o x18 w) rfl (fun w t => t.adoptL t.r.1.2.1 t.r.1.2.2.1 t.r.1.2.2.2 (not_u32b_z0 _ _) (fun w h => h.2) ((LimbR.lm _ _).and (LimbR.const _))) ?_
  refine tx_store 0 rfl rfl rfl rfl (Nat.le_refl 2) rfl rfl rfl ?_   -- _
  refine tx_any rfl rfl ?_   -- t8
  refine tx_endk ?_
  refine tr_own [zblk r7 (zd (o.getD 0) x18), zblk r6 z0] rfl ?_
  refine tr_seq ?_   -- C1
  refine tr_rseq ?_   -- region 2
  refine sq_q (qt_move rfl) rfl ?_   -- t20
  refine sq_q (qt_move rfl) rfl ?_   -- t21
  refine sq_q (qt_bin rfl rfl (bin_addI (by omega) (by omega))) rfl ?_   -- t22
  refine sq_q (qt_bin rfl rfl (bin_rem (by decide) (by omega))) rfl ?_   -- t23
  refine sq_q (qt_bin rfl rfl bin_eql) rfl ?_   -- t24
  refine sq_end ?_
  refine tr_if rfl (fun hc => ?_) (fun hc => ?_)
  ·
    have hodd : (i + j) % 2 = 1 := by have h := of_decide_eq_true hc; omega
    rw [if_pos hodd]
    refine tr_rseq ?_   -- region 3
    refine sq_q (qt_load2 rfl (fun w t => t.atO 0 rfl rfl) (fun w t => t.atO 0 rfl rfl)) rfl ?_   -- t25
    refine sq_call (iv (-(o.getD 0))) (Lz (-(o.getD 0)).natAbs) rfl rfl rfl (fun w t => by have h := fun S' => neg_zd (S := S') (zd_ok t.r.1 t.r.2) (by omega); rw [zd_z] at h; exact h _) fun x => ?_   -- t26
    refine sq_store 1 rfl rfl rfl rfl (by first | (simp [u32s, Value.cells]; done) | (simp [u32s, Value.cells]; omega) | exact Nat.le_refl 2) rfl rfl ?_   -- R3.2
    refine sq_end ?_
    refine tr_ret ?_
    repeat (first | (with_reducible refine tr_skip ?_) | (with_reducible refine tr_exit ?_) | (with_reducible refine tr_then ?_) | (with_reducible refine tr_inX ?_) | (with_reducible refine tr_thenX ?_) | (with_reducible refine tr_inN ?_) | (with_reducible refine tr_inR ?_) | (with_reducible refine tr_thenR ?_))
    exact tr_done x (fun a w s t => results_1 rfl (resv_cell 1 s t rfl rfl rfl)) (fun w h _ _ => ⟨h.2, by rw [Int.natAbs_neg]; exact h.1.2⟩)
  ·
    have hodd : ¬ (i + j) % 2 = 1 := by have h := of_decide_eq_false hc; omega
    rw [if_neg hodd]
    refine tr_skip ?_
    repeat (first | (with_reducible refine tr_skip ?_) | (with_reducible refine tr_exit ?_) | (with_reducible refine tr_then ?_) | (with_reducible refine tr_inX ?_) | (with_reducible refine tr_thenX ?_) | (with_reducible refine tr_inN ?_) | (with_reducible refine tr_inR ?_) | (with_reducible refine tr_thenR ?_))
    refine tr_rseq ?_   -- region 4
    refine sq_q (qt_load2 rfl (fun w t => t.atO 0 rfl rfl) (fun w t => t.atO 0 rfl rfl)) rfl ?_   -- t27
    refine sq_store 1 rfl rfl rfl rfl (Nat.le_refl 2) rfl rfl ?_   -- R4.1
    refine sq_end ?_
    refine tr_ret ?_
    repeat (first | (with_reducible refine tr_skip ?_) | (with_reducible refine tr_exit ?_) | (with_reducible refine tr_then ?_) | (with_reducible refine tr_inX ?_) | (with_reducible refine tr_thenX ?_) | (with_reducible refine tr_inN ?_) | (with_reducible refine tr_inR ?_) | (with_reducible refine tr_thenR ?_))
    exact tr_done x18 (fun a w s t => results_1 rfl (resv_cell 1 s t rfl rfl rfl)) (fun w h _ _ => h)
end Go.Qk
end
section
/- Adjugate -/
set_option linter.unusedVariables false
namespace Go.Qk
open Go Go.Proofs Go.RowKit
set_option maxRecDepth 100000
set_option maxHeartbeats 4000000

theorem adjugate_ret (m : Mt) (B : Nat) (w0 : World) (S : Nat → Prop) (hm : m.ok B w0) (hB : B ≤ 8388607) (hB1 : 1 ≤ B) (hlen : m.rs.length ≤ 35184372088832) (hrow : ∀ r ∈ m.rs, r.l.length ≤ 35184372088832) :
    Ret Try.prog 33 [m.v] w0 S (optV (adjO m.zs)) (optF 549755813887 (adjO m.zs)) := by
  obtain ⟨N, hN⟩ : ∃ N : Nat, N = ((shp m.zs).getD (0, 0)).1 := ⟨_, rfl⟩
  obtain ⟨sq, hsq⟩ : ∃ sq, sq = sqb (shp m.zs) := ⟨_, rfl⟩
  refine ret_of Try.func33 rfl Try.ntmps33 rfl ?_
  refine tr_rseq ?_   -- region 0
  refine sq_box rfl rfl fun r1 => ?_   -- t1
  refine sq_q (qt_assign rfl) rfl ?_   -- t2
  refine sq_q (qt_assign rfl) rfl ?_   -- t3
  refine sq_end ?_
  refine tr_rseq ?_   -- region 1
  refine sq_q (qt_load rfl (fun w t => t.atO 0 rfl rfl)) rfl ?_   -- t7
  refine sq_call (val := fun _ : Unit => .tuple #[.int .i64 (N : Int), .bool sq]) (F := fun _ _ => True) rfl rfl rfl (fun w t => by rw [hN, hsq]; exact square_ret m B w _ (t.mt hm) hlen hrow) fun _ => ?_   -- t8
  refine sq_q (qt_move rfl) rfl ?_   -- t6
  refine sq_q (qt_extract rfl rfl) rfl ?_   -- t9
  refine sq_q (qt_extract rfl rfl) rfl ?_   -- t10
  refine sq_alloc rfl fun r4 => ?_   -- t4
  refine sq_store 0 rfl rfl rfl rfl (by first | (simp [u32s, Value.cells]; done) | (simp [u32s, Value.cells]; omega) | exact Nat.le_refl 2) rfl rfl ?_   -- R1.6
  refine sq_q (qt_assign rfl) rfl ?_   -- t5
  refine sq_end ?_
  refine tr_seq ?_   -- C1
  refine tr_rseq ?_   -- region 2
  refine sq_q (qt_move rfl) rfl ?_   -- t11
  refine sq_q (qt_not rfl) rfl ?_   -- t12
  refine sq_end ?_
  refine tr_if rfl (fun hc => ?_) (fun hc => ?_)
  ·
    have hs : sqb (shp m.zs) = false := by rw [← hsq]; simpa using hc
    have e : adjO m.zs = none := by unfold adjO; rw [if_neg (by rw [hs]; decide)]
    rw [e]
    refine tr_rseq ?_   -- region 3
    refine sq_q (qt_assign rfl) rfl ?_   -- t2
    refine sq_q (qt_assign rfl) rfl ?_   -- t3
    refine sq_end ?_
    refine tr_ret ?_
    repeat (first | (with_reducible refine tr_skip ?_) | (with_reducible refine tr_exit ?_) | (with_reducible refine tr_then ?_) | (with_reducible refine tr_inX ?_) | (with_reducible refine tr_thenX ?_) | (with_reducible refine tr_inN ?_) | (with_reducible refine tr_inR ?_) | (with_reducible refine tr_thenR ?_))
    exact tr_done ⟨[], (none, 0)⟩ (fun a w s t => results_2 rfl (resv_tmp s rfl) (resv_tmp s rfl)) (fun w _ _ _ => optF_none _ _)
  ·
    have hs : sqb (shp m.zs) = true := by rw [← hsq]; simpa using hc
    obtain ⟨h1, h2, h3⟩ := sqr_rows hs
    have hNm : m.rs.length = N := by
      cases hq : shp m.zs with
      | none => rw [hq] at hs; simp [sqb] at hs
      | some rc =>
        have := (shp_inv (r := rc.1) (c := rc.2) hq).1
        rw [m.zs_len] at this
        rw [hN, hq, this]
        rfl
    refine tr_skip ?_
    repeat (first | (with_reducible refine tr_skip ?_) | (with_reducible refine tr_exit ?_) | (with_reducible refine tr_then ?_) | (with_reducible refine tr_inX ?_) | (with_reducible refine tr_thenX ?_) | (with_reducible refine tr_inN ?_) | (with_reducible refine tr_inR ?_) | (with_reducible refine tr_thenR ?_))
    refine tr_seq ?_   -- C2
    refine tr_rseq ?_   -- region 4
    refine sq_q (qt_load rfl (fun w t => t.atO 0 rfl rfl)) rfl ?_   -- t13
    refine sq_q (qt_bin rfl rfl bin_eql) rfl ?_   -- t14
    refine sq_end ?_
    refine tr_if rfl (fun hc => ?_) (fun hc => ?_)
    ·
      have hn1 : N = 1 := by have := of_decide_eq_true hc; omega
      have e : adjO m.zs = identO 1 := by unfold adjO; rw [if_pos hs, if_pos (by rw [m.zs_len]; omega)]
      rw [e]
      refine tr_rseq ?_   -- region 5
      refine sq_call (optV (identO 1)) (optF 1 (identO 1)) rfl rfl rfl (fun w t => identity_ret 1 w _) fun x => ?_   -- t15
      refine sq_q (qt_extract rfl rfl) rfl ?_   -- t16
      refine sq_q (qt_extract rfl rfl) rfl ?_   -- t17
      refine sq_q (qt_assign rfl) rfl ?_   -- t2
      refine sq_q (qt_assign rfl) rfl ?_   -- t3
      refine sq_end ?_
      refine tr_ret ?_
      repeat (first | (with_reducible refine tr_skip ?_) | (with_reducible refine tr_exit ?_) | (with_reducible refine tr_then ?_) | (with_reducible refine tr_inX ?_) | (with_reducible refine tr_thenX ?_) | (with_reducible refine tr_inN ?_) | (with_reducible refine tr_inR ?_) | (with_reducible refine tr_thenR ?_))
      exact tr_done x (fun a w s t => results_2 rfl (resv_tmp s rfl) (resv_tmp s rfl)) (fun w h _ _ => ⟨h.2.1.mono (by omega), h.2.2⟩)
    ·
      have hn1 : N ≠ 1 := by have := of_decide_eq_false hc; omega
      have e : adjO m.zs = some (grid (adjE m.zs N) N N) := by unfold adjO; rw [if_pos hs, if_neg (by rw [m.zs_len]; omega), m.zs_len, hNm]
      rw [e]
      refine tr_skip ?_
      repeat (first | (with_reducible refine tr_skip ?_) | (with_reducible refine tr_exit ?_) | (with_reducible refine tr_then ?_) | (with_reducible refine tr_inX ?_) | (with_reducible refine tr_thenX ?_) | (with_reducible refine tr_inN ?_) | (with_reducible refine tr_inR ?_) | (with_reducible refine tr_thenR ?_))
      refine tr_rseq ?_   -- region 6
      refine sq_q (qt_load rfl (fun w t => t.atO 0 rfl rfl)) rfl ?_   -- t18
      refine sq_q (qt_load rfl (fun w t => t.atO 0 rfl rfl)) rfl ?_   -- t19
      refine sq_q (qt_makeFunc rfl) rfl ?_   -- t20
      refine sq_call Mt.v (fun m' w => m'.ok 549755813887 w ∧ m'.zs = grid (adjE m.zs N) N N ∧ m'.can) rfl rfl rfl (fun w t => ?_) fun m' => ?_
      · exact build_ret N N 549755813887 (adjE m.zs N) 79 [] [.pointer (some ⟨r1, 0, none⟩), .pointer (some ⟨r4, 0, none⟩)] w _ (by omega) (by omega) (fun i j w' S' hi hj hbel => adj1_ret m B N r1 r4 i j w' S' ((t.mt hm).below hbel) hB hB1 hNm (by omega) (fun r hr => by rw [h3 r hr, hNm]) ((t.atO 1 rfl rfl).below hbel) ((t.atO 0 rfl rfl).below hbel) hi hj)   -- t21
      refine sq_q (qt_assign rfl) rfl ?_   -- t2
      refine sq_q (qt_assign rfl) rfl ?_   -- t3
      refine sq_end ?_
      refine tr_ret ?_
      repeat (first | (with_reducible refine tr_skip ?_) | (with_reducible refine tr_exit ?_) | (with_reducible refine tr_then ?_) | (with_reducible refine tr_inX ?_) | (with_reducible refine tr_thenX ?_) | (with_reducible refine tr_inN ?_) | (with_reducible refine tr_inR ?_) | (with_reducible refine tr_thenR ?_))
      exact tr_done m' (fun a w s t => results_2 rfl (resv_tmp s rfl) (resv_tmp s rfl)) (fun w h _ _ => h.2)
end Go.Qk
end
section
/- What Inverse answers. -/
set_option linter.unusedVariables false
namespace Go.Qk
open Go Go.Proofs Go.RowKit
def invE (L : List (List Int)) (d : Int) (i j : Nat) : Int := ent ((adjO L).getD []) i j * d
def invO (L : List (List Int)) : Option (List (List Int)) := if sqb (shp L) = true then (if bdet L.length (ent L) = 1 ∨ bdet L.length (ent L) = -1 then some (grid (invE L (bdet L.length (ent L))) L.length L.length) else none) else none
theorem adjO_rows {L : List (List Int)} (h : sqb (shp L) = true) : ∃ g, adjO L = some (grid g L.length L.length) := by
  unfold adjO
  rw [if_pos h]
  by_cases h1 : L.length = 1
  · rw [if_pos h1, h1]
    exact ⟨ident, rfl⟩
  · rw [if_neg h1]
    exact ⟨_, rfl⟩
theorem int64_iv (z : Int) (p : Sv) (w : World) (S : Nat → Prop) (h : Lz z.natAbs p w) (hb : nl z.natAbs ≤ 35184372088832) :
    Ret Try.prog 85 [iv z p] w S (fun _ : Unit => int64V z) (fun _ _ => True) := by
  have h := int64_ret (decide (z < 0)) (limbsOf z.natAbs) p w S h (lim_limbsOf _) hb
  rwa [val_limbsOf, sgn_self] at h
end Go.Qk
end
section
/- the entries of the inverse -/
set_option linter.unusedVariables false
namespace Go.Qk
open Go Go.Proofs Go.RowKit
set_option maxRecDepth 100000
set_option maxHeartbeats 4000000

theorem inv1_ret (m : Mt) (B b2 b3 i j : Nat) (d : Int) (w : World) (S : Nat → Prop) (hm : m.ok B w) (hB : B ≤ 35184372088830) (h2 : At b2 0 m.v w) (h3 : At b3 0 (.int .i64 d) w) (hd : In64 d) (hi : i < m.rs.length) (hj : j < m.rs[i].l.length) :
    Ret Try.prog 86 [.int .i64 (i : Int), .int .i64 (j : Int), .pointer (some ⟨b2, 0, none⟩), .pointer (some ⟨b3, 0, none⟩)] w S (iv (ent m.zs i j * d)) (fun p w => Lz (ent m.zs i j * d).natAbs p w ∧ nl (ent m.zs i j * d).natAbs ≤ B + 2) := by
  obtain ⟨ro, oo, evm, hat⟩ := hm.at_ (show 0 < m.rs.length by omega)
  obtain ⟨rr, orr, evr, hatr⟩ := (hm.2.2 _ (List.getElem_mem hi)).at_ (show 0 < m.rs[i].l.length by omega)
  rw [evm] at h2
  have hr := hat i hi
  rw [evr] at hr
  obtain ⟨hz0, hz1⟩ := hatr j hj
  have hzok := (hm.2.2 _ (List.getElem_mem hi)).2.2 _ (List.getElem_mem hj)
  have hent : ent m.zs i j = m.rs[i].l[j].z := by
    rw [ent_at (by rw [m.zs_len]; exact hi) (by rw [m.zs_at hi, Rw.zs_len]; exact hj)]
    simp [m.zs_at hi, Rw.zs]
  rw [hent]
  have hbd : nl (m.rs[i].l[j].z * d).natAbs ≤ B + 2 := by
    have h1 := nl_imul m.rs[i].l[j].z d
    have h2 := nl_zd hzok
    have h3 := nl_64 hd
    omega
  refine ret_of Try.func86 rfl Try.ntmps86 rfl ?_
  refine tr_rseq ?_   -- region 0
  refine sq_alloc rfl fun r6 => ?_   -- t6
  refine sq_end ?_
  refine tr_rdraw 10 [] [] [0, 1, 2, 3, 6, 16] (by kernel_rfl) ?_   -- region 1
  refine dx_q rfl (qt_load rfl (fun w t => t.atA h2)) rfl ?_   -- t7
  refine dx_q rfl (qt_move rfl) rfl ?_   -- t8
  refine dx_q rfl (qt_index (i := i) rfl rfl hi) rfl ?_   -- t9
  refine dx_q rfl (qt_load rfl (fun w t => t.a1 hr)) rfl ?_   -- t10
  refine dx_q rfl (qt_move rfl) rfl ?_   -- t11
  refine dx_q rfl (qt_index (i := j) rfl rfl hj) rfl ?_   -- t12
  refine dx_q rfl (qt_load2 rfl (fun w t => t.atA hz0) (fun w t => t.atA hz1)) rfl ?_   -- t13
  refine dx_q rfl (qt_load rfl (fun w t => t.atA h3)) rfl ?_   -- t14
  refine dx_call (iv d) (Lz d.natAbs) rfl rfl rfl (fun w t => small_ret d w _ hd.1 hd.2) ?_   -- t15
  refine dx_call1 15 (iv (m.rs[i].l[j].z * d)) (Lz (m.rs[i].l[j].z * d).natAbs) rfl rfl (by simp) rfl (fun _ => rfl) (fun _ => rfl) (fun y w t => by have h := fun S' => mul_zd (S := S') (t.zd hzok) (zd_ok t.r.2 (nl_64 hd)) (by omega); rw [zd_z] at h; exact h _) ?_   -- t16
  refine dx_nil ?_
  repeat (first | refine es_val rfl ?_ rfl | refine es_skip rfl ?_)
  refine es_res rfl (fun x16 => ?_) rfl
  repeat (first | refine es_val rfl ?_ rfl | refine es_skip rfl ?_)
  refine es_nil rfl ?_
  refine tx_store 0 rfl rfl rfl rfl (by first | (simp [u32s, Value.cells]; done) | (simp [u32s, Value.cells]; omega) | exact Nat.le_refl 2) rfl rfl rfl ?_   -- _
  refine tx_endk ?_
  refine tr_ret ?_
  repeat (first | (with_reducible refine tr_skip ?_) | (with_reducible refine tr_exit ?_) | (with_reducible refine tr_then ?_) | (with_reducible refine tr_inX ?_) | (with_reducible refine tr_thenX ?_) | (with_reducible refine tr_inN ?_) | (with_reducible refine tr_inR ?_) | (with_reducible refine tr_thenR ?_))
  exact tr_done x16 (fun a w s t => results_1 rfl (resv_cell 0 s t rfl rfl rfl)) (fun w h _ _ => ⟨h.2, hbd⟩)
end Go.Qk
end
section
/- Inverse -/
set_option linter.unusedVariables false
namespace Go.Qk
open Go Go.Proofs Go.RowKit
set_option maxRecDepth 100000
set_option maxHeartbeats 4000000

theorem inverse_ret (m : Mt) (B : Nat) (w0 : World) (S : Nat → Prop) (hm : m.ok B w0) (hB : B ≤ 8388607) (hB1 : 1 ≤ B) (hlen : m.rs.length ≤ 35184372088832) (hrow : ∀ r ∈ m.rs, r.l.length ≤ 35184372088832) :
    Ret Try.prog 40 [m.v] w0 S (optV (invO m.zs)) (optF 549755813889 (invO m.zs)) := by
  obtain ⟨N, hN⟩ : ∃ N : Nat, N = ((shp m.zs).getD (0, 0)).1 := ⟨_, rfl⟩
  obtain ⟨sq, hsq⟩ : ∃ sq, sq = sqb (shp m.zs) := ⟨_, rfl⟩
  refine ret_of Try.func40 rfl Try.ntmps40 rfl ?_
  refine tr_rseq ?_   -- region 0
  refine sq_q (qt_assign rfl) rfl ?_   -- t2
  refine sq_q (qt_assign rfl) rfl ?_   -- t3
  refine sq_end ?_
  refine tr_rseq ?_   -- region 1
  refine sq_q (qt_move rfl) rfl ?_   -- t11
  refine sq_call (val := fun _ : Unit => .tuple #[.int .i64 (N : Int), .bool sq]) (F := fun _ _ => True) rfl rfl rfl (fun w t => by rw [hN, hsq]; exact square_ret m B w _ (t.mt hm) hlen hrow) fun _ => ?_   -- t12
  refine sq_q (qt_move rfl) rfl ?_   -- t10
  refine sq_q (qt_extract rfl rfl) rfl ?_   -- t13
  refine sq_q (qt_extract rfl rfl) rfl ?_   -- t14
  refine sq_q (qt_assign rfl) rfl ?_   -- t4
  refine sq_q (qt_assign rfl) rfl ?_   -- t5
  refine sq_end ?_
  refine tr_seq ?_   -- C1
  refine tr_rseq ?_   -- region 2
  refine sq_q (qt_move rfl) rfl ?_   -- t15
  refine sq_q (qt_not rfl) rfl ?_   -- t16
  refine sq_end ?_
  refine tr_if rfl (fun hc => ?_) (fun hc => ?_)
  ·
    have hs : sqb (shp m.zs) = false := by rw [← hsq]; simpa using hc
    have e : invO m.zs = none := by unfold invO; rw [if_neg (by rw [hs]; decide)]
    rw [e]
    refine tr_rseq ?_   -- region 3
    refine sq_q (qt_assign rfl) rfl ?_   -- t2
    refine sq_q (qt_assign rfl) rfl ?_   -- t3
    refine sq_end ?_
    refine tr_ret ?_
    repeat (first | (with_reducible refine tr_skip ?_) | (with_reducible refine tr_exit ?_) | (with_reducible refine tr_then ?_) | (with_reducible refine tr_inX ?_) | (with_reducible refine tr_thenX ?_) | (with_reducible refine tr_inN ?_) | (with_reducible refine tr_inR ?_) | (with_reducible refine tr_thenR ?_))
    exact tr_done ⟨[], (none, 0)⟩ (fun a w s t => results_2 rfl (resv_tmp s rfl) (resv_tmp s rfl)) (fun w _ _ _ => optF_none _ _)
  ·
    have hs : sqb (shp m.zs) = true := by rw [← hsq]; simpa using hc
    obtain ⟨h1, h2, h3⟩ := sqr_rows hs
    have hNm : m.rs.length = N := by
      cases hq : shp m.zs with
      | none => rw [hq] at hs; simp [sqb] at hs
      | some rc =>
        have := (shp_inv (r := rc.1) (c := rc.2) hq).1
        rw [m.zs_len] at this
        rw [hN, hq, this]
        rfl
    obtain ⟨D, hD⟩ : ∃ D, D = bdet m.rs.length (ent m.zs) := ⟨_, rfl⟩
    obtain ⟨g2, hg2⟩ := adjO_rows hs
    rw [m.zs_len, hNm] at hg2
    have hO : invO m.zs = if D = 1 ∨ D = -1 then some (grid (invE m.zs D) N N) else none := by unfold invO; rw [if_pos hs, m.zs_len, ← hD, hNm]
    refine tr_skip ?_
    repeat (first | (with_reducible refine tr_skip ?_) | (with_reducible refine tr_exit ?_) | (with_reducible refine tr_then ?_) | (with_reducible refine tr_inX ?_) | (with_reducible refine tr_thenX ?_) | (with_reducible refine tr_inN ?_) | (with_reducible refine tr_inR ?_) | (with_reducible refine tr_thenR ?_))
    refine tr_rseq ?_   -- region 4
    refine sq_q (qt_move rfl) rfl ?_   -- t18
    refine sq_call (iv D) (fun p w => Lz D.natAbs p w ∧ nl D.natAbs ≤ 549755813887) rfl rfl rfl (fun w t => by rw [hD]; exact determinant_ret m B m.rs.length w _ (t.mt hm) hB hB1 rfl h1 h2 h3) fun x19 => ?_   -- t19
    refine sq_call (val := fun _ : Unit => int64V D) (F := fun _ _ => True) rfl rfl rfl (fun w t => int64_iv D x19 w _ t.r.2.1 (by have := t.r.2.2; omega)) fun _ => ?_
    obtain ⟨dv, hdv⟩ : ∃ dv : Int, dv = if In64 D then D else 0 := ⟨_, rfl⟩
    obtain ⟨okb, hokb⟩ : ∃ okb : Bool, okb = decide (In64 D) := ⟨_, rfl⟩
    have e64 : int64V D = .tuple #[.int .i64 dv, .bool okb] := by rw [hdv, hokb]; rfl
    rw [e64]   -- t20
    refine sq_q (qt_move rfl) rfl ?_   -- t17
    refine sq_q (qt_extract rfl rfl) rfl ?_   -- t21
    refine sq_q (qt_extract rfl rfl) rfl ?_   -- t22
    refine sq_alloc rfl fun r6 => ?_   -- t6
    refine sq_store 0 rfl rfl rfl rfl (by first | (simp [u32s, Value.cells]; done) | (simp [u32s, Value.cells]; omega) | exact Nat.le_refl 2) rfl rfl ?_   -- R4.7
    refine sq_q (qt_assign rfl) rfl ?_   -- t7
    refine sq_end ?_
    refine tr_seq ?_   -- C2
    have hcase : okb = false ∨ (okb = true ∧ dv = 1) ∨ (okb = true ∧ dv = -1) ∨ (okb = true ∧ dv ≠ 1 ∧ dv ≠ -1) := by
      cases okb
      · exact .inl rfl
      · by_cases h1 : dv = 1
        · exact .inr (.inl ⟨rfl, h1⟩)
        · by_cases h2 : dv = -1
          · exact .inr (.inr (.inl ⟨rfl, h2⟩))
          · exact .inr (.inr (.inr ⟨rfl, h1, h2⟩))
    have hin : okb = true → In64 D ∧ dv = D := fun h => by
      rw [h] at hokb
      have h1 : In64 D := by simpa using hokb.symm
      exact ⟨h1, by rw [hdv, if_pos h1]⟩
    rcases hcase with h0 | ⟨h0, h1v⟩ | ⟨h0, h1v⟩ | ⟨h0, h1v, h2v⟩
    ·
      subst h0
      have hO2 : invO m.zs = none := by
        rw [hO, if_neg]
        have hn : ¬ In64 D := by simpa using hokb.symm
        rintro (h | h) <;> exact hn (by unfold In64; omega)
      rw [hO2]
      refine tr_rseq ?_   -- region 5
      refine sq_q (qt_move rfl) rfl ?_   -- t23
      refine sq_q (qt_not rfl) rfl ?_   -- t24
      refine sq_q (qt_move rfl) rfl ?_   -- t25
      refine sq_gF rfl rfl rfl rfl ?_
      refine sq_gF rfl rfl rfl rfl ?_
      refine sq_gF rfl rfl rfl rfl ?_
      refine sq_gU rfl rfl rfl ?_
      refine sq_gU rfl rfl rfl ?_
      refine sq_gF rfl rfl rfl rfl ?_
      refine sq_q (qt_pick rfl rfl) rfl ?_   -- t32
      refine sq_end ?_
      refine tr_ifT rfl ?_
      refine tr_rseq ?_   -- region 6
      refine sq_q (qt_assign rfl) rfl ?_   -- t2
      refine sq_q (qt_assign rfl) rfl ?_   -- t3
      refine sq_end ?_
      refine tr_ret ?_
      repeat (first | (with_reducible refine tr_skip ?_) | (with_reducible refine tr_exit ?_) | (with_reducible refine tr_then ?_) | (with_reducible refine tr_inX ?_) | (with_reducible refine tr_thenX ?_) | (with_reducible refine tr_inN ?_) | (with_reducible refine tr_inR ?_) | (with_reducible refine tr_thenR ?_))
      exact tr_done ⟨[], (none, 0)⟩ (fun a w s t => results_2 rfl (resv_tmp s rfl) (resv_tmp s rfl)) (fun w _ _ _ => optF_none _ _)
    ·
      have hDv : D = 1 := by rw [← (hin h0).2]; exact h1v
      have hDin : In64 D := (hin h0).1
      have hO2 : invO m.zs = some (grid (invE m.zs D) N N) := by rw [hO, if_pos (.inl hDv)]
      rw [hO2]
      have hdvD : dv = D := (hin h0).2
      clear hin hdv hokb hO e64
      subst h0
      refine tr_rseq ?_   -- region 5
      refine sq_q (qt_move rfl) rfl ?_   -- t23
      refine sq_q (qt_not rfl) rfl ?_   -- t24
      refine sq_q (qt_move rfl) rfl ?_   -- t25
      refine sq_gT rfl rfl ?_
      refine sq_q (qt_load rfl (fun w t => t.atO 0 rfl rfl)) rfl ?_   -- t26
      refine sq_gT rfl rfl ?_
      refine sq_q (qt_bin rfl rfl (bF bin_neq (by omega))) rfl ?_   -- t27
      refine sq_gT rfl rfl ?_
      refine sq_q (qt_move rfl) rfl ?_   -- t28
      refine sq_gF rfl rfl rfl rfl ?_
      refine sq_gF rfl rfl rfl rfl ?_
      refine sq_gT rfl rfl ?_
      refine sq_q (qt_pick rfl rfl) rfl ?_   -- t31
      refine sq_q (qt_pick rfl rfl) rfl ?_   -- t32
      refine sq_end ?_
      refine tr_ifF rfl ?_
      refine tr_skip ?_
      repeat (first | (with_reducible refine tr_skip ?_) | (with_reducible refine tr_exit ?_) | (with_reducible refine tr_then ?_) | (with_reducible refine tr_inX ?_) | (with_reducible refine tr_thenX ?_) | (with_reducible refine tr_inN ?_) | (with_reducible refine tr_inR ?_) | (with_reducible refine tr_thenR ?_))
      refine tr_rseq ?_   -- region 7
      refine sq_q (qt_move rfl) rfl ?_   -- t34
      subst hdvD
      refine sq_call (optV (adjO m.zs)) (optF 549755813887 (adjO m.zs)) rfl rfl rfl (fun w t => adjugate_ret m B w _ (t.mt hm) hB hB1 hlen hrow) fun m2 => ?_
      refine sq_have (fun w t => t.r.2.2.1) fun hz2 => ?_
      rw [hg2] at hz2
      obtain ⟨hl2, hr2⟩ := grid_rows hz2   -- t35
      refine sq_q (qt_move rfl) rfl ?_   -- t33
      refine sq_q (qt_extract rfl rfl) rfl ?_   -- t36
      refine sq_q (qt_extract rfl rfl) rfl ?_   -- t37
      refine sq_alloc rfl fun r8 => ?_   -- t8
      refine sq_store 0 rfl rfl rfl rfl (Nat.le_refl 1) rfl rfl ?_   -- R7.6
      refine sq_q (qt_assign rfl) rfl ?_   -- t9
      refine sq_end ?_
      refine tr_rseq ?_   -- region 8
      refine sq_q (qt_move rfl) rfl ?_   -- t38
      refine sq_q (qt_move rfl) rfl ?_   -- t39
      refine sq_q (qt_makeFunc rfl) rfl ?_   -- t40
      refine sq_call Mt.v (fun m' w => m'.ok 549755813889 w ∧ m'.zs = grid (invE m.zs dv) N N ∧ m'.can) rfl rfl rfl (fun w t => ?_) fun m' => ?_
      · refine build_ret N N 549755813889 (invE m.zs dv) 86 [] [.pointer (some ⟨r8, 0, none⟩), .pointer (some ⟨r6, 0, none⟩)] w _ (by omega) (by omega) (fun i j w' S' hi hj hbel => ?_)
        have e : invE m.zs dv i j = ent m2.zs i j * dv := by unfold invE; rw [hg2, hz2]
        rw [e]
        exact inv1_ret m2 549755813887 r8 r6 i j dv w' S' (t.r.2.1.below hbel) (by omega) ((t.atO 0 rfl rfl).below hbel) ((t.atO 1 rfl rfl).below hbel) hDin (by omega) (by rw [hr2 _ (List.getElem_mem _)]; exact hj)   -- t41
      refine sq_q (qt_assign rfl) rfl ?_   -- t2
      refine sq_q (qt_assign rfl) rfl ?_   -- t3
      refine sq_end ?_
      refine tr_ret ?_
      repeat (first | (with_reducible refine tr_skip ?_) | (with_reducible refine tr_exit ?_) | (with_reducible refine tr_then ?_) | (with_reducible refine tr_inX ?_) | (with_reducible refine tr_thenX ?_) | (with_reducible refine tr_inN ?_) | (with_reducible refine tr_inR ?_) | (with_reducible refine tr_thenR ?_))
      exact tr_done m' (fun a w s t => results_2 rfl (resv_tmp s rfl) (resv_tmp s rfl)) (fun w h _ _ => h.2)
    ·
      have hDv : D = -1 := by rw [← (hin h0).2]; exact h1v
      have hDin : In64 D := (hin h0).1
      have hO2 : invO m.zs = some (grid (invE m.zs D) N N) := by rw [hO, if_pos (.inr hDv)]
      rw [hO2]
      have hdvD : dv = D := (hin h0).2
      clear hin hdv hokb hO e64
      subst h0
      refine tr_rseq ?_   -- region 5
      refine sq_q (qt_move rfl) rfl ?_   -- t23
      refine sq_q (qt_not rfl) rfl ?_   -- t24
      refine sq_q (qt_move rfl) rfl ?_   -- t25
      refine sq_gT rfl rfl ?_
      refine sq_q (qt_load rfl (fun w t => t.atO 0 rfl rfl)) rfl ?_   -- t26
      refine sq_gT rfl rfl ?_
      refine sq_q (qt_bin rfl rfl (bT bin_neq (by omega))) rfl ?_   -- t27
      refine sq_gT rfl rfl ?_
      refine sq_q (qt_move rfl) rfl ?_   -- t28
      refine sq_gT rfl rfl ?_
      refine sq_q (qt_load rfl (fun w t => t.atO 0 rfl rfl)) rfl ?_   -- t29
      refine sq_gT rfl rfl ?_
      refine sq_q (qt_bin rfl rfl (bF bin_neq (by omega))) rfl ?_   -- t30
      refine sq_gT rfl rfl ?_
      refine sq_q (qt_pick rfl rfl) rfl ?_   -- t31
      refine sq_q (qt_pick rfl rfl) rfl ?_   -- t32
      refine sq_end ?_
      refine tr_ifF rfl ?_
      refine tr_skip ?_
      repeat (first | (with_reducible refine tr_skip ?_) | (with_reducible refine tr_exit ?_) | (with_reducible refine tr_then ?_) | (with_reducible refine tr_inX ?_) | (with_reducible refine tr_thenX ?_) | (with_reducible refine tr_inN ?_) | (with_reducible refine tr_inR ?_) | (with_reducible refine tr_thenR ?_))
      refine tr_rseq ?_   -- region 7
      refine sq_q (qt_move rfl) rfl ?_   -- t34
      subst hdvD
      refine sq_call (optV (adjO m.zs)) (optF 549755813887 (adjO m.zs)) rfl rfl rfl (fun w t => adjugate_ret m B w _ (t.mt hm) hB hB1 hlen hrow) fun m2 => ?_
      refine sq_have (fun w t => t.r.2.2.1) fun hz2 => ?_
      rw [hg2] at hz2
      obtain ⟨hl2, hr2⟩ := grid_rows hz2   -- t35
      refine sq_q (qt_move rfl) rfl ?_   -- t33
      refine sq_q (qt_extract rfl rfl) rfl ?_   -- t36
      refine sq_q (qt_extract rfl rfl) rfl ?_   -- t37
      refine sq_alloc rfl fun r8 => ?_   -- t8
      refine sq_store 0 rfl rfl rfl rfl (Nat.le_refl 1) rfl rfl ?_   -- R7.6
      refine sq_q (qt_assign rfl) rfl ?_   -- t9
      refine sq_end ?_
      refine tr_rseq ?_   -- region 8
      refine sq_q (qt_move rfl) rfl ?_   -- t38
      refine sq_q (qt_move rfl) rfl ?_   -- t39
      refine sq_q (qt_makeFunc rfl) rfl ?_   -- t40
      refine sq_call Mt.v (fun m' w => m'.ok 549755813889 w ∧ m'.zs = grid (invE m.zs dv) N N ∧ m'.can) rfl rfl rfl (fun w t => ?_) fun m' => ?_
      · refine build_ret N N 549755813889 (invE m.zs dv) 86 [] [.pointer (some ⟨r8, 0, none⟩), .pointer (some ⟨r6, 0, none⟩)] w _ (by omega) (by omega) (fun i j w' S' hi hj hbel => ?_)
        have e : invE m.zs dv i j = ent m2.zs i j * dv := by unfold invE; rw [hg2, hz2]
        rw [e]
        exact inv1_ret m2 549755813887 r8 r6 i j dv w' S' (t.r.2.1.below hbel) (by omega) ((t.atO 0 rfl rfl).below hbel) ((t.atO 1 rfl rfl).below hbel) hDin (by omega) (by rw [hr2 _ (List.getElem_mem _)]; exact hj)   -- t41
      refine sq_q (qt_assign rfl) rfl ?_   -- t2
      refine sq_q (qt_assign rfl) rfl ?_   -- t3
      refine sq_end ?_
      refine tr_ret ?_
      repeat (first | (with_reducible refine tr_skip ?_) | (with_reducible refine tr_exit ?_) | (with_reducible refine tr_then ?_) | (with_reducible refine tr_inX ?_) | (with_reducible refine tr_thenX ?_) | (with_reducible refine tr_inN ?_) | (with_reducible refine tr_inR ?_) | (with_reducible refine tr_thenR ?_))
      exact tr_done m' (fun a w s t => results_2 rfl (resv_tmp s rfl) (resv_tmp s rfl)) (fun w h _ _ => h.2)
    ·
      have hO2 : invO m.zs = none := by
        rw [hO, if_neg]
        rw [← (hin h0).2]
        rintro (h | h)
        · exact h1v h
        · exact h2v h
      rw [hO2]
      clear hin hdv hokb hO e64
      subst h0
      refine tr_rseq ?_   -- region 5
      refine sq_q (qt_move rfl) rfl ?_   -- t23
      refine sq_q (qt_not rfl) rfl ?_   -- t24
      refine sq_q (qt_move rfl) rfl ?_   -- t25
      refine sq_gT rfl rfl ?_
      refine sq_q (qt_load rfl (fun w t => t.atO 0 rfl rfl)) rfl ?_   -- t26
      refine sq_gT rfl rfl ?_
      refine sq_q (qt_bin rfl rfl (bT bin_neq (by omega))) rfl ?_   -- t27
      refine sq_gT rfl rfl ?_
      refine sq_q (qt_move rfl) rfl ?_   -- t28
      refine sq_gT rfl rfl ?_
      refine sq_q (qt_load rfl (fun w t => t.atO 0 rfl rfl)) rfl ?_   -- t29
      refine sq_gT rfl rfl ?_
      refine sq_q (qt_bin rfl rfl (bT bin_neq (by omega))) rfl ?_   -- t30
      refine sq_gT rfl rfl ?_
      refine sq_q (qt_pick rfl rfl) rfl ?_   -- t31
      refine sq_q (qt_pick rfl rfl) rfl ?_   -- t32
      refine sq_end ?_
      refine tr_ifT rfl ?_
      refine tr_rseq ?_   -- region 6
      refine sq_q (qt_assign rfl) rfl ?_   -- t2
      refine sq_q (qt_assign rfl) rfl ?_   -- t3
      refine sq_end ?_
      refine tr_ret ?_
      repeat (first | (with_reducible refine tr_skip ?_) | (with_reducible refine tr_exit ?_) | (with_reducible refine tr_then ?_) | (with_reducible refine tr_inX ?_) | (with_reducible refine tr_thenX ?_) | (with_reducible refine tr_inN ?_) | (with_reducible refine tr_inR ?_) | (with_reducible refine tr_thenR ?_))
      exact tr_done ⟨[], (none, 0)⟩ (fun a w s t => results_2 rfl (resv_tmp s rfl) (resv_tmp s rfl)) (fun w _ _ _ => optF_none _ _)
end Go.Qk
end
section
/- Rules for the law functions: literals in a region whose order is open; matrices of two rows. -/
set_option linter.unusedVariables false
namespace Go.Qk
open Go Go.Proofs Go.RowKit
section
variable {P : Program} {ops : Array Oper} {Q : Exit → Act → World → Prop} {n : Nat} {w0 : World} {X : List Nat} {S : Nat → Prop} {own : Own} {R : World → Prop}
variable {late : Nat → Bool} {i : Nat} {os : List Oper} {Γ : Ctx} {K : Ctx → Prop}
theorem hok_lkC {a : Act} {w : World} {o : Oper} (hok : ∀ t ∈ o.looksAt ops, ∀ e, lookC Γ t = some e → e.ok (a.tmps.getD t undef) w) : ∀ t, Operand.tmp t ∈ o.op.operands → ∀ v, lkC Γ t = some v → a.tmps.getD t undef = v := fun t ht u hu => by
  unfold lkC at hu
  split at hu
  · rename_i u' he
    injection hu with hu
    subst hu
    exact hok t (mem_looksAt ht) _ he
  · simp at hu
theorem hok_lk2 {a : Act} {w : World} {o : Oper} {t t' : Nat} {v v' : Value} (hok : ∀ t ∈ o.looksAt ops, ∀ e, lookC Γ t = some e → e.ok (a.tmps.getD t undef) w) (h1 : a.tmps.getD t undef = v) (h2 : a.tmps.getD t' undef = v') : ∀ s, Operand.tmp s ∈ o.op.operands → ∀ u, lk2 Γ t v t' v' s = some u → a.tmps.getD s undef = u := fun s hs u hu => by
  unfold lk2 at hu
  cases hb : Nat.beq t s with
  | true =>
    rw [hb] at hu
    have := Nat.eq_of_beq_eq_true hb
    subst this
    simp at hu
    rw [← hu]; exact h1
  | false =>
    rw [hb] at hu
    simp only [cond_false] at hu
    cases hb' : Nat.beq t' s with
    | true =>
      rw [hb'] at hu
      have := Nat.eq_of_beq_eq_true hb'
      subst this
      simp at hu
      rw [← hu]; exact h2
    | false =>
      rw [hb'] at hu
      simp only [cond_false] at hu
      exact hok_lkC hok s hs u hu
theorem run_lit {t e : TypeId} {agg : Bool} {sz by_ : Nat} {z : Value} [hs : SlT P t e] [hT : TyI P e agg sz by_ z] {lk : Nat → Option Value} {ρ : Operand → Value} (hρ : Agr lk ρ) {len : Nat} {xs : List (Nat × Operand)} {vs : List (Nat × Value)} {cells : List Value} {ty : TypeId} {d : Option Tmp} {pos : String} {af : Array Edge} {g : Option (Nat × Bool)} {w : World} (hx : evp lk xs = some vs)
    (hlen : Nat.ble (len * sz) 1000 = true) (hpos : Nat.blt 0 (len * sz) = true) (hf : Instr.fill (fun i => some (i * sz, sz)) ((Array.range (len * sz)).map (z.cells[· % z.cells.size]!)) vs = some cells.toArray) :
    (execOp ρ ⟨d, .buildSlice t len xs.toArray, ty, pos, af, g⟩).run P w = .ok (.value (.slice (some ⟨w.heap.size, 0, none⟩) len len)) (w.alloc (.cells cells.toArray e (0, 0))) := by
  have h1 : ¬ (len * sz > 2 ^ 24) := by have : len * sz ≤ 1000 := by simpa using hlen
                                        omega
  have h2 : ¬ (len * sz = 0) := by have : 0 < len * sz := by simpa using hpos
                                   omega
  have e0 : (List.map (fun (x : Nat × Operand) => match x with | (i, x) => (i, ρ x)) xs) = vs := by rw [← evp_map hρ hx]
  simp only [execOp, List.map_toArray, e0, Instr.buildSlice, Sem.run_bind, run_underlying hs.u, Result.andThen_ok, hT.sizeOf w, if_neg h1, if_neg h2, Sem.run_pure, hT.zero w, hf]
  simp [newRow]
theorem dx_lit {t e : TypeId} {agg : Bool} {sz by_ : Nat} {z : Value} [hs : SlT P t e] [hT : TyI P e agg sz by_ z] {len : Nat} {xs : List (Nat × Operand)} {vs : List (Nat × Value)} {cells : List Value} {ty : TypeId} {d : Nat} {pos : String} {af : Array Edge} (hl : late i = false) (hx : evp (lkC Γ) xs = some vs)
    (hlen : Nat.ble (len * sz) 1000 = true) (hpos : Nat.blt 0 (len * sz) = true) (hf : Instr.fill (fun i => some (i * sz, sz)) ((Array.range (len * sz)).map (z.cells[· % z.cells.size]!)) vs = some cells.toArray)
    (h : Dx P ops Q n (SS w0 X S own R) Bl late (i + 1) os ((d, .pr (ResF w0 S own (fun r : Nat => .slice (some ⟨r, 0, none⟩) len len) (fun r w => w.heap[r]? = some (.cells cells.toArray e (0, 0))))) :: Γ) K) :
    Dx P ops Q n (SS w0 X S own R) Bl late i (⟨some d, .buildSlice t len xs.toArray, ty, pos, af, none⟩ :: os) Γ K := by
  refine ⟨.pr (ResF w0 S own (fun r : Nat => .slice (some ⟨r, 0, none⟩) len len) (fun r w => w.heap[r]? = some (.cells cells.toArray e (0, 0)))), .inl ⟨hl, fun _ _ _ hb ⟨x, e, hk⟩ => ⟨x, e, hk.below hb⟩, fun a w hsz hd hJ hok => ?_⟩, h⟩
  rw [if_pos (wanted_none rfl)]
  have e1 := exec_fix (lk := lkC Γ) (a := a) (o := ⟨some d, .buildSlice t len xs.toArray, ty, pos, af, none⟩) rfl (hok_lkC hok)
  unfold Oper.wp
  rw [e1, run_lit (fix_agr _ _) hx hlen hpos hf]
  have hb : Below w.heap.size w (w.alloc (.cells cells.toArray e (0, 0))) := (Below.refl _ _).alloc (Nat.le_refl _) _
  refine ⟨_, rfl, hb, hJ.grow hb, w.heap.size, rfl, fun w'' h1 h2 => ?_⟩
  show w''.heap[w.heap.size]? = _
  rw [h2 w.heap.size (.inl hJ.size) (by simp) (fun p hp e => by have := (hJ.lt p hp).1; omega)]
  exact heap_alloc_new w _
/-- a literal of two earlier results -/
theorem dx_lit2 {β γ : Type} {val₁ : β → Value} {G₁ : β → World → Prop} {val₂ : γ → Value} {G₂ : γ → World → Prop} (q q' : Nat) {t e : TypeId} {agg : Bool} {sz by_ : Nat} {z : Value} [hs : SlT P t e] [hT : TyI P e agg sz by_ z] {len : Nat} {xs : List (Nat × Operand)} {vs : β → γ → List (Nat × Value)} (cells : β → γ → List Value) {ty : TypeId} {d : Nat} {pos : String} {af : Array Edge} (hl : late i = false)
    (hΓ : lookC Γ q = some (.pr (ResF w0 S own val₁ G₁))) (hΓ' : lookC Γ q' = some (.pr (ResF w0 S own val₂ G₂))) (hmem : Operand.tmp q ∈ xs.map (·.2)) (hmem' : Operand.tmp q' ∈ xs.map (·.2))
    (hx : ∀ y z, evp (lk2 Γ q (val₁ y) q' (val₂ z)) xs = some (vs y z))
    (hlen : Nat.ble (len * sz) 1000 = true) (hpos : Nat.blt 0 (len * sz) = true) (hf : ∀ y u, Instr.fill (fun i => some (i * sz, sz)) ((Array.range (len * sz)).map (z.cells[· % z.cells.size]!)) (vs y u) = some (cells y u).toArray)
    (h : Dx P ops Q n (SS w0 X S own R) Bl late (i + 1) os ((d, .pr (ResF w0 S own (fun r : Nat × β × γ => .slice (some ⟨r.1, 0, none⟩) len len) (fun r w => w.heap[r.1]? = some (.cells (cells r.2.1 r.2.2).toArray e (0, 0)) ∧ G₁ r.2.1 w ∧ G₂ r.2.2 w))) :: Γ) K) :
    Dx P ops Q n (SS w0 X S own R) Bl late i (⟨some d, .buildSlice t len xs.toArray, ty, pos, af, none⟩ :: os) Γ K := by
  refine ⟨.pr (ResF w0 S own (fun r : Nat × β × γ => .slice (some ⟨r.1, 0, none⟩) len len) (fun r w => w.heap[r.1]? = some (.cells (cells r.2.1 r.2.2).toArray e (0, 0)) ∧ G₁ r.2.1 w ∧ G₂ r.2.2 w)), .inl ⟨hl, fun _ _ _ hb ⟨x, e, hk⟩ => ⟨x, e, hk.below hb⟩, fun a w hsz hd hJ hok => ?_⟩, h⟩
  rw [if_pos (wanted_none rfl)]
  have hop : ∀ s, Operand.tmp s ∈ xs.map (·.2) → Operand.tmp s ∈ (Op.buildSlice t len xs.toArray).operands := by
    intro s hs
    simp only [Op.operands]
    simpa using hs
  obtain ⟨y, hy, hk⟩ := hok q (mem_looksAt (hop q hmem)) _ hΓ
  obtain ⟨u, hu, hk'⟩ := hok q' (mem_looksAt (hop q' hmem')) _ hΓ'
  have e1 := exec_fix (lk := lk2 Γ q (val₁ y) q' (val₂ u)) (a := a) (o := ⟨some d, .buildSlice t len xs.toArray, ty, pos, af, none⟩) rfl (hok_lk2 hok hy hu)
  unfold Oper.wp
  rw [e1, run_lit (fix_agr _ _) (hx y u) hlen hpos (hf y u)]
  have hb : Below w.heap.size w (w.alloc (.cells (cells y u).toArray e (0, 0))) := (Below.refl _ _).alloc (Nat.le_refl _) _
  refine ⟨_, rfl, hb, hJ.grow hb, (w.heap.size, y, u), rfl, fun w'' h1 h2 => ⟨?_, (hk.below hb) w'' h1 h2, (hk'.below hb) w'' h1 h2⟩⟩
  show w''.heap[w.heap.size]? = _
  rw [h2 w.heap.size (.inl hJ.size) (by simp) (fun p hp e => by have := (hJ.lt p hp).1; omega)]
  exact heap_alloc_new w _
/-- a call that takes an earlier result and whose answer is known -/
theorem dx_callv1 {β : Type} {val₁ : β → Value} {G₁ : β → World → Prop} (t : Nat) {c : Operand} {f : FuncId} {pre cap : List Value} {xs : List Operand} {vs : β → List Value} {ats : Array TypeId} {ty : TypeId} {d : Nat} {pos : String} {af : Array Edge} {v : Value} {F : Unit → World → Prop} (hl : late i = false) [hB : FnB P f]
    (hΓ : lookC Γ t = some (.pr (ResF w0 S own val₁ G₁))) (hmem : Operand.tmp t ∈ xs) (hc' : ∀ y, fnv (lk1 Γ t (val₁ y)) c f pre cap) (hxs : ∀ y, evs (lk1 Γ t (val₁ y)) xs = some (vs y))
    (hcall : ∀ y w, SS w0 X S own (fun w => R w ∧ G₁ y w) w → Ret P f (pre ++ vs y ++ cap) w (Nn w0 S own w) (fun _ : Unit => v) F)
    (h : Dx P ops Q n (SS w0 X S own R) Bl late (i + 1) os ((d, .val v) :: Γ) K) :
    Dx P ops Q n (SS w0 X S own R) Bl late i (⟨some d, .call { callee := .value c, args := xs.toArray, argTypes := ats }, ty, pos, af, none⟩ :: os) Γ K := by
  refine ⟨.val v, .inl ⟨hl, fun _ _ _ _ h => h, fun a w hs hd hJ hok => ?_⟩, h⟩
  rw [if_pos (wanted_none rfl)]
  have hop : Operand.tmp t ∈ (Op.call { callee := .value c, args := xs.toArray, argTypes := ats }).operands := by
    simp only [Op.operands, Call.operands]
    exact Array.mem_append.2 (.inr (by simpa using hmem))
  obtain ⟨y, hy, hk⟩ := hok t (mem_looksAt hop) _ hΓ
  have e := exec_fix (lk := lk1 Γ t (val₁ y)) (a := a) (o := ⟨some d, .call { callee := .value c, args := xs.toArray, argTypes := ats }, ty, pos, af, none⟩) rfl fun s hs u hu => by
    unfold lk1 at hu
    cases hb : Nat.beq t s with
    | true =>
      rw [hb] at hu
      have := Nat.eq_of_beq_eq_true hb
      subst this
      simp at hu
      rw [← hu]; exact hy
    | false =>
      rw [hb] at hu
      simp only [cond_false] at hu
      exact hok_lkC hok s hs u hu
  unfold Oper.wp
  rw [e, run_call (fix_agr _ _) (hc' y) (hxs y), Oper.upon_enter]
  refine (hcall y w (hk.add hJ)).mono ?_
  rintro e w' ⟨x, rfl, hb, hf⟩
  exact ⟨v, rfl, hb, hJ.grow hb, rfl⟩
end
theorem bin_remI {P : Program} {t : TypeId} {k : IntKind} {a b : Int} (hb : b ≠ 0) : Bin P .rem t (.int k a) (.int k b) (.int k (a.tmod b)) := fun w => by
  simp [binOp, Op.intDiv, hb]
theorem bin_eqlBr {P : Program} {t : TypeId} (ht : P.underlying t = some .bool) (a : Bool) : Bin P .eql t (.bool a) (.bool a) (.bool true) := by
  have h := bin_eqlB ht a a
  rwa [beq_self_eq_true] at h
theorem bin_neqBr {P : Program} {t : TypeId} (ht : P.underlying t = some .bool) (a : Bool) : Bin P .neq t (.bool a) (.bool a) (.bool false) := by
  have h := bin_neqB ht a a
  rwa [bne_self_eq_false] at h
theorem lens_of {m : Mt} {L : List (List Int)} (h : m.zs = L) (k : Nat) (h1 : L.length ≤ k) (h2 : ∀ q ∈ L, q.length ≤ k) : m.rs.length ≤ k ∧ ∀ r ∈ m.rs, r.l.length ≤ k := by
  refine ⟨by rw [← m.zs_len, h]; exact h1, fun r hr => ?_⟩
  rw [← Rw.zs_len]
  exact h2 _ (by rw [← h]; exact List.mem_map.2 ⟨r, hr, rfl⟩)
/-- a literal of two rows of two -/
theorem of2_ret (r8 r9 r10 : Nat) (a b c d : Int) (w : World) (S : Nat → Prop) (h8 : w.heap[r8]? = some (.cells (i64s [a, b]).toArray 2 (0, 0))) (h9 : w.heap[r9]? = some (.cells (i64s [c, d]).toArray 2 (0, 0)))
    (h10 : w.heap[r10]? = some (.cells ([Value.slice (some ⟨r8, 0, none⟩) 2 2, Value.slice (some ⟨r9, 0, none⟩) 2 2] : List Value).toArray 71 (0, 0))) (ha : In64 a) (hb : In64 b) (hc : In64 c) (hd : In64 d) :
    Ret Try.prog 38 [.slice (some ⟨r10, 0, none⟩) 2 2] w S Mt.v (optF 2 (some [[a, b], [c, d]])) := by
  have h := of_ret ⟨[⟨[a, b], (some ⟨r8, 0, none⟩, 2)⟩, ⟨[c, d], (some ⟨r9, 0, none⟩, 2)⟩], (some ⟨r10, 0, none⟩, 2)⟩ w S ⟨Rd.own h10, Nat.le_refl _, ?_⟩ (by simp) (by simp)
  · have e : keepO (Xm.zs ⟨[⟨[a, b], (some ⟨r8, 0, none⟩, 2)⟩, ⟨[c, d], (some ⟨r9, 0, none⟩, 2)⟩], (some ⟨r10, 0, none⟩, 2)⟩) = some [[a, b], [c, d]] := by
      simp [keepO, Xm.zs, shp]
    rw [e] at h
    exact h
  · intro r hr
    simp only [List.mem_cons, List.not_mem_nil, or_false] at hr
    rcases hr with rfl | rfl
    · exact ⟨Rd.own h8, Nat.le_refl _, by simp; exact ⟨ha, hb⟩⟩
    · exact ⟨Rd.own h9, Nat.le_refl _, by simp; exact ⟨hc, hd⟩⟩
end Go.Qk
end
section
/- the law's sanity check -/
set_option linter.unusedVariables false
namespace Go.Qk
open Go Go.Proofs Go.RowKit
set_option maxRecDepth 100000
set_option maxHeartbeats 4000000

theorem awake_ret (w0 : World) (S : Nat → Prop) :
    Ret Try.prog 23 [] w0 S (fun _ : Unit => .bool true) (fun _ _ => True) := by
  have hd : detO [[2, 1], [1, 2]] = some 3 := by decide
  have hi1 : invO [[2, 1], [1, 1]] = some [[1, -1], [-1, 2]] := by decide
  have hi2 : invO [[2, 1], [1, 2]] = none := by decide
  have i2 : In64 2 := by decide
  have i1 : In64 1 := by decide
  have im : In64 (-1) := by decide
  refine ret_of Try.func23 rfl Try.ntmps23 rfl ?_
  refine tr_rseq ?_   -- region 0
  refine sq_q (qt_assign rfl) rfl ?_   -- t0
  refine sq_end ?_
  refine tr_rseq ?_   -- region 1
  refine sq_lit (vs := [(0, .int .i64 2), (1, .int .i64 1)]) (cells := i64s [2, 1]) rfl rfl rfl (by simp [Instr.fill, i64s, Value.cells, show Array.range 2 = #[0, 1] from by decide]) rfl fun r8 => ?_   -- t8
  refine sq_lit (vs := [(0, .int .i64 1), (1, .int .i64 2)]) (cells := i64s [1, 2]) rfl rfl rfl (by simp [Instr.fill, i64s, Value.cells, show Array.range 2 = #[0, 1] from by decide]) rfl fun r9 => ?_   -- t9
  refine sq_lit (vs := [(0, .slice (some ⟨r8, 0, none⟩) 2 2), (1, .slice (some ⟨r9, 0, none⟩) 2 2)]) (cells := [Value.slice (some ⟨r8, 0, none⟩) 2 2, Value.slice (some ⟨r9, 0, none⟩) 2 2]) rfl rfl rfl (by simp [Instr.fill, Value.cells, show Array.range 2 = #[0, 1] from by decide]) rfl fun r10 => ?_   -- t10
  refine sq_call Mt.v (optF 2 (some [[2, 1], [1, 2]])) rfl rfl rfl (fun w t => of2_ret r8 r9 r10 2 1 1 2 w _ (t.has _ (ownAt_mem (i := 2) rfl)) (t.has _ (ownAt_mem (i := 1) rfl)) (t.has _ (ownAt_mem (i := 0) rfl)) i2 i1 i1 i2) fun m1 => ?_
  refine sq_have (fun w t => t.r.2.2.1) fun (hz1 : m1.zs = [[2, 1], [1, 2]]) => ?_
  obtain ⟨hl1, hr1⟩ := lens_of hz1 16 (by decide) (by decide)   -- t11
  refine sq_q (qt_assign rfl) rfl ?_   -- t1
  refine sq_end ?_
  refine tr_drop [] (List.nil_sublist _) ?_
  refine tr_rseq ?_   -- region 2
  refine sq_q (qt_move rfl) rfl ?_   -- t13
  refine sq_call (optZV (some 3)) (optZF (some 3)) rfl rfl rfl (fun w t => by have h := fun S' => det_ret m1 2 w S' t.r.2.1 (by omega) (by omega) (by omega) (fun r hr => by have := hr1 r hr; omega); rw [hz1, hd] at h; exact h _) fun x14 => ?_   -- t14
  refine sq_q (qt_move rfl) rfl ?_   -- t12
  refine sq_q (qt_extract rfl rfl) rfl ?_   -- t15
  refine sq_q (qt_extract rfl rfl) rfl ?_   -- t16
  refine sq_alloc rfl fun r2 => ?_   -- t2
  refine sq_store 0 rfl rfl rfl rfl (Nat.le_refl 2) rfl rfl ?_   -- R2.6
  refine sq_q (qt_assign rfl) rfl ?_   -- t3
  refine sq_end ?_
  refine tr_rseq ?_   -- region 3
  refine sq_lit (vs := [(0, .int .i64 2), (1, .int .i64 1)]) (cells := i64s [2, 1]) rfl rfl rfl (by simp [Instr.fill, i64s, Value.cells, show Array.range 2 = #[0, 1] from by decide]) rfl fun r18 => ?_   -- t18
  refine sq_lit (vs := [(0, .int .i64 1), (1, .int .i64 1)]) (cells := i64s [1, 1]) rfl rfl rfl (by simp [Instr.fill, i64s, Value.cells, show Array.range 2 = #[0, 1] from by decide]) rfl fun r19 => ?_   -- t19
  refine sq_lit (vs := [(0, .slice (some ⟨r18, 0, none⟩) 2 2), (1, .slice (some ⟨r19, 0, none⟩) 2 2)]) (cells := [Value.slice (some ⟨r18, 0, none⟩) 2 2, Value.slice (some ⟨r19, 0, none⟩) 2 2]) rfl rfl rfl (by simp [Instr.fill, Value.cells, show Array.range 2 = #[0, 1] from by decide]) rfl fun r20 => ?_   -- t20
  refine sq_call Mt.v (optF 2 (some [[2, 1], [1, 1]])) rfl rfl rfl (fun w t => of2_ret r18 r19 r20 2 1 1 1 w _ (t.has _ (ownAt_mem (i := 2) rfl)) (t.has _ (ownAt_mem (i := 1) rfl)) (t.has _ (ownAt_mem (i := 0) rfl)) i2 i1 i1 i1) fun m2 => ?_
  refine sq_have (fun w t => t.r.2.2.1) fun (hz2 : m2.zs = [[2, 1], [1, 1]]) => ?_
  obtain ⟨hl2, hr2⟩ := lens_of hz2 16 (by decide) (by decide)   -- t21
  refine sq_call (optV (some [[1, -1], [-1, 2]])) (optF 549755813889 (some [[1, -1], [-1, 2]])) rfl rfl rfl (fun w t => by have h := fun S' => inverse_ret m2 2 w S' t.r.2.1 (by omega) (by omega) (by omega) (fun r hr => by have := hr2 r hr; omega); rw [hz2, hi1] at h; exact h _) fun m3 => ?_
  refine sq_have (fun w t => t.r.2.2.1) fun (hz3 : m3.zs = [[1, -1], [-1, 2]]) => ?_
  obtain ⟨hl3, hr3⟩ := lens_of hz3 16 (by decide) (by decide)   -- t22
  refine sq_q (qt_move rfl) rfl ?_   -- t17
  refine sq_q (qt_extract rfl rfl) rfl ?_   -- t23
  refine sq_q (qt_extract rfl rfl) rfl ?_   -- t24
  refine sq_q (qt_assign rfl) rfl ?_   -- t4
  refine sq_q (qt_assign rfl) rfl ?_   -- t5
  refine sq_end ?_
  refine tr_rseq ?_   -- region 4
  refine sq_q (qt_move rfl) rfl ?_   -- t26
  refine sq_call (optV none) (optF 549755813889 none) rfl rfl rfl (fun w t => by have h := fun S' => inverse_ret m1 2 w S' t.r.1.1.1.2.1 (by omega) (by omega) (by omega) (fun r hr => by have := hr1 r hr; omega); rw [hz1, hi2] at h; exact h _) fun m4 => ?_   -- t27
  refine sq_q (qt_move rfl) rfl ?_   -- t25
  refine sq_q (qt_extract rfl rfl) rfl ?_   -- t28
  refine sq_q (qt_extract rfl rfl) rfl ?_   -- t29
  refine sq_q (qt_assign rfl) rfl ?_   -- t6
  refine sq_q (qt_assign rfl) rfl ?_   -- t7
  refine sq_end ?_
  refine tr_rdraw0 [0, 1, 2, 3, 4, 5, 7] (by kernel_rfl) ?_   -- region 5
  refine dx_q rfl (qt_move rfl) rfl ?_   -- t30
  refine dx_q rfl (qt_move rfl) rfl ?_   -- t31
  refine dx_gT rfl rfl rfl ?_
  refine dx_q rfl (qt_move rfl) rfl ?_   -- t32
  refine dx_q rfl (qt_pick rfl rfl) rfl ?_   -- t33
  refine dx_q rfl (qt_move rfl) rfl ?_   -- t34
  refine dx_gT rfl rfl rfl ?_
  refine dx_q rfl (qt_move rfl) rfl ?_   -- t35
  refine dx_gT rfl rfl rfl ?_
  refine dx_q rfl (qt_not rfl) rfl ?_   -- t36
  refine dx_q rfl (qt_pick rfl rfl) rfl ?_   -- t37
  refine dx_q rfl (qt_move rfl) rfl ?_   -- t38
  refine dx_gT rfl rfl rfl ?_
  refine dx_q rfl (qt_load2 rfl (fun w t => t.atO 3 rfl rfl) (fun w t => t.atO 3 rfl rfl)) rfl ?_   -- t39
  refine dx_gT rfl rfl rfl ?_
  refine dx_call (iv 3) (Lz (3 : Int).natAbs) rfl rfl rfl (fun w t => rsmall_ret 3 w _ (by omega) (by omega)) ?_   -- t40
  refine dx_gT rfl rfl rfl ?_
  refine dx_callv1 40 (v := .bool true) (F := fun _ _ => True) rfl rfl (by simp) (fun _ => rfl) (fun _ => rfl) (fun y w t => by have h := fun S' => rsame_ret 3 3 x14 y w S' t.r.1.1.1.1.2.1 t.r.2 (Nat.le_trans (nl_64 (a := 3) (by decide)) (by decide)) (Nat.le_trans (nl_64 (a := 3) (by decide)) (by decide)); exact h _) ?_   -- t41
  refine dx_q rfl (qt_pick rfl rfl) rfl ?_   -- t42
  refine dx_q rfl (qt_move rfl) rfl ?_   -- t43
  refine dx_gT rfl rfl rfl ?_
  refine dx_q rfl (qt_move rfl) rfl ?_   -- t44
  refine dx_gT rfl rfl rfl ?_
  refine dx_lit (vs := [(0, .int .i64 1), (1, .int .i64 (-1))]) (cells := i64s [1, -1]) rfl rfl rfl rfl (by simp [Instr.fill, i64s, Value.cells, show Array.range 2 = #[0, 1] from by decide]) ?_   -- t45
  refine dx_gT rfl rfl rfl ?_
  refine dx_lit (vs := [(0, .int .i64 (-1)), (1, .int .i64 2)]) (cells := i64s [-1, 2]) rfl rfl rfl rfl (by simp [Instr.fill, i64s, Value.cells, show Array.range 2 = #[0, 1] from by decide]) ?_   -- t46
  refine dx_gT rfl rfl rfl ?_
  refine dx_lit2 45 46 (vs := fun (r r' : Nat) => [(0, .slice (some ⟨r, 0, none⟩) 2 2), (1, .slice (some ⟨r', 0, none⟩) 2 2)]) (fun (r r' : Nat) => [Value.slice (some ⟨r, 0, none⟩) 2 2, Value.slice (some ⟨r', 0, none⟩) 2 2]) rfl rfl rfl (by simp) (by simp) (fun _ _ => rfl) rfl rfl (fun _ _ => by simp [Instr.fill, Value.cells, show Array.range 2 = #[0, 1] from by decide]) ?_   -- t47
  refine dx_gT rfl rfl rfl ?_
  refine dx_call1 47 Mt.v (optF 2 (some [[1, -1], [-1, 2]])) rfl rfl (by simp) rfl (fun _ => rfl) (fun _ => rfl) (fun y w t => of2_ret y.2.1 y.2.2 y.1 1 (-1) (-1) 2 w _ t.r.2.2.1 t.r.2.2.2 t.r.2.1 i1 im im i2) ?_   -- t48
  refine dx_gT rfl rfl rfl ?_
  refine dx_callv1 48 (v := .bool true) (F := fun _ _ => True) rfl rfl (by simp) (fun _ => rfl) (fun _ => rfl) (fun y w t => by
    obtain ⟨hl5, hr5⟩ := lens_of t.r.2.2.1 16 (by decide) (by decide)
    have h := fun S' => same_ret m3 y 549755813889 w S' t.r.1.1.2.1 (t.r.2.1.mono (by omega)) t.r.1.1.2.2.2 t.r.2.2.2 (by omega) (by omega) (by omega) (fun q hq => by have := hr3 q hq; omega) (fun q hq => by have := hr5 q hq; omega)
    rw [decide_eq_true (show m3.zs = y.zs by rw [hz3, t.r.2.2.1]; rfl)] at h
    exact h _) ?_   -- t49
  refine dx_q rfl (qt_pick rfl rfl) rfl ?_   -- t50
  refine dx_q rfl (qt_assign rfl) rfl ?_   -- t0
  refine dx_nil ?_
  repeat (first | refine es_val rfl ?_ rfl | refine es_res rfl (fun x => ?_) rfl | refine es_skip rfl ?_)
  refine es_nil rfl ?_
  refine tx_endk ?_
  refine tr_ret ?_
  repeat (first | (with_reducible refine tr_skip ?_) | (with_reducible refine tr_exit ?_) | (with_reducible refine tr_then ?_) | (with_reducible refine tr_inX ?_) | (with_reducible refine tr_thenX ?_) | (with_reducible refine tr_inN ?_) | (with_reducible refine tr_inR ?_) | (with_reducible refine tr_thenR ?_))
  exact tr_done () (fun a w s t => results_1 rfl (resv_tmp s rfl)) (fun _ _ _ _ => trivial)
end Go.Qk
end
section
/- What an argument reads as: rows of limbs, integers, matrices. -/
set_option linter.unusedVariables false
namespace Go.Qk
open Go Go.Proofs Go.RowKit Go.ChangeShapes Go.WideShapes Go.Deep
instance : Inhabited Zd := ⟨z0⟩
instance : Inhabited Rw := ⟨⟨[], (none, 0)⟩⟩
instance : Inhabited Xr := ⟨⟨[], (none, 0)⟩⟩
theorem add_block (a : Addr) (i : Nat) : (a.add i).block = a.block := by unfold Addr.add; split <;> rfl
theorem rd_of {a : Addr} {l : List Value} {w : World} (h : ∀ i v, l[i]? = some v → w.cell? (a.add i) = some v) : Rd (some a) l w := by
  intro i v hv
  have hl : 0 < l.length := by have := (List.getElem?_eq_some_iff.1 hv).1; omega
  have h0 := h 0 l[0] (List.getElem?_eq_getElem hl)
  rw [show a.add 0 = a by simp [Addr.add]] at h0
  have h1 := World.cell?_spot h0
  have h2 := h i v hv
  obtain ⟨r, o, s⟩ := a
  simp only at h1
  subst h1
  rw [add_mk] at h2
  exact ⟨r, o, rfl, h2⟩
theorem map_get {α : Type} {n : Nat} {f : Nat → α} {i : Nat} {v : α} (h : ((List.range n).map f)[i]? = some v) : i < n ∧ v = f i := by
  rw [List.getElem?_map] at h
  cases hi : (List.range n)[i]? with
  | none => rw [hi] at h; simp at h
  | some k =>
    rw [hi] at h
    simp at h
    obtain ⟨h1, h2⟩ := List.getElem?_eq_some_iff.1 hi
    simp at h1 h2
    subst h2
    exact ⟨h1, h.symm⟩
section
variable {H : Type} {enc : TypeId × Value → H} {P : Program} {w : World} {fuel : Nat} {x : DataW H × List MemPlace} {cs : List Value}
theorem weights_all {e : TypeId} : ∀ {l : List (DataW H)} {d : DataW H}, d ∈ l → ∀ n ∈ d.weights P e, n ∈ DataW.weightsAll P e l
  | d' :: l, d, hd, n, hn => by
    rw [DataW.weightsAll, List.mem_append]
    rcases List.mem_cons.1 hd with rfl | h
    · exact .inl hn
    · exact .inr (weights_all h n hn)
theorem weights_slice {t e : TypeId} (ht : P.underlying t = some (.slice e)) {l s : List (DataW H)} (hw : ∀ n ∈ (DataW.slice l s).weights P t, n ≤ reachBytes) : (l.length + s.length) * P.bytesOf e ≤ reachBytes ∧ ∀ d ∈ l, ∀ n ∈ d.weights P e, n ≤ reachBytes := by
  simp only [DataW.weights, ht, List.mem_cons, List.mem_append] at hw
  exact ⟨hw _ (.inl rfl), fun d hd n hn => hw n (.inr (.inl (weights_all hd n hn)))⟩
/-- a row of one-cell integers -/
theorem open_row1 {t e : TypeId} {k : IntKind} (ht : P.underlying t = some (.slice e)) (he : P.underlying e = some (.int k)) (hc : P.cellsOf e = 1) (h : DataW.trod enc P w 0 (fun _ => true) true fuel t cs = some x) (hw : ∀ n ∈ x.1.weights P t, n ≤ reachBytes) :
    ∃ (zs : List Int) (p : Sv), cs = [.slice p.1 zs.length p.2] ∧ Rd p.1 (zs.map fun z => .int k z) w ∧ zs.length ≤ p.2 ∧ (∀ z ∈ zs, (Lit.int k z).wf = true) ∧ zs.length * P.bytesOf e ≤ reachBytes := by
  rcases open_slice1 ht hc h with ⟨rfl, rfl⟩ | ⟨a, len, cap, m, n, V, D, Pl, rfl, hb, hl, hm, hmm, rfl, hx⟩
  · exact ⟨[], (none, 0), rfl, Rd.nil _ _, Nat.le_refl _, by simp, by simp⟩
  · simp only [if_true] at hmm
    subst hmm
    obtain ⟨Z, hZ⟩ := choose_lt (α := Int) (p := fun i z => V i = .int k z ∧ (Lit.int k z).wf = true) (fun i hi => by
      obtain ⟨z, h1, h2, h3⟩ := DataW.trod_int he (hx i hi).2
      exact ⟨z, by simpa using h1, h3⟩)
    have h2 := (weights_slice ht hw).1
    refine ⟨(List.range len).map Z, (some a, m), by simp, rd_of fun i v hv => ?_, by simpa using hl, fun z hz => ?_, ?_⟩
    · rw [List.map_map] at hv
      obtain ⟨h3, rfl⟩ := map_get hv
      rw [(hx i (by omega)).1, (hZ i (by omega)).1]
      rfl
    · obtain ⟨i, hi, rfl⟩ := List.mem_map.1 hz
      exact (hZ i (by have := List.mem_range.1 hi; omega)).2
    · simp only [List.length_map, List.length_range] at h2 ⊢
      exact Nat.le_trans (Nat.mul_le_mul_right _ (by omega)) h2
end
theorem wf_u32 {z : Int} (h : (Lit.int .u32 z).wf = true) : 0 ≤ z ∧ z < 4294967296 := by
  have h1 : IntKind.u32.min = 0 := rfl
  have h2 : IntKind.u32.max = 4294967295 := rfl
  simp [Lit.wf, h1, h2] at h
  omega
theorem wf_i64 {z : Int} (h : (Lit.int .i64 z).wf = true) : In64 z := by
  have h1 : IntKind.i64.min = -9223372036854775808 := rfl
  have h2 : IntKind.i64.max = 9223372036854775807 := rfl
  simp [Lit.wf, h1, h2] at h
  unfold In64
  omega
theorem wf_i8 {z : Int} (h : (Lit.int .i8 z).wf = true) : -128 ≤ z ∧ z < 128 := by
  have h1 : IntKind.i8.min = -128 := rfl
  have h2 : IntKind.i8.max = 127 := rfl
  simp [Lit.wf, h1, h2] at h
  omega
theorem wf_u8 {z : Int} (h : (Lit.int .u8 z).wf = true) : 0 ≤ z ∧ z < 256 := by
  have h1 : IntKind.u8.min = 0 := rfl
  have h2 : IntKind.u8.max = 255 := rfl
  simp [Lit.wf, h1, h2] at h
  omega
def RB : Nat := 35184372087808
section
variable {H : Type} {enc : TypeId × Value → H} {w : World} {fuel : Nat} {x : DataW H × List MemPlace} {cs : List Value}
theorem bytes_u32 : Try.prog.bytesOf 57 = 4 := by kernel_rfl
theorem bytes_zint : Try.prog.bytesOf 35 = 32 := by kernel_rfl
theorem bytes_zrow : Try.prog.bytesOf 44 = 24 := by kernel_rfl
theorem cells_u32 : Try.prog.cellsOf 57 = 1 := by kernel_rfl
theorem cells_bool : Try.prog.cellsOf 4 = 1 := by kernel_rfl
theorem cells_zint : Try.prog.cellsOf 35 = 2 := by kernel_rfl
theorem cells_mag : Try.prog.cellsOf 33 = 1 := by kernel_rfl
theorem cells_zrow : Try.prog.cellsOf 44 = 1 := by kernel_rfl
theorem und_zint : ∃ f0 f1 : Field, Try.prog.underlying 35 = some (.struct #[f0, f1]) ∧ f0.offset = 0 ∧ f1.offset = 1 ∧ f0.type = 4 ∧ f1.type = 33 := ⟨_, _, Try.underlying35, rfl, rfl, rfl, rfl⟩
/-- limbs -/
theorem open_mag (h : DataW.trod enc Try.prog w 0 (fun _ => true) true fuel 33 cs = some x) (hw : ∀ n ∈ x.1.weights Try.prog 33, n ≤ reachBytes) : ∃ (xs : List Nat) (p : Sv), cs = [slv xs p] ∧ Lm xs p w ∧ lim xs ∧ xs.length ≤ RB := by
  obtain ⟨zs, p, rfl, h1, h2, h3, h4⟩ := open_row1 Try.underlying33 Try.underlying57 cells_u32 h hw
  have e : u32s (zs.map Int.toNat) = zs.map fun z => .int .u32 z := by
    unfold u32s
    rw [List.map_map]
    refine List.map_congr_left fun z hz => ?_
    have := wf_u32 (h3 z hz)
    simp only [Function.comp]
    rw [Int.toNat_of_nonneg this.1]
  refine ⟨zs.map Int.toNat, p, by simp [slv], ⟨by rw [e]; exact h1, by simpa using h2⟩, fun a ha => ?_, ?_⟩
  · obtain ⟨z, hz, rfl⟩ := List.mem_map.1 ha
    have := wf_u32 (h3 z hz)
    omega
  · rw [bytes_u32] at h4
    unfold reachBytes at h4
    unfold RB
    simp only [List.length_map]
    omega
/-- a row of integers -/
theorem open_zrow (h : DataW.trod enc Try.prog w 0 (fun _ => true) true fuel 44 cs = some x) (hw : ∀ n ∈ x.1.weights Try.prog 44, n ≤ reachBytes) : ∃ r : Rw, cs = [r.v] ∧ r.ok RB w ∧ r.l.length ≤ RB := by
  obtain ⟨f0, f1, hu, o0, o1, t0, t1⟩ := und_zint
  rcases open_slice_pairs Try.underlying44 hu cells_zint o0 o1 (by rw [t0]; exact cells_bool) (by rw [t1]; exact cells_mag) h with ⟨rfl, rfl⟩ | ⟨a, len, cap, m, n, V0, V1, D0, D1, P0, P1, rfl, hb, hl, hm, hmm, rfl, hx⟩
  · exact ⟨⟨[], (none, 0)⟩, rfl, ⟨Rd.nil _ _, Nat.le_refl _, by simp⟩, by simp [RB]⟩
  · simp only [if_true] at hmm
    subst hmm
    obtain ⟨hw1, hw2⟩ := weights_slice Try.underlying44 hw
    obtain ⟨Z, hZ⟩ := choose_lt (n := len) (α := Zd) (p := fun i z => V0 i = .bool z.n ∧ V1 i = slv z.xs z.p ∧ z.ok RB w) (fun i hi => by
      obtain ⟨_, _, h0, h1⟩ := hx i (by omega)
      rw [t0] at h0
      rw [t1] at h1
      obtain ⟨b, e0, _⟩ := DataW.trod_bool Try.underlying4 h0
      obtain ⟨xs, p, e1, e2, e3, e4⟩ := open_mag h1 (fun k hk => hw2 (.agg [D0 i, D1 i]) (List.mem_map.2 ⟨i, List.mem_range.2 hi, rfl⟩) k (by
        simp only [DataW.weights, hu]
        simp only [List.map_cons, List.map_nil, DataW.weightsEach, t1, List.mem_append]
        exact .inr (.inl hk)))
      exact ⟨⟨b, xs, p⟩, by simpa using e0, by simpa using e1, e2, e3, e4⟩)
    refine ⟨⟨(List.range len).map Z, (some a, m)⟩, by simp [Rw.v], ⟨rd_of fun j v hv => ?_, by simpa using hl, fun z hz => ?_⟩, ?_⟩
    · have hj : j < ((List.range len).map Z).length * 2 := by
        rw [← zcs_length]
        exact (List.getElem?_eq_some_iff.1 hv).1
      simp only [List.length_map, List.length_range] at hj
      obtain ⟨i, hi⟩ : ∃ i, i = j / 2 := ⟨_, rfl⟩
      have hil : i < ((List.range len).map Z).length := by simp; omega
      have hil' : i < len := by simpa using hil
      rcases Nat.mod_two_eq_zero_or_one j with h2 | h2
      · have e : j = i * 2 := by omega
        rw [e, zcs_get0 hil] at hv
        have hv := Option.some.inj hv
        rw [e, ← hv, (hx i (by omega)).1, (hZ i hil').1]
        simp
      · have e : j = i * 2 + 1 := by omega
        rw [e, zcs_get1 hil] at hv
        have hv := Option.some.inj hv
        rw [e, ← hv, (hx i (by omega)).2.1, (hZ i hil').2.1]
        simp
    · obtain ⟨i, hi, rfl⟩ := List.mem_map.1 hz
      exact (hZ i (by simpa using hi)).2.2
    · simp only [List.length_map, List.length_range, bytes_zint] at hw1 ⊢
      unfold reachBytes at hw1
      unfold RB
      omega
/-- a matrix -/
theorem open_mt (h : DataW.trod enc Try.prog w 0 (fun _ => true) true fuel 23 cs = some x) (hw : ∀ n ∈ x.1.weights Try.prog 23, n ≤ reachBytes) : ∃ m : Mt, cs = [m.v] ∧ m.ok RB w ∧ m.rs.length ≤ RB ∧ ∀ r ∈ m.rs, r.l.length ≤ RB := by
  rcases open_slice1 Try.underlying23 cells_zrow h with ⟨rfl, rfl⟩ | ⟨a, len, cap, m, n, V, D, Pl, rfl, hb, hl, hm, hmm, rfl, hx⟩
  · exact ⟨⟨[], (none, 0)⟩, rfl, ⟨Rd.nil _ _, Nat.le_refl _, by simp⟩, by simp [RB], by simp⟩
  · simp only [if_true] at hmm
    subst hmm
    obtain ⟨hw1, hw2⟩ := weights_slice Try.underlying23 hw
    obtain ⟨Z, hZ⟩ := choose_lt (n := len) (α := Rw) (p := fun i r => V i = r.v ∧ r.ok RB w ∧ r.l.length ≤ RB) (fun i hi => by
      obtain ⟨r, h1, h2, h3⟩ := open_zrow (hx i (by omega)).2 (hw2 (D i) (List.mem_map.2 ⟨i, List.mem_range.2 hi, rfl⟩))
      exact ⟨r, by simpa using h1, h2, h3⟩)
    refine ⟨⟨(List.range len).map Z, (some a, m)⟩, by simp [Mt.v], ⟨rd_of fun i v hv => ?_, by simpa using hl, fun r hr => ?_⟩, ?_, fun r hr => ?_⟩
    · rw [List.map_map] at hv
      obtain ⟨h3, rfl⟩ := map_get hv
      rw [(hx i (by omega)).1, (hZ i h3).1]
      rfl
    · obtain ⟨i, hi, rfl⟩ := List.mem_map.1 hr
      exact (hZ i (by simpa using hi)).2.1
    · simp only [List.length_map, List.length_range, bytes_zrow] at hw1 ⊢
      unfold reachBytes at hw1
      unfold RB
      omega
    · obtain ⟨i, hi, rfl⟩ := List.mem_map.1 hr
      exact (hZ i (by simpa using hi)).2.2
end
end Go.Qk
end
section
/- Small matrices. -/
set_option linter.unusedVariables false
namespace Go.Qk
open Go Go.Proofs Go.RowKit
/-- the counts up to row i are at most n -/
def upto (m : Mt) (n i : Nat) : Prop := m.rs.length ≤ n ∧ ∀ k (h : k < m.rs.length), k < i → m.rs[k].l.length ≤ n ∧ ∀ z ∈ m.rs[k].l, z.xs.length ≤ n
theorem upto.mono {m : Mt} {n n' i : Nat} (h : upto m n i) (hn : n ≤ n') : upto m n' i := ⟨by have := h.1; omega, fun k hk hi => ⟨by have := (h.2 k hk hi).1; omega, fun z hz => by have := (h.2 k hk hi).2 z hz; omega⟩⟩
theorem upto.next {m : Mt} {n i : Nat} (h : upto m n i) (hi : i < m.rs.length) (h1 : m.rs[i].l.length ≤ n) (h2 : ∀ b (h : b < m.rs[i].l.length), m.rs[i].l[b].xs.length ≤ n) : upto m n (i + 1) := by
  refine ⟨h.1, fun k hk hki => ?_⟩
  by_cases e : k = i
  · subst e
    exact ⟨h1, fun z hz => by obtain ⟨b, hb, rfl⟩ := List.getElem_of_mem hz; exact h2 b hb⟩
  · exact h.2 k hk (by omega)
def smallM (m : Mt) : Prop := m.rs.length ≤ 600 ∧ ∀ r ∈ m.rs, r.l.length ≤ 600 ∧ ∀ z ∈ r.l, z.xs.length ≤ 600
theorem upto.small {m : Mt} {n : Nat} (h : upto m n m.rs.length) (hn : n ≤ 600) : smallM m := by
  refine ⟨by have := h.1; omega, fun r hr => ?_⟩
  obtain ⟨k, hk, rfl⟩ := List.getElem_of_mem hr
  exact ⟨by have := (h.2 k hk hk).1; omega, fun z hz => by have := (h.2 k hk hk).2 z hz; omega⟩
theorem smallM.ok {m : Mt} (h : smallM m) {B : Nat} {w : World} (hm : m.ok B w) : m.ok 600 w := ⟨hm.1, hm.2.1, fun r hr => ⟨(hm.2.2 r hr).1, (hm.2.2 r hr).2.1, fun z hz => ⟨((hm.2.2 r hr).2.2 z hz).1, ((hm.2.2 r hr).2.2 z hz).2.1, (h.2 r hr).2 z hz⟩⟩⟩
end Go.Qk
end
section
/- large -/
set_option linter.unusedVariables false
namespace Go.Qk
open Go Go.Proofs Go.RowKit
set_option maxRecDepth 100000
set_option maxHeartbeats 4000000

theorem large_ret (m : Mt) (w0 : World) (S : Nat → Prop) (hm : m.ok RB w0) (hlen : m.rs.length ≤ RB) (hrow : ∀ r ∈ m.rs, r.l.length ≤ RB) :
    Ret Try.prog 24 [m.v] w0 S (fun b : Bool => .bool b) (fun b _ => b = false → smallM m) := by
  have hRB : RB = 35184372087808 := rfl
  refine ret_of Try.func24 rfl Try.ntmps24 rfl ?_
  refine tr_rseq ?_   -- region 0
  refine sq_q (qt_assign rfl) rfl ?_   -- t2
  refine sq_end ?_
  refine tr_rseq ?_   -- region 1
  refine sq_q (qt_move rfl) rfl ?_   -- t6
  refine sq_q (qt_len rfl) rfl ?_   -- t7
  refine sq_q (qt_assign rfl) rfl ?_   -- t3
  refine sq_end ?_
  refine tr_seq ?_   -- C1
  refine tr_rseq ?_   -- region 2
  refine sq_q (qt_assign rfl) rfl ?_   -- t4
  refine sq_end ?_
  refine tr_block ?_
  refine tr_loop2 (fun (i n : Nat) => i ≤ m.rs.length ∧ n ≤ 1000 + RB ∧ (n < 1000 → upto m n i)) (fun i n => [(0, m.v), (3, .int .i64 (n : Int)), (4, .int .i64 (i : Int))]) (fun _ _ => []) (fun _ _ _ => True) (fun i _ => m.rs.length - i) 0 m.rs.length ⟨Nat.zero_le _, by omega, fun _ => ⟨Nat.le_refl _, fun k _ h => by omega⟩⟩ ⟨rfl, rfl, rfl, trivial⟩ rfl (fun _ _ => trivial) ?_
  rintro i n ⟨hi, hn, hu⟩
  refine tr_seq ?_   -- C2
  have hcs : (i < m.rs.length ∧ n < 1000) ∨ (i < m.rs.length ∧ ¬ n < 1000) ∨ ¬ i < m.rs.length := by omega
  rcases hcs with ⟨h1, h2⟩ | ⟨h1, h2⟩ | h1
  ·
    obtain ⟨ro, oo, evm, hat⟩ := hm.at_ (show 0 < m.rs.length by omega)
    have hrl := hrow _ (List.getElem_mem h1)
    refine tr_sub [(0, .slice (some ⟨ro, oo, none⟩) m.rs.length m.p.2), (3, .int .i64 (n : Int)), (4, .int .i64 (i : Int))] ⟨congrArg some evm, rfl, rfl, trivial⟩ ?_
    have hu := hu h2
    refine tr_rseq ?_   -- region 3
    refine sq_q (qt_move rfl) rfl ?_   -- t8
    refine sq_q (qt_move rfl) rfl ?_   -- t9
    refine sq_q (qt_len rfl) rfl ?_   -- t10
    refine sq_q (qt_bin rfl rfl (bT bin_lss (by omega))) rfl ?_   -- t11
    refine sq_q (qt_move rfl) rfl ?_   -- t12
    refine sq_gT rfl rfl ?_
    refine sq_q (qt_move rfl) rfl ?_   -- t13
    refine sq_gT rfl rfl ?_
    refine sq_q (qt_bin rfl rfl (bT bin_lss (by omega))) rfl ?_   -- t14
    refine sq_q (qt_pick rfl rfl) rfl ?_   -- t15
    refine sq_end ?_
    refine tr_ifT rfl ?_
    refine tr_skip ?_
    repeat (first | (with_reducible refine tr_skip ?_) | (with_reducible refine tr_exit ?_) | (with_reducible refine tr_then ?_) | (with_reducible refine tr_inX ?_) | (with_reducible refine tr_thenX ?_) | (with_reducible refine tr_inN ?_) | (with_reducible refine tr_inR ?_) | (with_reducible refine tr_thenR ?_))
    refine tr_seq ?_   -- C3
    refine tr_block ?_
    refine tr_rseq ?_   -- region 5
    refine sq_q (qt_move rfl) rfl ?_   -- t18
    refine sq_q (qt_move rfl) rfl ?_   -- t19
    refine sq_q (qt_move rfl) rfl ?_   -- t20
    refine sq_q (qt_index (i := i) rfl rfl h1) rfl ?_   -- t21
    refine sq_q (qt_load rfl (fun w t => t.a1 (hat i h1))) rfl ?_   -- t22
    refine sq_q (qt_len rfl) rfl ?_   -- t23
    refine sq_q (qt_bin rfl rfl (bin_addI (by omega) (by omega))) rfl ?_   -- t24
    refine sq_q (qt_assign rfl) rfl ?_   -- t3
    refine sq_end ?_
    refine tr_rseq ?_   -- region 6
    refine sq_q (qt_assign rfl) rfl ?_   -- t5
    refine sq_end ?_
    refine tr_block ?_
    refine tr_loop2 (fun (j n' : Nat) => j ≤ m.rs[i].l.length ∧ n' ≤ 1000 + RB ∧ (n' < 1000 → upto m n' i ∧ m.rs[i].l.length ≤ n' ∧ ∀ b (h : b < m.rs[i].l.length), b < j → m.rs[i].l[b].xs.length ≤ n')) (fun j n' => [(0, .slice (some ⟨ro, oo, none⟩) m.rs.length m.p.2), (3, .int .i64 (n' : Int)), (4, .int .i64 (i : Int)), (5, .int .i64 (j : Int))]) (fun _ _ => []) (fun _ _ _ => True) (fun j _ => m.rs[i].l.length - j) 0 (n + m.rs[i].l.length) ⟨Nat.zero_le _, by omega, fun _ => ⟨hu.mono (by omega), by omega, fun b _ h => by omega⟩⟩ ⟨rfl, rfl, rfl, rfl, trivial⟩ rfl (fun _ _ => trivial) ?_
    rintro j n' ⟨hj, hn', hu'⟩
    refine tr_seq ?_   -- C4
    have hcs : (j < m.rs[i].l.length ∧ n' < 1000) ∨ (j < m.rs[i].l.length ∧ ¬ n' < 1000) ∨ ¬ j < m.rs[i].l.length := by omega
    rcases hcs with ⟨g1, g2⟩ | ⟨g1, g2⟩ | g1
    ·
      obtain ⟨rr, orr, evr, hatr⟩ := (hm.2.2 _ (List.getElem_mem h1)).at_ (show 0 < m.rs[i].l.length by omega)
      have hr := hat i h1
      rw [evr] at hr
      have hz1 := (hatr j g1).2
      have hzl := ((hm.2.2 _ (List.getElem_mem h1)).2.2 _ (List.getElem_mem g1)).2.2
      have hu' := hu' g2
      refine tr_rseq ?_   -- region 7
      refine sq_q (qt_move rfl) rfl ?_   -- t25
      refine sq_q (qt_move rfl) rfl ?_   -- t26
      refine sq_q (qt_move rfl) rfl ?_   -- t27
      refine sq_q (qt_index (i := i) rfl rfl h1) rfl ?_   -- t28
      refine sq_q (qt_load rfl (fun w t => t.a1 (hat i h1))) rfl ?_   -- t29
      refine sq_q (qt_len rfl) rfl ?_   -- t30
      refine sq_q (qt_bin rfl rfl (bT bin_lss (by omega))) rfl ?_   -- t31
      refine sq_q (qt_move rfl) rfl ?_   -- t32
      refine sq_gT rfl rfl ?_
      refine sq_q (qt_move rfl) rfl ?_   -- t33
      refine sq_gT rfl rfl ?_
      refine sq_q (qt_bin rfl rfl (bT bin_lss (by omega))) rfl ?_   -- t34
      refine sq_q (qt_pick rfl rfl) rfl ?_   -- t35
      refine sq_end ?_
      refine tr_ifT rfl ?_
      refine tr_skip ?_
      repeat (first | (with_reducible refine tr_skip ?_) | (with_reducible refine tr_exit ?_) | (with_reducible refine tr_then ?_) | (with_reducible refine tr_inX ?_) | (with_reducible refine tr_thenX ?_) | (with_reducible refine tr_inN ?_) | (with_reducible refine tr_inR ?_) | (with_reducible refine tr_thenR ?_))
      refine tr_seq ?_   -- C5
      refine tr_block ?_
      refine tr_region ?_   -- region 9
      refine sq_q (qt_move rfl) rfl ?_   -- t38
      refine sq_q (qt_move rfl) rfl ?_   -- t39
      refine sq_q (qt_move rfl) rfl ?_   -- t40
      refine sq_q (qt_index (i := i) rfl rfl h1) rfl ?_   -- t41
      refine sq_q (qt_load rfl (fun w t => t.a1 hr)) rfl ?_   -- t42
      refine sq_q (qt_move rfl) rfl ?_   -- t43
      refine sq_q (qt_index (i := j) rfl rfl g1) rfl ?_   -- t44
      refine sq_q (qt_fieldAddr rfl) rfl ?_   -- t45
      refine sq_q (qt_load rfl (fun w t => t.atA hz1)) rfl ?_   -- t46
      refine sq_q (qt_len rfl) rfl ?_   -- t47
      refine sq_q (qt_bin rfl rfl (bin_addI (by omega) (by omega))) rfl ?_   -- t48
      refine sq_q (qt_assign rfl) rfl ?_   -- t3
      refine sq_nil ?_
      repeat (first | (with_reducible refine tr_skip ?_) | (with_reducible refine tr_exit ?_) | (with_reducible refine tr_then ?_) | (with_reducible refine tr_inX ?_) | (with_reducible refine tr_thenX ?_) | (with_reducible refine tr_inN ?_) | (with_reducible refine tr_inR ?_) | (with_reducible refine tr_thenR ?_))
      refine tr_region ?_   -- region 8
      refine sq_q (qt_move rfl) rfl ?_   -- t36
      refine sq_q (qt_bin rfl rfl (bin_addI (by omega) (by omega))) rfl ?_   -- t37
      refine sq_q (qt_assign rfl) rfl ?_   -- t5
      refine sq_nil ?_
      repeat (first | (with_reducible refine tr_skip ?_) | (with_reducible refine tr_exit ?_) | (with_reducible refine tr_then ?_) | (with_reducible refine tr_inX ?_) | (with_reducible refine tr_thenX ?_) | (with_reducible refine tr_inN ?_) | (with_reducible refine tr_inR ?_) | (with_reducible refine tr_thenR ?_))
      refine tr_round2 (j + 1) (n' + m.rs[i].l[j].xs.length) ⟨by omega, by omega, fun h => ⟨hu'.1.mono (by omega), by omega, fun b hb hbj => ?_⟩⟩ (by omega) ⟨rfl, rfl, rfl, rfl, trivial⟩ rfl (fun _ h => h)
      by_cases e : b = j
      · subst e; omega
      · have := hu'.2.2 b hb (by omega); omega
    ·
      refine tr_rseq ?_   -- region 7
      refine sq_q (qt_move rfl) rfl ?_   -- t25
      refine sq_q (qt_move rfl) rfl ?_   -- t26
      refine sq_q (qt_move rfl) rfl ?_   -- t27
      refine sq_q (qt_index (i := i) rfl rfl h1) rfl ?_   -- t28
      refine sq_q (qt_load rfl (fun w t => t.a1 (hat i h1))) rfl ?_   -- t29
      refine sq_q (qt_len rfl) rfl ?_   -- t30
      refine sq_q (qt_bin rfl rfl (bT bin_lss (by omega))) rfl ?_   -- t31
      refine sq_q (qt_move rfl) rfl ?_   -- t32
      refine sq_gT rfl rfl ?_
      refine sq_q (qt_move rfl) rfl ?_   -- t33
      refine sq_gT rfl rfl ?_
      refine sq_q (qt_bin rfl rfl (bF bin_lss (by omega))) rfl ?_   -- t34
      refine sq_q (qt_pick rfl rfl) rfl ?_   -- t35
      refine sq_end ?_
      refine tr_ifF rfl ?_
      refine tr_exit ?_
      repeat (first | (with_reducible refine tr_skip ?_) | (with_reducible refine tr_exit ?_) | (with_reducible refine tr_then ?_) | (with_reducible refine tr_inX ?_) | (with_reducible refine tr_thenX ?_) | (with_reducible refine tr_inN ?_) | (with_reducible refine tr_inR ?_) | (with_reducible refine tr_thenR ?_))
      refine tr_region ?_   -- region 4
      refine sq_q (qt_move rfl) rfl ?_   -- t16
      refine sq_q (qt_bin rfl rfl (bin_addI (by omega) (by omega))) rfl ?_   -- t17
      refine sq_q (qt_assign rfl) rfl ?_   -- t4
      refine sq_nil ?_
      repeat (first | (with_reducible refine tr_skip ?_) | (with_reducible refine tr_exit ?_) | (with_reducible refine tr_then ?_) | (with_reducible refine tr_inX ?_) | (with_reducible refine tr_thenX ?_) | (with_reducible refine tr_inN ?_) | (with_reducible refine tr_inR ?_) | (with_reducible refine tr_thenR ?_))
      exact tr_round2 (i + 1) n' ⟨by omega, by omega, fun h => absurd h g2⟩ (by omega) ⟨congrArg some evm.symm, rfl, rfl, trivial⟩ rfl (fun _ h => h)
    ·
      refine tr_rseq ?_   -- region 7
      refine sq_q (qt_move rfl) rfl ?_   -- t25
      refine sq_q (qt_move rfl) rfl ?_   -- t26
      refine sq_q (qt_move rfl) rfl ?_   -- t27
      refine sq_q (qt_index (i := i) rfl rfl h1) rfl ?_   -- t28
      refine sq_q (qt_load rfl (fun w t => t.a1 (hat i h1))) rfl ?_   -- t29
      refine sq_q (qt_len rfl) rfl ?_   -- t30
      refine sq_q (qt_bin rfl rfl (bF bin_lss (by omega))) rfl ?_   -- t31
      refine sq_q (qt_move rfl) rfl ?_   -- t32
      refine sq_gF rfl rfl rfl rfl ?_
      refine sq_gF rfl rfl rfl rfl ?_
      refine sq_q (qt_pick rfl rfl) rfl ?_   -- t35
      refine sq_end ?_
      refine tr_ifF rfl ?_
      refine tr_exit ?_
      repeat (first | (with_reducible refine tr_skip ?_) | (with_reducible refine tr_exit ?_) | (with_reducible refine tr_then ?_) | (with_reducible refine tr_inX ?_) | (with_reducible refine tr_thenX ?_) | (with_reducible refine tr_inN ?_) | (with_reducible refine tr_inR ?_) | (with_reducible refine tr_thenR ?_))
      refine tr_region ?_   -- region 4
      refine sq_q (qt_move rfl) rfl ?_   -- t16
      refine sq_q (qt_bin rfl rfl (bin_addI (by omega) (by omega))) rfl ?_   -- t17
      refine sq_q (qt_assign rfl) rfl ?_   -- t4
      refine sq_nil ?_
      repeat (first | (with_reducible refine tr_skip ?_) | (with_reducible refine tr_exit ?_) | (with_reducible refine tr_then ?_) | (with_reducible refine tr_inX ?_) | (with_reducible refine tr_thenX ?_) | (with_reducible refine tr_inN ?_) | (with_reducible refine tr_inR ?_) | (with_reducible refine tr_thenR ?_))
      exact tr_round2 (i + 1) n' ⟨by omega, by omega, fun h => (hu' h).1.next h1 (hu' h).2.1 fun b hb => (hu' h).2.2 b hb (by omega)⟩ (by omega) ⟨congrArg some evm.symm, rfl, rfl, trivial⟩ rfl (fun _ h => h)
  ·
    refine tr_rseq ?_   -- region 3
    refine sq_q (qt_move rfl) rfl ?_   -- t8
    refine sq_q (qt_move rfl) rfl ?_   -- t9
    refine sq_q (qt_len rfl) rfl ?_   -- t10
    refine sq_q (qt_bin rfl rfl (bT bin_lss (by omega))) rfl ?_   -- t11
    refine sq_q (qt_move rfl) rfl ?_   -- t12
    refine sq_gT rfl rfl ?_
    refine sq_q (qt_move rfl) rfl ?_   -- t13
    refine sq_gT rfl rfl ?_
    refine sq_q (qt_bin rfl rfl (bF bin_lss (by omega))) rfl ?_   -- t14
    refine sq_q (qt_pick rfl rfl) rfl ?_   -- t15
    refine sq_end ?_
    refine tr_ifF rfl ?_
    refine tr_exit ?_
    repeat (first | (with_reducible refine tr_skip ?_) | (with_reducible refine tr_exit ?_) | (with_reducible refine tr_then ?_) | (with_reducible refine tr_inX ?_) | (with_reducible refine tr_thenX ?_) | (with_reducible refine tr_inN ?_) | (with_reducible refine tr_inR ?_) | (with_reducible refine tr_thenR ?_))
    refine tr_rseq ?_   -- region 10
    refine sq_q (qt_move rfl) rfl ?_   -- t49
    refine sq_q (qt_bin rfl rfl bin_gtr) rfl ?_   -- t50
    refine sq_q (qt_assign rfl) rfl ?_   -- t2
    refine sq_end ?_
    refine tr_ret ?_
    repeat (first | (with_reducible refine tr_skip ?_) | (with_reducible refine tr_exit ?_) | (with_reducible refine tr_then ?_) | (with_reducible refine tr_inX ?_) | (with_reducible refine tr_thenX ?_) | (with_reducible refine tr_inN ?_) | (with_reducible refine tr_inR ?_) | (with_reducible refine tr_thenR ?_))
    exact tr_done _ (fun a w s t => results_1 rfl (resv_tmp s rfl)) (fun w _ _ _ h => absurd (of_decide_eq_false h) (by omega))
  ·
    refine tr_rseq ?_   -- region 3
    refine sq_q (qt_move rfl) rfl ?_   -- t8
    refine sq_q (qt_move rfl) rfl ?_   -- t9
    refine sq_q (qt_len rfl) rfl ?_   -- t10
    refine sq_q (qt_bin rfl rfl (bF bin_lss (by omega))) rfl ?_   -- t11
    refine sq_q (qt_move rfl) rfl ?_   -- t12
    refine sq_gF rfl rfl rfl rfl ?_
    refine sq_gF rfl rfl rfl rfl ?_
    refine sq_q (qt_pick rfl rfl) rfl ?_   -- t15
    refine sq_end ?_
    refine tr_ifF rfl ?_
    refine tr_exit ?_
    repeat (first | (with_reducible refine tr_skip ?_) | (with_reducible refine tr_exit ?_) | (with_reducible refine tr_then ?_) | (with_reducible refine tr_inX ?_) | (with_reducible refine tr_thenX ?_) | (with_reducible refine tr_inN ?_) | (with_reducible refine tr_inR ?_) | (with_reducible refine tr_thenR ?_))
    refine tr_rseq ?_   -- region 10
    refine sq_q (qt_move rfl) rfl ?_   -- t49
    refine sq_q (qt_bin rfl rfl bin_gtr) rfl ?_   -- t50
    refine sq_q (qt_assign rfl) rfl ?_   -- t2
    refine sq_end ?_
    refine tr_ret ?_
    repeat (first | (with_reducible refine tr_skip ?_) | (with_reducible refine tr_exit ?_) | (with_reducible refine tr_then ?_) | (with_reducible refine tr_inX ?_) | (with_reducible refine tr_thenX ?_) | (with_reducible refine tr_inN ?_) | (with_reducible refine tr_inR ?_) | (with_reducible refine tr_thenR ?_))
    exact tr_done _ (fun a w s t => results_1 rfl (resv_tmp s rfl)) (fun w _ _ _ h => by have := of_decide_eq_false h; have he : i = m.rs.length := (by omega); exact upto.small (by rw [← he]; exact hu (by omega)) (n := n) (by omega))
end Go.Qk
end
section
/- Shape of the reference -/
set_option linter.unusedVariables false
namespace Go.Qk
open Go Go.Proofs Go.RowKit
set_option maxRecDepth 100000
set_option maxHeartbeats 4000000

theorem rshape_ret (m : Mt) (B : Nat) (w0 : World) (S : Nat → Prop) (hm : m.ok B w0) (hlen : m.rs.length ≤ 35184372088832) (hrow : ∀ r ∈ m.rs, r.l.length ≤ 35184372088832) :
    Ret Try.prog 43 [m.v] w0 S (fun _ : Unit => shpV (shp m.zs)) (fun _ _ => True) := by
  have hzl := m.zs_len
  refine ret_of Try.func43 rfl Try.ntmps43 rfl ?_
  refine tr_rseq ?_   -- region 0
  refine sq_q (qt_assign rfl) rfl ?_   -- t2
  refine sq_q (qt_assign rfl) rfl ?_   -- t3
  refine sq_q (qt_assign rfl) rfl ?_   -- t4
  refine sq_end ?_
  refine tr_seq ?_   -- C1
  have hcs : m.rs.length < 1 ∨ (1 ≤ m.rs.length ∧ 16 < m.rs.length) ∨ (0 < m.rs.length ∧ m.rs.length ≤ 16) := by omega
  rcases hcs with h1 | ⟨h1, h2⟩ | ⟨hp0, h2⟩
  ·
    rw [shp_none_len (L := m.zs) (by omega)]
    refine tr_rseq ?_   -- region 1
    refine sq_q (qt_move rfl) rfl ?_   -- t7
    refine sq_q (qt_len rfl) rfl ?_   -- t8
    refine sq_q (qt_bin rfl rfl (bT bin_lss (by omega))) rfl ?_   -- t9
    refine sq_q (qt_move rfl) rfl ?_   -- t10
    refine sq_gF rfl rfl rfl rfl ?_
    refine sq_gF rfl rfl rfl rfl ?_
    refine sq_gF rfl rfl rfl rfl ?_
    refine sq_q (qt_pick rfl rfl) rfl ?_   -- t14
    refine sq_end ?_
    refine tr_ifT rfl ?_
    refine tr_rseq ?_   -- region 2
    refine sq_q (qt_assign rfl) rfl ?_   -- t2
    refine sq_q (qt_assign rfl) rfl ?_   -- t3
    refine sq_q (qt_assign rfl) rfl ?_   -- t4
    refine sq_end ?_
    refine tr_ret ?_
    repeat (first | (with_reducible refine tr_skip ?_) | (with_reducible refine tr_exit ?_) | (with_reducible refine tr_then ?_) | (with_reducible refine tr_inX ?_) | (with_reducible refine tr_thenX ?_) | (with_reducible refine tr_inN ?_) | (with_reducible refine tr_inR ?_) | (with_reducible refine tr_thenR ?_))
    exact tr_done () (fun a w s t => results_3 rfl (resv_tmp s rfl) (resv_tmp s rfl) (resv_tmp s rfl)) (fun w _ _ _ => trivial)
  ·
    rw [shp_none_len (L := m.zs) (by omega)]
    refine tr_rseq ?_   -- region 1
    refine sq_q (qt_move rfl) rfl ?_   -- t7
    refine sq_q (qt_len rfl) rfl ?_   -- t8
    refine sq_q (qt_bin rfl rfl (bF bin_lss (by omega))) rfl ?_   -- t9
    refine sq_q (qt_move rfl) rfl ?_   -- t10
    refine sq_gT rfl rfl ?_
    refine sq_q (qt_move rfl) rfl ?_   -- t11
    refine sq_gT rfl rfl ?_
    refine sq_q (qt_len rfl) rfl ?_   -- t12
    refine sq_gT rfl rfl ?_
    refine sq_q (qt_bin rfl rfl (bT bin_gtr (by omega))) rfl ?_   -- t13
    refine sq_q (qt_pick rfl rfl) rfl ?_   -- t14
    refine sq_end ?_
    refine tr_ifT rfl ?_
    refine tr_rseq ?_   -- region 2
    refine sq_q (qt_assign rfl) rfl ?_   -- t2
    refine sq_q (qt_assign rfl) rfl ?_   -- t3
    refine sq_q (qt_assign rfl) rfl ?_   -- t4
    refine sq_end ?_
    refine tr_ret ?_
    repeat (first | (with_reducible refine tr_skip ?_) | (with_reducible refine tr_exit ?_) | (with_reducible refine tr_then ?_) | (with_reducible refine tr_inX ?_) | (with_reducible refine tr_thenX ?_) | (with_reducible refine tr_inN ?_) | (with_reducible refine tr_inR ?_) | (with_reducible refine tr_thenR ?_))
    exact tr_done () (fun a w s t => results_3 rfl (resv_tmp s rfl) (resv_tmp s rfl) (resv_tmp s rfl)) (fun w _ _ _ => trivial)
  ·
    obtain ⟨ro, oo, evm, hat⟩ := hm.at_ hp0
    rw [evm]
    have hno : ∀ k (hk : k < m.rs.length), (m.rs[k].l.length < 1 ∨ 16 < m.rs[k].l.length ∨ m.rs[k].l.length ≠ m.rs[0].l.length) → shp m.zs = none := fun k hk h => shp_none_row (k := k) (by omega) (by omega) (by rw [m.zs_at hk, m.zs_at hp0, Rw.zs_len, Rw.zs_len]; exact h)
    refine tr_rseq ?_   -- region 1
    refine sq_q (qt_move rfl) rfl ?_   -- t7
    refine sq_q (qt_len rfl) rfl ?_   -- t8
    refine sq_q (qt_bin rfl rfl (bF bin_lss (by omega))) rfl ?_   -- t9
    refine sq_q (qt_move rfl) rfl ?_   -- t10
    refine sq_gT rfl rfl ?_
    refine sq_q (qt_move rfl) rfl ?_   -- t11
    refine sq_gT rfl rfl ?_
    refine sq_q (qt_len rfl) rfl ?_   -- t12
    refine sq_gT rfl rfl ?_
    refine sq_q (qt_bin rfl rfl (bF bin_gtr (by omega))) rfl ?_   -- t13
    refine sq_q (qt_pick rfl rfl) rfl ?_   -- t14
    refine sq_end ?_
    refine tr_ifF rfl ?_
    refine tr_skip ?_
    repeat (first | (with_reducible refine tr_skip ?_) | (with_reducible refine tr_exit ?_) | (with_reducible refine tr_then ?_) | (with_reducible refine tr_inX ?_) | (with_reducible refine tr_thenX ?_) | (with_reducible refine tr_inN ?_) | (with_reducible refine tr_inR ?_) | (with_reducible refine tr_thenR ?_))
    refine tr_seq ?_   -- C2
    refine tr_rseq ?_   -- region 3
    refine sq_q (qt_move rfl) rfl ?_   -- t15
    refine sq_q (qt_len rfl) rfl ?_   -- t16
    refine sq_q (qt_move rfl) rfl ?_   -- t17
    refine sq_end ?_
    refine tr_block ?_
    refine tr_loop (fun k : Nat => k ≤ m.rs.length ∧ ∀ a (h : a < m.rs.length), a < k → 1 ≤ m.rs[a].l.length ∧ m.rs[a].l.length ≤ 16 ∧ m.rs[a].l.length = m.rs[0].l.length) (fun k => [(0, .slice (some ⟨ro, oo, none⟩) m.rs.length m.p.2), (15, .slice (some ⟨ro, oo, none⟩) m.rs.length m.p.2), (16, .int .i64 (m.rs.length : Int)), (17, .int .i64 (k : Int))]) (fun _ => []) (fun _ _ => True) (fun k => m.rs.length - k) 0 ⟨Nat.zero_le _, fun a _ h => by omega⟩ ⟨rfl, rfl, rfl, rfl, trivial⟩ rfl (fun _ _ => trivial) ?_
    rintro k ⟨hk, hall⟩
    refine tr_rseq ?_   -- region 4
    refine sq_q (qt_bin rfl rfl bin_lss) rfl ?_   -- t18
    refine sq_end ?_
    refine tr_seq ?_   -- C3
    refine tr_if rfl (fun hc => ?_) (fun hc => ?_)
    ·
      have hlt : k < m.rs.length := by have := of_decide_eq_true hc; omega
      have hrk := hrow _ (List.getElem_mem hlt)
      have hr0 := hrow _ (List.getElem_mem hp0)
      refine tr_skip ?_
      repeat (first | (with_reducible refine tr_skip ?_) | (with_reducible refine tr_exit ?_) | (with_reducible refine tr_then ?_) | (with_reducible refine tr_inX ?_) | (with_reducible refine tr_thenX ?_) | (with_reducible refine tr_inN ?_) | (with_reducible refine tr_inR ?_) | (with_reducible refine tr_thenR ?_))
      refine tr_seq ?_   -- C4
      refine tr_block ?_
      refine tr_rseq ?_   -- region 5
      refine sq_q (qt_index (i := k) rfl rfl hlt) rfl ?_   -- t19
      refine sq_q (qt_load rfl (fun w t => t.a1 (hat k hlt))) rfl ?_   -- t20
      refine sq_q (qt_assign rfl) rfl ?_   -- t6
      refine sq_end ?_
      have hcs : m.rs[k].l.length < 1 ∨ (1 ≤ m.rs[k].l.length ∧ 16 < m.rs[k].l.length) ∨ (1 ≤ m.rs[k].l.length ∧ m.rs[k].l.length ≤ 16 ∧ m.rs[k].l.length ≠ m.rs[0].l.length) ∨ (1 ≤ m.rs[k].l.length ∧ m.rs[k].l.length ≤ 16 ∧ m.rs[k].l.length = m.rs[0].l.length) := by omega
      rcases hcs with g1 | ⟨g1, g2⟩ | ⟨g1, g2, g3⟩ | ⟨g1, g2, g3⟩
      ·
        rw [hno k hlt (.inl g1)]
        refine tr_rseq ?_   -- region 6
        refine sq_q (qt_move rfl) rfl ?_   -- t21
        refine sq_q (qt_len rfl) rfl ?_   -- t22
        refine sq_q (qt_bin rfl rfl (bT bin_lss (by omega))) rfl ?_   -- t23
        refine sq_q (qt_move rfl) rfl ?_   -- t24
        refine sq_gF rfl rfl rfl rfl ?_
        refine sq_gF rfl rfl rfl rfl ?_
        refine sq_gF rfl rfl rfl rfl ?_
        refine sq_q (qt_pick rfl rfl) rfl ?_   -- t28
        refine sq_q (qt_move rfl) rfl ?_   -- t29
        refine sq_gF rfl rfl rfl rfl ?_
        refine sq_gF rfl rfl rfl rfl ?_
        refine sq_gF rfl rfl rfl rfl ?_
        refine sq_gF rfl rfl rfl rfl ?_
        refine sq_gF rfl rfl rfl rfl ?_
        refine sq_gF rfl rfl rfl rfl ?_
        refine sq_gF rfl rfl rfl rfl ?_
        refine sq_q (qt_pick rfl rfl) rfl ?_   -- t37
        refine sq_end ?_
        refine tr_ifT rfl ?_
        refine tr_rseq ?_   -- region 7
        refine sq_q (qt_assign rfl) rfl ?_   -- t2
        refine sq_q (qt_assign rfl) rfl ?_   -- t3
        refine sq_q (qt_assign rfl) rfl ?_   -- t4
        refine sq_end ?_
        refine tr_ret ?_
        repeat (first | (with_reducible refine tr_skip ?_) | (with_reducible refine tr_exit ?_) | (with_reducible refine tr_then ?_) | (with_reducible refine tr_inX ?_) | (with_reducible refine tr_thenX ?_) | (with_reducible refine tr_inN ?_) | (with_reducible refine tr_inR ?_) | (with_reducible refine tr_thenR ?_))
        exact tr_done () (fun a w s t => results_3 rfl (resv_tmp s rfl) (resv_tmp s rfl) (resv_tmp s rfl)) (fun w _ _ _ => trivial)
      ·
        rw [hno k hlt (.inr (.inl g2))]
        refine tr_rseq ?_   -- region 6
        refine sq_q (qt_move rfl) rfl ?_   -- t21
        refine sq_q (qt_len rfl) rfl ?_   -- t22
        refine sq_q (qt_bin rfl rfl (bF bin_lss (by omega))) rfl ?_   -- t23
        refine sq_q (qt_move rfl) rfl ?_   -- t24
        refine sq_gT rfl rfl ?_
        refine sq_q (qt_move rfl) rfl ?_   -- t25
        refine sq_gT rfl rfl ?_
        refine sq_q (qt_len rfl) rfl ?_   -- t26
        refine sq_gT rfl rfl ?_
        refine sq_q (qt_bin rfl rfl (bT bin_gtr (by omega))) rfl ?_   -- t27
        refine sq_q (qt_pick rfl rfl) rfl ?_   -- t28
        refine sq_q (qt_move rfl) rfl ?_   -- t29
        refine sq_gF rfl rfl rfl rfl ?_
        refine sq_gF rfl rfl rfl rfl ?_
        refine sq_gF rfl rfl rfl rfl ?_
        refine sq_gF rfl rfl rfl rfl ?_
        refine sq_gF rfl rfl rfl rfl ?_
        refine sq_gF rfl rfl rfl rfl ?_
        refine sq_gF rfl rfl rfl rfl ?_
        refine sq_q (qt_pick rfl rfl) rfl ?_   -- t37
        refine sq_end ?_
        refine tr_ifT rfl ?_
        refine tr_rseq ?_   -- region 7
        refine sq_q (qt_assign rfl) rfl ?_   -- t2
        refine sq_q (qt_assign rfl) rfl ?_   -- t3
        refine sq_q (qt_assign rfl) rfl ?_   -- t4
        refine sq_end ?_
        refine tr_ret ?_
        repeat (first | (with_reducible refine tr_skip ?_) | (with_reducible refine tr_exit ?_) | (with_reducible refine tr_then ?_) | (with_reducible refine tr_inX ?_) | (with_reducible refine tr_thenX ?_) | (with_reducible refine tr_inN ?_) | (with_reducible refine tr_inR ?_) | (with_reducible refine tr_thenR ?_))
        exact tr_done () (fun a w s t => results_3 rfl (resv_tmp s rfl) (resv_tmp s rfl) (resv_tmp s rfl)) (fun w _ _ _ => trivial)
      ·
        rw [hno k hlt (.inr (.inr g3))]
        refine tr_rseq ?_   -- region 6
        refine sq_q (qt_move rfl) rfl ?_   -- t21
        refine sq_q (qt_len rfl) rfl ?_   -- t22
        refine sq_q (qt_bin rfl rfl (bF bin_lss (by omega))) rfl ?_   -- t23
        refine sq_q (qt_move rfl) rfl ?_   -- t24
        refine sq_gT rfl rfl ?_
        refine sq_q (qt_move rfl) rfl ?_   -- t25
        refine sq_gT rfl rfl ?_
        refine sq_q (qt_len rfl) rfl ?_   -- t26
        refine sq_gT rfl rfl ?_
        refine sq_q (qt_bin rfl rfl (bF bin_gtr (by omega))) rfl ?_   -- t27
        refine sq_q (qt_pick rfl rfl) rfl ?_   -- t28
        refine sq_q (qt_move rfl) rfl ?_   -- t29
        refine sq_gT rfl rfl ?_
        refine sq_q (qt_move rfl) rfl ?_   -- t30
        refine sq_gT rfl rfl ?_
        refine sq_q (qt_len rfl) rfl ?_   -- t31
        refine sq_gT rfl rfl ?_
        refine sq_q (qt_move rfl) rfl ?_   -- t32
        refine sq_gT rfl rfl ?_
        refine sq_q (qt_index (i := 0) rfl rfl hp0) rfl ?_   -- t33
        refine sq_gT rfl rfl ?_
        refine sq_q (qt_load rfl (fun w t => t.a1 (hat 0 hp0))) rfl ?_   -- t34
        refine sq_gT rfl rfl ?_
        refine sq_q (qt_len rfl) rfl ?_   -- t35
        refine sq_gT rfl rfl ?_
        refine sq_q (qt_bin rfl rfl (bT bin_neq (by omega))) rfl ?_   -- t36
        refine sq_q (qt_pick rfl rfl) rfl ?_   -- t37
        refine sq_end ?_
        refine tr_ifT rfl ?_
        refine tr_rseq ?_   -- region 7
        refine sq_q (qt_assign rfl) rfl ?_   -- t2
        refine sq_q (qt_assign rfl) rfl ?_   -- t3
        refine sq_q (qt_assign rfl) rfl ?_   -- t4
        refine sq_end ?_
        refine tr_ret ?_
        repeat (first | (with_reducible refine tr_skip ?_) | (with_reducible refine tr_exit ?_) | (with_reducible refine tr_then ?_) | (with_reducible refine tr_inX ?_) | (with_reducible refine tr_thenX ?_) | (with_reducible refine tr_inN ?_) | (with_reducible refine tr_inR ?_) | (with_reducible refine tr_thenR ?_))
        exact tr_done () (fun a w s t => results_3 rfl (resv_tmp s rfl) (resv_tmp s rfl) (resv_tmp s rfl)) (fun w _ _ _ => trivial)
      ·
        refine tr_rseq ?_   -- region 6
        refine sq_q (qt_move rfl) rfl ?_   -- t21
        refine sq_q (qt_len rfl) rfl ?_   -- t22
        refine sq_q (qt_bin rfl rfl (bF bin_lss (by omega))) rfl ?_   -- t23
        refine sq_q (qt_move rfl) rfl ?_   -- t24
        refine sq_gT rfl rfl ?_
        refine sq_q (qt_move rfl) rfl ?_   -- t25
        refine sq_gT rfl rfl ?_
        refine sq_q (qt_len rfl) rfl ?_   -- t26
        refine sq_gT rfl rfl ?_
        refine sq_q (qt_bin rfl rfl (bF bin_gtr (by omega))) rfl ?_   -- t27
        refine sq_q (qt_pick rfl rfl) rfl ?_   -- t28
        refine sq_q (qt_move rfl) rfl ?_   -- t29
        refine sq_gT rfl rfl ?_
        refine sq_q (qt_move rfl) rfl ?_   -- t30
        refine sq_gT rfl rfl ?_
        refine sq_q (qt_len rfl) rfl ?_   -- t31
        refine sq_gT rfl rfl ?_
        refine sq_q (qt_move rfl) rfl ?_   -- t32
        refine sq_gT rfl rfl ?_
        refine sq_q (qt_index (i := 0) rfl rfl hp0) rfl ?_   -- t33
        refine sq_gT rfl rfl ?_
        refine sq_q (qt_load rfl (fun w t => t.a1 (hat 0 hp0))) rfl ?_   -- t34
        refine sq_gT rfl rfl ?_
        refine sq_q (qt_len rfl) rfl ?_   -- t35
        refine sq_gT rfl rfl ?_
        refine sq_q (qt_bin rfl rfl (bF bin_neq (by omega))) rfl ?_   -- t36
        refine sq_q (qt_pick rfl rfl) rfl ?_   -- t37
        refine sq_end ?_
        refine tr_ifF rfl ?_
        refine tr_skip ?_
        repeat (first | (with_reducible refine tr_skip ?_) | (with_reducible refine tr_exit ?_) | (with_reducible refine tr_then ?_) | (with_reducible refine tr_inX ?_) | (with_reducible refine tr_thenX ?_) | (with_reducible refine tr_inN ?_) | (with_reducible refine tr_inR ?_) | (with_reducible refine tr_thenR ?_))
        refine tr_region ?_   -- region 8
        refine sq_q (qt_bin rfl rfl (bin_addI (by omega) (by omega))) rfl ?_   -- t38
        refine sq_q (qt_move rfl) rfl ?_   -- t17
        refine sq_nil ?_
        repeat (first | (with_reducible refine tr_skip ?_) | (with_reducible refine tr_exit ?_) | (with_reducible refine tr_then ?_) | (with_reducible refine tr_inX ?_) | (with_reducible refine tr_thenX ?_) | (with_reducible refine tr_inN ?_) | (with_reducible refine tr_inR ?_) | (with_reducible refine tr_thenR ?_))
        refine tr_round (k + 1) ⟨by omega, fun a ha hak => ?_⟩ (by omega) ⟨rfl, rfl, rfl, rfl, trivial⟩ rfl (fun _ h => h)
        by_cases e : a = k
        · subst e; exact ⟨g1, g2, g3⟩
        · exact hall a ha (by omega)
    ·
      have hke : k = m.rs.length := by have := of_decide_eq_false hc; omega
      have hs := shp_some (L := m.zs) (by omega) (by omega) (by rw [m.zs_at hp0, Rw.zs_len]; exact (hall 0 hp0 (by omega)).1) (by rw [m.zs_at hp0, Rw.zs_len]; exact (hall 0 hp0 (by omega)).2.1) (fun i hi => by rw [m.zs_at (by omega), m.zs_at hp0, Rw.zs_len, Rw.zs_len]; exact (hall i (by omega) (by omega)).2.2)
      have hs2 : shp m.zs = some (m.rs.length, m.rs[0].l.length) := by rw [hs, m.zs_at hp0, Rw.zs_len, hzl]
      rw [hs2]
      refine tr_exit ?_
      repeat (first | (with_reducible refine tr_skip ?_) | (with_reducible refine tr_exit ?_) | (with_reducible refine tr_then ?_) | (with_reducible refine tr_inX ?_) | (with_reducible refine tr_thenX ?_) | (with_reducible refine tr_inN ?_) | (with_reducible refine tr_inR ?_) | (with_reducible refine tr_thenR ?_))
      refine tr_rdraw0 [0, 2, 3, 4, 6, 14, 15, 16, 17, 18, 37] (by kernel_rfl) ?_   -- region 9
      refine dx_q rfl (qt_move rfl) rfl ?_   -- t39
      refine dx_q rfl (qt_len rfl) rfl ?_   -- t40
      refine dx_q rfl (qt_move rfl) rfl ?_   -- t41
      refine dx_q rfl (qt_index (i := 0) rfl rfl hp0) rfl ?_   -- t42
      refine dx_q rfl (qt_load rfl (fun w t => t.a1 (hat 0 hp0))) rfl ?_   -- t43
      refine dx_q rfl (qt_len rfl) rfl ?_   -- t44
      refine dx_q rfl (qt_assign rfl) rfl ?_   -- t2
      refine dx_q rfl (qt_assign rfl) rfl ?_   -- t3
      refine dx_q rfl (qt_assign rfl) rfl ?_   -- t4
      refine dx_nil ?_
      repeat (first | refine es_val rfl ?_ rfl | refine es_res rfl (fun x => ?_) rfl | refine es_skip rfl ?_)
      refine es_nil rfl ?_
      refine tx_endk ?_
      refine tr_ret ?_
      repeat (first | (with_reducible refine tr_skip ?_) | (with_reducible refine tr_exit ?_) | (with_reducible refine tr_then ?_) | (with_reducible refine tr_inX ?_) | (with_reducible refine tr_thenX ?_) | (with_reducible refine tr_inN ?_) | (with_reducible refine tr_inR ?_) | (with_reducible refine tr_thenR ?_))
      exact tr_done () (fun a w s t => results_3 rfl (resv_tmp s rfl) (resv_tmp s rfl) (resv_tmp s rfl)) (fun w _ _ _ => trivial)
end Go.Qk
end
section
/- MatrixShapes, the walk -/
set_option linter.unusedVariables false
namespace Go.Qk
open Go Go.Proofs Go.RowKit
set_option maxRecDepth 100000
set_option maxHeartbeats 4000000

theorem shape2_ret (m : Mt) (B : Nat) (w0 : World) (S : Nat → Prop) (hm : m.ok B w0) (hlen : m.rs.length ≤ 35184372088832) (hrow : ∀ r ∈ m.rs, r.l.length ≤ 35184372088832) :
    Ret Try.prog 42 [m.v] w0 S (fun _ : Unit => shpV (shp m.zs)) (fun _ _ => True) := by
  refine ret_of Try.func42 rfl Try.ntmps42 rfl ?_
  refine tr_rseq ?_   -- region 0
  refine sq_q (qt_assign rfl) rfl ?_   -- t2
  refine sq_q (qt_assign rfl) rfl ?_   -- t3
  refine sq_q (qt_assign rfl) rfl ?_   -- t4
  refine sq_end ?_
  refine tr_rseq ?_   -- region 1
  refine sq_q (qt_move rfl) rfl ?_   -- t5
  refine sq_call (val := fun _ : Unit => shpV (shp m.zs)) (F := fun _ _ => True) rfl rfl rfl (fun w t => shape_ret m B w _ (t.mt hm) hlen hrow) fun _ => ?_   -- t6
  refine sq_q (qt_extract rfl rfl) rfl ?_   -- t7
  refine sq_q (qt_extract rfl rfl) rfl ?_   -- t8
  refine sq_q (qt_extract rfl rfl) rfl ?_   -- t9
  refine sq_q (qt_assign rfl) rfl ?_   -- t2
  refine sq_q (qt_assign rfl) rfl ?_   -- t3
  refine sq_q (qt_assign rfl) rfl ?_   -- t4
  refine sq_end ?_
  refine tr_ret ?_
  repeat (first | (with_reducible refine tr_skip ?_) | (with_reducible refine tr_exit ?_) | (with_reducible refine tr_then ?_) | (with_reducible refine tr_inX ?_) | (with_reducible refine tr_thenX ?_) | (with_reducible refine tr_inN ?_) | (with_reducible refine tr_inR ?_) | (with_reducible refine tr_thenR ?_))
  exact tr_done () (fun a w s t => results_3 rfl (resv_tmp s rfl) (resv_tmp s rfl) (resv_tmp s rfl)) (fun w _ _ _ => trivial)

theorem matrixShapes_ret (m : Mt) (w0 : World) (S : Nat → Prop) (hm : m.ok RB w0) (hlen : m.rs.length ≤ RB) (hrow : ∀ r ∈ m.rs, r.l.length ≤ RB) :
    Ret Try.prog 10 [m.v] w0 S (fun _ : Unit => .bool true) (fun _ _ => True) := by
  refine ret_of Try.func10 rfl Try.ntmps10 rfl ?_
  refine tr_rseq ?_   -- region 0
  refine sq_q (qt_assign rfl) rfl ?_   -- t2
  refine sq_end ?_
  refine tr_seq ?_   -- C1
  refine tr_rseq ?_   -- region 1
  refine sq_q (qt_move rfl) rfl ?_   -- t9
  refine sq_call (fun b : Bool => .bool b) (fun b _ => b = false → smallM m) rfl rfl rfl (fun w t => large_ret m w _ (t.mt hm) hlen hrow) fun b => ?_   -- t10
  refine sq_end ?_
  refine tr_have (fun w t => t.r.2) fun hb => ?_
  refine tr_if rfl (fun hc => ?_) (fun hc => ?_)
  ·
    clear hb
    refine tr_rseq ?_   -- region 2
    refine sq_call (val := fun _ : Unit => .bool true) (F := fun _ _ => True) rfl rfl rfl (fun w t => awake_ret w _) fun _ => ?_   -- t11
    refine sq_q (qt_assign rfl) rfl ?_   -- t2
    refine sq_end ?_
    refine tr_ret ?_
    repeat (first | (with_reducible refine tr_skip ?_) | (with_reducible refine tr_exit ?_) | (with_reducible refine tr_then ?_) | (with_reducible refine tr_inX ?_) | (with_reducible refine tr_thenX ?_) | (with_reducible refine tr_inN ?_) | (with_reducible refine tr_inR ?_) | (with_reducible refine tr_thenR ?_))
    exact tr_done () (fun a w s t => results_1 rfl (resv_tmp s rfl)) (fun _ _ _ _ => trivial)
  ·
    have hs := hb hc
    obtain ⟨o, ho⟩ : ∃ o, o = shp m.zs := ⟨_, rfl⟩
    have hl1 := hs.1
    have hr1 := fun r hr => (hs.2 r hr).1
    refine tr_skip ?_
    repeat (first | (with_reducible refine tr_skip ?_) | (with_reducible refine tr_exit ?_) | (with_reducible refine tr_then ?_) | (with_reducible refine tr_inX ?_) | (with_reducible refine tr_thenX ?_) | (with_reducible refine tr_inN ?_) | (with_reducible refine tr_inR ?_) | (with_reducible refine tr_thenR ?_))
    refine tr_rseq ?_   -- region 3
    refine sq_q (qt_move rfl) rfl ?_   -- t13
    refine sq_call (val := fun _ : Unit => shpV o) (F := fun _ _ => True) rfl rfl rfl (fun w t => by rw [ho]; exact shape2_ret m RB w _ (t.mt hm) (by omega) (fun r hr => by have := hr1 r hr; omega)) fun _ => ?_   -- t14
    refine sq_q (qt_move rfl) rfl ?_   -- t12
    refine sq_q (qt_extract rfl rfl) rfl ?_   -- t15
    refine sq_q (qt_extract rfl rfl) rfl ?_   -- t16
    refine sq_q (qt_extract rfl rfl) rfl ?_   -- t17
    refine sq_q (qt_assign rfl) rfl ?_   -- t3
    refine sq_q (qt_assign rfl) rfl ?_   -- t4
    refine sq_q (qt_assign rfl) rfl ?_   -- t5
    refine sq_end ?_
    refine tr_rseq ?_   -- region 4
    refine sq_q (qt_move rfl) rfl ?_   -- t19
    refine sq_call (val := fun _ : Unit => shpV o) (F := fun _ _ => True) rfl rfl rfl (fun w t => by rw [ho]; exact rshape_ret m RB w _ (t.mt hm) (by omega) (fun r hr => by have := hr1 r hr; omega)) fun _ => ?_   -- t20
    refine sq_q (qt_move rfl) rfl ?_   -- t18
    refine sq_q (qt_extract rfl rfl) rfl ?_   -- t21
    refine sq_q (qt_extract rfl rfl) rfl ?_   -- t22
    refine sq_q (qt_extract rfl rfl) rfl ?_   -- t23
    refine sq_q (qt_assign rfl) rfl ?_   -- t6
    refine sq_q (qt_assign rfl) rfl ?_   -- t7
    refine sq_q (qt_assign rfl) rfl ?_   -- t8
    refine sq_end ?_
    clear ho
    obtain ⟨r, hr⟩ : ∃ r : Nat, r = (o.getD (0, 0)).1 := ⟨_, rfl⟩
    ·
      refine tr_rseq ?_   -- region 5
      refine sq_q (qt_move rfl) rfl ?_   -- t24
      refine sq_q (qt_move rfl) rfl ?_   -- t25
      refine sq_q (qt_bin rfl rfl (bT bin_eql rfl)) rfl ?_   -- t26
      refine sq_q (qt_move rfl) rfl ?_   -- t27
      refine sq_gT rfl rfl ?_
      refine sq_q (qt_move rfl) rfl ?_   -- t28
      refine sq_gT rfl rfl ?_
      refine sq_q (qt_move rfl) rfl ?_   -- t29
      refine sq_gT rfl rfl ?_
      refine sq_q (qt_bin rfl rfl (bT bin_eql rfl)) rfl ?_   -- t30
      refine sq_q (qt_pick rfl rfl) rfl ?_   -- t31
      refine sq_q (qt_move rfl) rfl ?_   -- t32
      refine sq_gT rfl rfl ?_
      refine sq_q (qt_move rfl) rfl ?_   -- t33
      refine sq_gT rfl rfl ?_
      refine sq_q (qt_move rfl) rfl ?_   -- t34
      refine sq_gT rfl rfl ?_
      refine sq_q (qt_binB (r := .bool true) rfl rfl (bin_eqlBr boolT _)) rfl ?_   -- t35
      refine sq_q (qt_pick rfl rfl) rfl ?_   -- t36
      refine sq_q (qt_move rfl) rfl ?_   -- t37
      refine sq_gT rfl rfl ?_
      refine sq_call (val := fun _ : Unit => .bool true) (F := fun _ _ => True) rfl rfl rfl (fun w t => awake_ret w _) fun _ => ?_   -- t38
      refine sq_q (qt_pick rfl rfl) rfl ?_   -- t39
      refine sq_q (qt_assign rfl) rfl ?_   -- t2
      refine sq_end ?_
      refine tr_ret ?_
      repeat (first | (with_reducible refine tr_skip ?_) | (with_reducible refine tr_exit ?_) | (with_reducible refine tr_then ?_) | (with_reducible refine tr_inX ?_) | (with_reducible refine tr_thenX ?_) | (with_reducible refine tr_inN ?_) | (with_reducible refine tr_inR ?_) | (with_reducible refine tr_thenR ?_))
      exact tr_done () (fun a w s t => results_1 rfl (resv_tmp s rfl)) (fun _ _ _ _ => trivial)
end Go.Qk
end
section
/- Normalize, Neg, Abs, Sign of the reference -/
set_option linter.unusedVariables false
namespace Go.Qk
open Go Go.Proofs Go.RowKit
set_option maxRecDepth 100000
set_option maxHeartbeats 4000000

theorem rnormalize_ret (n : Bool) (xs : List Nat) (p : Sv) (w : World) (S : Nat → Prop) (hx : Lm xs p w) (lx : lim xs) (hb : xs.length ≤ 35184372088832) :
    Ret Try.prog 91 [ig n xs p] w S (iv (sgn n (val xs))) (Lz (val xs)) := by
  refine ret_of Try.func91 rfl Try.ntmps91 rfl ?_
  refine tr_rseq ?_   -- region 0
  refine sq_box rfl rfl fun r1 => ?_   -- t1
  refine sq_alloc rfl fun r2 => ?_   -- t2
  refine sq_end ?_
  refine tr_rseq ?_   -- region 1
  refine sq_q (qt_fieldAddr rfl) rfl ?_   -- t3
  refine sq_q (qt_load rfl (fun w t => t.atO 1 rfl rfl)) rfl ?_   -- t4
  refine sq_q (qt_fieldAddr rfl) rfl ?_   -- t5
  refine sq_q (qt_load rfl (fun w t => t.atO 1 rfl rfl)) rfl ?_   -- t6
  refine sq_call (iv (sgn n (val xs))) (Lz (val xs)) rfl rfl rfl (fun w t => make_ret n xs p.1 p.2 w _ (t.lm hx).1 lx hx.2 hb) fun x => ?_   -- t7
  refine sq_store 0 rfl rfl rfl rfl (Nat.le_refl 2) rfl rfl ?_   -- R1.5
  refine sq_end ?_
  refine tr_ret ?_
  repeat (first | (with_reducible refine tr_skip ?_) | (with_reducible refine tr_exit ?_) | (with_reducible refine tr_then ?_) | (with_reducible refine tr_inX ?_) | (with_reducible refine tr_thenX ?_) | (with_reducible refine tr_inN ?_) | (with_reducible refine tr_inR ?_) | (with_reducible refine tr_thenR ?_))
  exact tr_done x (fun a w s t => results_1 rfl (resv_cell 0 s t rfl rfl rfl)) (fun w h _ _ => h.2)

theorem rneg_ret (n : Bool) (xs : List Nat) (p : Sv) (w : World) (S : Nat → Prop) (hx : Lm xs p w) (lx : lim xs) (hb : xs.length ≤ 35184372088832) :
    Ret Try.prog 73 [ig n xs p] w S (iv (-(sgn n (val xs)))) (Lz (val xs)) := by
  have e : -(sgn n (val xs)) = sgn (!n) (val xs) := by cases n <;> simp [sgn]
  rw [e]
  refine ret_of Try.func73 rfl Try.ntmps73 rfl ?_
  refine tr_rseq ?_   -- region 0
  refine sq_box rfl rfl fun r1 => ?_   -- t1
  refine sq_alloc rfl fun r2 => ?_   -- t2
  refine sq_end ?_
  refine tr_rseq ?_   -- region 1
  refine sq_q (qt_fieldAddr rfl) rfl ?_   -- t3
  refine sq_q (qt_load rfl (fun w t => t.atO 1 rfl rfl)) rfl ?_   -- t4
  refine sq_q (qt_not rfl) rfl ?_   -- t5
  refine sq_q (qt_fieldAddr rfl) rfl ?_   -- t6
  refine sq_q (qt_load rfl (fun w t => t.atO 1 rfl rfl)) rfl ?_   -- t7
  refine sq_call (iv (sgn (!n) (val xs))) (Lz (val xs)) rfl rfl rfl (fun w t => make_ret (!n) xs p.1 p.2 w _ (t.lm hx).1 lx hx.2 hb) fun x => ?_   -- t8
  refine sq_store 0 rfl rfl rfl rfl (Nat.le_refl 2) rfl rfl ?_   -- R1.6
  refine sq_end ?_
  refine tr_ret ?_
  repeat (first | (with_reducible refine tr_skip ?_) | (with_reducible refine tr_exit ?_) | (with_reducible refine tr_then ?_) | (with_reducible refine tr_inX ?_) | (with_reducible refine tr_thenX ?_) | (with_reducible refine tr_inN ?_) | (with_reducible refine tr_inR ?_) | (with_reducible refine tr_thenR ?_))
  exact tr_done x (fun a w s t => results_1 rfl (resv_cell 0 s t rfl rfl rfl)) (fun w h _ _ => h.2)

theorem rabs_ret (n : Bool) (xs : List Nat) (p : Sv) (w : World) (S : Nat → Prop) (hx : Lm xs p w) (lx : lim xs) (hb : xs.length ≤ 35184372088832) :
    Ret Try.prog 116 [ig n xs p] w S (iv (val xs : Int)) (Lz (val xs)) := by
  refine ret_of Try.func116 rfl Try.ntmps116 rfl ?_
  refine tr_rseq ?_   -- region 0
  refine sq_box rfl rfl fun r1 => ?_   -- t1
  refine sq_alloc rfl fun r2 => ?_   -- t2
  refine sq_end ?_
  refine tr_rseq ?_   -- region 1
  refine sq_q (qt_fieldAddr rfl) rfl ?_   -- t3
  refine sq_q (qt_load rfl (fun w t => t.atO 1 rfl rfl)) rfl ?_   -- t4
  refine sq_call (iv (sgn false (val xs))) (Lz (val xs)) rfl rfl rfl (fun w t => make_ret false xs p.1 p.2 w _ (t.lm hx).1 lx hx.2 hb) fun x => ?_   -- t5
  refine sq_store 0 rfl rfl rfl rfl (Nat.le_refl 2) rfl rfl ?_   -- R1.3
  refine sq_end ?_
  refine tr_ret ?_
  repeat (first | (with_reducible refine tr_skip ?_) | (with_reducible refine tr_exit ?_) | (with_reducible refine tr_then ?_) | (with_reducible refine tr_inX ?_) | (with_reducible refine tr_thenX ?_) | (with_reducible refine tr_inN ?_) | (with_reducible refine tr_inR ?_) | (with_reducible refine tr_thenR ?_))
  exact tr_done x (fun a w s t => results_1 rfl (resv_cell 0 s t rfl rfl rfl)) (fun w h _ _ => h.2)

theorem rsign_ret (n : Bool) (xs : List Nat) (p : Sv) (w : World) (S : Nat → Prop) (hx : Lm xs p w) (lx : lim xs) (hb : xs.length ≤ 35184372088832) :
    Ret Try.prog 111 [ig n xs p] w S (fun _ : Unit => .int .i64 (sgn n (val xs)).sign) (fun _ _ => True) := by
  refine ret_of Try.func111 rfl Try.ntmps111 rfl ?_
  refine tr_rseq ?_   -- region 0
  refine sq_box rfl rfl fun r1 => ?_   -- t1
  refine sq_q (qt_assign rfl) rfl ?_   -- t2
  refine sq_end ?_
  refine tr_seq ?_   -- C1
  refine tr_block ?_
  refine tr_rseq ?_   -- region 1
  refine sq_q (qt_fieldAddr rfl) rfl ?_   -- t4
  refine sq_q (qt_load rfl (fun w t => t.atO 0 rfl rfl)) rfl ?_   -- t5
  refine sq_call (slv (limbsOf (val xs))) (Lz (val xs)) rfl rfl rfl (fun w t => rtrim_ret xs p.1 p.2 w _ (t.lm hx).1 lx hx.2 hb) fun x6 => ?_   -- t6
  refine sq_q (qt_len rfl) rfl ?_   -- t7
  refine sq_q (qt_bin rfl rfl bin_eql) rfl ?_   -- t8
  refine sq_q (qt_assign rfl) rfl ?_   -- t3
  refine sq_end ?_
  refine tr_if rfl (fun hc => ?_) (fun hc => ?_)
  ·
    have h0 : (val xs) = 0 := nl_zero.1 (by have := of_decide_eq_true hc; unfold nl; omega)
    refine tr_rseq ?_   -- region 2
    refine sq_q (qt_assign rfl) rfl ?_   -- t2
    refine sq_end ?_
    refine tr_ret ?_
    repeat (first | (with_reducible refine tr_skip ?_) | (with_reducible refine tr_exit ?_) | (with_reducible refine tr_then ?_) | (with_reducible refine tr_inX ?_) | (with_reducible refine tr_thenX ?_) | (with_reducible refine tr_inN ?_) | (with_reducible refine tr_inR ?_) | (with_reducible refine tr_thenR ?_))
    refine tr_done () (fun a w s t => results_1 rfl (resv_tmp s ?_)) (fun _ _ _ _ => trivial)
    rw [h0, show sgn n 0 = 0 by unfold sgn; split <;> rfl]
    rfl
  ·
    have h0 : (val xs) ≠ 0 := by
      intro h
      have := of_decide_eq_false hc
      rw [h, limbsOf_zero] at this
      exact this rfl
    refine tr_rseq ?_   -- region 3
    refine sq_q (qt_fieldAddr rfl) rfl ?_   -- t10
    refine sq_q (qt_load rfl (fun w t => t.atO 0 rfl rfl)) rfl ?_   -- t11
    refine sq_q (qt_assign rfl) rfl ?_   -- t9
    refine sq_end ?_
    refine tr_if rfl (fun hc => ?_) (fun hc => ?_)
    ·
      subst hc
      refine tr_rseq ?_   -- region 4
      refine sq_q (qt_assign rfl) rfl ?_   -- t2
      refine sq_end ?_
      refine tr_ret ?_
      repeat (first | (with_reducible refine tr_skip ?_) | (with_reducible refine tr_exit ?_) | (with_reducible refine tr_then ?_) | (with_reducible refine tr_inX ?_) | (with_reducible refine tr_thenX ?_) | (with_reducible refine tr_inN ?_) | (with_reducible refine tr_inR ?_) | (with_reducible refine tr_thenR ?_))
      refine tr_done () (fun a w s t => results_1 rfl (resv_tmp s ?_)) (fun _ _ _ _ => trivial)
      rw [show sgn true (val xs) = -((val xs) : Int) from rfl, Int.sign_eq_neg_one_of_neg (by omega)]
      rfl
    ·
      subst hc
      refine tr_skip ?_
      repeat (first | (with_reducible refine tr_skip ?_) | (with_reducible refine tr_exit ?_) | (with_reducible refine tr_then ?_) | (with_reducible refine tr_inX ?_) | (with_reducible refine tr_thenX ?_) | (with_reducible refine tr_inN ?_) | (with_reducible refine tr_inR ?_) | (with_reducible refine tr_thenR ?_))
      refine tr_rseq ?_   -- region 5
      refine sq_q (qt_assign rfl) rfl ?_   -- t2
      refine sq_end ?_
      refine tr_ret ?_
      repeat (first | (with_reducible refine tr_skip ?_) | (with_reducible refine tr_exit ?_) | (with_reducible refine tr_then ?_) | (with_reducible refine tr_inX ?_) | (with_reducible refine tr_thenX ?_) | (with_reducible refine tr_inN ?_) | (with_reducible refine tr_inR ?_) | (with_reducible refine tr_thenR ?_))
      refine tr_done () (fun a w s t => results_1 rfl (resv_tmp s ?_)) (fun _ _ _ _ => trivial)
      rw [show sgn false (val xs) = ((val xs) : Int) from rfl, Int.sign_eq_one_of_pos (by omega)]
      rfl
end Go.Qk
end
