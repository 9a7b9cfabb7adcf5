/- Lemmas and contracts of functions that the law reaches. -/
import Derived.Test.YtencodepmbhpiaaGv5
set_option linter.unusedVariables false
set_option linter.unusedSimpArgs false
section
set_option linter.unusedVariables false
namespace Go.Qk
open Go Go.Proofs Go.RowKit
set_option maxRecDepth 100000
set_option maxHeartbeats 4000000
theorem gmatrix_ret (g : Gd) (k : Nat) (w0 : World) (S : Nat → Prop) (hg : g.ok w0) (hk : 1 ≤ k) (hk16 : k ≤ 16) :
    Ret Try.prog 30 [g.v, .int .i64 (k : Int)] w0 S Mt.v (fun m w => m.ok 2 w ∧ m.zs = g.zs k ∧ m.can) := by
  refine ret_of Try.func30 rfl Try.ntmps30 rfl ?_
  refine tr_rseq ?_
  refine sq_box rfl rfl fun r2 => ?_
  refine sq_q (qt_assign rfl) rfl ?_
  refine sq_end ?_
  refine tr_rseq ?_
  refine sq_q (qt_load_agg (vs := [.int .u8 (g.r : Int), .int .u8 (g.c : Int), .slice g.p.1 g.l.length g.p.2]) rfl rfl (fun w t j v hv => by rw [Nat.zero_add]; exact t.atO 0 rfl hv)) rfl ?_
  refine sq_q (qt_move rfl) rfl ?_
  refine sq_call Xm.v (fun m w => m.ok w ∧ m.zs = g.zs k) rfl rfl rfl (fun w t => ints_ret g k w _ (t.gd hg) hk hk16) fun m => ?_
  refine sq_have (fun w t => t.r.2.2) fun hz => ?_
  obtain ⟨hl, hr⟩ := xm_lens hz
  have h1 := Nat.mod_lt g.r (show 0 < k by omega)
  have h2 := Nat.mod_lt g.c (show 0 < k by omega)
  refine sq_call Mt.v (optF 2 (some (g.zs k))) rfl rfl rfl (fun w t => by have h := fun S' => of_ret m w S' t.r.2.1 (by omega) (fun r hr' => by rw [hr r hr']; omega); rw [hz, g.keep hk hk16] at h; exact h _) fun m2 => ?_
  refine sq_q (qt_assign rfl) rfl ?_
  refine sq_end ?_
  refine tr_ret ?_
  repeat with_reducible first | refine tr_skip ?_ | refine tr_exit ?_ | refine tr_then ?_ | refine tr_inX ?_ | refine tr_thenX ?_ | refine tr_inN ?_ | refine tr_inR ?_ | refine tr_thenR ?_
  exact tr_done m2 (fun a w s t => results_1 rfl (resv_tmp s rfl)) (fun w h _ _ => h.2)
end Go.Qk
end
section
set_option linter.unusedVariables false
namespace Go.Qk
open Go Go.Proofs Go.RowKit
theorem mt_ent {m : Mt} {i j : Nat} (hi : i < m.rs.length) (hj : j < m.rs[i].l.length) : ent m.zs i j = m.rs[i].l[j].z := by
  rw [ent_at (by rw [m.zs_len]; exact hi) (by rw [m.zs_at hi, Rw.zs_len]; exact hj)]
  simp [m.zs_at hi, Rw.zs]
theorem mt_shp {m : Mt} {r c : Nat} (h : shp m.zs = some (r, c)) : m.rs.length = r ∧ 1 ≤ r ∧ r ≤ 16 ∧ 1 ≤ c ∧ c ≤ 16 ∧ ∀ q ∈ m.rs, q.l.length = c := by
  obtain ⟨h1, h2, h3, h4, h5, h6⟩ := shp_inv h
  rw [m.zs_len] at h1
  exact ⟨h1, h2, h3, h4, h5, fun q hq => by have := h6 q.zs (List.mem_map.2 ⟨q, hq, rfl⟩); rwa [Rw.zs_len] at this⟩
theorem radd_zd {z z' : Zd} {B B' : Nat} {w : World} {S : Nat → Prop} (h : z.ok B w) (h' : z'.ok B' w) (hB : B < 35184372088832) (hB' : B' < 35184372088832) : Ret Try.prog 59 [z.v, z'.v] w S (iv (z.z + z'.z)) (Lz (z.z + z'.z).natAbs) :=
  radd_ret z.n z'.n z.xs z'.xs z.p z'.p w S h.1 h.2.1 h'.1 h'.2.1 (by have := h.2.2; omega) (by have := h'.2.2; omega)
end Go.Qk
end
section
set_option linter.unusedVariables false
namespace Go.Qk
open Go Go.Proofs Go.RowKit
set_option maxRecDepth 100000
set_option maxHeartbeats 4000000
theorem rcmp2_ret (n n' : Bool) (xs ys : List Nat) (p p' : Sv) (w : World) (S : Nat → Prop) (hx : Lm xs p w) (lx : lim xs) (hy : Lm ys p' w) (ly : lim ys) (hb : xs.length ≤ 35184372088832) (hb' : ys.length ≤ 35184372088832) :
    Ret Try.prog 106 [ig n xs p, ig n' ys p'] w S (fun _ : Unit => .int .i64 (cmpZ (sgn n (val xs)) (sgn n' (val ys)))) (fun _ _ => True) := by
  have hxn := nl_val lx
  have hyn := nl_val ly
  refine ret_of Try.func106 rfl Try.ntmps106 rfl ?_
  refine tr_rseq ?_
  refine sq_box rfl rfl fun r2 => ?_
  refine sq_box rfl rfl fun r3 => ?_
  refine sq_q (qt_assign rfl) rfl ?_
  refine sq_end ?_
  refine tr_rdraw0 [0, 1, 2, 3, 4, 5, 6, 13, 16] (by kernel_rfl) ?_
  refine dx_q rfl (qt_load2 rfl (fun w t => t.atO 1 rfl rfl) (fun w t => t.atO 1 rfl rfl)) rfl ?_
  refine dx_callv (v := .int .i64 (sgn n (val xs)).sign) (F := fun _ _ => True) rfl rfl rfl (fun w t => rsign_ret n xs p w _ (t.lm hx) lx hb) ?_
  refine dx_q rfl (qt_load2 rfl (fun w t => t.atO 0 rfl rfl) (fun w t => t.atO 0 rfl rfl)) rfl ?_
  refine dx_callv (v := .int .i64 (sgn n' (val ys)).sign) (F := fun _ _ => True) rfl rfl rfl (fun w t => rsign_ret n' ys p' w _ (t.lm hy) ly hb') ?_
  refine dx_q rfl (qt_assign rfl) rfl ?_
  refine dx_q rfl (qt_assign rfl) rfl ?_
  refine dx_nil ?_
  repeat (first | refine es_val rfl ?_ rfl | refine es_res rfl (fun x => ?_) rfl | refine es_skip rfl ?_)
  refine es_nil rfl ?_
  refine tx_endk ?_
  refine tr_seq ?_
  refine tr_rseq ?_
  refine sq_q (qt_move rfl) rfl ?_
  refine sq_q (qt_move rfl) rfl ?_
  refine sq_q (qt_bin rfl rfl bin_neq) rfl ?_
  refine sq_end ?_
  refine tr_if rfl (fun hc => ?_) (fun hc => ?_)
  ·
    have hne : (sgn n (val xs)).sign ≠ (sgn n' (val ys)).sign := by simpa using hc
    have hd := cmp_diff hne
    refine tr_seq ?_
    refine tr_rseq ?_
    refine sq_q (qt_move rfl) rfl ?_
    refine sq_q (qt_move rfl) rfl ?_
    refine sq_q (qt_bin rfl rfl bin_lss) rfl ?_
    refine sq_end ?_
    refine tr_if rfl (fun hc => ?_) (fun hc => ?_)
    ·
      refine tr_rseq ?_
      refine sq_q (qt_assign rfl) rfl ?_
      refine sq_end ?_
      refine tr_ret ?_
      repeat with_reducible first | refine tr_skip ?_ | refine tr_exit ?_ | refine tr_then ?_ | refine tr_inX ?_ | refine tr_thenX ?_ | refine tr_inN ?_ | refine tr_inR ?_ | refine tr_thenR ?_
      rw [hc, if_pos rfl] at hd
      exact tr_done () (fun a w s t => results_1 rfl (resv_tmp s (congrArg (fun z => some (Value.int .i64 z)) hd))) (fun _ _ _ _ => trivial)
    ·
      refine tr_skip ?_
      repeat with_reducible first | refine tr_skip ?_ | refine tr_exit ?_ | refine tr_then ?_ | refine tr_inX ?_ | refine tr_thenX ?_ | refine tr_inN ?_ | refine tr_inR ?_ | refine tr_thenR ?_
      refine tr_rseq ?_
      refine sq_q (qt_assign rfl) rfl ?_
      refine sq_end ?_
      refine tr_ret ?_
      repeat with_reducible first | refine tr_skip ?_ | refine tr_exit ?_ | refine tr_then ?_ | refine tr_inX ?_ | refine tr_thenX ?_ | refine tr_inN ?_ | refine tr_inR ?_ | refine tr_thenR ?_
      rw [hc, if_neg (by decide)] at hd
      exact tr_done () (fun a w s t => results_1 rfl (resv_tmp s (congrArg (fun z => some (Value.int .i64 z)) hd))) (fun _ _ _ _ => trivial)
  ·
    have heq : (sgn n (val xs)).sign = (sgn n' (val ys)).sign := by simpa using hc
    have hd := cmp_same heq
    refine tr_skip ?_
    repeat with_reducible first | refine tr_skip ?_ | refine tr_exit ?_ | refine tr_then ?_ | refine tr_inX ?_ | refine tr_thenX ?_ | refine tr_inN ?_ | refine tr_inR ?_ | refine tr_thenR ?_
    refine tr_rdraw0 [0, 1, 2, 3, 4, 5, 6, 13, 16] (by kernel_rfl) ?_
    refine dx_q rfl (qt_move rfl) rfl ?_
    refine dx_q rfl (qt_fieldAddr rfl) rfl ?_
    refine dx_q rfl (qt_load rfl (fun w t => t.atO 1 rfl rfl)) rfl ?_
    refine dx_call (slv (limbsOf (val xs))) (Lz (val xs)) rfl rfl rfl (fun w t => rtrim_ret xs p.1 p.2 w _ (t.lm hx).1 lx hx.2 hb) ?_
    refine dx_q rfl (qt_fieldAddr rfl) rfl ?_
    refine dx_q rfl (qt_load rfl (fun w t => t.atO 0 rfl rfl)) rfl ?_
    refine dx_call (slv (limbsOf (val ys))) (Lz (val ys)) rfl rfl rfl (fun w t => rtrim_ret ys p'.1 p'.2 w _ (t.lm hy).1 ly hy.2 hb') ?_
    refine dx_call2 20 23 (fun _ : Unit => .int .i64 (cmp3 (val xs) (val ys))) (fun _ _ => True) rfl rfl rfl (by simp) (by simp) (fun _ _ => rfl) (fun _ _ => rfl) (fun a b w t => rcmp_lz t.r.1.2.1 t.r.2.1 (by omega) (by omega)) ?_
    have hb1 := sign_bound (sgn n (val xs))
    have hb2 := cmp3_bound (val xs) (val ys)
    have hlo : -9223372036854775808 ≤ (sgn n (val xs)).sign * cmp3 (val xs) (val ys) := by rcases hb1 with h | h | h <;> rcases hb2 with h' | h' | h' <;> rw [h, h'] <;> decide
    have hhi : (sgn n (val xs)).sign * cmp3 (val xs) (val ys) < 9223372036854775808 := by rcases hb1 with h | h | h <;> rcases hb2 with h' | h' | h' <;> rw [h, h'] <;> decide
    refine dx_q1 24 (fun _ => .int .i64 ((sgn n (val xs)).sign * cmp3 (val xs) (val ys))) rfl rfl (fun o ho => mem_looksAt (by rw [ho]; simp [Op.operands])) (fun _ => qt_bin rfl rfl (bin_mulI hlo hhi)) rfl ?_
    refine dx_q1 25 (fun _ => .int .i64 ((sgn n (val xs)).sign * cmp3 (val xs) (val ys))) rfl rfl (fun o ho => mem_looksAt (by rw [ho]; simp [Op.operands])) (fun _ => qt_assign rfl) rfl ?_
    refine dx_nil ?_
    repeat (first | refine es_val rfl ?_ rfl | refine es_res rfl (fun x => ?_) rfl | refine es_skip rfl ?_)
    refine es_nil rfl ?_
    refine tx_endk ?_
    refine tr_ret ?_
    repeat with_reducible first | refine tr_skip ?_ | refine tr_exit ?_ | refine tr_then ?_ | refine tr_inX ?_ | refine tr_thenX ?_ | refine tr_inN ?_ | refine tr_inR ?_ | refine tr_thenR ?_
    exact tr_done () (fun a w s t => results_1 rfl (resv_tmp s (congrArg (fun z => some (Value.int .i64 z)) hd))) (fun _ _ _ _ => trivial)
end Go.Qk
end
section
set_option linter.unusedVariables false
namespace Go.Qk
open Go Go.Proofs Go.RowKit
theorem cmpZ_ne {a b : Int} : cmpZ a b ≠ 0 ↔ a ≠ b := by
  unfold cmpZ
  split
  · exact ⟨fun _ h => by omega, fun _ => by decide⟩
  · split
    · exact ⟨fun h => absurd rfl h, fun h => absurd (by assumption) h⟩
    · exact ⟨fun _ => by assumption, fun _ => by decide⟩
section
variable {z z' : Zd} {B B' : Nat} {w : World} {S : Nat → Prop}
theorem rcmp_zd (h : z.ok B w) (h' : z'.ok B' w) (hB : B ≤ 35184372088832) (hB' : B' ≤ 35184372088832) : Ret Try.prog 106 [z.v, z'.v] w S (fun _ : Unit => .int .i64 (cmpZ z.z z'.z)) (fun _ _ => True) :=
  rcmp2_ret z.n z'.n z.xs z'.xs z.p z'.p w S h.1 h.2.1 h'.1 h'.2.1 (by have := h.2.2; omega) (by have := h'.2.2; omega)
end
end Go.Qk
end
section
set_option linter.unusedVariables false
namespace Go.Qk
open Go Go.Proofs Go.RowKit Go.ChangeShapes Go.WideShapes Go.Deep
section
variable {H : Type} {enc : TypeId × Value → H} {w : World} {fuel : Nat} {x : DataW H × List MemPlace} {cs : List Value}
theorem bytes_i8 : Try.prog.bytesOf 106 = 1 := by kernel_rfl
theorem cells_i8 : Try.prog.cellsOf 106 = 1 := by kernel_rfl
theorem cells_u8 : Try.prog.cellsOf 5 = 1 := by kernel_rfl
theorem cells_i8s : Try.prog.cellsOf 29 = 1 := by kernel_rfl
theorem cells_grid : Try.prog.cellsOf 31 = 3 := by kernel_rfl
theorem und_grid : ∃ f0 f1 f2 : Field, Try.prog.underlying 31 = some (.struct #[f0, f1, f2]) ∧ f0.offset = 0 ∧ f1.offset = 1 ∧ f2.offset = 2 ∧ f0.type = 5 ∧ f1.type = 5 ∧ f2.type = 29 := ⟨_, _, _, Try.underlying31, rfl, rfl, rfl, rfl, rfl, rfl⟩
theorem open_i8row (h : DataW.trod enc Try.prog w 0 (fun _ => true) true fuel 29 cs = some x) (hw : ∀ n ∈ x.1.weights Try.prog 29, n ≤ reachBytes) : ∃ (l : List Int) (p : Sv), cs = [.slice p.1 l.length p.2] ∧ Rd p.1 (i8s l) w ∧ l.length ≤ p.2 ∧ (∀ a ∈ l, -128 ≤ a ∧ a < 128) ∧ l.length ≤ 281474976710656 := by
  obtain ⟨zs, p, rfl, h1, h2, h3, h4⟩ := open_row1 Try.underlying29 Try.underlying106 cells_i8 h hw
  refine ⟨zs, p, rfl, h1, h2, fun a ha => wf_i8 (h3 a ha), ?_⟩
  have h5 := Nat.le_trans h4 (Nat.le_refl reachBytes)
  rw [bytes_i8, Nat.mul_one] at h5
  exact Nat.le_trans h5 (by unfold reachBytes; decide)
set_option maxRecDepth 100000 in
theorem open_grid {base : Nat} {v : Value} {d : DataW H} {p : List MemPlace} (hv : Value.okWide Try.prog w .any base 31 v) (h : DataW.Trod enc Try.prog w 0 (fun _ => true) true 31 v d p) (hw : ∀ n ∈ d.weights Try.prog 31, n ≤ reachBytes) : ∃ g : Gd, v = g.v ∧ g.ok w := by
  obtain ⟨f0, f1, f2, hu, o0, o1, o2, t0, t1, t2⟩ := und_grid
  obtain ⟨cs, rfl, hsz⟩ := okWide_struct hu hv
  rw [cells_grid] at hsz
  obtain ⟨fu, hf⟩ := h
  obtain ⟨xs, n, _, hx, _, hxl, hxs⟩ := DataW.trod_struct hu hf
  match cs, hsz with
  | ⟨[c0, c1, c2]⟩, _ =>
    match xs, hxl with
    | [y0, y1, y2], _ =>
      have h0 := hxs 0 f0 rfl
      have h1 := hxs 1 f1 rfl
      have h2 := hxs 2 f2 rfl
      rw [o0, t0, cells_u8] at h0
      rw [o1, t1, cells_u8] at h1
      rw [o2, t2, cells_i8s] at h2
      simp only [Value.cells, List.drop, List.take, List.getElem?_cons_zero, List.getElem?_cons_succ] at h0 h1 h2
      obtain ⟨r, e0, _, r1⟩ := DataW.trod_int Try.underlying5 h0
      obtain ⟨c, e1, _, c1'⟩ := DataW.trod_int Try.underlying5 h1
      obtain ⟨l, q, e2, l1, l2, l3, l4⟩ := open_i8row h2 (fun k hk => hw k (by
        injection hx with hx _
        rw [hx]
        simp only [DataW.weights, hu, List.map_cons, List.map_nil, DataW.weightsEach, t2, List.mem_append]
        exact .inr (.inr (.inl hk))))
      have r2 := wf_u8 r1
      have c2' := wf_u8 c1'
      obtain ⟨rn, rfl⟩ := Int.eq_ofNat_of_zero_le r2.1
      obtain ⟨cn, rfl⟩ := Int.eq_ofNat_of_zero_le c2'.1
      simp only [List.cons.injEq, and_true] at e0 e1 e2
      refine ⟨⟨rn, cn, l, q⟩, ?_, by dsimp only; omega, by dsimp only; omega, l1, l2, l4, l3⟩
      rw [e0, e1, e2]
      rfl
end
end Go.Qk
end
section
set_option linter.unusedVariables false
namespace Go.Qk
open Go Go.Proofs Go.RowKit
theorem bits_of {o : Option (List (List Int))} {m : Mt} {n B : Nat} {w : World} (h : optF B o m w) (h1 : (o.getD []).length ≤ n) (h2 : ∀ q ∈ o.getD [], q.length ≤ n) : m.rs.length ≤ n ∧ ∀ r ∈ m.rs, r.l.length ≤ n := lens_of h.2.1 n h1 h2
/-- two answers of one thing are the same -/
theorem same_opt {o : Option (List (List Int))} {m m' : Mt} {B B' : Nat} {w : World} {S : Nat → Prop} (h : optF B o m w) (h' : optF B' o m' w) (hB : B ≤ 35184372088832) (hB' : B' ≤ 35184372088832) (h1 : (o.getD []).length ≤ 35184372088832) (h2 : ∀ q ∈ o.getD [], q.length ≤ 35184372088832) :
    Ret Try.prog 22 [m.v, m'.v] w S (fun _ : Unit => .bool true) (fun _ _ => True) := by
  obtain ⟨a1, a2⟩ := bits_of h h1 h2
  obtain ⟨b1, b2⟩ := bits_of h' h1 h2
  have hh := same_ret m m' (max B B') w S (h.1.mono (Nat.le_max_left _ _)) (h'.1.mono (Nat.le_max_right _ _)) h.2.2 h'.2.2 (Nat.max_le.2 ⟨hB, hB'⟩) a1 b1 a2 b2
  rw [decide_eq_true (show m.zs = m'.zs by rw [h.2.1, h'.2.1])] at hh
  exact hh
theorem grid_lens (f : Nat → Nat → Int) (r c : Nat) {n : Nat} (hr : r ≤ n) (hc : c ≤ n) : ((some (grid f r c)).getD []).length ≤ n ∧ ∀ q ∈ (some (grid f r c)).getD [], q.length ≤ n := by
  refine ⟨by simpa [grid] using hr, fun q hq => ?_⟩
  simp only [Option.getD_some, grid, List.mem_map] at hq
  obtain ⟨i, _, rfl⟩ := hq
  simpa using hc
theorem none_lens {n : Nat} : ((none : Option (List (List Int))).getD []).length ≤ n ∧ ∀ q ∈ (none : Option (List (List Int))).getD [], q.length ≤ n := ⟨by simp, fun q hq => by simp at hq⟩
theorem Gd.lens (g : Gd) (k : Nat) {n : Nat} (h1 : 1 ≤ k) (hk : k ≤ 16) (hn : 16 ≤ n) : (g.zs k).length ≤ n ∧ ∀ q ∈ g.zs k, q.length ≤ n := by
  have h1 := Nat.mod_lt g.r (show 0 < k by omega)
  have h2 := Nat.mod_lt g.c (show 0 < k by omega)
  have := grid_lens (g.e k) (1 + g.r % k) (1 + g.c % k) (n := n) (by omega) (by omega)
  exact this
end Go.Qk
end
section
set_option linter.unusedVariables false
set_option linter.unusedSimpArgs false
namespace Go.Qk
def sumN : Nat → (Nat → Int) → Int
  | 0, _ => 0
  | n + 1, f => sumN n f + f n
theorem sumN_congr {n : Nat} {f g : Nat → Int} (h : ∀ i, i < n → f i = g i) : sumN n f = sumN n g := by
  induction n with
  | zero => rfl
  | succ n ih => rw [sumN, sumN, ih fun i hi => h i (by omega), h n (by omega)]
theorem sumN_zero {n : Nat} {f : Nat → Int} (h : ∀ i, i < n → f i = 0) : sumN n f = 0 := by
  induction n with
  | zero => rfl
  | succ n ih => rw [sumN, ih fun i hi => h i (by omega), h n (by omega)]; rfl
theorem sumN_add (n : Nat) (f g : Nat → Int) : sumN n (fun i => f i + g i) = sumN n f + sumN n g := by
  induction n with
  | zero => rfl
  | succ n ih => simp only [sumN, ih]; omega
theorem sumN_mul (n : Nat) (x : Int) (f : Nat → Int) : sumN n (fun i => x * f i) = x * sumN n f := by
  induction n with
  | zero => simp [sumN]
  | succ n ih => simp only [sumN, ih, Int.mul_add]
theorem sumN_mul_right (n : Nat) (x : Int) (f : Nat → Int) : sumN n (fun i => f i * x) = sumN n f * x := by
  induction n with
  | zero => simp [sumN]
  | succ n ih => simp only [sumN, ih, Int.add_mul]
/-- one term alone -/
theorem sumN_one {n : Nat} {f : Nat → Int} (c : Nat) (hc : c < n) (h : ∀ i, i < n → i ≠ c → f i = 0) : sumN n f = f c := by
  induction n with
  | zero => omega
  | succ n ih =>
    rw [sumN]
    by_cases e : c = n
    · subst e
      rw [sumN_zero fun i hi => h i (by omega) (by omega)]
      omega
    · rw [ih (by omega) (fun i hi hne => h i (by omega) hne), h n (by omega) (fun e' => e e'.symm)]
      omega
/-- two terms alone -/
theorem sumN_two {n : Nat} {f : Nat → Int} (c d : Nat) (hcd : c < d) (hd : d < n) (h : ∀ i, i < n → i ≠ c → i ≠ d → f i = 0) : sumN n f = f c + f d := by
  induction n with
  | zero => omega
  | succ n ih =>
    rw [sumN]
    by_cases e : d = n
    · subst e
      rw [sumN_one c hcd fun i hi hne => h i (by omega) hne (by omega)]
    · rw [ih (by omega) (fun i hi h1 h2 => h i (by omega) h1 h2), h n (by omega) (by omega) (fun e' => e e'.symm)]
      omega
/-- the places but j -/
def sk (j b : Nat) : Nat := if b < j then b else b + 1
def unsk (j b : Nat) : Nat := if b < j then b else b - 1
theorem sk_ne (j b : Nat) : sk j b ≠ j := by unfold sk; split <;> omega
theorem unsk_sk (j b : Nat) : unsk j (sk j b) = b := by unfold sk unsk; (repeat' split) <;> omega
theorem sk_unsk {j c : Nat} (h : c ≠ j) : sk j (unsk j c) = c := by unfold sk unsk; (repeat' split) <;> omega
theorem sk_lt {j b n : Nat} (h : b < n) : sk j b < n + 1 := by unfold sk; split <;> omega
theorem unsk_lt {j c n : Nat} (hj : j < n + 1) (h : c < n + 1) (hne : c ≠ j) : unsk j c < n := by unfold unsk; split <;> omega
def sg (j : Nat) : Int := if j % 2 = 1 then -1 else 1
theorem sg_succ (j : Nat) : sg (j + 1) = -sg j := by unfold sg; split <;> split <;> omega
theorem sg_add (i j : Nat) : sg (i + j) = sg i * sg j := by unfold sg; split <;> split <;> split <;> omega
theorem sg_sq (j : Nat) : sg j * sg j = 1 := by unfold sg; split <;> rfl
abbrev Mf := Nat → Nat → Int
def mnr (g : Mf) (j : Nat) : Mf := fun a b => g (a + 1) (sk j b)
/-- the determinant, expanded along the first row -/
def lap : Nat → Mf → Int
  | 0, _ => 1
  | n + 1, g => sumN (n + 1) fun j => sg j * g 0 j * lap n (mnr g j)
def cset (g : Mf) (c : Nat) (u : Nat → Int) : Mf := fun a b => if b = c then u a else g a b
def idm : Mf := fun a b => if a = b then 1 else 0
def tr (g : Mf) : Mf := fun a b => g b a
/-- a function of the columns that is linear in each, and zero where two neighbours are equal -/
structure ColAlt (n : Nat) (F : Mf → Int) : Prop where
  congr : ∀ g g', (∀ a b, a < n → b < n → g a b = g' a b) → F g = F g'
  lin : ∀ g c u v x, c < n → F (cset g c fun a => u a + x * v a) = F (cset g c u) + x * F (cset g c v)
  adj : ∀ g c, c + 1 < n → (∀ a, a < n → g a c = g a (c + 1)) → F g = 0
theorem cset_same (g : Mf) (c : Nat) : cset g c (fun a => g a c) = g := by
  funext a b
  unfold cset
  split
  · rename_i h; rw [h]
  · rfl
theorem cset_comm (g : Mf) {c d : Nat} (h : c ≠ d) (u v : Nat → Int) : cset (cset g c u) d v = cset (cset g d v) c u := by
  funext a b
  unfold cset
  split
  · rename_i h1; rw [if_neg (by omega)]
  · rfl
def csw (g : Mf) (c d : Nat) : Mf := fun a b => g a (if b = c then d else if b = d then c else b)
theorem csw_eq (g : Mf) {c d : Nat} (h : c ≠ d) : csw g c d = cset (cset g c fun a => g a d) d fun a => g a c := by
  funext a b
  unfold csw cset
  by_cases h1 : b = c
  · subst h1; simp [h]
  · by_cases h2 : b = d
    · subst h2; simp [h1]
    · simp [h1, h2]
section
variable {n : Nat} {F : Mf → Int}
theorem ColAlt.bil (hF : ColAlt n F) (g : Mf) {c d : Nat} (hc : c < n) (hd : d < n) (hcd : c ≠ d) (h0 : ∀ g : Mf, (∀ a, a < n → g a c = g a d) → F g = 0) : F (csw g c d) = -F g := by
  have hz : ∀ u : Nat → Int, F (cset (cset g c u) d u) = 0 := fun u => h0 _ fun a _ => by simp [cset, hcd]
  have key : ∀ u v : Nat → Int, F (cset (cset g c u) d v) + F (cset (cset g c v) d u) = 0 := by
    intro u v
    have h1 := hz fun a => u a + 1 * v a
    rw [hF.lin _ d u v 1 hd, cset_comm _ hcd, hF.lin _ c u v 1 hc, cset_comm _ hcd, hF.lin _ c u v 1 hc] at h1
    rw [cset_comm _ (Ne.symm hcd), cset_comm _ (Ne.symm hcd), cset_comm _ (Ne.symm hcd), cset_comm _ (Ne.symm hcd)] at h1
    rw [hz u, hz v] at h1
    omega
  have h2 := key (fun a => g a c) (fun a => g a d)
  rw [cset_same, cset_same, ← csw_eq g hcd] at h2
  omega
theorem ColAlt.alt (hF : ColAlt n F) : ∀ (m : Nat) (g : Mf) (c : Nat), c + 1 + m < n → (∀ a, a < n → g a c = g a (c + 1 + m)) → F g = 0 := by
  intro m
  induction m with
  | zero => intro g c h1 h2; exact hF.adj g c h1 h2
  | succ m ih =>
    intro g c h1 h2
    have h3 := hF.bil g (c := c + 1 + m) (d := c + 1 + m + 1) (by omega) (by omega) (by omega) (fun g' h => hF.adj g' _ (by omega) h)
    have h4 := ih (csw g (c + 1 + m) (c + 1 + m + 1)) c (by omega) (fun a ha => by
      unfold csw
      rw [if_neg (by omega), if_neg (by omega), if_pos rfl]
      exact h2 a ha)
    omega
theorem ColAlt.alt' (hF : ColAlt n F) {c d : Nat} (hc : c < n) (hd : d < n) (hcd : c ≠ d) (g : Mf) (h : ∀ a, a < n → g a c = g a d) : F g = 0 := by
  rcases Nat.lt_or_ge c d with h1 | h1
  · exact hF.alt (d - c - 1) g c (by omega) (fun a ha => by rw [show c + 1 + (d - c - 1) = d by omega]; exact h a ha)
  · exact hF.alt (c - d - 1) g d (by omega) (fun a ha => by rw [show d + 1 + (c - d - 1) = c by omega]; exact (h a ha).symm)
theorem ColAlt.swap (hF : ColAlt n F) (g : Mf) {c d : Nat} (hc : c < n) (hd : d < n) (hcd : c ≠ d) : F (csw g c d) = -F g :=
  hF.bil g hc hd hcd fun g' h => hF.alt' hc hd hcd g' h
theorem ColAlt.addc (hF : ColAlt n F) (g : Mf) {c d : Nat} (hc : c < n) (hd : d < n) (hcd : c ≠ d) (x : Int) : F (cset g c fun a => g a c + x * g a d) = F g := by
  rw [hF.lin g c _ _ x hc, cset_same, hF.alt' hc hd hcd (cset g c fun a => g a d) (fun a _ => by unfold cset; rw [if_pos rfl, if_neg (Ne.symm hcd)])]
  omega
theorem ColAlt.zero (hF : ColAlt n F) (g : Mf) {c : Nat} (hc : c < n) : F (cset g c fun _ => 0) = 0 := by
  have h := hF.lin g c (fun _ => 0) (fun _ => 0) (-1) hc
  simp only [Int.mul_zero, Int.add_zero] at h
  omega
theorem ColAlt.smul (hF : ColAlt n F) (g : Mf) {c : Nat} (hc : c < n) (x : Int) (v : Nat → Int) : F (cset g c fun a => x * v a) = x * F (cset g c v) := by
  have h := hF.lin g c (fun _ => 0) v x hc
  rw [hF.zero g hc] at h
  simp only [Int.zero_add] at h
  exact h
theorem ColAlt.sum (hF : ColAlt n F) (g : Mf) {c : Nat} (hc : c < n) (m : Nat) (x : Nat → Int) (u : Nat → Nat → Int) : F (cset g c fun a => sumN m fun i => x i * u i a) = sumN m fun i => x i * F (cset g c (u i)) := by
  induction m with
  | zero => exact hF.zero g hc
  | succ m ih =>
    simp only [sumN]
    rw [hF.lin g c _ _ _ hc, ih]
end
/-- a smaller matrix, put in behind a first column that is a unit -/
def emb (i : Nat) (h : Mf) : Mf := fun a b => if b = 0 then (if a = i then 1 else 0) else if a = i then 0 else h (unsk i a) (b - 1)
theorem emb_cset (i : Nat) (h : Mf) (c : Nat) (u : Nat → Int) : emb i (cset h c u) = cset (emb i h) (c + 1) fun a => if a = i then 0 else u (unsk i a) := by
  funext a b
  unfold emb cset
  by_cases h1 : b = 0
  · subst h1; simp
  · by_cases h2 : b = c + 1
    · subst h2; simp
    · have h3 : ¬ b - 1 = c := by omega
      simp [h1, h2, h3]
theorem ColAlt.emb {n : Nat} {F : Mf → Int} (hF : ColAlt (n + 1) F) {i : Nat} (hi : i < n + 1) : ColAlt n fun h => F (emb i h) := by
  refine ⟨fun g g' h => hF.congr _ _ fun a b ha hb => ?_, fun g c u v x hc => ?_, fun g c hc h => ?_⟩
  · unfold Go.Qk.emb
    split
    · rfl
    · split
      · rfl
      · rename_i h1 h2
        exact h _ _ (unsk_lt hi ha h2) (by omega)
  · rw [emb_cset, emb_cset, emb_cset, ← hF.lin _ _ _ _ _ (by omega)]
    congr 2
    funext a
    split
    · simp
    · rfl
  · refine hF.adj _ (c + 1) (by omega) fun a ha => ?_
    unfold Go.Qk.emb
    by_cases h1 : a = i
    · simp [h1]
    · have := h _ (unsk_lt hi ha h1)
      simp [h1]
      exact this
theorem ColAlt.emb_id {n : Nat} {F : Mf → Int} (hF : ColAlt (n + 1) F) : ∀ i, i < n + 1 → F (Go.Qk.emb i idm) = sg i * F idm := by
  intro i
  induction i with
  | zero =>
    intro _
    rw [show sg 0 = 1 from rfl, Int.one_mul]
    refine hF.congr _ _ fun a b _ _ => ?_
    unfold Go.Qk.emb idm unsk
    (repeat' split) <;> omega
  | succ i ih =>
    intro hi
    have h := hF.swap (Go.Qk.emb i idm) (c := 0) (d := i + 1) (by omega) hi (by omega)
    rw [ih (by omega)] at h
    rw [sg_succ, Int.neg_mul, ← h]
    refine hF.congr _ _ fun a b _ _ => ?_
    unfold Go.Qk.emb csw idm unsk
    dsimp only
    by_cases b0 : b = 0
    · subst b0
      simp
      (repeat' split) <;> omega
    · by_cases b1 : b = i + 1
      · subst b1
        simp only [b0, if_false, if_true, Nat.add_sub_cancel]
        (repeat' split) <;> omega
      · simp only [b0, b1, if_false]
        (repeat' split) <;> omega
theorem ColAlt.clear {n : Nat} {F : Mf → Int} (hF : ColAlt (n + 1) F) (g : Mf) {i : Nat} (hi : i < n + 1) : ∀ m, m ≤ n + 1 → F (cset g 0 fun a => if a = i then 1 else 0) = F fun a b => if b = 0 then (if a = i then 1 else 0) else if a = i ∧ b < m then 0 else g a b := by
  intro m
  induction m with
  | zero =>
    intro _
    refine hF.congr _ _ fun a b _ _ => ?_
    unfold cset
    split
    · rfl
    · rw [if_neg (by omega)]
  | succ m ih =>
    intro hm
    rw [ih (by omega)]
    by_cases h0 : m = 0
    · subst h0
      refine hF.congr _ _ fun a b _ _ => ?_
      split
      · rfl
      · rw [if_neg (by omega), if_neg (by omega)]
    · have h := hF.addc (fun a b => if b = 0 then (if a = i then 1 else 0) else if a = i ∧ b < m then 0 else g a b) (c := m) (d := 0) (by omega) (by omega) h0 (-(g i m))
      rw [← h]
      refine hF.congr _ _ fun a b _ _ => ?_
      unfold cset
      by_cases hb : b = m
      · subst hb
        simp only [if_pos, h0, if_false, if_true]
        by_cases ha : a = i
        · subst ha; simp; omega
        · simp [ha]
      · rw [if_neg hb]
        by_cases hb0 : b = 0
        · simp [hb0]
        · simp only [hb0, if_false]
          by_cases ha : a = i ∧ b < m
          · rw [if_pos ha, if_pos (by omega)]
          · rw [if_neg ha, if_neg (by omega)]
/-- a function of the columns is a multiple of the determinant -/
theorem ColAlt.unique : ∀ (n : Nat) (F : Mf → Int), ColAlt n F → ∀ g, F g = F idm * lap n (tr g) := by
  intro n
  induction n with
  | zero =>
    intro F hF g
    rw [show lap 0 (tr g) = 1 from rfl, Int.mul_one]
    exact hF.congr _ _ fun a b ha _ => by omega
  | succ n ih =>
    intro F hF g
    have e1 : F g = F (cset g 0 fun a => sumN (n + 1) fun i => g i 0 * (if a = i then 1 else 0)) := by
      refine hF.congr _ _ fun a b ha _ => ?_
      unfold cset
      split
      · rename_i hb
        subst hb
        show g a 0 = sumN (n + 1) fun i => g i 0 * if a = i then 1 else 0
        rw [sumN_one (f := fun i => g i 0 * if a = i then 1 else 0) a ha fun i _ hne => by simp [Ne.symm hne]]
        simp
      · rfl
    rw [e1, hF.sum g (by omega) (n + 1) (fun i => g i 0) (fun i a => if a = i then 1 else 0), lap, ← sumN_mul]
    refine sumN_congr fun i hi => ?_
    have h2 := hF.clear g hi (n + 1) (Nat.le_refl _)
    rw [h2]
    have h3 := ih _ (hF.emb hi) fun a b => g (sk i a) (b + 1)
    have h4 : F (fun a b => if b = 0 then (if a = i then 1 else 0) else if a = i ∧ b < n + 1 then 0 else g a b) = F (Go.Qk.emb i fun a b => g (sk i a) (b + 1)) := by
      refine hF.congr _ _ fun a b _ hb => ?_
      unfold Go.Qk.emb
      by_cases h1 : b = 0
      · rw [if_pos h1, if_pos h1]
      · rw [if_neg h1, if_neg h1]
        by_cases h2 : a = i
        · rw [if_pos ⟨h2, hb⟩, if_pos h2]
        · rw [if_neg (fun e => h2 e.1), if_neg h2]
          show g a b = g (sk i (unsk i a)) (b - 1 + 1)
          rw [sk_unsk h2, show b - 1 + 1 = b by omega]
    rw [h4, h3, hF.emb_id i hi]
    have h5 : mnr (tr g) i = tr fun a b => g (sk i a) (b + 1) := rfl
    rw [h5, show (tr g) 0 i = g i 0 from rfl]
    simp only [Int.mul_assoc, Int.mul_comm, Int.mul_left_comm]
theorem mnr_cset_eq (g : Mf) (c : Nat) (u : Nat → Int) : mnr (cset g c u) c = mnr g c := by
  funext a b; unfold mnr cset; rw [if_neg (sk_ne c b)]
theorem mnr_cset_ne (g : Mf) {c j : Nat} (h : c ≠ j) (u : Nat → Int) : mnr (cset g c u) j = cset (mnr g j) (unsk j c) fun a => u (a + 1) := by
  funext a b
  unfold mnr cset
  by_cases hb : b = unsk j c
  · rw [if_pos hb, hb, sk_unsk h, if_pos rfl]
  · rw [if_neg hb, if_neg]
    intro e
    apply hb
    rw [← e, unsk_sk]
theorem lap_alt : ∀ n, ColAlt n (lap n) := by
  intro n
  induction n with
  | zero => exact ⟨fun _ _ _ => rfl, fun _ c _ _ _ h => by omega, fun _ c h => by omega⟩
  | succ n ih =>
    refine ⟨fun g g' h => ?_, fun g c u v x hc => ?_, fun g c hc h => ?_⟩
    · rw [lap, lap]
      refine sumN_congr fun j hj => ?_
      rw [h 0 j (by omega) hj, ih.congr (mnr g j) (mnr g' j) fun a b ha hb => h _ _ (by omega) (sk_lt hb)]
    · rw [lap, lap, lap, ← sumN_mul, ← sumN_add]
      refine sumN_congr fun j hj => ?_
      by_cases e : c = j
      · subst e
        rw [mnr_cset_eq, mnr_cset_eq, mnr_cset_eq]
        simp only [cset, if_pos]
        grind
      · rw [mnr_cset_ne _ e, mnr_cset_ne _ e, mnr_cset_ne _ e, ih.lin _ _ _ _ _ (unsk_lt hj hc e)]
        simp only [cset, if_neg (Ne.symm e)]
        grind
    · rw [lap, sumN_two c (c + 1) (by omega) hc]
      · have e : mnr g c = mnr g (c + 1) ∨ True := .inr trivial
        have e2 : lap n (mnr g c) = lap n (mnr g (c + 1)) := by
          refine ih.congr _ _ fun a b ha hb => ?_
          unfold mnr sk
          by_cases h1 : b = c
          · subst h1
            rw [if_neg (by omega), if_pos (by omega)]
            exact (h _ (by omega)).symm
          · by_cases h2 : b < c
            · rw [if_pos h2, if_pos (by omega)]
            · rw [if_neg h2, if_neg (by omega)]
        rw [e2, h 0 (by omega), sg_succ]
        grind
      · intro j hj h1 h2
        have : lap n (mnr g j) = 0 := by
          refine ih.adj _ (unsk j c) ?_ fun a ha => ?_
          · have := unsk_lt (j := j) (c := c + 1) (n := n) hj hc (Ne.symm h2)
            unfold unsk at this ⊢
            split <;> split at this <;> omega
          · unfold mnr
            rw [sk_unsk (Ne.symm h1)]
            have e3 : sk j (unsk j c + 1) = c + 1 := by unfold sk unsk; (repeat' split) <;> omega
            rw [e3]
            exact h _ (by omega)
        rw [this, Int.mul_zero]
theorem lap_id : ∀ n, lap n idm = 1 := by
  intro n
  induction n with
  | zero => rfl
  | succ n ih =>
    rw [lap, sumN_one 0 (by omega)]
    · rw [show mnr idm 0 = idm by funext a b; unfold mnr idm sk; simp, ih]
      rfl
    · intro i _ hi
      rw [show idm 0 i = 0 from if_neg (Ne.symm hi)]
      simp
theorem lap_tr (n : Nat) (g : Mf) : lap n (tr g) = lap n g := by
  have h := ColAlt.unique n _ (lap_alt n) g
  rw [lap_id, Int.one_mul] at h
  exact h.symm
/-- the product of matrices -/
def mmul (n : Nat) (f g : Mf) : Mf := fun a b => sumN n fun k => f a k * g k b
end Go.Qk
end
section
set_option linter.unusedVariables false
namespace Go.Qk
open Go Go.Proofs Go.RowKit
def mulP (o o' : Option (Nat × Nat)) (L L' : List (List Int)) : Option (List (List Int)) := match o, o' with
  | some rc, some rc' => if rc.2 = rc'.1 then some (grid (mmul rc.2 (ent L) (ent L')) rc.1 rc'.2) else none
  | _, _ => none
def mulO (L L' : List (List Int)) : Option (List (List Int)) := mulP (shp L) (shp L') L L'
def trP (o : Option (Nat × Nat)) (L : List (List Int)) : Option (List (List Int)) := match o with
  | some rc => some (grid (tr (ent L)) rc.2 rc.1)
  | none => none
def trO (L : List (List Int)) : Option (List (List Int)) := trP (shp L) L
theorem nl_sum {f : Nat → Int} {D : Nat} : ∀ {k : Nat}, (∀ i, i < k → nl (f i).natAbs ≤ D) → nl (sumN k f).natAbs ≤ D + k
  | 0, _ => by
    have : nl (sumN 0 f).natAbs = 0 := nl_zero.2 rfl
    omega
  | k + 1, h => by
    have h1 := nl_sum fun i (hi : i < k) => h i (by omega)
    have h2 := h k (by omega)
    have h3 := nl_iadd (sumN k f) (f k)
    show nl (sumN k f + f k).natAbs ≤ _
    omega
theorem zd_zero : zd 0 (none, 0) = z0 := by
  unfold zd z0
  rw [show (0 : Int).natAbs = 0 from rfl, limbsOf_zero]
  rfl
theorem zblk_zero (r : Nat) (f : Nat → Int) : zblk r (zd (sumN 0 f) (none, 0)) = zblk r z0 := by
  rw [show sumN 0 f = 0 from rfl, zd_zero]
theorem rmul_zd {z z' : Zd} {B B' : Nat} {w : World} {S : Nat → Prop} (h : z.ok B w) (h' : z'.ok B' w) (hB : B + B' ≤ 35184372088832) : Ret Try.prog 56 [z.v, z'.v] w S (iv (z.z * z'.z)) (Lz (z.z * z'.z).natAbs) :=
  rmul_ret z.n z'.n z.xs z'.xs z.p z'.p w S h.1 h.2.1 h'.1 h'.2.1 (by have := h.2.2; have := h'.2.2; omega)
theorem radd_iv {a b : Int} {p q : Sv} {w : World} {S : Nat → Prop} (h : Lz a.natAbs p w) (h' : Lz b.natAbs q w) (hB : nl a.natAbs < 35184372088832) (hB' : nl b.natAbs < 35184372088832) : Ret Try.prog 59 [iv a p, iv b q] w S (iv (a + b)) (Lz (a + b).natAbs) := by
  have g := radd_zd (S := S) (zd_ok h (Nat.le_refl _)) (zd_ok h' (Nat.le_refl _)) hB hB'
  rwa [zd_z, zd_z] at g
theorem zd_natAbs (z : Zd) : z.z.natAbs = val z.xs := sgn_natAbs _ _
theorem rnorm_zd {z : Zd} {B : Nat} {w : World} {S : Nat → Prop} (h : z.ok B w) (hB : B ≤ 35184372088832) : Ret Try.prog 91 [z.v] w S (iv z.z) (Lz z.z.natAbs) := by
  have g := rnormalize_ret z.n z.xs z.p w S h.1 h.2.1 (by have := h.2.2; omega)
  rw [zd_natAbs]
  exact g
theorem mt_lens {m : Mt} {f : Nat → Nat → Int} {r c : Nat} (h : m.zs = grid f r c) : m.rs.length = r ∧ ∀ q ∈ m.rs, q.l.length = c := by
  have h1 := congrArg List.length h
  simp only [Mt.zs, grid, List.length_map, List.length_range] at h1
  refine ⟨h1, fun q hq => ?_⟩
  have h2 : q.zs ∈ m.zs := List.mem_map.2 ⟨q, hq, rfl⟩
  rw [h] at h2
  simp only [grid, List.mem_map] at h2
  obtain ⟨i, _, e⟩ := h2
  rw [← Rw.zs_len, ← e]
  simp
theorem mt_ent_grid {m : Mt} {f : Nat → Nat → Int} {r c i j : Nat} (h : m.zs = grid f r c) (hi : i < m.rs.length) (hj : j < m.rs[i].l.length) : m.rs[i].l[j].z = f i j := by
  obtain ⟨h1, h2⟩ := mt_lens h
  have h3 := h2 _ (List.getElem_mem hi)
  rw [← mt_ent hi hj, h]
  unfold ent
  simp [grid, List.getD, show i < r by omega, show j < c by omega]
theorem Mt.ok.at_eq {B : Nat} {m : Mt} {w : World} {r o : Nat} (h : m.ok B w) (e : m.v = .slice (some ⟨r, o, none⟩) m.rs.length m.p.2) {i : Nat} (hi : i < m.rs.length) : At r (o + i) (m.rs[i]).v w := by
  obtain ⟨r', o', e', h'⟩ := h.at_ (by omega)
  rw [e] at e'
  simp only [Value.slice.injEq, Option.some.injEq, Addr.mk.injEq, and_true] at e'
  obtain ⟨rfl, rfl⟩ := e'
  exact h' i hi
end Go.Qk
end
section
set_option linter.unusedVariables false
set_option linter.unusedSimpArgs false
namespace Go.Qk
open Go Go.RowKit
section
variable {P : Program} {n : Nat} {w0 : World} {X : List Nat} {S : Nat → Prop} {E : Env} {own : Own} {R : World → Prop} {Q : Exit → Act → World → Prop} {ops : Array Oper} {rest : List Oper} {ws : List Nat}
/-- in every order; operations that are not among 'ws' leave the old memory as it is -/
def wpAnyT (P : Program) (ops : Array Oper) (Q : Exit → Act → World → Prop) (ws : List Nat) : Nat → Array Bool → Act → World → Prop
  | 0, listed, a, w => Region.ready .any ops listed = [] ∧ Q .normal a w
  | fuel + 1, listed, a, w => (Region.ready .any ops listed = [] → Q .normal a w) ∧
    ∀ i ∈ Region.ready .any ops listed, wpOp P ops Q i (fun a' w' => (ws.contains i = false → Below w.heap.size w w') ∧ wpAnyT P ops Q ws fuel (listed.setIfInBounds i true) a' w') a w
theorem wpAny_of_T : ∀ (fuel : Nat) (listed : Array Bool) (a : Act) (w : World), wpAnyT P ops Q ws fuel listed a w → wpAny P .any ops Q fuel listed a w
  | 0, _, _, _, h => h
  | fuel + 1, _, _, _, h => ⟨h.1, fun i hi => wpOp_mono (fun a' w' h' => wpAny_of_T fuel _ a' w' h'.2) (h.2 i hi)⟩
theorem mem_aft {o : Oper} {k : Nat} : k ∈ aft o ↔ ∃ e ∈ o.after, Region.binds .any e = true ∧ e.on = k := by
  unfold aft
  simp only [List.mem_map, List.mem_filter, Array.mem_toList_iff]
  constructor
  · rintro ⟨e, ⟨h1, h2⟩, h3⟩; exact ⟨e, h1, h2, h3⟩
  · rintro ⟨e, h1, h2, h3⟩; exact ⟨e, ⟨h1, h2⟩, h3⟩
theorem closed_set {listed : Array Bool} {j : Nat} (hclo : ∀ q o, ops[q]? = some o → listed.getD q false = true → ∀ k ∈ aft o, listed.getD k false = true) (hj : j ∈ Region.ready .any ops listed) :
    ∀ q o, ops[q]? = some o → (listed.setIfInBounds j true).getD q false = true → ∀ k ∈ aft o, (listed.setIfInBounds j true).getD k false = true := by
  intro q o ho hq k hk
  refine getD_set_true ?_
  by_cases hqj : q = j
  · subst hqj
    obtain ⟨_, o', ho', hall⟩ := mem_ready.1 hj
    rw [ho] at ho'
    injection ho' with ho'
    subst ho'
    obtain ⟨e, he, hb, rfl⟩ := mem_aft.1 hk
    exact hall e he hb
  · rw [getD_set_ne false (Ne.symm hqj)] at hq
    exact hclo q o ho hq k hk
/-- the worlds in which an operation that is taken first must answer: all, or those in which the old memory is as it was -/
def Sw (pu : Bool) (w w' : World) : Prop := pu = true ∨ Below w.heap.size w w'
theorem wpAnyT_first (pu : Bool) {i : Nat} {oi : Oper} {v : Value} (hi : ops[i]? = some oi) (hsel : ∀ (j : Nat) (o : Oper) cs b, ops[j]? = some o → o.op ≠ .select cs b)
    (hQ : ∀ c a w, Q (.panic c) (a.put oi.dst v) w → Q (.panic c) a w) :
    ∀ (fuel : Nat) (listed : Array Bool) (a : Act) (w : World),
      (∀ s ∈ ws, ∀ o, ops[s]? = some o → pu = true ∨ listed.getD s false = true ∨ reach ops 2 (aft o) i = true) →
      (∀ j oj, ops[j]? = some oj → j ≠ i → listed.getD j true = false → (∀ e ∈ oj.after, Region.binds .any e = true → e.on ≠ i) → oi.apart ops oj = true) →
      (∀ q o, ops[q]? = some o → listed.getD q false = true → ∀ k ∈ aft o, listed.getD k false = true) →
      i ∈ Region.ready .any ops listed → YieldsIf P ops (Sw pu w) oi v a →
      wpAnyT P ops Q ws fuel (listed.setIfInBounds i true) (a.put oi.dst v) w → wpAnyT P ops Q ws (fuel + 1) listed a w := by
  intro fuel
  induction fuel with
  | zero =>
    intro listed a w _ _ _ hr hy H
    refine ⟨fun h => (by rw [h] at hr; cases hr), fun j hj => ?_⟩
    by_cases hji : j = i
    · subst hji; exact hy.wpOp hi (.inr (Below.refl _ _)) ⟨fun _ => Below.refl _ _, H⟩
    · have := ready_mono hj hji
      rw [H.1] at this
      cases this
  | succ fuel ih =>
    intro listed a w hws hfree hclo hr hy H
    refine ⟨fun h => (by rw [h] at hr; cases hr), fun j hj => ?_⟩
    by_cases hji : j = i
    · subst hji; exact hy.wpOp hi (.inr (Below.refl _ _)) ⟨fun _ => Below.refl _ _, H⟩
    · have h1 := H.2 j (ready_mono hj hji)
      obtain ⟨hjun, oj, hoj, hall⟩ := mem_ready.1 hj
      have hnl : listed.getD i false = false := by
        have h0 := (mem_ready.1 hr).1
        cases hq : listed.getD i false with
        | false => rfl
        | true =>
          exfalso
          rcases Nat.lt_or_ge i listed.size with h' | h'
          · simp [h'] at h0 hq; rw [h0] at hq; cases hq
          · simp [Array.getElem?_eq_none h'] at hq
      have hnot : ∀ e ∈ oj.after, Region.binds .any e = true → e.on ≠ i := fun e he hb heq => by
        have h1 := hall e he hb
        rw [heq, hnl] at h1
        cases h1
      have hnw : pu = true ∨ ws.contains j = false := by
        cases hc : ws.contains j with
        | false => exact .inr rfl
        | true =>
          refine (hws j (by simpa using hc) oj hoj).imp id fun h2 => ?_
          exfalso
          have h2 := h2.resolve_left fun h => (by
            rcases Nat.lt_or_ge j listed.size with h' | h'
            · simp [h'] at hjun h; rw [hjun] at h; cases h
            · simp [Array.getElem?_eq_none h'] at h)
          have h3 := reach_ok (D := fun k => listed.getD k false) hclo 2 (aft oj) i (fun k hk => by
            obtain ⟨e, he, hb, rfl⟩ := mem_aft.1 hk
            exact hall e he hb) h2
          rw [hnl] at h3
          cases h3
      have h2 := wpOp_putIf hoj (hfree j oj hoj hji hjun hnot) (fun cs b => hsel i oi cs b hi) (fun cs b => hsel j oj cs b hoj) hQ hy h1
      have hfree' : ∀ k ok, ops[k]? = some ok → k ≠ i → (listed.setIfInBounds j true).getD k true = false →
          (∀ e ∈ ok.after, Region.binds .any e = true → e.on ≠ i) → oi.apart ops ok = true := fun k ok hk hki hun hno => by
        refine hfree k ok hk hki ?_ hno
        by_cases hjk : j = k
        · subst hjk; exact hjun
        · rw [getD_set_ne true hjk] at hun; exact hun
      refine wpOp_mono (fun a' w' h3 => ?_) h2
      obtain ⟨h4, h5, h6⟩ := h3
      have hb : Sw pu w w' := hnw.imp id h5
      refine ⟨h5, ih (listed.setIfInBounds j true) a' w' (fun s hs o ho => (hws s hs o ho).imp id (·.imp getD_set_true id)) hfree' (closed_set hclo hj) (ready_mono hr (Ne.symm hji)) ?_ ?_⟩
      · rcases h4 with ⟨e1, e2⟩ | e1
        · refine .inl ⟨e1, fun w'' h => e2 w'' ?_⟩
          rcases h with h | h
          · exact .inl h
          · exact hb.imp id fun hb => hb.trans (h.mono hb.size)
        · exact .inr e1
      · rw [Array.setIfInBounds_comm _ _ hji]
        exact h6
def closedB (ops : Array Oper) (listed : Array Bool) : Bool := (List.range ops.size).all fun q => !listed.getD q false || match ops[q]? with
  | some o => (aft o).all fun k => listed.getD k false
  | none => true
theorem closedB_ok {listed : Array Bool} (h : closedB ops listed = true) : ∀ q o, ops[q]? = some o → listed.getD q false = true → ∀ k ∈ aft o, listed.getD k false = true := by
  intro q o ho hq k hk
  have hlt : q < ops.size := (Array.getElem?_eq_some_iff.1 ho).1
  have h1 := List.all_eq_true.1 h q (by simpa using hlt)
  rw [hq, ho] at h1
  simp only [Bool.not_true, Bool.false_or] at h1
  exact List.all_eq_true.1 h1 k hk
/-- may operation 'i' be taken now, though it reads memory? -/
def tkB (ops : Array Oper) (ws : List Nat) (listed : Array Bool) (i : Nat) : Bool := Region.noSelect ops && Region.free .any ops listed i && (Region.ready .any ops listed).contains i && closedB ops listed &&
  ws.all fun s => match ops[s]? with
    | some o => listed.getD s false || reach ops 2 (aft o) i
    | none => true
/-- a panic's end does not look at the slots -/
class PkI (Q : Exit → Act → World → Prop) : Prop where
  h : Pk Q
instance {k : Act → World → Prop} [h : PkI Q] : PkI (Exit.then k Q) := ⟨pk_then h.h⟩
instance {id : Nat} [h : PkI Q] : PkI (Exit.inBlock id Q) := ⟨pk_in h.h⟩
instance {fn : Func} {F : Ending → World → Prop} : PkI (bodyPost P fn F) := ⟨pk_body⟩
/-- the walk of such a region -/
def Sb (P : Program) (ops : Array Oper) (Q : Exit → Act → World → Prop) (n : Nat) (w0 : World) (X : List Nat) (S : Nat → Prop) (ws : List Nat) (fuel : Nat) (listed : Array Bool) (E : Env) (own : Own) (R : World → Prop) : Prop :=
  ∀ a w, St n a E → SS w0 X S own R w → wpAnyT P ops Q ws fuel listed a w
theorem tr_sb (ws : List Nat) [hM : Mx P] {id : Nat} {l : List Oper} (h : Sb P l.toArray Q n w0 X S ws l.length (Array.replicate l.length false) E own R) : Tr n w0 X S E own R ((Code.region id l.toArray true).wp P Q) := fun a w s t =>
  wp_region_any hM.m (wpAny_of_T _ _ _ _ (by have := h a _ s (t.drawn (w.drawn + 1)); simp only [List.size_toArray]; exact this))
theorem tr_rsb (ws : List Nat) [hM : Mx P] {id : Nat} {l : List Oper} {d : Code} (h : Sb P l.toArray (Exit.then (d.wp P Q) Q) n w0 X S ws l.length (Array.replicate l.length false) E own R) : Tr n w0 X S E own R ((Code.seq (.region id l.toArray true) d).wp P Q) := tr_seq (tr_sb ws h)
/-- an operation that changes nothing is taken first -/
theorem sb_q (i : Nat) {fuel : Nat} {listed : Array Bool} {op : Op} {ty : TypeId} {v : Value} {d : Nat} {pos : String} {af : Array Edge} (hi : ops[i]? = some ⟨some d, op, ty, pos, af, none⟩) (hc : tkB ops ws listed i = true) [hQ : PkI Q]
    (hq : Qt P (SS w0 X S own R) (look E) op ty v) (hd : Nat.blt d n = true) (h : Sb P ops Q n w0 X S ws fuel (listed.setIfInBounds i true) ((d, v) :: E) own R) : Sb P ops Q n w0 X S ws (fuel + 1) listed E own R := by
  intro a w s t
  unfold tkB at hc
  simp only [Bool.and_eq_true] at hc
  refine wpAnyT_first false hi (Region.noSelect_spec hc.1.1.1.1) (fun c a w h => hQ.h c a w _ _ h) _ _ _ _ (fun q hq o ho => ?_) (Region.free_spec hi hc.1.1.1.2) (closedB_ok hc.1.2) (by simpa using hc.1.1.2) (.inl ⟨wanted_none rfl, fun w' hw' => hq _ w' s.agr (t.grow (hw'.resolve_left (by simp))) _ _ _ _⟩) (h _ _ (s.put hd v) t)
  have := List.all_eq_true.1 hc.2 q hq
  rw [ho] at this
  exact .inr ((Bool.or_eq_true _ _).mp this)
/-- the same where writing operations may come ahead of it: it reads no memory -/
theorem sb_p (i : Nat) {fuel : Nat} {listed : Array Bool} {op : Op} {ty : TypeId} {v : Value} {d : Nat} {pos : String} {af : Array Edge} (hi : ops[i]? = some ⟨some d, op, ty, pos, af, none⟩) (hc : tkB ops [] listed i = true) [hQ : PkI Q]
    (hq : Qt P (fun _ => True) (look E) op ty v) (hd : Nat.blt d n = true) (h : Sb P ops Q n w0 X S ws fuel (listed.setIfInBounds i true) ((d, v) :: E) own R) : Sb P ops Q n w0 X S ws (fuel + 1) listed E own R := by
  intro a w s t
  unfold tkB at hc
  simp only [Bool.and_eq_true] at hc
  exact wpAnyT_first true hi (Region.noSelect_spec hc.1.1.1.1) (fun c a w h => hQ.h c a w _ _ h) _ _ _ _ (fun q hq o ho => .inl rfl) (Region.free_spec hi hc.1.1.1.2) (closedB_ok hc.1.2) (by simpa using hc.1.1.2) (.inl ⟨wanted_none rfl, fun w' hw' => hq _ w' s.agr trivial _ _ _ _⟩) (h _ _ (s.put hd v) t)
/-- one operation first, then the others -/
def Sbo (P : Program) (ops : Array Oper) (Q : Exit → Act → World → Prop) (n : Nat) (w0 : World) (X : List Nat) (S : Nat → Prop) (ws : List Nat) (fuel : Nat) (listed : Array Bool) (i : Nat) (E : Env) (own : Own) (R : World → Prop) : Prop :=
  ∀ a w, St n a E → SS w0 X S own R w → wpOp P ops Q i (fun a' w' => (ws.contains i = false → Below w.heap.size w w') ∧ wpAnyT P ops Q ws fuel (listed.setIfInBounds i true) a' w') a w
theorem sb_one (i : Nat) {fuel : Nat} {listed : Array Bool} (hr : Region.ready .any ops listed = [i]) (h1 : Sbo P ops Q n w0 X S ws fuel listed i E own R) : Sb P ops Q n w0 X S ws (fuel + 1) listed E own R := by
  intro a w s t
  unfold wpAnyT
  refine ⟨fun h => (by rw [hr] at h; cases h), fun k hk => ?_⟩
  rw [hr] at hk
  obtain rfl := List.mem_singleton.1 hk
  exact h1 a w s t
theorem sb_two (i j : Nat) {fuel : Nat} {listed : Array Bool} (hr : Region.ready .any ops listed = [i, j]) (h1 : Sbo P ops Q n w0 X S ws fuel listed i E own R) (h2 : Sbo P ops Q n w0 X S ws fuel listed j E own R) : Sb P ops Q n w0 X S ws (fuel + 1) listed E own R := by
  intro a w s t
  unfold wpAnyT
  refine ⟨fun h => (by rw [hr] at h; cases h), fun k hk => ?_⟩
  rw [hr] at hk
  rcases List.mem_cons.1 hk with rfl | hk
  · exact h1 a w s t
  · obtain rfl := List.mem_singleton.1 hk
    exact h2 a w s t
theorem sb_end {fuel : Nat} {listed : Array Bool} (hr : Region.ready .any ops listed = []) (h : Tr n w0 X S E own R (Q .normal)) : Sb P ops Q n w0 X S ws fuel listed E own R := fun a w s t => by
  cases fuel with
  | zero => unfold wpAnyT; exact ⟨hr, h a w s t⟩
  | succ f => unfold wpAnyT; exact ⟨fun _ => h a w s t, by rw [hr]; simp⟩
theorem sb_endk {fuel : Nat} {listed : Array Bool} {k : Act → World → Prop} (hr : Region.ready .any ops listed = []) (h : Tr n w0 X S E own R k) : Sb P ops (Exit.then k Q) n w0 X S ws fuel listed E own R := sb_end hr h
theorem sb_own {fuel : Nat} {listed : Array Bool} (own' : Own) (e : own = own') (h : Sb P ops Q n w0 X S ws fuel listed E own' R) : Sb P ops Q n w0 X S ws fuel listed E own R := by subst e; exact h
/-- an operation that changes nothing, at its turn -/
theorem so2_q {i : Nat} {fuel : Nat} {listed : Array Bool} {op : Op} {ty : TypeId} {v : Value} {d : Nat} {pos : String} {af : Array Edge} (hi : ops[i]? = some ⟨some d, op, ty, pos, af, none⟩)
    (hq : Qt P (SS w0 X S own R) (look E) op ty v) (hd : Nat.blt d n = true) (h : Sb P ops Q n w0 X S ws fuel (listed.setIfInBounds i true) ((d, v) :: E) own R) : Sbo P ops Q n w0 X S ws fuel listed i E own R := by
  intro a w s t
  unfold wpOp
  rw [hi]
  refine (if_pos (wanted_none rfl)).mpr (.inl ?_)
  unfold Oper.wp
  rw [hq _ w s.agr t]
  exact ⟨fun _ => Below.refl _ _, h _ _ (s.put hd v) t⟩
theorem so2_call {i : Nat} {α : Type} {fuel : Nat} {listed : Array Bool} {c : Operand} {f : FuncId} {pre cap : List Value} {xs : List Operand} {vs : List Value} {ats : Array TypeId} {ty : TypeId} {d : Nat} {pos : String} {af : Array Edge} (val : α → Value) (F : α → World → Prop) [hB : FnB P f]
    (hi : ops[i]? = some ⟨some d, .call { callee := .value c, args := xs.toArray, argTypes := ats }, ty, pos, af, none⟩) (hc : fnv (look E) c f pre cap) (hxs : evs (look E) xs = some vs) (hd : Nat.blt d n = true)
    (hcall : ∀ w, SS w0 X S own R w → Ret P f (pre ++ vs ++ cap) w (Nn w0 S own w) val F)
    (h : ∀ x, Sb P ops Q n w0 X S ws fuel (listed.setIfInBounds i true) ((d, val x) :: E) own (fun w => R w ∧ F x w)) : Sbo P ops Q n w0 X S ws fuel listed i E own R := by
  intro a w s t
  unfold wpOp
  rw [hi]
  refine (if_pos (wanted_none rfl)).mpr (.inl ?_)
  unfold Oper.wp
  rw [run_call s.agr hc hxs, Oper.upon_enter]
  refine (hcall w t).mono ?_
  rintro e w' ⟨x, rfl, hb, hf⟩
  exact ⟨fun _ => hb, h x _ _ (s.put hd _) (t.add hb hf fun k hk => hk)⟩
theorem so2_lit {i : Nat} {fuel : Nat} {listed : Array Bool} {t e : TypeId} {agg : Bool} {sz by_ : Nat} {z : Value} [hs : SlT P t e] [hT : TyI P e agg sz by_ z] {len : Nat} {xs : List (Nat × Operand)} {vs : List (Nat × Value)} {cells : List Value} {ty : TypeId} {d : Nat} {pos : String} {af : Array Edge} (hi : ops[i]? = some ⟨some d, .buildSlice t len xs.toArray, ty, pos, af, none⟩) (hx : evp (look E) xs = some vs)
    (hlen : Nat.ble (len * sz) 1000 = true) (hpos : Nat.blt 0 (len * sz) = true) (hf : Instr.fill (fun i => some (i * sz, sz)) ((Array.range (len * sz)).map (z.cells[· % z.cells.size]!)) vs = some cells.toArray) (hd : Nat.blt d n = true)
    (h : ∀ r, Sb P ops Q n w0 X S ws fuel (listed.setIfInBounds i true) ((d, .slice (some ⟨r, 0, none⟩) len len) :: E) ((r, .cells cells.toArray e (0, 0)) :: own) R) : Sbo P ops Q n w0 X S ws fuel listed i E own R := by
  intro a w s t'
  unfold wpOp
  rw [hi]
  refine (if_pos (wanted_none rfl)).mpr (.inl ?_)
  have h1 : ¬ (len * sz > 2 ^ 24) := by have : len * sz ≤ 1000 := by simpa using hlen
                                        omega
  have h2 : ¬ (len * sz = 0) := by have : 0 < len * sz := by simpa using hpos
                                   omega
  have e0 : (List.map (fun (x : Nat × Operand) => match x with | (i, x) => (i, a.eval x)) xs) = vs := by rw [← evp_map s.agr hx]
  have e : (execOp a.eval ⟨some d, .buildSlice t len xs.toArray, ty, pos, af, none⟩).run P w = .ok (.value (.slice (some ⟨w.heap.size, 0, none⟩) len len)) (w.alloc (.cells cells.toArray e (0, 0))) := by
    simp only [execOp, List.map_toArray, e0, Instr.buildSlice, Sem.run_bind, run_underlying hs.u, Result.andThen_ok, hT.sizeOf w, if_neg h1, if_neg h2, Sem.run_pure, hT.zero w, hf]
    simp [newRow]
  unfold Oper.wp
  rw [e]
  exact ⟨fun _ => (Below.refl _ _).alloc (Nat.le_refl _) _, h _ _ _ (s.put hd _) (t'.alloc _)⟩
theorem so2_store {i : Nat} (k : Nat) {fuel : Nat} {listed : Array Bool} {t : TypeId} {agg : Bool} {sz by_ : Nat} {z : Value} [hT : TyI P t agg sz by_ z] {x y : Operand} {r off : Nat} {l : List Value} {e : TypeId} {v : Value} {ty : TypeId} {pos : String} {af : Array Edge} (hi : ops[i]? = some ⟨none, .store t x y, ty, pos, af, none⟩) (hw : ws.contains i = true)
    (hx : ev (look E) x = some (.pointer (some ⟨r, off, none⟩))) (hy : ev (look E) y = some v)
    (hk : ownAt own k = some (r, .cells l.toArray e (0, 0))) (hv : v.cells.size = sz) (hl : off + sz ≤ l.length) (hsz : Nat.blt 0 sz = true) (h1 : one' v.cells.toList = true)
    (h : Sb P ops Q n w0 X S ws fuel (listed.setIfInBounds i true) E (ownSet own k (.cells (wr l off v.cells.toList).toArray e (0, 0))) R) : Sbo P ops Q n w0 X S ws fuel listed i E own R := by
  intro a w s t'
  unfold wpOp
  rw [hi]
  refine (if_pos (wanted_none rfl)).mpr (.inl ?_)
  obtain ⟨w', e1, e2⟩ := run_storeVar_own (P := P) (t := t) (w := w) (off := off) (v := v) (t'.has _ (ownAt_mem hk)) hv hl (by simpa using hsz) (fun u hu => (List.all_eq_true.1 h1) u hu)
  have e : (execOp a.eval ⟨none, .store t x y, ty, pos, af, none⟩).run P w = .ok .skip w' := by
    simp only [execOp, s.agr x _ hx, s.agr y _ hy, Instr.storeAt, Instr.sureAddr, Sem.run_bind, Sem.run_pure, Result.andThen_ok, e1]
  unfold Oper.wp
  rw [e]
  exact ⟨fun hc => (by rw [hw] at hc; cases hc), h _ _ s (t'.upd hk e2)⟩
theorem wanted_some {a : Act} {j dj : Nat} {b c : Bool} {op : Op} {ty : TypeId} {d : Option Tmp} {pos : String} {af : Array Edge} (s : St n a E) (hj : (ops[j]?).bind (·.dst) = some dj) (hv : look E dj = some (.bool c)) : Region.wanted ⟨d, op, ty, pos, af, some (j, b)⟩ (yielded ops a.tmps) = (c == b) := by
  have hy : yielded ops a.tmps j = some c := by
    unfold yielded
    rw [hj, Option.bind_some, s.has _ _ hv]
  simp [Region.wanted, hy]
/-- guarded operations -/
theorem sb_qG (i : Nat) {fuel : Nat} {listed : Array Bool} {op : Op} {ty : TypeId} {v : Value} {d j dj : Nat} {b : Bool} {pos : String} {af : Array Edge} (hi : ops[i]? = some ⟨some d, op, ty, pos, af, some (j, b)⟩) (hj : (ops[j]?).bind (·.dst) = some dj) (hv : look E dj = some (.bool b)) (hc : tkB ops ws listed i = true) [hQ : PkI Q]
    (hq : Qt P (SS w0 X S own R) (look E) op ty v) (hd : Nat.blt d n = true) (h : Sb P ops Q n w0 X S ws fuel (listed.setIfInBounds i true) ((d, v) :: E) own R) : Sb P ops Q n w0 X S ws (fuel + 1) listed E own R := by
  intro a w s t
  unfold tkB at hc
  simp only [Bool.and_eq_true] at hc
  refine wpAnyT_first false hi (Region.noSelect_spec hc.1.1.1.1) (fun c a w h => hQ.h c a w _ _ h) _ _ _ _ (fun q hq o ho => ?_) (Region.free_spec hi hc.1.1.1.2) (closedB_ok hc.1.2) (by simpa using hc.1.1.2) (.inl ⟨(wanted_some s hj hv).trans (beq_self_eq_true b), fun w' hw' => hq _ w' s.agr (t.grow (hw'.resolve_left (by simp))) _ _ _ _⟩) (h _ _ (s.put hd v) t)
  have := List.all_eq_true.1 hc.2 q hq
  rw [ho] at this
  exact .inr ((Bool.or_eq_true _ _).mp this)
theorem sb_gF (i : Nat) {fuel : Nat} {listed : Array Bool} {op : Op} {ty : TypeId} {d j dj : Nat} {b c : Bool} {pos : String} {af : Array Edge} (hi : ops[i]? = some ⟨some d, op, ty, pos, af, some (j, b)⟩) (hj : (ops[j]?).bind (·.dst) = some dj) (hv : look E dj = some (.bool c)) (hbc : (!(c == b)) = true) (hc : tkB ops [] listed i = true) [hQ : PkI Q]
    (hd : Nat.blt d n = true) (h : Sb P ops Q n w0 X S ws fuel (listed.setIfInBounds i true) ((d, undef) :: E) own R) : Sb P ops Q n w0 X S ws (fuel + 1) listed E own R := by
  intro a w s t
  unfold tkB at hc
  simp only [Bool.and_eq_true] at hc
  exact wpAnyT_first true hi (Region.noSelect_spec hc.1.1.1.1) (fun c a w h => hQ.h c a w _ _ h) _ _ _ _ (fun q hq o ho => .inl rfl) (Region.free_spec hi hc.1.1.1.2) (closedB_ok hc.1.2) (by simpa using hc.1.1.2) (.inr ⟨(wanted_some s hj hv).trans (by simpa using hbc), rfl⟩) (h _ _ (s.put hd undef) t)
/-- a rule of sequences, for one operation that writes -/
def Qn (Q : Exit → Act → World → Prop) (K : Act → World → Prop) : Exit → Act → World → Prop
  | .normal => K
  | e => Q e
theorem wp_qn {o : Oper} {a : Act} {w : World} {K K' : Act → World → Prop} (h : o.wp P a w K' (Qn Q K)) : o.wp P a w K' Q := by
  unfold Oper.wp at *
  generalize (execOp a.eval o).run P w = r at *
  cases r with
  | ok x w' =>
    cases x <;> simp only [Oper.upon] at h ⊢ <;>
      first
        | exact h
        | exact Calls.mono h (fun e w'' he => by cases e <;> exact he)
        | exact Rows.mono h (fun _ _ he => he)
  | halt x w' => cases x <;> simp only [Oper.upon] at h ⊢ <;> exact h
theorem so2_of {i : Nat} {fuel : Nat} {listed : Array Bool} {o : Oper} (hi : ops[i]? = some o) (hw : ws.contains i = true) (h : Sq P ops (Qn Q (wpAnyT P ops Q ws fuel (listed.setIfInBounds i true))) n w0 X S [o] E own R) : Sbo P ops Q n w0 X S ws fuel listed i E own R := by
  intro a w s t
  have h' := h a w s t
  unfold wpList at h'
  unfold wpOp
  rw [hi]
  simp only
  split at h'
  · rename_i hg
    rw [if_pos hg]
    rcases h' with h' | h'
    · exact .inl (Oper.wp_mono (fun a' w' h => ⟨fun hc => (by rw [hw] at hc; cases hc), h⟩) (wp_qn h'))
    · exact .inr h'
  · rename_i hg
    rw [if_neg hg]
    exact ⟨fun hc => (by rw [hw] at hc; cases hc), h'⟩
theorem sq_back {fuel : Nat} {listed : Array Bool} (h : Sb P ops Q n w0 X S ws fuel listed E own R) : Sq P ops (Qn Q (wpAnyT P ops Q ws fuel listed)) n w0 X S [] E own R := fun a w s t => wpList_nil (h a w s t)
end
end Go.Qk
end
section
set_option linter.unusedVariables false
namespace Go.Qk
open Go Go.Proofs Go.RowKit
section
variable {z z' : Zd} {a b : Int} {p q : Sv} {B B' : Nat} {w : World} {S : Nat → Prop}
theorem rsign_zd (h : z.ok B w) (hB : B ≤ 35184372088832) : Ret Try.prog 111 [z.v] w S (fun _ : Unit => .int .i64 z.z.sign) (fun _ _ => True) :=
  rsign_ret z.n z.xs z.p w S h.1 h.2.1 (by have := h.2.2; omega)
theorem rsign_iv (h : Lz a.natAbs p w) (hB : nl a.natAbs ≤ 35184372088832) : Ret Try.prog 111 [iv a p] w S (fun _ : Unit => .int .i64 a.sign) (fun _ _ => True) := by
  have g := rsign_zd (S := S) (zd_ok h (Nat.le_refl _)) hB
  rwa [zd_z] at g
theorem rsub_zd (h : z.ok B w) (h' : z'.ok B' w) (hB : B < 35184372088832) (hB' : B' < 35184372088832) : Ret Try.prog 113 [z.v, z'.v] w S (iv (z.z - z'.z)) (Lz (z.z - z'.z).natAbs) :=
  rsub_ret z.n z'.n z.xs z'.xs z.p z'.p w S h.1 h.2.1 h'.1 h'.2.1 (by have := h.2.2; omega) (by have := h'.2.2; omega)
theorem rsub_iv (h : Lz a.natAbs p w) (h' : Lz b.natAbs q w) (hB : nl a.natAbs < 35184372088832) (hB' : nl b.natAbs < 35184372088832) : Ret Try.prog 113 [iv a p, iv b q] w S (iv (a - b)) (Lz (a - b).natAbs) := by
  have g := rsub_zd (S := S) (zd_ok h (Nat.le_refl _)) (zd_ok h' (Nat.le_refl _)) hB hB'
  rwa [zd_z, zd_z] at g
end
theorem dm_pos {n n' : Bool} {m k : Nat} (h : k ≠ 0) (h0 : ¬ sgn n (m % k) < 0) : sgn n m / sgn n' k = sgn (n != n') (m / k) ∧ sgn n m % sgn n' k = sgn n (m % k) := by
  have e : n = true → m % k = 0 := fun hn => by subst hn; simp only [sgn] at h0; simp only [if_pos] at h0; omega
  obtain ⟨h1, h2⟩ := dm_keep (n := n) (n' := n') h e
  refine ⟨h1, ?_⟩
  rw [h2]
  cases n with
  | false => rfl
  | true => rw [e rfl]; rfl
theorem dm_neg {n n' : Bool} {m k : Nat} (h : k ≠ 0) (h0 : sgn n (m % k) < 0) : sgn n m % sgn n' k = sgn n (m % k) + (k : Int) ∧ sgn n m / sgn n' k = sgn (n != n') (m / k) + (if sgn n' k < 0 then 1 else -1) := by
  cases n with
  | false => simp only [sgn] at h0; simp only [Bool.false_eq_true, if_false] at h0; omega
  | true =>
    have h2 : 0 < m % k := by simp only [sgn, if_pos] at h0; omega
    have hlt := Nat.mod_lt m (Nat.pos_of_ne_zero h)
    obtain ⟨e1, e2⟩ := dm_up (n' := n') h h2
    rw [e1, e2]
    refine ⟨by simp only [sgn, if_pos]; omega, ?_⟩
    cases n' with
    | true => rw [if_pos (by simp only [sgn, if_pos]; omega)]; show ((m / k + 1 : Nat) : Int) = ((m / k : Nat) : Int) + 1; omega
    | false => rw [if_neg (by simp only [sgn, Bool.false_eq_true, if_false]; omega)]; show -((m / k + 1 : Nat) : Int) = -((m / k : Nat) : Int) + -1; omega
end Go.Qk
end
section
set_option linter.unusedVariables false
namespace Go.Qk
open Go Go.Proofs Go.RowKit
set_option maxRecDepth 100000
set_option maxHeartbeats 4000000
theorem rdivmod_ret (n n' : Bool) (xs ys : List Nat) (p p' : Sv) (w : World) (S : Nat → Prop) (hx : Lm xs p w) (lx : lim xs) (hy : Lm ys p' w) (ly : lim ys) (hb : xs.length < 35184372088831) (hb' : ys.length < 35184372088831) :
    Ret Try.prog 123 [ig n xs p, ig n' ys p'] w S (fun q : Sv × Sv => .tuple #[iv (sgn n (val xs) / sgn n' (val ys)) q.1, iv (if (val ys) = 0 then 0 else sgn n (val xs) % sgn n' (val ys)) q.2, .bool (decide ((val ys) ≠ 0))]) (fun q w => Lz (sgn n (val xs) / sgn n' (val ys)).natAbs q.1 w ∧ Lz (if (val ys) = 0 then 0 else sgn n (val xs) % sgn n' (val ys)).natAbs q.2 w) := by
  have hxn := nl_val lx
  have hyn := nl_val ly
  obtain ⟨m, hm⟩ : ∃ m, m = val xs := ⟨_, rfl⟩
  obtain ⟨k, hk⟩ : ∃ k, k = val ys := ⟨_, rfl⟩
  rw [← hm] at hxn ⊢
  rw [← hk] at hyn ⊢
  refine ret_of Try.func123 rfl Try.ntmps123 rfl ?_
  refine tr_rseq ?_
  refine sq_box rfl rfl fun r2 => ?_
  refine sq_box rfl rfl fun r3 => ?_
  refine sq_alloc rfl fun r4 => ?_
  refine sq_alloc rfl fun r5 => ?_
  refine sq_q (qt_assign rfl) rfl ?_
  refine sq_end ?_
  refine tr_rdraw0 [0, 1, 2, 3, 4, 5, 6, 7, 8, 9, 10, 11, 12, 21, 43, 50] (by kernel_rfl) ?_
  refine dx_q rfl (qt_fieldAddr rfl) rfl ?_
  refine dx_q rfl (qt_load rfl (fun w t => t.atO 3 rfl rfl)) rfl ?_
  refine dx_call (slv (limbsOf m)) (Lz m) rfl rfl rfl (fun w t => by rw [hm]; exact rtrim_ret xs p.1 p.2 w _ (t.lm hx).1 lx hx.2 (by omega)) ?_
  refine dx_q rfl (qt_fieldAddr rfl) rfl ?_
  refine dx_q rfl (qt_load rfl (fun w t => t.atO 2 rfl rfl)) rfl ?_
  refine dx_call (slv (limbsOf k)) (Lz k) rfl rfl rfl (fun w t => by rw [hk]; exact rtrim_ret ys p'.1 p'.2 w _ (t.lm hy).1 ly hy.2 (by omega)) ?_
  refine dx_q1 15 (slv (limbsOf m)) rfl rfl (fun o ho => mem_looksAt (by rw [ho]; simp [Op.operands])) (fun _ => qt_assign rfl) rfl ?_
  refine dx_q1 18 (slv (limbsOf k)) rfl rfl (fun o ho => mem_looksAt (by rw [ho]; simp [Op.operands])) (fun _ => qt_assign rfl) rfl ?_
  refine dx_nil ?_
  repeat (first | refine es_val rfl ?_ rfl | refine es_res rfl (fun x => ?_) rfl | refine es_skip rfl ?_)
  refine es_nil rfl ?_
  refine tx_endk ?_
  rename_i x5
  revert x
  intro x6
  refine tr_seq ?_
  refine tr_rseq ?_
  refine sq_q (qt_move rfl) rfl ?_
  refine sq_q (qt_len rfl) rfl ?_
  refine sq_q (qt_bin rfl rfl bin_eql) rfl ?_
  refine sq_end ?_
  refine tr_if rfl (fun hc => ?_) (fun hc => ?_)
  ·
    have h0 : k = 0 := nl_zero.1 (by have := of_decide_eq_true hc; unfold nl; omega)
    refine tr_rseq ?_
    refine sq_q (qt_build rfl built0) rfl ?_
    refine sq_q (qt_build rfl built0) rfl ?_
    refine sq_store 1 rfl rfl rfl rfl (by first | (simp [u32s, Value.cells]; done) | (simp [u32s, Value.cells]; omega) | exact Nat.le_refl 2) rfl rfl ?_
    refine sq_store 0 rfl rfl rfl rfl (by first | (simp [u32s, Value.cells]; done) | (simp [u32s, Value.cells]; omega) | exact Nat.le_refl 2) rfl rfl ?_
    refine sq_q (qt_assign rfl) rfl ?_
    refine sq_end ?_
    refine tr_ret ?_
    repeat with_reducible first | refine tr_skip ?_ | refine tr_exit ?_ | refine tr_then ?_ | refine tr_inX ?_ | refine tr_thenX ?_ | refine tr_inN ?_ | refine tr_inR ?_ | refine tr_thenR ?_
    have e1 : sgn n m / sgn n' k = 0 := by rw [h0, show sgn n' 0 = 0 by unfold sgn; split <;> rfl, Int.ediv_zero]
    rw [e1, if_pos h0]
    rw [show decide (k ≠ 0) = false from decide_eq_false (fun h => absurd h0 h)]
    refine tr_done ((none, 0), (none, 0)) (fun a w s t => results_3 rfl (by rw [iv_zero]; exact resv_cell 1 s t rfl rfl rfl) (by rw [iv_zero]; exact resv_cell 0 s t rfl rfl rfl) (resv_tmp s rfl)) (fun w _ _ _ => ?_)
    rw [show (0 : Int).natAbs = 0 from rfl, Lz, limbsOf_zero]
    exact ⟨⟨Rd.nil _ _, Nat.le_refl _⟩, Rd.nil _ _, Nat.le_refl _⟩
  ·
    have h0 : k ≠ 0 := by
      intro h
      have := of_decide_eq_false hc
      rw [h, limbsOf_zero] at this
      exact this rfl
    rw [if_neg h0]
    obtain ⟨D, hD⟩ : ∃ D, D = sgn n m / sgn n' k := ⟨_, rfl⟩
    obtain ⟨M, hM⟩ : ∃ M, M = sgn n m % sgn n' k := ⟨_, rfl⟩
    rw [← hD, ← hM]
    have hmod := Nat.mod_lt m (Nat.pos_of_ne_zero h0)
    have hq1 := nl_mono (Nat.div_le_self m k)
    have hq4 := nl_mono (Nat.le_of_lt hmod)
    obtain ⟨a, ha⟩ : ∃ a, a = sgn (n != n') (m / k) := ⟨_, rfl⟩
    obtain ⟨b, hb0⟩ : ∃ b, b = sgn n (m % k) := ⟨_, rfl⟩
    have hal : nl a.natAbs ≤ xs.length := by rw [ha, sgn_natAbs]; omega
    have hbl : nl b.natAbs ≤ ys.length := by rw [hb0, sgn_natAbs]; omega
    refine tr_skip ?_
    repeat with_reducible first | refine tr_skip ?_ | refine tr_exit ?_ | refine tr_then ?_ | refine tr_inX ?_ | refine tr_thenX ?_ | refine tr_inN ?_ | refine tr_inR ?_ | refine tr_thenR ?_
    refine tr_rseq ?_
    refine sq_q (qt_move rfl) rfl ?_
    refine sq_q (qt_move rfl) rfl ?_
    refine sq_call (fun q : Sv × Sv => .tuple #[slv (limbsOf (m / k)) q.1, slv (limbsOf (m % k)) q.2]) (fun q w => Lz (m / k) q.1 w ∧ Lz (m % k) q.2 w) rfl rfl rfl (fun w t => rdivide_ret m k x5.1 x6.1 x5.2 x6.2 w _ t.r.1.2.1 t.r.2.1 (by omega) (by omega) h0) fun qr => ?_
    refine sq_q (qt_move rfl) rfl ?_
    refine sq_q (qt_extract rfl rfl) rfl ?_
    refine sq_q (qt_extract rfl rfl) rfl ?_
    refine sq_q (qt_assign rfl) rfl ?_
    refine sq_q (qt_assign rfl) rfl ?_
    refine sq_end ?_
    refine tr_rdrawA 13 [] [] [0, 1, 2, 3, 4, 5, 6, 7, 8, 9, 10, 36, 40] 11 12 11 12 (by kernel_rfl) ⟨_, _, _, rfl⟩ ⟨_, _, _, rfl⟩ rfl ?_
    refine dx_q rfl (qt_fieldAddr rfl) rfl ?_
    refine dx_q rfl (qt_load rfl (fun w t => t.atO 3 rfl rfl)) rfl ?_
    refine dx_q rfl (qt_fieldAddr rfl) rfl ?_
    refine dx_q rfl (qt_load rfl (fun w t => t.atO 2 rfl rfl)) rfl ?_
    refine dx_q rfl (qt_binB rfl rfl (bin_neqB boolT _ _)) rfl ?_
    refine dx_q rfl (qt_move rfl) rfl ?_
    refine dx_call (iv a) (Lz a.natAbs) rfl rfl rfl (fun w t => by
      have h := fun S' => make_ret (n != n') (limbsOf (m / k)) qr.1.1 qr.1.2 w S' t.r.2.1.1 (lim_limbsOf _) t.r.2.1.2 (by unfold nl at *; omega)
      rw [val_limbsOf, ← ha] at h
      rw [show a.natAbs = m / k by rw [ha, sgn_natAbs]]
      exact h _) ?_
    refine dx_q rfl (qt_fieldAddr rfl) rfl ?_
    refine dx_q rfl (qt_load rfl (fun w t => t.atO 3 rfl rfl)) rfl ?_
    refine dx_q rfl (qt_move rfl) rfl ?_
    refine dx_call (iv b) (Lz b.natAbs) rfl rfl rfl (fun w t => by
      have h := fun S' => make_ret n (limbsOf (m % k)) qr.2.1 qr.2.2 w S' t.r.2.2.1 (lim_limbsOf _) t.r.2.2.2 (by unfold nl at *; omega)
      rw [val_limbsOf, ← hb0] at h
      rw [show b.natAbs = m % k by rw [hb0, sgn_natAbs]]
      exact h _) ?_
    refine dx_alloc rfl ?_
    refine dx_alloc rfl ?_
    refine dx_nil ?_
    refine es_two rfl rfl (fun r11 r12 hne => ?_) rfl rfl
    repeat (first | refine es_val rfl ?_ rfl | refine es_skip rfl ?_)
    refine es_res rfl (fun x36 => ?_) rfl
    refine es_res rfl (fun x40 => ?_) rfl
    repeat (first | refine es_val rfl ?_ rfl | refine es_skip rfl ?_)
    refine es_adopt [zblk r11 z0, zblk r12 z0, zblk r5 z0, zblk r4 z0, (r3, .cells (ig n' ys p').cells 35 (0, 0)), (r2, .cells (ig n xs p).cells 35 (0, 0))] (fun w => (Lz k x6 w ∧ Lz a.natAbs x36 w) ∧ Lz b.natAbs x40 w) rfl (fun w t => ?_) ?_
    · have h11 := t.r.1.1.1.2
      have h12 := t.r.1.1.2
      have hne' : r11 ≠ r12 := fun e => hne (by rw [e])
      have t1 := t.adoptL h12.1 h12.2.1 h12.2.2 (not_u32b_z0 _ _) (R' := fun w => (Lz k x6 w ∧ Lz a.natAbs x36 w) ∧ Lz b.natAbs x40 w) (fun w h => ⟨⟨h.1.1.1.1.1.2, h.1.2⟩, h.2⟩) (((LimbR.lm _ _).and (LimbR.lm _ _)).and (LimbR.lm _ _))
      exact t1.adoptL h11.1 (fun q hq => by
        rcases List.mem_cons.1 hq with rfl | hq
        · exact fun e => hne' e.symm
        · exact h11.2.1 q hq) h11.2.2 (not_u32b_z0 _ _) (fun w h => h) (((LimbR.lm _ _).and (LimbR.lm _ _)).and (LimbR.lm _ _))
    refine tx_store 0 rfl rfl rfl rfl (Nat.le_refl 2) rfl rfl rfl ?_
    refine tx_store 1 rfl rfl rfl rfl (Nat.le_refl 2) rfl rfl rfl ?_
    refine tx_endk ?_
    refine tr_own [zblk r11 (zd a x36), zblk r12 (zd b x40), zblk r5 z0, zblk r4 z0, (r3, .cells (ig n' ys p').cells 35 (0, 0)), (r2, .cells (ig n xs p).cells 35 (0, 0))] rfl ?_
    refine tr_seq ?_
    refine tr_rseq ?_
    refine sq_q (qt_load2 rfl (fun w t => t.atO 1 rfl rfl) (fun w t => t.atO 1 rfl rfl)) rfl ?_
    refine sq_call (val := fun _ : Unit => .int .i64 b.sign) (F := fun _ _ => True) rfl rfl rfl (fun w t => rsign_iv t.r.2 (by omega)) fun _ => ?_
    refine sq_q (qt_bin rfl rfl bin_lss) rfl ?_
    refine sq_end ?_
    refine tr_if rfl (fun hc => ?_) (fun hc => ?_)
    ·
      have hbn : b < 0 := Int.sign_neg_iff.1 (by have := of_decide_eq_true hc; omega)
      obtain ⟨c, hcd⟩ : ∃ c, c = b + (k : Int) := ⟨_, rfl⟩
      have hcl : nl c.natAbs ≤ ys.length + 1 := by rw [hcd]; have h := nl_iadd b (k : Int); have h2 : nl (k : Int).natAbs ≤ ys.length := hyn; omega
      refine tr_rsb [4] ?_
      refine sb_q 0 rfl (by kernel_rfl) (qt_load2 rfl (fun w t => t.atO 1 rfl rfl) (fun w t => t.atO 1 rfl rfl)) rfl ?_
      refine sb_q 1 rfl (by kernel_rfl) (qt_move rfl) rfl ?_
      refine sb_one 2 (by kernel_rfl) ?_
      refine so2_call (iv (k : Int)) (Lz (k : Int).natAbs) rfl rfl rfl rfl (fun w t => by
        have h := fun S' => make_ret false (limbsOf k) x6.1 x6.2 w S' t.r.1.1.1.1 (lim_limbsOf _) t.r.1.1.1.2 (by unfold nl at *; omega)
        rw [val_limbsOf] at h
        exact h _) fun x46 => ?_
      refine sb_one 3 (by kernel_rfl) ?_
      refine so2_call (iv c) (Lz c.natAbs) rfl rfl rfl rfl (fun w t => by rw [hcd]; exact radd_iv t.r.1.1.2 t.r.2 (by omega) (Nat.lt_of_le_of_lt hyn (by omega))) fun x47 => ?_
      refine sb_one 4 (by kernel_rfl) ?_
      refine so2_store 1 rfl rfl rfl rfl rfl rfl (by first | (simp [u32s, Value.cells]; done) | (simp [u32s, Value.cells]; omega) | exact Nat.le_refl 2) rfl rfl ?_
      refine sb_endk (by kernel_rfl) ?_
      refine tr_own [zblk r11 (zd a x36), zblk r12 (zd c x47), zblk r5 z0, zblk r4 z0, (r3, .cells (ig n' ys p').cells 35 (0, 0)), (r2, .cells (ig n xs p).cells 35 (0, 0))] rfl ?_
      refine tr_r (fun w => Lz a.natAbs x36 w ∧ Lz c.natAbs x47 w) (fun w h => ⟨h.1.1.1.1.2, h.2⟩) ?_
      obtain ⟨eM, eD⟩ := dm_neg (n := n) (n' := n') (m := m) h0 (by rw [← hb0]; exact hbn)
      rw [← hM, ← hb0, ← hcd] at eM
      rw [← hD, ← ha] at eD
      rw [eM]
      refine tr_seq ?_
      refine tr_rseq ?_
      refine sq_q (qt_load2 rfl (fun w t => t.atO 4 rfl rfl) (fun w t => t.atO 4 rfl rfl)) rfl ?_
      refine sq_call (val := fun _ : Unit => .int .i64 (sgn n' k).sign) (F := fun _ _ => True) rfl rfl rfl (fun w t => by rw [hk]; exact rsign_ret n' ys p' w _ (t.lm hy) ly (by omega)) fun _ => ?_
      refine sq_q (qt_bin rfl rfl bin_lss) rfl ?_
      refine sq_end ?_
      refine tr_if rfl (fun hc => ?_) (fun hc => ?_)
      ·
        have hkn : sgn n' k < 0 := Int.sign_neg_iff.1 (by have := of_decide_eq_true hc; omega)
        rw [if_pos hkn] at eD
        refine tr_cut (ι := Sv) (fun _ => True) (fun x => [(4, .pointer (some ⟨r4, 0, none⟩)), (5, .pointer (some ⟨r5, 0, none⟩)), (6, .bool true)]) (fun x => [zblk r11 (zd a x36), zblk r12 (zd c x47), zblk r5 (zd c x47), zblk r4 (zd D x), (r3, .cells (ig n' ys p').cells 35 (0, 0)), (r2, .cells (ig n xs p).cells 35 (0, 0))]) (fun x w => Lz D.natAbs x w ∧ Lz c.natAbs x47 w) ?_ (fun x _ => ?_)
        ·
          refine tr_sb [4, 5] ?_
          refine sb_q 0 rfl (by kernel_rfl) (qt_load2 rfl (fun w t => t.atO 0 rfl rfl) (fun w t => t.atO 0 rfl rfl)) rfl ?_
          refine sb_two 1 3 (by kernel_rfl) ?_ ?_
          ·
            refine so2_call (iv 1) (Lz (1 : Int).natAbs) rfl rfl rfl rfl (fun w t => rsmall_ret 1 w _ (by omega) (by omega)) fun x52 => ?_
            refine sb_two 2 3 (by kernel_rfl) ?_ ?_
            ·
              refine so2_call (iv D) (Lz D.natAbs) rfl rfl rfl rfl (fun w t => by rw [eD]; exact radd_iv t.r.1.1.1 t.r.2 (by omega) (Nat.lt_of_le_of_lt nl_one (by omega))) fun x => ?_
              refine sb_two 3 4 (by kernel_rfl) ?_ ?_
              ·
                refine so2_q rfl (qt_load2 rfl (fun w t => t.atO 1 rfl rfl) (fun w t => t.atO 1 rfl rfl)) rfl ?_
                refine sb_one 4 (by kernel_rfl) ?_
                refine so2_store 3 rfl rfl rfl rfl rfl rfl (by first | (simp [u32s, Value.cells]; done) | (simp [u32s, Value.cells]; omega) | exact Nat.le_refl 2) rfl rfl ?_
                refine sb_one 5 (by kernel_rfl) ?_
                refine so2_store 2 rfl rfl rfl rfl rfl rfl (by first | (simp [u32s, Value.cells]; done) | (simp [u32s, Value.cells]; omega) | exact Nat.le_refl 2) rfl rfl ?_
                refine sb_q 6 rfl (by kernel_rfl) (qt_assign rfl) rfl ?_
                refine sb_end (by kernel_rfl) ?_
                exact tr_mid x trivial ⟨rfl, rfl, rfl, trivial⟩ rfl (fun w h => ⟨h.2, h.1.1.1.2⟩)
              ·
                refine so2_store 3 rfl rfl rfl rfl rfl rfl (by first | (simp [u32s, Value.cells]; done) | (simp [u32s, Value.cells]; omega) | exact Nat.le_refl 2) rfl rfl ?_
                refine sb_q 3 rfl (by kernel_rfl) (qt_load2 rfl (fun w t => t.atO 1 rfl rfl) (fun w t => t.atO 1 rfl rfl)) rfl ?_
                refine sb_one 5 (by kernel_rfl) ?_
                refine so2_store 2 rfl rfl rfl rfl rfl rfl (by first | (simp [u32s, Value.cells]; done) | (simp [u32s, Value.cells]; omega) | exact Nat.le_refl 2) rfl rfl ?_
                refine sb_q 6 rfl (by kernel_rfl) (qt_assign rfl) rfl ?_
                refine sb_end (by kernel_rfl) ?_
                exact tr_mid x trivial ⟨rfl, rfl, rfl, trivial⟩ rfl (fun w h => ⟨h.2, h.1.1.1.2⟩)
            ·
              refine so2_q rfl (qt_load2 rfl (fun w t => t.atO 1 rfl rfl) (fun w t => t.atO 1 rfl rfl)) rfl ?_
              refine sb_one 2 (by kernel_rfl) ?_
              refine so2_call (iv D) (Lz D.natAbs) rfl rfl rfl rfl (fun w t => by rw [eD]; exact radd_iv t.r.1.1.1 t.r.2 (by omega) (Nat.lt_of_le_of_lt nl_one (by omega))) fun x => ?_
              refine sb_one 4 (by kernel_rfl) ?_
              refine so2_store 3 rfl rfl rfl rfl rfl rfl (by first | (simp [u32s, Value.cells]; done) | (simp [u32s, Value.cells]; omega) | exact Nat.le_refl 2) rfl rfl ?_
              refine sb_one 5 (by kernel_rfl) ?_
              refine so2_store 2 rfl rfl rfl rfl rfl rfl (by first | (simp [u32s, Value.cells]; done) | (simp [u32s, Value.cells]; omega) | exact Nat.le_refl 2) rfl rfl ?_
              refine sb_q 6 rfl (by kernel_rfl) (qt_assign rfl) rfl ?_
              refine sb_end (by kernel_rfl) ?_
              exact tr_mid x trivial ⟨rfl, rfl, rfl, trivial⟩ rfl (fun w h => ⟨h.2, h.1.1.1.2⟩)
          ·
            refine so2_q rfl (qt_load2 rfl (fun w t => t.atO 1 rfl rfl) (fun w t => t.atO 1 rfl rfl)) rfl ?_
            refine sb_one 1 (by kernel_rfl) ?_
            refine so2_call (iv 1) (Lz (1 : Int).natAbs) rfl rfl rfl rfl (fun w t => rsmall_ret 1 w _ (by omega) (by omega)) fun x52 => ?_
            refine sb_one 2 (by kernel_rfl) ?_
            refine so2_call (iv D) (Lz D.natAbs) rfl rfl rfl rfl (fun w t => by rw [eD]; exact radd_iv t.r.1.1.1 t.r.2 (by omega) (Nat.lt_of_le_of_lt nl_one (by omega))) fun x => ?_
            refine sb_one 4 (by kernel_rfl) ?_
            refine so2_store 3 rfl rfl rfl rfl rfl rfl (by first | (simp [u32s, Value.cells]; done) | (simp [u32s, Value.cells]; omega) | exact Nat.le_refl 2) rfl rfl ?_
            refine sb_one 5 (by kernel_rfl) ?_
            refine so2_store 2 rfl rfl rfl rfl rfl rfl (by first | (simp [u32s, Value.cells]; done) | (simp [u32s, Value.cells]; omega) | exact Nat.le_refl 2) rfl rfl ?_
            refine sb_q 6 rfl (by kernel_rfl) (qt_assign rfl) rfl ?_
            refine sb_end (by kernel_rfl) ?_
            exact tr_mid x trivial ⟨rfl, rfl, rfl, trivial⟩ rfl (fun w h => ⟨h.2, h.1.1.1.2⟩)
        ·
          refine tr_ret ?_
          repeat with_reducible first | refine tr_skip ?_ | refine tr_exit ?_ | refine tr_then ?_ | refine tr_inX ?_ | refine tr_thenX ?_ | refine tr_inN ?_ | refine tr_inR ?_ | refine tr_thenR ?_
          refine tr_done (x, x47) (fun a w s t => results_3 rfl (resv_cell 3 s t rfl rfl rfl) (resv_cell 2 s t rfl rfl rfl) (resv_tmp s (by rw [decide_eq_true h0]; rfl))) (fun w h _ _ => h)
      ·
        have hkn : ¬ sgn n' k < 0 := fun h => of_decide_eq_false hc (by rw [Int.sign_eq_neg_one_of_neg h]; decide)
        rw [if_neg hkn] at eD
        refine tr_skip ?_
        repeat with_reducible first | refine tr_skip ?_ | refine tr_exit ?_ | refine tr_then ?_ | refine tr_inX ?_ | refine tr_thenX ?_ | refine tr_inN ?_ | refine tr_inR ?_ | refine tr_thenR ?_
        refine tr_cut (ι := Sv) (fun _ => True) (fun x => [(4, .pointer (some ⟨r4, 0, none⟩)), (5, .pointer (some ⟨r5, 0, none⟩)), (6, .bool true)]) (fun x => [zblk r11 (zd a x36), zblk r12 (zd c x47), zblk r5 (zd c x47), zblk r4 (zd D x), (r3, .cells (ig n' ys p').cells 35 (0, 0)), (r2, .cells (ig n xs p).cells 35 (0, 0))]) (fun x w => Lz D.natAbs x w ∧ Lz c.natAbs x47 w) ?_ (fun x _ => ?_)
        ·
          refine tr_sb [4, 5] ?_
          refine sb_q 0 rfl (by kernel_rfl) (qt_load2 rfl (fun w t => t.atO 0 rfl rfl) (fun w t => t.atO 0 rfl rfl)) rfl ?_
          refine sb_two 1 3 (by kernel_rfl) ?_ ?_
          ·
            refine so2_call (iv 1) (Lz (1 : Int).natAbs) rfl rfl rfl rfl (fun w t => rsmall_ret 1 w _ (by omega) (by omega)) fun x56 => ?_
            refine sb_two 2 3 (by kernel_rfl) ?_ ?_
            ·
              refine so2_call (iv D) (Lz D.natAbs) rfl rfl rfl rfl (fun w t => by rw [eD]; exact rsub_iv t.r.1.1.1 t.r.2 (by omega) (Nat.lt_of_le_of_lt nl_one (by omega))) fun x => ?_
              refine sb_two 3 4 (by kernel_rfl) ?_ ?_
              ·
                refine so2_q rfl (qt_load2 rfl (fun w t => t.atO 1 rfl rfl) (fun w t => t.atO 1 rfl rfl)) rfl ?_
                refine sb_one 4 (by kernel_rfl) ?_
                refine so2_store 3 rfl rfl rfl rfl rfl rfl (by first | (simp [u32s, Value.cells]; done) | (simp [u32s, Value.cells]; omega) | exact Nat.le_refl 2) rfl rfl ?_
                refine sb_one 5 (by kernel_rfl) ?_
                refine so2_store 2 rfl rfl rfl rfl rfl rfl (by first | (simp [u32s, Value.cells]; done) | (simp [u32s, Value.cells]; omega) | exact Nat.le_refl 2) rfl rfl ?_
                refine sb_q 6 rfl (by kernel_rfl) (qt_assign rfl) rfl ?_
                refine sb_end (by kernel_rfl) ?_
                exact tr_mid x trivial ⟨rfl, rfl, rfl, trivial⟩ rfl (fun w h => ⟨h.2, h.1.1.1.2⟩)
              ·
                refine so2_store 3 rfl rfl rfl rfl rfl rfl (by first | (simp [u32s, Value.cells]; done) | (simp [u32s, Value.cells]; omega) | exact Nat.le_refl 2) rfl rfl ?_
                refine sb_q 3 rfl (by kernel_rfl) (qt_load2 rfl (fun w t => t.atO 1 rfl rfl) (fun w t => t.atO 1 rfl rfl)) rfl ?_
                refine sb_one 5 (by kernel_rfl) ?_
                refine so2_store 2 rfl rfl rfl rfl rfl rfl (by first | (simp [u32s, Value.cells]; done) | (simp [u32s, Value.cells]; omega) | exact Nat.le_refl 2) rfl rfl ?_
                refine sb_q 6 rfl (by kernel_rfl) (qt_assign rfl) rfl ?_
                refine sb_end (by kernel_rfl) ?_
                exact tr_mid x trivial ⟨rfl, rfl, rfl, trivial⟩ rfl (fun w h => ⟨h.2, h.1.1.1.2⟩)
            ·
              refine so2_q rfl (qt_load2 rfl (fun w t => t.atO 1 rfl rfl) (fun w t => t.atO 1 rfl rfl)) rfl ?_
              refine sb_one 2 (by kernel_rfl) ?_
              refine so2_call (iv D) (Lz D.natAbs) rfl rfl rfl rfl (fun w t => by rw [eD]; exact rsub_iv t.r.1.1.1 t.r.2 (by omega) (Nat.lt_of_le_of_lt nl_one (by omega))) fun x => ?_
              refine sb_one 4 (by kernel_rfl) ?_
              refine so2_store 3 rfl rfl rfl rfl rfl rfl (by first | (simp [u32s, Value.cells]; done) | (simp [u32s, Value.cells]; omega) | exact Nat.le_refl 2) rfl rfl ?_
              refine sb_one 5 (by kernel_rfl) ?_
              refine so2_store 2 rfl rfl rfl rfl rfl rfl (by first | (simp [u32s, Value.cells]; done) | (simp [u32s, Value.cells]; omega) | exact Nat.le_refl 2) rfl rfl ?_
              refine sb_q 6 rfl (by kernel_rfl) (qt_assign rfl) rfl ?_
              refine sb_end (by kernel_rfl) ?_
              exact tr_mid x trivial ⟨rfl, rfl, rfl, trivial⟩ rfl (fun w h => ⟨h.2, h.1.1.1.2⟩)
          ·
            refine so2_q rfl (qt_load2 rfl (fun w t => t.atO 1 rfl rfl) (fun w t => t.atO 1 rfl rfl)) rfl ?_
            refine sb_one 1 (by kernel_rfl) ?_
            refine so2_call (iv 1) (Lz (1 : Int).natAbs) rfl rfl rfl rfl (fun w t => rsmall_ret 1 w _ (by omega) (by omega)) fun x56 => ?_
            refine sb_one 2 (by kernel_rfl) ?_
            refine so2_call (iv D) (Lz D.natAbs) rfl rfl rfl rfl (fun w t => by rw [eD]; exact rsub_iv t.r.1.1.1 t.r.2 (by omega) (Nat.lt_of_le_of_lt nl_one (by omega))) fun x => ?_
            refine sb_one 4 (by kernel_rfl) ?_
            refine so2_store 3 rfl rfl rfl rfl rfl rfl (by first | (simp [u32s, Value.cells]; done) | (simp [u32s, Value.cells]; omega) | exact Nat.le_refl 2) rfl rfl ?_
            refine sb_one 5 (by kernel_rfl) ?_
            refine so2_store 2 rfl rfl rfl rfl rfl rfl (by first | (simp [u32s, Value.cells]; done) | (simp [u32s, Value.cells]; omega) | exact Nat.le_refl 2) rfl rfl ?_
            refine sb_q 6 rfl (by kernel_rfl) (qt_assign rfl) rfl ?_
            refine sb_end (by kernel_rfl) ?_
            exact tr_mid x trivial ⟨rfl, rfl, rfl, trivial⟩ rfl (fun w h => ⟨h.2, h.1.1.1.2⟩)
        ·
          refine tr_ret ?_
          repeat with_reducible first | refine tr_skip ?_ | refine tr_exit ?_ | refine tr_then ?_ | refine tr_inX ?_ | refine tr_thenX ?_ | refine tr_inN ?_ | refine tr_inR ?_ | refine tr_thenR ?_
          refine tr_done (x, x47) (fun a w s t => results_3 rfl (resv_cell 3 s t rfl rfl rfl) (resv_cell 2 s t rfl rfl rfl) (resv_tmp s (by rw [decide_eq_true h0]; rfl))) (fun w h _ _ => h)
    ·
      have hbn : ¬ b < 0 := fun h => of_decide_eq_false hc (by rw [Int.sign_eq_neg_one_of_neg h]; decide)
      obtain ⟨eD, eM⟩ := dm_pos (n := n) (n' := n') (m := m) h0 (by rw [← hb0]; exact hbn)
      rw [← hD, ← ha] at eD
      rw [← hM, ← hb0] at eM
      rw [eD, eM]
      refine tr_skip ?_
      repeat with_reducible first | refine tr_skip ?_ | refine tr_exit ?_ | refine tr_then ?_ | refine tr_inX ?_ | refine tr_thenX ?_ | refine tr_inN ?_ | refine tr_inR ?_ | refine tr_thenR ?_
      refine tr_cut (ι := Unit) (fun _ => True) (fun _ => [(4, .pointer (some ⟨r4, 0, none⟩)), (5, .pointer (some ⟨r5, 0, none⟩)), (6, .bool true)]) (fun _ => [zblk r11 (zd a x36), zblk r12 (zd b x40), zblk r5 (zd b x40), zblk r4 (zd a x36), (r3, .cells (ig n' ys p').cells 35 (0, 0)), (r2, .cells (ig n xs p).cells 35 (0, 0))]) (fun _ w => Lz a.natAbs x36 w ∧ Lz b.natAbs x40 w) ?_ (fun _ _ => ?_)
      ·
        refine tr_sb [2, 3] ?_
        refine sb_q 0 rfl (by kernel_rfl) (qt_load2 rfl (fun w t => t.atO 0 rfl rfl) (fun w t => t.atO 0 rfl rfl)) rfl ?_
        refine sb_two 1 2 (by kernel_rfl) ?_ ?_
        ·
          refine so2_q rfl (qt_load2 rfl (fun w t => t.atO 1 rfl rfl) (fun w t => t.atO 1 rfl rfl)) rfl ?_
          refine sb_one 2 (by kernel_rfl) ?_
          refine so2_store 3 rfl rfl rfl rfl rfl rfl (by first | (simp [u32s, Value.cells]; done) | (simp [u32s, Value.cells]; omega) | exact Nat.le_refl 2) rfl rfl ?_
          refine sb_one 3 (by kernel_rfl) ?_
          refine so2_store 2 rfl rfl rfl rfl rfl rfl (by first | (simp [u32s, Value.cells]; done) | (simp [u32s, Value.cells]; omega) | exact Nat.le_refl 2) rfl rfl ?_
          refine sb_q 4 rfl (by kernel_rfl) (qt_assign rfl) rfl ?_
          refine sb_end (by kernel_rfl) ?_
          exact tr_mid () trivial ⟨rfl, rfl, rfl, trivial⟩ rfl (fun w h => ⟨h.1.1.2, h.1.2⟩)
        ·
          refine so2_store 3 rfl rfl rfl rfl rfl rfl (by first | (simp [u32s, Value.cells]; done) | (simp [u32s, Value.cells]; omega) | exact Nat.le_refl 2) rfl rfl ?_
          refine sb_q 1 rfl (by kernel_rfl) (qt_load2 rfl (fun w t => t.atO 1 rfl rfl) (fun w t => t.atO 1 rfl rfl)) rfl ?_
          refine sb_one 3 (by kernel_rfl) ?_
          refine so2_store 2 rfl rfl rfl rfl rfl rfl (by first | (simp [u32s, Value.cells]; done) | (simp [u32s, Value.cells]; omega) | exact Nat.le_refl 2) rfl rfl ?_
          refine sb_q 4 rfl (by kernel_rfl) (qt_assign rfl) rfl ?_
          refine sb_end (by kernel_rfl) ?_
          exact tr_mid () trivial ⟨rfl, rfl, rfl, trivial⟩ rfl (fun w h => ⟨h.1.1.2, h.1.2⟩)
      ·
        refine tr_ret ?_
        repeat with_reducible first | refine tr_skip ?_ | refine tr_exit ?_ | refine tr_then ?_ | refine tr_inX ?_ | refine tr_thenX ?_ | refine tr_inN ?_ | refine tr_inR ?_ | refine tr_thenR ?_
        refine tr_done (x36, x40) (fun a w s t => results_3 rfl (resv_cell 3 s t rfl rfl rfl) (resv_cell 2 s t rfl rfl rfl) (resv_tmp s (by rw [decide_eq_true h0]; rfl))) (fun w h _ _ => h)
end Go.Qk
end
section
set_option linter.unusedVariables false
namespace Go.Qk
open Go Go.Proofs Go.RowKit
set_option maxRecDepth 100000
set_option maxHeartbeats 4000000
theorem dot_ret (a b : Rw) (F : Nat → Int) (B B' : Nat) (w : World) (S : Nat → Prop) (ha : a.ok B w) (hb : b.ok B' w) (h1 : 1 ≤ a.l.length) (hn : a.l.length ≤ 64) (hle : a.l.length ≤ b.l.length) (hB : B + B' ≤ 35184372088700) (hF : ∀ k (hk : k < a.l.length) (hk' : k < b.l.length), a.l[k].z * b.l[k].z = F k) :
    Ret Try.prog 94 [a.v, b.v] w S (iv (sumN a.l.length F)) (fun p w => Lz (sumN a.l.length F).natAbs p w ∧ nl (sumN a.l.length F).natAbs ≤ B + B' + a.l.length) := by
  obtain ⟨rr, orr, evr, hatr⟩ := ha.at_ (show 0 < a.l.length by omega)
  obtain ⟨rr', orr', evr', hatr'⟩ := hb.at_ (show 0 < b.l.length by omega)
  obtain ⟨n, hln⟩ : ∃ n, n = a.l.length := ⟨_, rfl⟩
  have hFb : ∀ k, k < n → nl (F k).natAbs ≤ B + B' := fun k hk => by
    rw [← hF k (by omega) (by omega)]
    have g1 := nl_imul (a.l[k]'(by omega)).z (b.l[k]'(by omega)).z
    have g2 := nl_zd (ha.2.2 _ (List.getElem_mem (show k < a.l.length by omega)))
    have g3 := nl_zd (hb.2.2 _ (List.getElem_mem (show k < b.l.length by omega)))
    omega
  rw [evr, evr', ← hln]
  refine ret_of Try.func94 rfl Try.ntmps94 rfl ?_
  refine tr_rseq ?_
  refine sq_alloc rfl fun r4 => ?_
  refine sq_end ?_
  refine tr_rseq ?_
  refine sq_q (qt_build rfl built0) rfl ?_
  refine sq_alloc rfl fun r5 => ?_
  refine sq_store 0 rfl rfl rfl rfl (Nat.le_refl 2) rfl rfl ?_
  refine sq_end ?_
  refine tr_seq ?_
  refine tr_rseq ?_
  refine sq_q (qt_move rfl) rfl ?_
  refine sq_q (qt_len rfl) rfl ?_
  refine sq_q (qt_move rfl) rfl ?_
  refine sq_end ?_
  refine tr_block ?_
  refine tr_own [zblk r5 (zd (sumN 0 F) (none, 0)), zblk r4 z0] (by rw [zblk_zero]; rfl) ?_
  refine tr_loop2 (fun (k : Nat) (p : Sv) => k ≤ n) (fun k p => [(0, .slice (some ⟨rr, orr, none⟩) n a.p.2), (1, .slice (some ⟨rr', orr', none⟩) b.l.length b.p.2), (4, .pointer (some ⟨r4, 0, none⟩)), (5, .pointer (some ⟨r5, 0, none⟩)), (9, .int .i64 (n : Int)), (10, .int .i64 (k : Int))])
    (fun k p => [zblk r5 (zd (sumN k F) p), zblk r4 z0]) (fun k p w => Lz (sumN k F).natAbs p w) (fun k p => n - k) 0 (none, 0) (Nat.zero_le _) ⟨rfl, rfl, rfl, rfl, rfl, rfl, trivial⟩ rfl (fun w _ => lz_zero) ?_
  rintro k p hk
  refine tr_rseq ?_
  refine sq_q (qt_bin rfl rfl bin_lss) rfl ?_
  refine sq_end ?_
  refine tr_seq ?_
  refine tr_if rfl (fun hc => ?_) (fun hc => ?_)
  ·
    have hlt : k < n := by have := of_decide_eq_true hc; omega
    have hkl : k < a.l.length := by omega
    have hkl' : k < b.l.length := by omega
    obtain ⟨hz0, hz1⟩ := hatr k hkl
    have hzok := ha.2.2 _ (List.getElem_mem hkl)
    obtain ⟨hz0', hz1'⟩ := hatr' k hkl'
    have hzok' := hb.2.2 _ (List.getElem_mem hkl')
    have hfk := hF k hkl hkl'
    have hb1 := hFb k hlt
    have hb2 := nl_sum (f := F) (k := k) fun i hi => hFb i (by omega)
    refine tr_skip ?_
    repeat with_reducible first | refine tr_skip ?_ | refine tr_exit ?_ | refine tr_then ?_ | refine tr_inX ?_ | refine tr_thenX ?_ | refine tr_inN ?_ | refine tr_inR ?_ | refine tr_thenR ?_
    refine tr_seq ?_
    refine tr_block ?_
    refine tr_rseq ?_
    refine sq_q (qt_move rfl) rfl ?_
    refine sq_q (qt_assign rfl) rfl ?_
    refine sq_end ?_
    refine tr_draw 11 [] [] [0, 1, 4, 5, 6, 9, 10, 11, 23] (by kernel_rfl) ?_
    refine dx_q rfl (qt_load2 rfl (fun w t => t.atO 0 rfl rfl) (fun w t => t.atO 0 rfl rfl)) rfl ?_
    refine dx_q rfl (qt_move rfl) rfl ?_
    refine dx_q rfl (qt_move rfl) rfl ?_
    refine dx_q rfl (qt_index (i := k) rfl rfl hlt) rfl ?_
    refine dx_q rfl (qt_load2 rfl (fun w t => t.atA hz0) (fun w t => t.atA hz1)) rfl ?_
    refine dx_q rfl (qt_move rfl) rfl ?_
    refine dx_q rfl (qt_move rfl) rfl ?_
    refine dx_q rfl (qt_index (i := k) rfl rfl hkl') rfl ?_
    refine dx_q rfl (qt_load2 rfl (fun w t => t.atA hz0') (fun w t => t.atA hz1')) rfl ?_
    refine dx_call (iv (F k)) (Lz (F k).natAbs) rfl rfl rfl (fun w t => by rw [← hfk]; exact rmul_zd (t.zd hzok) (t.zd hzok') (by omega)) ?_
    refine dx_call1 22 (iv (sumN (k + 1) F)) (Lz (sumN (k + 1) F).natAbs) rfl rfl (by simp) rfl (fun _ => rfl) (fun _ => rfl) (fun y w t => radd_iv t.r.1 t.r.2 (by omega) (by omega)) ?_
    refine dx_nil ?_
    repeat (first | refine es_val rfl ?_ rfl | refine es_skip rfl ?_)
    refine es_res rfl (fun x => ?_) rfl
    repeat (first | refine es_val rfl ?_ rfl | refine es_skip rfl ?_)
    refine es_nil rfl ?_
    refine tx_store 0 rfl rfl rfl rfl (Nat.le_refl 2) rfl rfl rfl ?_
    refine tx_end ?_
    repeat with_reducible first | refine tr_skip ?_ | refine tr_exit ?_ | refine tr_then ?_ | refine tr_inX ?_ | refine tr_thenX ?_ | refine tr_inN ?_ | refine tr_inR ?_ | refine tr_thenR ?_
    refine tr_region ?_
    refine sq_q (qt_bin rfl rfl (bin_addI (by omega) (by omega))) rfl ?_
    refine sq_q (qt_move rfl) rfl ?_
    refine sq_nil ?_
    repeat with_reducible first | refine tr_skip ?_ | refine tr_exit ?_ | refine tr_then ?_ | refine tr_inX ?_ | refine tr_thenX ?_ | refine tr_inN ?_ | refine tr_inR ?_ | refine tr_thenR ?_
    refine tr_own [zblk r5 (zd (sumN (k + 1) F) x), zblk r4 z0] rfl ?_
    refine tr_round2 (k + 1) x hlt (by omega) ⟨rfl, rfl, rfl, rfl, rfl, rfl, trivial⟩ rfl (fun w h => h.2)
  ·
    have hkn : k = n := by have := of_decide_eq_false hc; omega
    rw [hkn]
    refine tr_exit ?_
    repeat with_reducible first | refine tr_skip ?_ | refine tr_exit ?_ | refine tr_then ?_ | refine tr_inX ?_ | refine tr_thenX ?_ | refine tr_inN ?_ | refine tr_inR ?_ | refine tr_thenR ?_
    refine tr_rseq ?_
    refine sq_q (qt_load2 rfl (fun w t => t.atO 0 rfl rfl) (fun w t => t.atO 0 rfl rfl)) rfl ?_
    refine sq_store 1 rfl rfl rfl rfl (Nat.le_refl 2) rfl rfl ?_
    refine sq_end ?_
    refine tr_ret ?_
    repeat with_reducible first | refine tr_skip ?_ | refine tr_exit ?_ | refine tr_then ?_ | refine tr_inX ?_ | refine tr_thenX ?_ | refine tr_inN ?_ | refine tr_inR ?_ | refine tr_thenR ?_
    exact tr_done p (fun a w s t => results_1 rfl (resv_cell 1 s t rfl rfl rfl)) (fun w h _ _ => ⟨h, nl_sum hFb⟩)
end Go.Qk
end
section
set_option linter.unusedVariables false
namespace Go.Qk
open Go Go.Proofs Go.RowKit
set_option maxRecDepth 100000
set_option maxHeartbeats 4000000
theorem rtranspose_ret (m : Mt) (B : Nat) (w0 : World) (S : Nat → Prop) (hm : m.ok B w0) (hB : B ≤ 35184372088832) (hl : m.rs.length ≤ 35184372088832) (hr : ∀ r ∈ m.rs, r.l.length ≤ 35184372088832) :
    Ret Try.prog 45 [m.v] w0 S (optV (trO m.zs)) (optF B (trO m.zs)) := by
  obtain ⟨o, ho⟩ : ∃ o, o = shp m.zs := ⟨_, rfl⟩
  have hO : trO m.zs = trP o m.zs := by rw [ho]; rfl
  rw [hO]
  clear hO
  refine ret_of Try.func45 rfl Try.ntmps45 rfl ?_
  refine tr_rseq ?_
  refine sq_q (qt_assign rfl) rfl ?_
  refine sq_q (qt_assign rfl) rfl ?_
  refine sq_end ?_
  refine tr_rseq ?_
  refine sq_q (qt_move rfl) rfl ?_
  refine sq_call (val := fun _ : Unit => shpV o) (F := fun _ _ => True) rfl rfl rfl (fun w t => by rw [ho]; exact rshape_ret m B w _ (t.mt hm) hl hr) fun _ => ?_
  refine sq_q (qt_move rfl) rfl ?_
  refine sq_q (qt_extract rfl rfl) rfl ?_
  refine sq_q (qt_extract rfl rfl) rfl ?_
  refine sq_q (qt_extract rfl rfl) rfl ?_
  refine sq_q (qt_assign rfl) rfl ?_
  refine sq_q (qt_assign rfl) rfl ?_
  refine sq_q (qt_assign rfl) rfl ?_
  refine sq_end ?_
  refine tr_seq ?_
  rcases (show o = none ∨ ∃ r c, o = some (r, c) by cases o with | none => exact .inl rfl | some x => exact .inr ⟨x.1, x.2, rfl⟩) with h1 | ⟨r, c, h1⟩
  ·
    subst h1
    rw [show trP none m.zs = none from rfl]
    refine tr_rseq ?_
    refine sq_q (qt_move rfl) rfl ?_
    refine sq_q (qt_not rfl) rfl ?_
    refine sq_end ?_
    refine tr_ifT rfl ?_
    refine tr_rseq ?_
    refine sq_q (qt_assign rfl) rfl ?_
    refine sq_q (qt_assign rfl) rfl ?_
    refine sq_end ?_
    refine tr_ret ?_
    repeat with_reducible first | refine tr_skip ?_ | refine tr_exit ?_ | refine tr_then ?_ | refine tr_inX ?_ | refine tr_thenX ?_ | refine tr_inN ?_ | refine tr_inR ?_ | refine tr_thenR ?_
    exact tr_done ⟨[], (none, 0)⟩ (fun a w s t => results_2 rfl (resv_tmp s rfl) (resv_tmp s rfl)) (fun w _ _ _ => optF_none _ _)
  ·
    subst h1
    rw [show trP (some (r, c)) m.zs = some (grid (tr (ent m.zs)) c r) from rfl]
    obtain ⟨g1, g2, g3, g4, g5, g6⟩ := mt_shp ho.symm
    refine tr_rseq ?_
    refine sq_q (qt_move rfl) rfl ?_
    refine sq_q (qt_not rfl) rfl ?_
    refine sq_end ?_
    refine tr_ifF rfl ?_
    refine tr_skip ?_
    repeat with_reducible first | refine tr_skip ?_ | refine tr_exit ?_ | refine tr_then ?_ | refine tr_inX ?_ | refine tr_thenX ?_ | refine tr_inN ?_ | refine tr_inR ?_ | refine tr_thenR ?_
    refine tr_rseq ?_
    refine sq_q (qt_move rfl) rfl ?_
    refine sq_q (qt_move rfl) rfl ?_
    refine sq_call (fun x : Nat × List Wr => .slice (some ⟨x.1, 0, none⟩) c c) (fun x w' => Fresh w0.heap.size (mown x.1 x.2) w' ∧ x.2.map (·.2) = List.replicate c (List.replicate r z0)) rfl rfl rfl (fun w t => zero_call t c r (by omega) (by omega)) fun x => ?_
    refine sq_q (qt_assign rfl) rfl ?_
    refine sq_end ?_
    obtain ⟨ob, qs⟩ := x
    refine tr_have (fun w t => t.r.2.2) fun hqs => ?_
    refine tr_adopt0 (mown ob qs) (fun w h => h.2.1) ?_
    obtain ⟨ro, oo, evm, hat⟩ := hm.at_ (show 0 < m.rs.length by omega)
    refine tr_seq ?_
    refine tr_rseq ?_
    refine sq_q (qt_move rfl) rfl ?_
    refine sq_q (qt_len rfl) rfl ?_
    refine sq_q (qt_move rfl) rfl ?_
    refine sq_end ?_
    refine tr_block ?_
    refine tr_loop2 (fun (i : Nat) (qs : List Wr) => i ≤ r ∧ MG (fun a b => if b < i then ent m.zs b a else 0) c r qs ∧ allz Zd.can qs) (fun i qs => [(0, m.v), (7, .slice (some ⟨ob, 0, none⟩) c c), (22, .int .i64 (r : Int)), (23, .int .i64 (i : Int))])
      (fun i qs => mown ob qs) (fun i qs w => allz (fun z => z.ok B w) qs) (fun i qs => r - i) 0 qs ⟨Nat.zero_le _, (MG.of_zero hqs).congr (fun a b _ _ => by rw [if_neg (by omega)]), allz.of_zero hqs z0_can⟩ ⟨rfl, rfl, congrArg (fun z => some (Value.int .i64 ((z : Nat) : Int))) g1, rfl, trivial⟩ rfl (fun w _ => allz.of_zero hqs (z0_ok B w)) ?_
    clear hqs qs
    rintro i qs ⟨hle, hG, hcan⟩
    refine tr_rseq ?_
    refine sq_q (qt_bin rfl rfl bin_lss) rfl ?_
    refine sq_end ?_
    refine tr_seq ?_
    refine tr_if rfl (fun hc => ?_) (fun hc => ?_)
    ·
      have hlt : i < r := by have := of_decide_eq_true hc; omega
      have hmi : i < m.rs.length := by omega
      have hcl := g6 _ (List.getElem_mem hmi)
      obtain ⟨rr, orr, evr, hatr⟩ := (hm.2.2 _ (List.getElem_mem hmi)).at_ (show 0 < m.rs[i].l.length by omega)
      have hrw := hat i hmi
      rw [evr] at hrw
      refine tr_sub [(0, .slice (some ⟨ro, oo, none⟩) m.rs.length m.p.2), (7, .slice (some ⟨ob, 0, none⟩) c c), (22, .int .i64 (r : Int)), (23, .int .i64 (i : Int))] ⟨congrArg some evm, rfl, rfl, rfl, trivial⟩ ?_
      refine tr_skip ?_
      repeat with_reducible first | refine tr_skip ?_ | refine tr_exit ?_ | refine tr_then ?_ | refine tr_inX ?_ | refine tr_thenX ?_ | refine tr_inN ?_ | refine tr_inR ?_ | refine tr_thenR ?_
      refine tr_seq ?_
      refine tr_block ?_
      refine tr_rseq ?_
      refine sq_q (qt_move rfl) rfl ?_
      refine sq_q (qt_assign rfl) rfl ?_
      refine sq_end ?_
      refine tr_rseq ?_
      refine sq_q (qt_move rfl) rfl ?_
      refine sq_q (qt_move rfl) rfl ?_
      refine sq_q (qt_index (i := i) rfl rfl hmi) rfl ?_
      refine sq_q (qt_load rfl (fun w t => t.a1 hrw)) rfl ?_
      refine sq_q (qt_len rfl) rfl ?_
      refine sq_q (qt_move rfl) rfl ?_
      refine sq_end ?_
      refine tr_block ?_
      have hG0 : MG (fun a b => if b < i ∨ (b = i ∧ a < 0) then ent m.zs b a else 0) c r qs := hG.congr fun a b _ _ => by
        by_cases h : b < i
        · rw [if_pos h, if_pos (.inl h)]
        · rw [if_neg h, if_neg (by omega)]
      refine tr_loop2 (fun (j : Nat) (qs : List Wr) => j ≤ c ∧ MG (fun a b => if b < i ∨ (b = i ∧ a < j) then ent m.zs b a else 0) c r qs ∧ allz Zd.can qs) (fun j qs => [(0, .slice (some ⟨ro, oo, none⟩) m.rs.length m.p.2), (7, .slice (some ⟨ob, 0, none⟩) c c), (8, .int .i64 (i : Int)), (22, .int .i64 (r : Int)), (23, .int .i64 (i : Int)), (30, .int .i64 (c : Int)), (31, .int .i64 (j : Int))])
        (fun j qs => mown ob qs) (fun j qs w => allz (fun z => z.ok B w) qs) (fun j qs => c - j) 0 qs ⟨Nat.zero_le _, hG0, hcan⟩ ⟨rfl, rfl, rfl, rfl, rfl, congrArg (fun z => some (Value.int .i64 ((z : Nat) : Int))) hcl, rfl, trivial⟩ rfl (fun w h => h) ?_
      clear hG0 hG hcan qs
      rintro j qs ⟨hjc, hG, hcan⟩
      refine tr_rseq ?_
      refine sq_q (qt_bin rfl rfl bin_lss) rfl ?_
      refine sq_end ?_
      refine tr_seq ?_
      refine tr_if rfl (fun hc => ?_) (fun hc => ?_)
      ·
        have hlt2 : j < c := by have := of_decide_eq_true hc; omega
        have hjl : j < m.rs[i].l.length := by omega
        obtain ⟨hz0, hz1⟩ := hatr j hjl
        have hzok := (hm.2.2 _ (List.getElem_mem hmi)).2.2 _ (List.getElem_mem hjl)
        have he : m.rs[i].l[j].z = ent m.zs i j := (mt_ent hmi hjl).symm
        have hbd : nl (ent m.zs i j).natAbs ≤ B := by rw [← he]; exact nl_zd hzok
        obtain ⟨q, hq, hql⟩ := hG.get hlt2
        refine tr_skip ?_
        repeat with_reducible first | refine tr_skip ?_ | refine tr_exit ?_ | refine tr_then ?_ | refine tr_inX ?_ | refine tr_thenX ?_ | refine tr_inN ?_ | refine tr_inR ?_ | refine tr_thenR ?_
        refine tr_seq ?_
        refine tr_block ?_
        refine tr_rseq ?_
        refine sq_q (qt_move rfl) rfl ?_
        refine sq_q (qt_assign rfl) rfl ?_
        refine sq_end ?_
        refine tr_draw 13 [] [] [0, 2, 3, 4, 5, 6, 7, 8, 9, 17, 22, 23, 24, 30, 31, 32, 37, 38, 46] (by kernel_rfl) ?_
        refine dx_q rfl (qt_move rfl) rfl ?_
        refine dx_q rfl (qt_move rfl) rfl ?_
        refine dx_q rfl (qt_index (i := j) rfl rfl hlt2) rfl ?_
        refine dx_q rfl (qt_load rfl (fun w t => t.o1 0 rfl (mout_get hq))) rfl ?_
        refine dx_q rfl (qt_move rfl) rfl ?_
        refine dx_q rfl (qt_move rfl) rfl ?_
        refine dx_q rfl (qt_move rfl) rfl ?_
        refine dx_q rfl (qt_index (i := i) rfl rfl hmi) rfl ?_
        refine dx_q rfl (qt_load rfl (fun w t => t.a1 hrw)) rfl ?_
        refine dx_q rfl (qt_move rfl) rfl ?_
        refine dx_q rfl (qt_index (i := j) rfl rfl hjl) rfl ?_
        refine dx_q rfl (qt_load2 rfl (fun w t => t.atA hz0) (fun w t => t.atA hz1)) rfl ?_
        refine dx_call (iv (ent m.zs i j)) (Lz (ent m.zs i j).natAbs) rfl rfl rfl (fun w t => by rw [← he]; exact rnorm_zd (t.zd hzok) hB) ?_
        refine dx_nil ?_
        repeat (first | refine es_val rfl ?_ rfl | refine es_skip rfl ?_)
        refine es_res rfl (fun x => ?_) rfl
        repeat (first | refine es_val rfl ?_ rfl | refine es_skip rfl ?_)
        refine es_nil rfl ?_
        refine tx_q (qt_index (i := i) rfl rfl (by omega)) rfl rfl rfl ?_
        refine tx_store (j + 1) rfl rfl (mown_at hq) rfl (show 0 + i * 2 + 2 ≤ (zcs q.2).length by rw [zcs_length, hql]; omega) rfl rfl rfl ?_
        refine tx_end ?_
        repeat with_reducible first | refine tr_skip ?_ | refine tr_exit ?_ | refine tr_then ?_ | refine tr_inX ?_ | refine tr_thenX ?_ | refine tr_inN ?_ | refine tr_inR ?_ | refine tr_thenR ?_
        refine tr_region ?_
        refine sq_q (qt_bin rfl rfl (bin_addI (by omega) (by omega))) rfl ?_
        refine sq_q (qt_move rfl) rfl ?_
        refine sq_nil ?_
        repeat with_reducible first | refine tr_skip ?_ | refine tr_exit ?_ | refine tr_then ?_ | refine tr_inX ?_ | refine tr_thenX ?_ | refine tr_inN ?_ | refine tr_inR ?_ | refine tr_thenR ?_
        refine tr_own (mown ob (qs.set j (q.1, q.2.set i (zd (ent m.zs i j) x)))) (mown_wr (zd (ent m.zs i j) x) hq (by omega)) ?_
        refine tr_round2 (j + 1) (qs.set j (q.1, q.2.set i (zd (ent m.zs i j) x))) ⟨by omega, (hG.set hq (zd (ent m.zs i j) x) (ent m.zs i j) (zd_z _ _)).congr (fun a b _ _ => ?_), hcan.set hq (zd_can _ _)⟩ (by omega) ⟨rfl, rfl, rfl, rfl, rfl, rfl, rfl, trivial⟩ rfl (fun w h => h.1.set hq (zd_ok h.2 hbd))
        unfold gset
        dsimp only
        split
        · rename_i h; rw [if_pos (by omega), h.1, h.2]
        · rename_i h
          by_cases h' : b < i ∨ (b = i ∧ a < j)
          · rw [if_pos h', if_pos (by omega)]
          · rw [if_neg h', if_neg (by omega)]
      ·
        have hje : j = c := by have := of_decide_eq_false hc; omega
        refine tr_exit ?_
        repeat with_reducible first | refine tr_skip ?_ | refine tr_exit ?_ | refine tr_then ?_ | refine tr_inX ?_ | refine tr_thenX ?_ | refine tr_inN ?_ | refine tr_inR ?_ | refine tr_thenR ?_
        refine tr_region ?_
        refine sq_q (qt_bin rfl rfl (bin_addI (by omega) (by omega))) rfl ?_
        refine sq_q (qt_move rfl) rfl ?_
        refine sq_nil ?_
        repeat with_reducible first | refine tr_skip ?_ | refine tr_exit ?_ | refine tr_then ?_ | refine tr_inX ?_ | refine tr_thenX ?_ | refine tr_inN ?_ | refine tr_inR ?_ | refine tr_thenR ?_
        refine tr_round2 (i + 1) qs ⟨by omega, hG.congr (fun a b ha hb => ?_), hcan⟩ (by omega) ⟨congrArg some evm.symm, rfl, rfl, rfl, trivial⟩ rfl (fun w h => h)
        by_cases h : b < i ∨ (b = i ∧ a < j)
        · rw [if_pos h, if_pos (by omega)]
        · rw [if_neg h, if_neg (by omega)]
    ·
      have hik : i = r := by have := of_decide_eq_false hc; omega
      subst hik
      refine tr_exit ?_
      repeat with_reducible first | refine tr_skip ?_ | refine tr_exit ?_ | refine tr_then ?_ | refine tr_inX ?_ | refine tr_thenX ?_ | refine tr_inN ?_ | refine tr_inR ?_ | refine tr_thenR ?_
      refine tr_rseq ?_
      refine sq_q (qt_move rfl) rfl ?_
      refine sq_q (qt_assign rfl) rfl ?_
      refine sq_q (qt_assign rfl) rfl ?_
      refine sq_end ?_
      refine tr_ret ?_
      repeat with_reducible first | refine tr_skip ?_ | refine tr_exit ?_ | refine tr_then ?_ | refine tr_inX ?_ | refine tr_thenX ?_ | refine tr_inN ?_ | refine tr_inR ?_ | refine tr_thenR ?_
      refine tr_done (mmt ob qs) (fun a w s t => results_2 rfl (resv_tmp s (by rw [mmt_v, hG.1]; rfl)) (resv_tmp s rfl)) (fun w h ho _ => ⟨mmt_ok ho h, ?_, mmt_can hcan⟩)
      rw [mmt_zs, hG.zs]
      show grid _ c i = grid (tr (ent m.zs)) c i
      unfold grid
      refine List.map_congr_left fun a ha => List.map_congr_left fun b hb => ?_
      have hb := List.mem_range.1 hb
      exact if_pos hb
end Go.Qk
end
section
set_option linter.unusedVariables false
namespace Go.Qk
open Go Go.Proofs Go.RowKit
section
variable {P : Program} {n : Nat} {w0 : World} {X : List Nat} {S : Nat → Prop} {E : Env} {own : Own} {R : World → Prop} {Q : Exit → Act → World → Prop} {ops : Array Oper} {rest : List Oper}
theorem SS.give {w w' : World} (t : SS w0 X S own R w) (hb : Below w.heap.size w w') {ad : Own} (hf : Fresh w.heap.size ad w') : SS w0 X S (ad ++ own) R w' := by
  have g := t.grow hb
  have hlt : ∀ p ∈ ad, p.1 < w'.heap.size := fun p hp => (Array.getElem?_eq_some_iff.1 (hf.2 p hp).2).1
  refine ⟨g.os, g.tape, g.output, g.size, g.pres, ?_, ?_, ?_, ?_⟩
  · intro p hp
    rcases List.mem_append.1 hp with h | h
    · exact ⟨hlt p h, .inr (Nat.le_trans t.size (hf.2 p h).1)⟩
    · exact g.lt p h
  · intro p hp
    rcases List.mem_append.1 hp with h | h
    · exact (hf.2 p h).2
    · exact g.has p h
  · refine List.pairwise_append.2 ⟨hf.1, g.nd, fun p hp q hq e => ?_⟩
    have h1 := (hf.2 p hp).1
    have h2 := (t.lt q hq).1
    omega
  · intro w'' hs hk
    refine t.keep w'' (Nat.le_trans hb.size hs) fun k h1 h2 h3 => ?_
    rw [hk k h1 (Nat.lt_of_lt_of_le h2 hb.size) fun p hp e => ?_, hb.block k h2]
    rcases List.mem_append.1 hp with h | h
    · have := (hf.2 p h).1; omega
    · exact h3 p h e
theorem sq_callA {α : Type} {c : Operand} {f : FuncId} {pre cap : List Value} {xs : List Operand} {vs : List Value} {ats : Array TypeId} {ty : TypeId} {d : Nat} {pos : String} {af : Array Edge} (val : α → Value) (ad : α → Own) (p : α → Prop) [hB : FnB P f]
    (hc : fnv (look E) c f pre cap) (hxs : evs (look E) xs = some vs) (hd : Nat.blt d n = true)
    (hcall : ∀ w, SS w0 X S own R w → Ret P f (pre ++ vs ++ cap) w (Nn w0 S own w) val (fun x w' => Fresh w.heap.size (ad x) w' ∧ p x))
    (h : ∀ x, p x → Sq P ops Q n w0 X S rest ((d, val x) :: E) (ad x ++ own) R) :
    Sq P ops Q n w0 X S (⟨some d, .call { callee := .value c, args := xs.toArray, argTypes := ats }, ty, pos, af, none⟩ :: rest) E own R := by
  intro a w s t'
  refine wpList_plain rfl fun K hK => ?_
  unfold Oper.wp
  rw [run_call s.agr hc hxs, Oper.upon_enter]
  refine (hcall w t').mono ?_
  rintro e w' ⟨x, rfl, hb, hf⟩
  exact hK _ _ (h x hf.now.2 _ _ (s.put hd _) (t'.give hb hf.now.1))
end
theorem Mt.ok.row_at {B : Nat} {m : Mt} {w : World} {r o : Nat} (h : m.ok B w) (e : m.v = .slice (some ⟨r, o, none⟩) m.rs.length m.p.2) {i : Nat} (hi : i < m.rs.length) : At r (o + i * 1) (m.rs[i]).v w := by
  rw [Nat.mul_one]
  exact h.at_eq e hi
end Go.Qk
end
section
set_option linter.unusedVariables false
namespace Go.Qk
open Go Go.Proofs Go.RowKit
/-- what stands behind the integers of a row, by the row's block -/
abbrev Sk := Nat → List Value
def mhdrS (σ : Sk) (q : Wr) : Value := .slice (some ⟨q.1, 0, none⟩) q.2.length (q.2.length + (σ q.1).length / 2)
def mrowS (σ : Sk) (q : Wr) : Nat × Obj := (q.1, .cells (zcs q.2 ++ σ q.1).toArray 35 (0, 0))
def moutS (σ : Sk) (o : Nat) (qs : List Wr) (k : Nat) : Nat × Obj := (o, .cells (qs.map (mhdrS σ) ++ List.replicate k (Value.slice none 0 0)).toArray 44 (0, 0))
def mownS (σ : Sk) (o : Nat) (qs : List Wr) : Own := moutS σ o qs 0 :: qs.map (mrowS σ)
def mrdS (σ : Sk) (q : Wr) : Rw := ⟨q.2, (some ⟨q.1, 0, none⟩, q.2.length + (σ q.1).length / 2)⟩
def mmtS (σ : Sk) (o : Nat) (qs : List Wr) : Mt := ⟨qs.map (mrdS σ), (some ⟨o, 0, none⟩, qs.length)⟩
section
variable {σ : Sk} {o : Nat} {qs : List Wr}
theorem mmtS_v : (mmtS σ o qs).v = .slice (some ⟨o, 0, none⟩) qs.length qs.length := by simp [mmtS, Mt.v]
theorem mmtS_zs : (mmtS σ o qs).zs = qs.map fun q => q.2.map Zd.z := by simp [mmtS, Mt.zs, Rw.zs, mrdS, Function.comp_def]
theorem mmtS_ok {B : Nat} {w : World} (h : ∀ p ∈ mownS σ o qs, w.heap[p.1]? = some p.2) (hz : ∀ q ∈ qs, ∀ z ∈ q.2, z.ok B w) : (mmtS σ o qs).ok B w := by
  refine ⟨?_, by simp [mmtS], ?_⟩
  · have := Rd.own (h (moutS σ o qs 0) (List.mem_cons_self ..))
    rw [List.replicate_zero, List.append_nil] at this
    have e : (qs.map (mrdS σ)).map Rw.v = qs.map (mhdrS σ) := by rw [List.map_map]; rfl
    show Rd _ ((qs.map (mrdS σ)).map Rw.v) w
    rw [e]
    exact this
  · intro r hr
    simp only [mmtS, List.mem_map] at hr
    obtain ⟨q, hq, rfl⟩ := hr
    have h1 := (Rd.own (h (mrowS σ q) (List.mem_cons_of_mem _ (List.mem_map.2 ⟨q, hq, rfl⟩)))).take (zcs q.2).length
    rw [List.take_left] at h1
    exact ⟨h1, Nat.le_add_right _ _, hz q hq⟩
theorem mmtS_can (h : allz Zd.can qs) : (mmtS σ o qs).can := by
  intro r hr z hz
  simp only [mmtS, List.mem_map] at hr
  obtain ⟨q, hq, rfl⟩ := hr
  exact h q hq z hz
theorem mownS_at {i : Nat} {q : Wr} (h : qs[i]? = some q) : ownAt (mownS σ o qs) (i + 1) = some (mrowS σ q) := ownAt_map (mrowS σ) qs i q h
theorem mownS_set {i : Nat} {q : Wr} {l : List Zd} (h : qs[i]? = some q) (hl : l.length = q.2.length) : ownSet (mownS σ o qs) (i + 1) (.cells (zcs l ++ σ q.1).toArray 35 (0, 0)) = mownS σ o (qs.set i (q.1, l)) := by
  show moutS σ o qs 0 :: ownSet (qs.map (mrowS σ)) i _ = _
  rw [ownSet_map (mrowS σ) qs i q (q.1, l) _ h rfl]
  have e : (qs.set i (q.1, l)).map (mhdrS σ) = qs.map (mhdrS σ) := by
    rw [List.map_set]
    have : mhdrS σ (q.1, l) = mhdrS σ q := by unfold mhdrS; rw [hl]
    rw [this]
    refine List.ext_getElem? fun k => ?_
    rw [List.getElem?_set]
    split
    · rename_i hk
      subst hk
      rw [List.getElem?_map, h]
      split
      · rfl
      · rename_i hlt
        rw [List.getElem?_eq_none (by simpa using hlt)] at h
        simp at h
    · rfl
  unfold mownS moutS
  rw [e]
theorem wr_app {vs : List Value} : ∀ {l r : List Value} {off : Nat}, off + vs.length ≤ l.length → wr (l ++ r) off vs = wr l off vs ++ r := by
  induction vs with
  | nil => intro l r off _; rfl
  | cons v vs ih =>
    intro l r off h
    simp only [List.length_cons] at h
    simp only [wr]
    rw [List.set_append_left _ _ (by omega)]
    exact ih (by simp; omega)
theorem mownS_wr {i j : Nat} {q : Wr} (z : Zd) (h : qs[i]? = some q) (hj : j < q.2.length) : ownSet (mownS σ o qs) (i + 1) (.cells (wr (zcs q.2 ++ σ q.1) (0 + j * 2) z.v.cells.toList).toArray 35 (0, 0)) = mownS σ o (qs.set i (q.1, q.2.set j z)) := by
  rw [wr_app (by rw [zcs_length]; simp [Zd.v, ig, Value.cells]; omega), zcs_set z hj, mownS_set h (by simp)]
theorem moutS_get {i k : Nat} {q : Wr} (h : qs[i]? = some q) : (qs.map (mhdrS σ) ++ List.replicate k (Value.slice none 0 0))[i]? = some (mhdrS σ q) := by
  have hl : i < qs.length := by
    rcases Nat.lt_or_ge i qs.length with hh | hh
    · exact hh
    · rw [List.getElem?_eq_none hh] at h; simp at h
  rw [List.getElem?_append_left (by simpa using hl), List.getElem?_map, h]
  rfl
theorem qswapS_hdr {a b : Nat} {qa qb : Wr} : ((qs.map (mhdrS σ) ++ List.replicate 0 (Value.slice none 0 0)).set a (mhdrS σ qb)).set b (mhdrS σ qa) = (qswap qs a b qa qb).map (mhdrS σ) ++ List.replicate 0 (Value.slice none 0 0) := by
  rw [List.replicate_zero, List.append_nil, List.append_nil, ← List.map_set, ← List.map_set]
  rfl
end
section
variable {P : Program} {n : Nat} {w0 w : World} {X : List Nat} {S : Nat → Prop} {E : Env} {own : Own} {R : World → Prop} {Q : Exit → Act → World → Prop} {ops : Array Oper} {σ : Sk}
theorem SS.mzS0 (i : Nat) (t : SS w0 X S own R w) {q : Wr} (h : ownAt own i = some (mrowS σ q)) {j : Nat} {z : Zd} (hz : q.2[j]? = some z) : At q.1 (0 + j * 2) (.bool z.n) w := by
  obtain ⟨hj, e⟩ := List.getElem?_eq_some_iff.1 hz
  refine t.atO i h ?_
  rw [Nat.zero_add, List.getElem?_append_left (by rw [zcs_length]; omega), zcs_get0 hj, e]
theorem SS.mzS1 (i : Nat) (t : SS w0 X S own R w) {q : Wr} (h : ownAt own i = some (mrowS σ q)) {j : Nat} {z : Zd} (hz : q.2[j]? = some z) : At q.1 (0 + j * 2 + 1) (slv z.xs z.p) w := by
  obtain ⟨hj, e⟩ := List.getElem?_eq_some_iff.1 hz
  refine t.atO i h ?_
  rw [Nat.zero_add, List.getElem?_append_left (by rw [zcs_length]; omega), zcs_get1 hj, e]
theorem sq_perm {l : List Oper} (own' : Own) (e : own.Perm own') (h : Sq P ops Q n w0 X S l E own' R) : Sq P ops Q n w0 X S l E own R := fun a w s t => h a w s (t.perm e)
/-- the end of a function that hands out its own blocks; what else it knows does not hang on these -/
theorem tr_doneK {fn : Func} {α : Type} {val : α → Value} {F : α → World → Prop} (x : α) (hres : ∀ a w, St n a E → SS w0 [] S own R w → (results fn a.tmps).run P w = .ok (val x) w)
    (hF : ∀ w, Fresh w0.heap.size own w → Kp w0 S own R w → F x w) : Tr n w0 [] S E own R (bodyPost P fn (Rt w0 S val F) .ret) := by
  intro a w s t
  refine ⟨s.defers, val x, hres a w s t, x, rfl, t.arg, fun w'' hs hk => hF w'' ⟨t.nd, fun p hp => ⟨(t.lt p hp).2.resolve_left (by simp), ?_⟩⟩ fun w3 hs3 hk3 => t.keep w3 (Nat.le_trans hs hs3) fun k h1 h2 h3 => ?_⟩
  · rw [hk p.1 (.inl ((t.lt p hp).2.resolve_left (by simp))) (t.lt p hp).1]
    exact t.has p hp
  · rw [hk3 k h1 (Nat.lt_of_lt_of_le h2 hs) h3, hk k h1 h2]
/-- a call that hands out fresh blocks -/
theorem SS.giveK {w w' : World} {S' : Nat → Prop} {G : World → Prop} (t : SS w0 X S own R w) (hb : Below w.heap.size w w') {ad : Own} (hf : Fresh w.heap.size ad w') (hg : Kp w S' ad G w') (hS : ∀ k, S' k → Nn w0 S own w k) : SS w0 X S (ad ++ own) (fun w => R w ∧ G w) w' := by
  have g := t.give hb hf
  refine ⟨g.os, g.tape, g.output, g.size, g.pres, g.lt, g.has, g.nd, fun w'' hs hk => ⟨g.keep w'' hs hk, hg w'' hs fun k h1 h2 h3 => ?_⟩⟩
  rcases h1 with h1 | h1
  · exact hk k (.inl (Nat.le_trans t.size h1)) h2 fun p hp e => by
      rcases List.mem_append.1 hp with h | h
      · exact h3 p h e
      · have := (t.lt p h).1; omega
  · exact hk k (hS k h1).1 h2 fun p hp e => by
      rcases List.mem_append.1 hp with h | h
      · exact h3 p h e
      · exact (hS k h1).2.2 p h e
theorem sq_callK {rest : List Oper} {α : Type} {c : Operand} {f : FuncId} {pre cap : List Value} {xs : List Operand} {vs : List Value} {ats : Array TypeId} {ty : TypeId} {d : Nat} {pos : String} {af : Array Edge} (val : α → Value) (ad : α → Own) (p : α → Prop) (G : α → World → Prop) [hB : FnB P f]
    (hc : fnv (look E) c f pre cap) (hxs : evs (look E) xs = some vs) (hd : Nat.blt d n = true)
    (hcall : ∀ w, SS w0 X S own R w → Ret P f (pre ++ vs ++ cap) w (Nn w0 S own w) val (fun x w' => Fresh w.heap.size (ad x) w' ∧ p x ∧ Kp w (Nn w0 S own w) (ad x) (G x) w'))
    (h : ∀ x, p x → Sq P ops Q n w0 X S rest ((d, val x) :: E) (ad x ++ own) (fun w => R w ∧ G x w)) :
    Sq P ops Q n w0 X S (⟨some d, .call { callee := .value c, args := xs.toArray, argTypes := ats }, ty, pos, af, none⟩ :: rest) E own R := by
  intro a w s t'
  refine wpList_plain rfl fun K hK => ?_
  unfold Oper.wp
  rw [run_call s.agr hc hxs, Oper.upon_enter]
  refine (hcall w t').mono ?_
  rintro e w' ⟨x, rfl, hb, hf⟩
  exact hK _ _ (h x hf.now.2.1 _ _ (s.put hd _) (t'.giveK hb hf.now.1 hf.now.2.2 fun k hk => hk))
end
abbrev Ws := Wr × List Value
def hdrW (p : Ws) : Value := .slice (some ⟨p.1.1, 0, none⟩) p.1.2.length (p.1.2.length + p.2.length / 2)
def rowW (p : Ws) : Nat × Obj := (p.1.1, .cells (zcs p.1.2 ++ p.2).toArray 35 (0, 0))
def skOf (ps : List Ws) : Sk := fun k => match ps.find? (fun p => p.1.1 == k) with
  | some p => p.2
  | none => []
theorem skOf_get {ps : List Ws} (h : (ps.map rowW).Pairwise fun p q => p.1 ≠ q.1) {p : Ws} (hp : p ∈ ps) : skOf ps p.1.1 = p.2 := by
  unfold skOf
  induction ps with
  | nil => cases hp
  | cons q ps ih =>
    rw [List.map_cons, List.pairwise_cons] at h
    rw [List.find?_cons]
    rcases List.mem_cons.1 hp with rfl | hp
    · rw [beq_self_eq_true]
    · have h1 : (q.1.1 == p.1.1) = false := by
        have := h.1 (rowW p) (List.mem_map.2 ⟨p, hp, rfl⟩)
        exact beq_false_of_ne this
      rw [h1]
      exact ih h.2 hp
theorem skOf_rows {ps : List Ws} (h : (ps.map rowW).Pairwise fun p q => p.1 ≠ q.1) : ps.map rowW = (ps.map (·.1)).map (mrowS (skOf ps)) := by
  rw [List.map_map]
  refine List.map_congr_left fun p hp => ?_
  show rowW p = mrowS (skOf ps) p.1
  unfold mrowS rowW
  rw [skOf_get h hp]
theorem skOf_hdrs {ps : List Ws} (h : (ps.map rowW).Pairwise fun p q => p.1 ≠ q.1) : ps.map hdrW = (ps.map (·.1)).map (mhdrS (skOf ps)) := by
  rw [List.map_map]
  refine List.map_congr_left fun p hp => ?_
  show hdrW p = mhdrS (skOf ps) p.1
  unfold mhdrS hdrW
  rw [skOf_get h hp]
def outW (o : Nat) (ps : List Ws) (k : Nat) : Nat × Obj := (o, .cells (ps.map hdrW ++ List.replicate k (Value.slice none 0 0)).toArray 44 (0, 0))
def outG (o : Nat) (ps : List Ws) (v : Value) (k : Nat) : Nat × Obj := (o, .cells (ps.map hdrW ++ v :: List.replicate k (Value.slice none 0 0)).toArray 44 (0, 0))
theorem mid_set {α : Type} (A B : List α) (x y : α) : (A ++ x :: B).set A.length y = A ++ y :: B := by
  rw [List.set_append_right _ _ (Nat.le_refl _), Nat.sub_self]
  rfl
theorem mid_get {α : Type} (A B : List α) (x : α) : (A ++ x :: B)[A.length]? = some x := by
  rw [List.getElem?_append_right (Nat.le_refl _), Nat.sub_self]
  rfl
theorem perm_mid2 {α : Type} (G rest : List α) (a b : α) : (G ++ a :: b :: rest).Perm (a :: b :: (G ++ rest)) := List.perm_middle.trans (List.Perm.cons _ List.perm_middle)
theorem outG_get {ps : List Ws} {v : Value} {k : Nat} : (ps.map hdrW ++ v :: List.replicate k (Value.slice none 0 0))[ps.length]? = some v := by
  have := mid_get (ps.map hdrW) (List.replicate k (Value.slice none 0 0)) v
  rwa [List.length_map] at this
theorem outG_set {o : Nat} {ps : List Ws} {v v' : Value} {k : Nat} : (o, Obj.cells (wr (ps.map hdrW ++ v :: List.replicate k (Value.slice none 0 0)) (0 + ps.length * 1) [v']).toArray 44 (0, 0)) = outG o ps v' k := by
  have e := mid_set (ps.map hdrW) (List.replicate k (Value.slice none 0 0)) v v'
  rw [List.length_map] at e
  unfold outG
  rw [← e, Nat.zero_add, Nat.mul_one]
  rfl
end Go.Qk
end
section
set_option linter.unusedVariables false
namespace Go.Qk
open Go Go.Proofs Go.RowKit
set_option maxRecDepth 100000
set_option maxHeartbeats 4000000
theorem copy_ret (m : Mt) (B c : Nat) (w0 : World) (S : Nat → Prop) (hm : m.ok B w0) (hB : B ≤ 35184372088832) (hl : m.rs.length ≤ 65536) (hc : ∀ q ∈ m.rs, q.l.length = c) (hc1 : 1 ≤ c ∨ m.rs.length = 0) (hc16 : c ≤ 65536) :
    Ret Try.prog 82 [m.v] w0 S (fun x : Sk × Nat × List Wr => .slice (some ⟨x.2.1, 0, none⟩) m.rs.length m.rs.length) (fun x w' => Fresh w0.heap.size (mownS x.1 x.2.1 x.2.2) w' ∧ (MG (ent m.zs) m.rs.length c x.2.2 ∧ allz Zd.can x.2.2) ∧ Kp w0 S (mownS x.1 x.2.1 x.2.2) (fun w => allz (fun z => z.ok B w) x.2.2) w') := by
  have hc0 := hc
  refine ret_of Try.func82 rfl Try.ntmps82 rfl ?_
  refine tr_rseq ?_
  refine sq_q (qt_assign rfl) rfl ?_
  refine sq_end ?_
  refine tr_rseq ?_
  refine sq_q (qt_move rfl) rfl ?_
  refine sq_q (qt_len rfl) rfl ?_
  refine sq_make (c := m.rs.length) rfl rfl (by omega) (by omega) rfl fun r9 => ?_
  refine sq_q (qt_assign rfl) rfl ?_
  refine sq_end ?_
  refine tr_seq ?_
  refine tr_rseq ?_
  refine sq_q (qt_move rfl) rfl ?_
  refine sq_q (qt_len rfl) rfl ?_
  refine sq_q (qt_move rfl) rfl ?_
  refine sq_end ?_
  refine tr_block ?_
  refine tr_loop (fun ps : List Ws => ps.length ≤ m.rs.length ∧ ∀ a p, ps[a]? = some p → p.1.2.length = c ∧ ∀ b z, p.1.2[b]? = some z → z.z = ent m.zs a b ∧ z.can) (fun ps => [(0, m.v), (3, .slice (some ⟨r9, 0, none⟩) m.rs.length m.rs.length), (11, .int .i64 (m.rs.length : Int)), (12, .int .i64 (ps.length : Int))])
    (fun ps => outW r9 ps (m.rs.length - ps.length) :: ps.map rowW) (fun ps w => ∀ p ∈ ps, ∀ z ∈ p.1.2, z.ok B w) (fun ps => m.rs.length - ps.length) [] ⟨Nat.zero_le _, fun a p h => by simp at h⟩ ⟨rfl, rfl, rfl, rfl, trivial⟩ (by rw [made_s]; rfl) (fun _ _ p hp => nomatch hp) ?_
  rintro ps ⟨hle, hps⟩
  refine tr_rseq ?_
  refine sq_q (qt_bin rfl rfl bin_lss) rfl ?_
  refine sq_end ?_
  refine tr_seq ?_
  refine tr_if rfl (fun hc => ?_) (fun hc => ?_)
  ·
    have hlt : ps.length < m.rs.length := by have := of_decide_eq_true hc; omega
    obtain ⟨ro, oo, evm, hat⟩ := hm.at_ (show 0 < m.rs.length by omega)
    have hrl := hc0 _ (List.getElem_mem hlt)
    obtain ⟨rr, orr, evr, hatr⟩ := (hm.2.2 _ (List.getElem_mem hlt)).at_ (show 0 < m.rs[ps.length].l.length by omega)
    have hrw := hat _ hlt
    rw [evr] at hrw
    obtain ⟨k, hk⟩ : ∃ k, m.rs.length - ps.length = k + 1 := ⟨m.rs.length - ps.length - 1, by omega⟩
    refine tr_sub [(0, .slice (some ⟨ro, oo, none⟩) m.rs.length m.p.2), (3, .slice (some ⟨r9, 0, none⟩) m.rs.length m.rs.length), (11, .int .i64 (m.rs.length : Int)), (12, .int .i64 (ps.length : Int))] ⟨congrArg some evm, rfl, rfl, rfl, trivial⟩ ?_
    refine tr_skip ?_
    repeat with_reducible first | refine tr_skip ?_ | refine tr_exit ?_ | refine tr_then ?_ | refine tr_inX ?_ | refine tr_thenX ?_ | refine tr_inN ?_ | refine tr_inR ?_ | refine tr_thenR ?_
    refine tr_seq ?_
    refine tr_block ?_
    refine tr_rseq ?_
    refine sq_q (qt_move rfl) rfl ?_
    refine sq_q (qt_assign rfl) rfl ?_
    refine sq_end ?_
    refine tr_rseq ?_
    refine sq_q (qt_move rfl) rfl ?_
    refine sq_q (qt_move rfl) rfl ?_
    refine sq_q (qt_index (i := ps.length) rfl rfl hlt) rfl ?_
    refine sq_q (qt_load rfl (fun w t => t.a1 hrw)) rfl ?_
    refine sq_q (qt_len rfl) rfl ?_
    refine sq_q (qt_move rfl) rfl ?_
    refine sq_end ?_
    refine tr_block ?_
    refine tr_own (outG r9 ps (grV 0 none) k :: (grO 35 (zcs []) none ++ ps.map rowW)) (by unfold outG outW; rw [hk]; rfl) ?_
    refine tr_loop2 (fun (l : List Zd) (p : Gr) => l.length ≤ c ∧ grOk 2 l.length (zcs l) p ∧ ∀ b z, l[b]? = some z → z.z = ent m.zs ps.length b ∧ z.can) (fun l p => [(0, .slice (some ⟨ro, oo, none⟩) m.rs.length m.p.2), (3, .slice (some ⟨r9, 0, none⟩) m.rs.length m.rs.length), (4, .int .i64 (ps.length : Int)), (11, .int .i64 (m.rs.length : Int)), (12, .int .i64 (ps.length : Int)), (18, .slice (some ⟨rr, orr, none⟩) m.rs[ps.length].l.length m.rs[ps.length].p.2), (19, .int .i64 (c : Int)), (20, .int .i64 (l.length : Int))])
      (fun l p => outG r9 ps (grV l.length p) k :: (grO 35 (zcs l) p ++ ps.map rowW)) (fun l p w => (∀ q ∈ ps, ∀ z ∈ q.1.2, z.ok B w) ∧ ∀ z ∈ l, z.ok B w) (fun l p => c - l.length) [] none ⟨Nat.zero_le _, ⟨rfl, rfl⟩, fun b z h => by simp at h⟩ ⟨rfl, rfl, rfl, rfl, rfl, rfl, congrArg (fun z => some (Value.int .i64 ((z : Nat) : Int))) hrl, rfl, trivial⟩ rfl (fun w h => ⟨h, fun z hz => nomatch hz⟩) ?_
    rintro l p ⟨hlc, hok, hlz⟩
    refine tr_rseq ?_
    refine sq_q (qt_bin rfl rfl bin_lss) rfl ?_
    refine sq_end ?_
    refine tr_seq ?_
    refine tr_if rfl (fun hc => ?_) (fun hc => ?_)
    ·
      have hlt2 : l.length < c := by have := of_decide_eq_true hc; omega
      have hjl : l.length < m.rs[ps.length].l.length := by omega
      obtain ⟨hz0, hz1⟩ := hatr _ hjl
      have hzok := (hm.2.2 _ (List.getElem_mem hlt)).2.2 _ (List.getElem_mem hjl)
      have he := mt_ent hlt hjl
      obtain ⟨z, hz⟩ : ∃ z, z = m.rs[ps.length].l[l.length] := ⟨_, rfl⟩
      rw [← hz] at hz0 hz1 hzok he
      have hnz := nl_zd hzok
      refine tr_skip ?_
      repeat with_reducible first | refine tr_skip ?_ | refine tr_exit ?_ | refine tr_then ?_ | refine tr_inX ?_ | refine tr_thenX ?_ | refine tr_inN ?_ | refine tr_inR ?_ | refine tr_thenR ?_
      refine tr_seq ?_
      refine tr_block ?_
      refine tr_rseq ?_
      refine sq_q (qt_index (i := l.length) rfl rfl hjl) rfl ?_
      refine sq_q (qt_load2 rfl (fun w t => t.atA hz0) (fun w t => t.atA hz1)) rfl ?_
      refine sq_alloc rfl fun r6 => ?_
      refine sq_store 0 rfl rfl rfl rfl (Nat.le_refl 2) rfl rfl ?_
      refine sq_end ?_
      refine tr_own (zblk r6 z :: outG r9 ps (grV l.length p) k :: (grO 35 (zcs l) p ++ ps.map rowW)) rfl ?_
      refine tr_sb [9, 11] ?_
      refine sb_p 0 rfl (by kernel_rfl) (qt_move rfl) rfl ?_
      refine sb_p 1 rfl (by kernel_rfl) (qt_move rfl) rfl ?_
      refine sb_q 2 rfl (by kernel_rfl) (qt_move rfl) rfl ?_
      refine sb_q 3 rfl (by kernel_rfl) (qt_move rfl) rfl ?_
      refine sb_q 4 rfl (by kernel_rfl) (qt_index (i := ps.length) rfl rfl hlt) rfl ?_
      refine sb_q 5 rfl (by kernel_rfl) (qt_load (v := grV l.length p) rfl (fun w t => t.o1 1 rfl outG_get)) rfl ?_
      refine sb_q 6 rfl (by kernel_rfl) (qt_load2 rfl (fun w t => t.atO 0 rfl rfl) (fun w t => t.atO 0 rfl rfl)) rfl ?_
      refine sb_one 7 (by kernel_rfl) ?_
      refine so2_call (iv z.z) (Lz z.z.natAbs) rfl rfl rfl rfl (fun w t => rnorm_zd (t.zd hzok) hB) fun y => ?_
      refine sb_one 8 (by kernel_rfl) ?_
      refine so2_lit (vs := [(0, iv z.z y)]) (cells := zcs [zd z.z y]) rfl rfl rfl rfl (by simp [Instr.fill, Value.cells, iv, ig, zcs, Zd.cs, zd, show Array.range 2 = #[0, 1] from by decide]) rfl fun r32 => ?_
      refine sb_one 9 (by kernel_rfl) ?_
      refine so2_of rfl rfl ?_
      refine sq_perm ((r32, .cells (zcs [zd z.z y]).toArray 35 (0, 0)) :: (grO 35 (zcs l) p ++ (zblk r6 z :: outG r9 ps (grV l.length p) k :: ps.map rowW))) (List.Perm.cons _ (perm_mid2 _ _ _ _).symm) ?_
      refine sq_grow (p := p) (k := l.length) (m := 1) (xs := zcs l) (news := zcs [zd z.z y]) (own' := zblk r6 z :: outG r9 ps (grV l.length p) k :: ps.map rowW) rfl rfl hok rfl (by omega) (by omega) (by omega) rfl rfl rfl rfl fun p' hok' => ?_
      refine sq_perm (zblk r6 z :: outG r9 ps (grV l.length p) k :: (grO 35 (zcs l ++ zcs [zd z.z y]) p' ++ ps.map rowW)) (perm_mid2 _ _ _ _) ?_
      rw [grP_v hok']
      refine sq_back ?_
      refine sb_q 10 rfl (by kernel_rfl) (qt_index (i := ps.length) rfl rfl hlt) rfl ?_
      refine sb_one 11 (by kernel_rfl) ?_
      refine so2_store 1 rfl rfl rfl rfl rfl rfl (show 0 + ps.length * 1 + 1 ≤ (ps.map hdrW ++ grV l.length p :: List.replicate k (Value.slice none 0 0)).length by simp) rfl rfl ?_
      refine sb_end (by kernel_rfl) ?_
      refine tr_own (zblk r6 z :: outG r9 ps (grV (l ++ [zd z.z y]).length p') k :: (grO 35 (zcs (l ++ [zd z.z y])) p' ++ ps.map rowW)) ?_ ?_
      · rw [← outG_set (o := r9) (ps := ps) (v := grV l.length p) (v' := grV (l ++ [zd z.z y]).length p') (k := k), zcs_append, List.length_append, List.length_singleton, grP_v hok']
        rfl
      refine tr_drop (outG r9 ps (grV (l ++ [zd z.z y]).length p') k :: (grO 35 (zcs (l ++ [zd z.z y])) p' ++ ps.map rowW)) (List.sublist_cons_self ..) ?_
      repeat with_reducible first | refine tr_skip ?_ | refine tr_exit ?_ | refine tr_then ?_ | refine tr_inX ?_ | refine tr_thenX ?_ | refine tr_inN ?_ | refine tr_inR ?_ | refine tr_thenR ?_
      refine tr_region ?_
      refine sq_q (qt_bin rfl rfl (bin_addI (by omega) (by omega))) rfl ?_
      refine sq_q (qt_move rfl) rfl ?_
      refine sq_nil ?_
      repeat with_reducible first | refine tr_skip ?_ | refine tr_exit ?_ | refine tr_then ?_ | refine tr_inX ?_ | refine tr_thenX ?_ | refine tr_inN ?_ | refine tr_inR ?_ | refine tr_thenR ?_
      have e3 : (l ++ [zd z.z y]).length = l.length + 1 := by simp
      refine tr_round2 (l ++ [zd z.z y]) p' ⟨by omega, by rw [e3, zcs_append]; exact hok', fun b u hu => ?_⟩ (by omega) ⟨rfl, rfl, rfl, rfl, rfl, rfl, rfl, by rw [e3]; rfl, trivial⟩ rfl (fun w h => ⟨h.1.1, fun u hu => ?_⟩)
      · rw [List.getElem?_append] at hu
        split at hu
        · exact hlz b u hu
        · rw [List.getElem?_singleton] at hu
          split at hu
          · injection hu with hu
            subst hu
            rw [show b = l.length by omega]
            exact ⟨by rw [zd_z, he], zd_can _ _⟩
          · simp at hu
      · rcases List.mem_append.1 hu with h' | h'
        · exact h.1.2 u h'
        · rw [List.mem_singleton.1 h']
          exact zd_ok h.2 hnz
    ·
      have hlen : l.length = c := by have := of_decide_eq_false hc; omega
      obtain ⟨g, cap, sl, rfl⟩ : ∃ g cap sl, p = some (g, cap, sl) := by
        cases p with
        | none => exact absurd hok.1 (by omega)
        | some q => exact ⟨q.1, q.2.1, q.2.2, rfl⟩
      obtain ⟨o1, o2, o3⟩ := hok
      refine tr_exit ?_
      repeat with_reducible first | refine tr_skip ?_ | refine tr_exit ?_ | refine tr_then ?_ | refine tr_inX ?_ | refine tr_thenX ?_ | refine tr_inN ?_ | refine tr_inR ?_ | refine tr_thenR ?_
      refine tr_region ?_
      refine sq_q (qt_bin rfl rfl (bin_addI (by omega) (by omega))) rfl ?_
      refine sq_q (qt_move rfl) rfl ?_
      refine sq_nil ?_
      repeat with_reducible first | refine tr_skip ?_ | refine tr_exit ?_ | refine tr_then ?_ | refine tr_inX ?_ | refine tr_thenX ?_ | refine tr_inN ?_ | refine tr_inR ?_ | refine tr_thenR ?_
      have e4 : (ps ++ [((g, l), sl)]).length = ps.length + 1 := by simp
      refine tr_perm (outW r9 (ps ++ [((g, l), sl)]) k :: (ps ++ [((g, l), sl)]).map rowW) ?_ ?_
      · have e5 : outW r9 (ps ++ [((g, l), sl)]) k = outG r9 ps (grV l.length (some (g, cap, sl))) k := by
          unfold outW outG
          rw [List.map_append, List.append_assoc]
          show (r9, Obj.cells (ps.map hdrW ++ hdrW ((g, l), sl) :: List.replicate k (Value.slice none 0 0)).toArray _ _) = _
          rw [show hdrW ((g, l), sl) = grV l.length (some (g, cap, sl)) by
            show Value.slice _ l.length (l.length + sl.length / 2) = Value.slice _ l.length cap
            rw [show l.length + sl.length / 2 = cap by omega]]
        rw [e5, List.map_append]
        exact List.Perm.cons _ (List.perm_append_comm (l₁ := [rowW ((g, l), sl)]) (l₂ := ps.map rowW))
      refine tr_round (ps ++ [((g, l), sl)]) ⟨by omega, fun a q hq => ?_⟩ (by omega) ⟨congrArg some evm.symm, rfl, rfl, by rw [e4]; rfl, trivial⟩ (by rw [e4, show m.rs.length - (ps.length + 1) = k by omega]) (fun w h q hq z hz => ?_)
      · rw [List.getElem?_append] at hq
        split at hq
        · exact hps a q hq
        · rw [List.getElem?_singleton] at hq
          split at hq
          · injection hq with hq
            subst hq
            rw [show a = ps.length by omega]
            exact ⟨hlen, hlz⟩
          · simp at hq
      · rcases List.mem_append.1 hq with h' | h'
        · exact h.1 q h' z hz
        · rw [List.mem_singleton.1 h'] at hz
          exact h.2 z hz
  ·
    have hpl : ps.length = m.rs.length := by have := of_decide_eq_false hc; omega
    refine tr_have (fun w t => (List.pairwise_cons.1 t.nd).2) fun hnd => ?_
    refine tr_own (mownS (skOf ps) r9 (ps.map (·.1))) ?_ ?_
    · unfold mownS outW moutS
      rw [← skOf_rows hnd, ← skOf_hdrs hnd, hpl, Nat.sub_self]
    refine tr_exit ?_
    repeat with_reducible first | refine tr_skip ?_ | refine tr_exit ?_ | refine tr_then ?_ | refine tr_inX ?_ | refine tr_thenX ?_ | refine tr_inN ?_ | refine tr_inR ?_ | refine tr_thenR ?_
    refine tr_rseq ?_
    refine sq_q (qt_move rfl) rfl ?_
    refine sq_q (qt_assign rfl) rfl ?_
    refine sq_end ?_
    refine tr_ret ?_
    repeat with_reducible first | refine tr_skip ?_ | refine tr_exit ?_ | refine tr_then ?_ | refine tr_inX ?_ | refine tr_thenX ?_ | refine tr_inN ?_ | refine tr_inR ?_ | refine tr_thenR ?_
    refine tr_doneK (skOf ps, r9, ps.map (·.1)) (fun a w s t => results_1 rfl (resv_tmp s rfl)) (fun w hf hk => ⟨hf, ⟨⟨by simpa using hpl, fun a q hq => ?_⟩, fun q hq z hz => ?_⟩, hk.mono fun w h q hq z hz => ?_⟩)
    · rw [List.getElem?_map] at hq
      cases hp : ps[a]? with
      | none => rw [hp] at hq; simp at hq
      | some p =>
        rw [hp] at hq
        injection hq with hq
        subst hq
        exact ⟨(hps a p hp).1, fun b z hz => ((hps a p hp).2 b z hz).1⟩
    · obtain ⟨p, hp, rfl⟩ := List.mem_map.1 hq
      obtain ⟨a, ha⟩ := List.getElem?_of_mem hp
      obtain ⟨b, hb⟩ := List.getElem?_of_mem hz
      exact ((hps a p ha).2 b z hb).2
    · obtain ⟨p, hp, rfl⟩ := List.mem_map.1 hq
      exact h p hp z hz
end Go.Qk
end
section
set_option linter.unusedVariables false
namespace Go.Qk
open Go Go.Proofs Go.RowKit
set_option maxRecDepth 100000
set_option maxHeartbeats 4000000
theorem rquo_ret (n n' : Bool) (xs ys : List Nat) (p p' : Sv) (w : World) (S : Nat → Prop) (hx : Lm xs p w) (lx : lim xs) (hy : Lm ys p' w) (ly : lim ys) (hb : xs.length < 35184372088831) (hb' : ys.length < 35184372088831) :
    Ret Try.prog 112 [ig n xs p, ig n' ys p'] w S (iv (sgn n (val xs) / sgn n' (val ys))) (Lz (sgn n (val xs) / sgn n' (val ys)).natAbs) := by
  obtain ⟨D, hD⟩ : ∃ D, D = sgn n (val xs) / sgn n' (val ys) := ⟨_, rfl⟩
  obtain ⟨M, hM⟩ : ∃ M, M = (if (val ys) = 0 then 0 else sgn n (val xs) % sgn n' (val ys)) := ⟨_, rfl⟩
  rw [← hD]
  refine ret_of Try.func112 rfl Try.ntmps112 rfl ?_
  refine tr_rseq ?_
  refine sq_box rfl rfl fun r2 => ?_
  refine sq_box rfl rfl fun r3 => ?_
  refine sq_alloc rfl fun r4 => ?_
  refine sq_end ?_
  refine tr_rseq ?_
  refine sq_q (qt_load2 rfl (fun w t => t.atO 2 rfl rfl) (fun w t => t.atO 2 rfl rfl)) rfl ?_
  refine sq_q (qt_load2 rfl (fun w t => t.atO 1 rfl rfl) (fun w t => t.atO 1 rfl rfl)) rfl ?_
  refine sq_call (fun q : Sv × Sv => .tuple #[iv D q.1, iv M q.2, .bool (decide ((val ys) ≠ 0))]) (fun q w => Lz D.natAbs q.1 w ∧ Lz M.natAbs q.2 w) rfl rfl rfl (fun w t => by rw [hD, hM]; exact rdivmod_ret n n' xs ys p p' w _ (t.lm hx) lx (t.lm hy) ly hb hb') fun qr => ?_
  refine sq_q (qt_move rfl) rfl ?_
  refine sq_q (qt_extract rfl rfl) rfl ?_
  refine sq_q (qt_extract rfl rfl) rfl ?_
  refine sq_q (qt_extract rfl rfl) rfl ?_
  refine sq_alloc rfl fun r5 => ?_
  refine sq_alloc rfl fun r6 => ?_
  refine sq_store 1 rfl rfl rfl rfl (by first | (simp [u32s, Value.cells]; done) | (simp [u32s, Value.cells]; omega) | exact Nat.le_refl 2) rfl rfl ?_
  refine sq_store 0 rfl rfl rfl rfl (by first | (simp [u32s, Value.cells]; done) | (simp [u32s, Value.cells]; omega) | exact Nat.le_refl 2) rfl rfl ?_
  refine sq_q (qt_assign rfl) rfl ?_
  refine sq_end ?_
  refine tr_own [zblk r6 (zd M qr.2), zblk r5 (zd D qr.1), zblk r4 z0, (r3, .cells (ig n' ys p').cells 35 (0, 0)), (r2, .cells (ig n xs p).cells 35 (0, 0))] rfl ?_
  refine tr_rseq ?_
  refine sq_q (qt_load2 rfl (fun w t => t.atO 1 rfl rfl) (fun w t => t.atO 1 rfl rfl)) rfl ?_
  refine sq_store 2 rfl rfl rfl rfl (by first | (simp [u32s, Value.cells]; done) | (simp [u32s, Value.cells]; omega) | exact Nat.le_refl 2) rfl rfl ?_
  refine sq_end ?_
  refine tr_ret ?_
  repeat with_reducible first | refine tr_skip ?_ | refine tr_exit ?_ | refine tr_then ?_ | refine tr_inX ?_ | refine tr_thenX ?_ | refine tr_inN ?_ | refine tr_inR ?_ | refine tr_thenR ?_
  exact tr_done qr.1 (fun a w s t => results_1 rfl (resv_cell 2 s t rfl rfl rfl)) (fun w h _ _ => h.2.1)
end Go.Qk
end
section
set_option linter.unusedVariables false
namespace Go.Qk
open Go Go.Proofs Go.RowKit
section
variable {z z' : Zd} {a b : Int} {p q : Sv} {B B' : Nat} {w : World} {S : Nat → Prop}
theorem rquo_zd (h : z.ok B w) (h' : z'.ok B' w) (hB : B < 35184372088831) (hB' : B' < 35184372088831) : Ret Try.prog 112 [z.v, z'.v] w S (iv (z.z / z'.z)) (Lz (z.z / z'.z).natAbs) :=
  rquo_ret z.n z'.n z.xs z'.xs z.p z'.p w S h.1 h.2.1 h'.1 h'.2.1 (by have := h.2.2; omega) (by have := h'.2.2; omega)
theorem rquo_iz (h : Lz a.natAbs p w) (h' : z'.ok B' w) (hB : nl a.natAbs < 35184372088831) (hB' : B' < 35184372088831) : Ret Try.prog 112 [iv a p, z'.v] w S (iv (a / z'.z)) (Lz (a / z'.z).natAbs) := by
  have g := rquo_zd (S := S) (zd_ok h (Nat.le_refl _)) h' hB hB'
  rwa [zd_z] at g
theorem rneg_zd (h : z.ok B w) (hB : B ≤ 35184372088832) : Ret Try.prog 73 [z.v] w S (iv (-z.z)) (Lz (-z.z).natAbs) := by
  have h := rneg_ret z.n z.xs z.p w S h.1 h.2.1 (Nat.le_trans h.2.2 hB)
  rw [show (-z.z).natAbs = val z.xs by rw [Int.natAbs_neg]; exact sgn_natAbs _ _]
  exact h
end
end Go.Qk
end
section
set_option linter.unusedVariables false
namespace Go.Qk
open Go Go.Proofs Go.RowKit
set_option maxRecDepth 100000
set_option maxHeartbeats 4000000
theorem rdeterminant_ret (m : Mt) (B n : Nat) (w0 : World) (S : Nat → Prop) (hm : m.ok B w0) (hB : B ≤ 8388607) (hB1 : 1 ≤ B) (hlen : m.rs.length = n) (hn16 : n ≤ 16) (hrow : ∀ r ∈ m.rs, r.l.length = n) :
    Ret Try.prog 69 [m.v] w0 S (iv (bdet n (ent m.zs))) (fun p w => Lz (bdet n (ent m.zs)).natAbs p w ∧ nl (bdet n (ent m.zs)).natAbs ≤ 549755813887) := by
  obtain ⟨D, hD⟩ : ∃ D, D = bdet n (ent m.zs) := ⟨_, rfl⟩
  rw [← hD]
  refine ret_of Try.func69 rfl Try.ntmps69 rfl ?_
  refine tr_rseq ?_
  refine sq_alloc rfl fun r2 => ?_
  refine sq_end ?_
  refine tr_rseq ?_
  refine sq_q (qt_move rfl) rfl ?_
  refine sq_callK (fun x : Sk × Nat × List Wr => .slice (some ⟨x.2.1, 0, none⟩) n n) (fun x => mownS x.1 x.2.1 x.2.2) (fun x => MG (ent m.zs) n n x.2.2 ∧ allz Zd.can x.2.2) (fun x w => allz (fun z => z.ok B w) x.2.2) rfl rfl rfl (fun w t => by
    have h := copy_ret m B n w (Nn w0 S [(r2, .cells (Value.agg #[.bool false, .slice none 0 0]).cells 35 (0, 0))] w) (t.mt hm) (by omega) (by omega) hrow (by omega) (by omega)
    rw [hlen] at h
    exact h) fun x hx => ?_
  refine sq_q (qt_assign rfl) rfl ?_
  refine sq_end ?_
  obtain ⟨σ, o, qs⟩ := x
  obtain ⟨hG, hcan⟩ := hx
  dsimp only at hG hcan
  refine tr_rseq ?_
  refine sq_q (qt_move rfl) rfl ?_
  refine sq_q (qt_len rfl) rfl ?_
  refine sq_q (qt_assign rfl) rfl ?_
  refine sq_end ?_
  refine tr_rseq ?_
  refine sq_call (iv 1) (Lz (1 : Int).natAbs) rfl rfl rfl (fun w t => rsmall_ret 1 w _ (by omega) (by omega)) fun p1 => ?_
  refine sq_alloc rfl fun r5 => ?_
  refine sq_store 0 rfl rfl rfl rfl (Nat.le_refl 2) rfl rfl ?_
  refine sq_q (qt_assign rfl) rfl ?_
  refine sq_end ?_
  refine tr_perm (zblk r5 (zd 1 p1) :: zblk r2 z0 :: mownS σ o qs) (List.Perm.cons _ (List.perm_append_comm (l₁ := mownS σ o qs) (l₂ := [zblk r2 z0]))) ?_
  refine tr_seq ?_
  refine tr_rseq ?_
  refine sq_q (qt_assign rfl) rfl ?_
  refine sq_end ?_
  refine tr_block ?_
  refine tr_loop4 (fun (k : Nat) (qs : List Wr) (pz : Zd) (neg : Bool) => k ≤ n ∧ allz Zd.can qs ∧ pz.can ∧ ∃ g, MG g n n qs ∧ bar n (n - k) k g pz.z neg = D)
    (fun k qs pz neg => [(2, .pointer (some ⟨r2, 0, none⟩)), (3, .slice (some ⟨o, 0, none⟩) n n), (4, .int .i64 (n : Int)), (5, .pointer (some ⟨r5, 0, none⟩)), (6, .bool neg), (7, .int .i64 (k : Int))])
    (fun k qs pz neg => zblk r5 pz :: zblk r2 z0 :: mownS σ o qs) (fun k qs pz neg w => alli (fun _ _ z => z.ok (bd B k) w) qs ∧ pz.ok (bd B k) w) (fun k qs pz neg => n - k) 0 qs (zd 1 p1) false ⟨Nat.zero_le _, hcan, zd_can _ _, ent m.zs, hG, by rw [zd_z, Nat.sub_zero, hD]; rfl⟩ ⟨rfl, rfl, rfl, rfl, rfl, rfl, trivial⟩ rfl (fun w h => ⟨fun a q hq b z hz => h.1.2 q (List.mem_of_getElem? hq) z (List.mem_of_getElem? hz), zd_ok h.2 (Nat.le_trans nl_one hB1)⟩) ?_
  clear hG hcan qs
  rintro k qs pz neg ⟨hkn, hcan, hpc, g, hG, hbar⟩
  refine tr_seq ?_
  refine tr_rseq ?_
  refine sq_q (qt_move rfl) rfl ?_
  refine sq_q (qt_move rfl) rfl ?_
  refine sq_q (qt_bin rfl rfl bin_lss) rfl ?_
  refine sq_end ?_
  refine tr_if rfl (fun hc => ?_) (fun hc => ?_)
  ·
    have hlt : k < n := by have := of_decide_eq_true hc; omega
    have hbd := bd_le (B := B) (k := k) (by omega) hB
    have hbd1 := bd_le (B := B) (k := k + 1) (by omega) hB
    refine tr_skip ?_
    repeat with_reducible first | refine tr_skip ?_ | refine tr_exit ?_ | refine tr_then ?_ | refine tr_inX ?_ | refine tr_thenX ?_ | refine tr_inN ?_ | refine tr_inR ?_ | refine tr_thenR ?_
    refine tr_seq ?_
    refine tr_block ?_
    refine tr_rseq ?_
    refine sq_q (qt_move rfl) rfl ?_
    refine sq_q (qt_assign rfl) rfl ?_
    refine sq_end ?_
    refine tr_cut (fun p : Nat => k ≤ p ∧ p ≤ n ∧ piv g k (n - k) k = p ∧ (p < n → g p k ≠ 0)) (fun p => [(2, .pointer (some ⟨r2, 0, none⟩)), (3, .slice (some ⟨o, 0, none⟩) n n), (4, .int .i64 (n : Int)), (5, .pointer (some ⟨r5, 0, none⟩)), (6, .bool neg), (7, .int .i64 (k : Int)), (8, .int .i64 (p : Int))])
      (fun p => zblk r5 pz :: zblk r2 z0 :: mownS σ o qs) (fun p w => alli (fun _ _ z => z.ok (bd B k) w) qs ∧ pz.ok (bd B k) w) ?_ ?_
    ·
      refine tr_block ?_
      refine tr_loop (fun p : Nat => k ≤ p ∧ p ≤ n ∧ piv g k (n - k) k = piv g k (n - p) p) (fun p => [(2, .pointer (some ⟨r2, 0, none⟩)), (3, .slice (some ⟨o, 0, none⟩) n n), (4, .int .i64 (n : Int)), (5, .pointer (some ⟨r5, 0, none⟩)), (6, .bool neg), (7, .int .i64 (k : Int)), (8, .int .i64 (p : Int))])
        (fun p => zblk r5 pz :: zblk r2 z0 :: mownS σ o qs) (fun p w => alli (fun _ _ z => z.ok (bd B k) w) qs ∧ pz.ok (bd B k) w) (fun p => n - p) k ⟨Nat.le_refl _, hkn, rfl⟩ ⟨rfl, rfl, rfl, rfl, rfl, rfl, rfl, trivial⟩ rfl (fun _ h => h) ?_
      rintro p ⟨hkp, hpn, hpiv⟩
      refine tr_seq ?_
      have hcs : p = n ∨ (p < n ∧ g p k = 0) ∨ (p < n ∧ g p k ≠ 0) := by omega
      rcases hcs with hpe | ⟨hpl, hg0⟩ | ⟨hpl, hg0⟩
      ·
        refine tr_rseq ?_
        refine sq_q (qt_move rfl) rfl ?_
        refine sq_q (qt_move rfl) rfl ?_
        refine sq_q (qt_bin rfl rfl (bF bin_lss (by omega))) rfl ?_
        refine sq_q (qt_move rfl) rfl ?_
        refine sq_gF rfl rfl rfl rfl ?_
        refine sq_gF rfl rfl rfl rfl ?_
        refine sq_gF rfl rfl rfl rfl ?_
        refine sq_gF rfl rfl rfl rfl ?_
        refine sq_gF rfl rfl rfl rfl ?_
        refine sq_gF rfl rfl rfl rfl ?_
        refine sq_gF rfl rfl rfl rfl ?_
        refine sq_gF rfl rfl rfl rfl ?_
        refine sq_gF rfl rfl rfl rfl ?_
        refine sq_q (qt_pick rfl rfl) rfl ?_
        refine sq_end ?_
        refine tr_ifF rfl ?_
        refine tr_exit ?_
        repeat with_reducible first | refine tr_skip ?_ | refine tr_exit ?_ | refine tr_then ?_ | refine tr_inX ?_ | refine tr_thenX ?_ | refine tr_inN ?_ | refine tr_inR ?_ | refine tr_thenR ?_
        exact tr_mid p ⟨hkp, hpn, by rw [hpiv, hpe, Nat.sub_self]; rfl, fun h => by omega⟩ ⟨rfl, rfl, rfl, rfl, rfl, rfl, rfl, trivial⟩ rfl (fun _ h => h)
      ·
        obtain ⟨q, hq, hql⟩ := hG.get hpl
        obtain ⟨z, hz⟩ : ∃ z, q.2[k]? = some z := ⟨_, List.getElem?_eq_getElem (by omega)⟩
        have hzz := (hG.2 p q hq).2 k z hz
        refine tr_rseq ?_
        refine sq_q (qt_move rfl) rfl ?_
        refine sq_q (qt_move rfl) rfl ?_
        refine sq_q (qt_bin rfl rfl (bT bin_lss (by omega))) rfl ?_
        refine sq_q (qt_move rfl) rfl ?_
        refine sq_gT rfl rfl ?_
        refine sq_q (qt_move rfl) rfl ?_
        refine sq_gT rfl rfl ?_
        refine sq_q (qt_move rfl) rfl ?_
        refine sq_gT rfl rfl ?_
        refine sq_q (qt_index (i := p) rfl rfl hpl) rfl ?_
        refine sq_gT rfl rfl ?_
        refine sq_q (qt_load rfl (fun w t => t.o1 2 rfl (moutS_get hq))) rfl ?_
        refine sq_gT rfl rfl ?_
        refine sq_q (qt_move rfl) rfl ?_
        refine sq_gT rfl rfl ?_
        refine sq_q (qt_index (i := k) rfl rfl (by omega)) rfl ?_
        refine sq_gT rfl rfl ?_
        refine sq_q (qt_load2 rfl (fun w t => t.mzS0 (p + 3) (mownS_at (o := o) hq) hz) (fun w t => t.mzS1 (p + 3) (mownS_at (o := o) hq) hz)) rfl ?_
        refine sq_gT rfl rfl ?_
        refine sq_call (val := fun _ : Unit => .int .i64 z.z.sign) (F := fun _ _ => True) rfl rfl rfl (fun w t => rsign_zd (t.r.1 p q hq k z hz) (by omega)) fun _ => ?_
        refine sq_gT rfl rfl ?_
        refine sq_q (qt_bin rfl rfl (bT bin_eql (by rw [hzz, hg0]; rfl))) rfl ?_
        refine sq_q (qt_pick rfl rfl) rfl ?_
        refine sq_end ?_
        refine tr_ifT rfl ?_
        refine tr_skip ?_
        repeat with_reducible first | refine tr_skip ?_ | refine tr_exit ?_ | refine tr_then ?_ | refine tr_inX ?_ | refine tr_thenX ?_ | refine tr_inN ?_ | refine tr_inR ?_ | refine tr_thenR ?_
        refine tr_block ?_
        refine tr_region ?_
        refine sq_q (qt_move rfl) rfl ?_
        refine sq_q (qt_bin rfl rfl (bin_addI (by omega) (by omega))) rfl ?_
        refine sq_q (qt_assign rfl) rfl ?_
        refine sq_nil ?_
        repeat with_reducible first | refine tr_skip ?_ | refine tr_exit ?_ | refine tr_then ?_ | refine tr_inX ?_ | refine tr_thenX ?_ | refine tr_inN ?_ | refine tr_inR ?_ | refine tr_thenR ?_
        refine tr_round (p + 1) ⟨by omega, by omega, ?_⟩ (by omega) ⟨rfl, rfl, rfl, rfl, rfl, rfl, rfl, trivial⟩ rfl (fun _ h => h.1)
        rw [hpiv, show n - p = (n - (p + 1)) + 1 by omega, piv_go hg0]
      ·
        obtain ⟨q, hq, hql⟩ := hG.get hpl
        obtain ⟨z, hz⟩ : ∃ z, q.2[k]? = some z := ⟨_, List.getElem?_eq_getElem (by omega)⟩
        have hzz := (hG.2 p q hq).2 k z hz
        refine tr_rseq ?_
        refine sq_q (qt_move rfl) rfl ?_
        refine sq_q (qt_move rfl) rfl ?_
        refine sq_q (qt_bin rfl rfl (bT bin_lss (by omega))) rfl ?_
        refine sq_q (qt_move rfl) rfl ?_
        refine sq_gT rfl rfl ?_
        refine sq_q (qt_move rfl) rfl ?_
        refine sq_gT rfl rfl ?_
        refine sq_q (qt_move rfl) rfl ?_
        refine sq_gT rfl rfl ?_
        refine sq_q (qt_index (i := p) rfl rfl hpl) rfl ?_
        refine sq_gT rfl rfl ?_
        refine sq_q (qt_load rfl (fun w t => t.o1 2 rfl (moutS_get hq))) rfl ?_
        refine sq_gT rfl rfl ?_
        refine sq_q (qt_move rfl) rfl ?_
        refine sq_gT rfl rfl ?_
        refine sq_q (qt_index (i := k) rfl rfl (by omega)) rfl ?_
        refine sq_gT rfl rfl ?_
        refine sq_q (qt_load2 rfl (fun w t => t.mzS0 (p + 3) (mownS_at (o := o) hq) hz) (fun w t => t.mzS1 (p + 3) (mownS_at (o := o) hq) hz)) rfl ?_
        refine sq_gT rfl rfl ?_
        refine sq_call (val := fun _ : Unit => .int .i64 z.z.sign) (F := fun _ _ => True) rfl rfl rfl (fun w t => rsign_zd (t.r.1 p q hq k z hz) (by omega)) fun _ => ?_
        refine sq_gT rfl rfl ?_
        refine sq_q (qt_bin rfl rfl (bF bin_eql (by rw [hzz]; exact fun h => hg0 (Int.sign_eq_zero_iff_zero.1 h)))) rfl ?_
        refine sq_q (qt_pick rfl rfl) rfl ?_
        refine sq_end ?_
        refine tr_ifF rfl ?_
        refine tr_exit ?_
        repeat with_reducible first | refine tr_skip ?_ | refine tr_exit ?_ | refine tr_then ?_ | refine tr_inX ?_ | refine tr_thenX ?_ | refine tr_inN ?_ | refine tr_inR ?_ | refine tr_thenR ?_
        exact tr_mid p ⟨hkp, hpn, by rw [hpiv, piv_stop hg0], fun _ => hg0⟩ ⟨rfl, rfl, rfl, rfl, rfl, rfl, rfl, trivial⟩ rfl (fun _ h => h.1)
    ·
      rintro p ⟨hkp, hpn, hpiv, hpg⟩
      rw [show n - k = (n - (k + 1)) + 1 by omega, bar, hpiv] at hbar
      refine tr_seq ?_
      refine tr_rseq ?_
      refine sq_q (qt_move rfl) rfl ?_
      refine sq_q (qt_move rfl) rfl ?_
      refine sq_q (qt_bin rfl rfl bin_eql) rfl ?_
      refine sq_end ?_
      refine tr_if rfl (fun hc => ?_) (fun hc => ?_)
      ·
        have hpe : p = n := by have := of_decide_eq_true hc; omega
        rw [if_pos hpe] at hbar
        refine tr_rseq ?_
        refine sq_q (qt_build rfl built0) rfl ?_
        refine sq_store 1 rfl rfl rfl rfl (by first | (simp [u32s, Value.cells]; done) | (simp [u32s, Value.cells]; omega) | exact Nat.le_refl 2) rfl rfl ?_
        refine sq_end ?_
        refine tr_ret ?_
        repeat with_reducible first | refine tr_skip ?_ | refine tr_exit ?_ | refine tr_then ?_ | refine tr_inX ?_ | refine tr_thenX ?_ | refine tr_inN ?_ | refine tr_inR ?_ | refine tr_thenR ?_
        refine tr_done (none, 0) (fun a w s t => results_1 rfl (by rw [← hbar, iv_zero]; exact resv_cell 1 s t rfl rfl rfl)) (fun w _ _ _ => ?_)
        rw [← hbar, show (0 : Int).natAbs = 0 from rfl, Lz, limbsOf_zero, nl_zero.2 rfl]
        exact ⟨⟨Rd.nil _ _, Nat.le_refl _⟩, Nat.zero_le _⟩
      ·
        have hpl : p < n := by have := of_decide_eq_false hc; omega
        have hpk := hpg hpl
        rw [if_neg (by omega)] at hbar
        refine tr_skip ?_
        repeat with_reducible first | refine tr_skip ?_ | refine tr_exit ?_ | refine tr_then ?_ | refine tr_inX ?_ | refine tr_thenX ?_ | refine tr_inN ?_ | refine tr_inR ?_ | refine tr_thenR ?_
        refine tr_cut3 (fun (g' : Nat → Nat → Int) (qs' : List Wr) (neg' : Bool) => MG g' n n qs' ∧ allz Zd.can qs' ∧ bar n (n - (k + 1)) (k + 1) (elim g' k pz.z) (g' k k) neg' = D) (fun g' qs' neg' => [(2, .pointer (some ⟨r2, 0, none⟩)), (3, .slice (some ⟨o, 0, none⟩) n n), (4, .int .i64 (n : Int)), (5, .pointer (some ⟨r5, 0, none⟩)), (6, .bool neg'), (7, .int .i64 (k : Int))])
          (fun g' qs' neg' => zblk r5 pz :: zblk r2 z0 :: mownS σ o qs') (fun g' qs' neg' w => alli (fun _ _ z => z.ok (bd B k) w) qs' ∧ pz.ok (bd B k) w) ?_ ?_
        ·
          refine tr_rseq ?_
          refine sq_q (qt_move rfl) rfl ?_
          refine sq_q (qt_move rfl) rfl ?_
          refine sq_q (qt_bin rfl rfl bin_gtr) rfl ?_
          refine sq_end ?_
          refine tr_if rfl (fun hc => ?_) (fun hc => ?_)
          ·
            have hne : p ≠ k := by have := of_decide_eq_true hc; omega
            rw [if_neg hne] at hbar
            obtain ⟨qp, hqp, _⟩ := hG.get hpl
            obtain ⟨qk, hqk, _⟩ := hG.get hlt
            refine tr_rsb [13, 15] ?_
            refine sb_q 0 rfl (by kernel_rfl) (qt_move rfl) rfl ?_
            refine sb_q 1 rfl (by kernel_rfl) (qt_move rfl) rfl ?_
            refine sb_p 2 rfl (by kernel_rfl) (qt_move rfl) rfl ?_
            refine sb_p 3 rfl (by kernel_rfl) (qt_move rfl) rfl ?_
            refine sb_q 4 rfl (by kernel_rfl) (qt_move rfl) rfl ?_
            refine sb_q 5 rfl (by kernel_rfl) (qt_move rfl) rfl ?_
            refine sb_q 6 rfl (by kernel_rfl) (qt_index (i := k) rfl rfl hlt) rfl ?_
            refine sb_q 7 rfl (by kernel_rfl) (qt_load rfl (fun w t => t.o1 2 rfl (moutS_get hqk))) rfl ?_
            refine sb_q 8 rfl (by kernel_rfl) (qt_move rfl) rfl ?_
            refine sb_q 9 rfl (by kernel_rfl) (qt_move rfl) rfl ?_
            refine sb_q 10 rfl (by kernel_rfl) (qt_index (i := p) rfl rfl hpl) rfl ?_
            refine sb_q 11 rfl (by kernel_rfl) (qt_load rfl (fun w t => t.o1 2 rfl (moutS_get hqp))) rfl ?_
            refine sb_q 12 rfl (by kernel_rfl) (qt_index (i := p) rfl rfl hpl) rfl ?_
            refine sb_one 13 (by kernel_rfl) ?_
            refine so2_store 2 rfl rfl rfl rfl rfl rfl (show 0 + p * 1 + 1 ≤ (qs.map (mhdrS σ) ++ List.replicate 0 (Value.slice none 0 0)).length by simp; have := hG.1; omega) rfl rfl ?_
            refine sb_q 14 rfl (by kernel_rfl) (qt_index (i := k) rfl rfl hlt) rfl ?_
            refine sb_one 15 (by kernel_rfl) ?_
            refine so2_store 2 rfl rfl rfl rfl rfl rfl (show 0 + k * 1 + 1 ≤ (wr (qs.map (mhdrS σ) ++ List.replicate 0 (Value.slice none 0 0)) (0 + p * 1) [mhdrS σ qk]).length by rw [wr_length]; simp; have := hG.1; omega) rfl rfl ?_
            refine sb_endk (by kernel_rfl) ?_
            refine tr_region ?_
            refine sq_q (qt_move rfl) rfl ?_
            refine sq_q (qt_not rfl) rfl ?_
            refine sq_q (qt_assign rfl) rfl ?_
            refine sq_nil ?_
            repeat with_reducible first | refine tr_skip ?_ | refine tr_exit ?_ | refine tr_then ?_ | refine tr_inX ?_ | refine tr_thenX ?_ | refine tr_inN ?_ | refine tr_inR ?_ | refine tr_thenR ?_
            refine tr_perm (zblk r5 pz :: zblk r2 z0 :: mownS σ o (qswap qs p k qp qk)) ?_ ?_
            · have e : (o, Obj.cells (wr (wr (qs.map (mhdrS σ) ++ List.replicate 0 (Value.slice none 0 0)) (0 + p * 1) [mhdrS σ qk]) (0 + k * 1) [mhdrS σ qp]).toArray 44 (0, 0)) = moutS σ o (qswap qs p k qp qk) 0 := by
                unfold moutS
                rw [← qswapS_hdr]
                simp only [wr, Nat.zero_add, Nat.mul_one]
              show (zblk r5 pz :: zblk r2 z0 :: (o, Obj.cells (wr (wr (qs.map (mhdrS σ) ++ List.replicate 0 (Value.slice none 0 0)) (0 + p * 1) [mhdrS σ qk]) (0 + k * 1) [mhdrS σ qp]).toArray 44 (0, 0)) :: qs.map (mrowS σ)).Perm _
              rw [e]
              exact ((((qswap_perm hqp hqk).symm.map (mrowS σ)).cons _).cons _).cons _
            exact tr_mid3 (swp g p k) (qswap qs p k qp qk) (!neg) ⟨hG.swap hqp hqk, fun q hq => hcan q ((qswap_perm hqp hqk).mem_iff.1 hq), hbar⟩ ⟨rfl, rfl, rfl, rfl, rfl, rfl, trivial⟩ rfl (fun w h => ⟨h.1.swap hqp hqk, h.2⟩)
          ·
            have hpe : p = k := by have := of_decide_eq_false hc; omega
            rw [if_pos hpe] at hbar
            refine tr_skip ?_
            repeat with_reducible first | refine tr_skip ?_ | refine tr_exit ?_ | refine tr_then ?_ | refine tr_inX ?_ | refine tr_thenX ?_ | refine tr_inN ?_ | refine tr_inR ?_ | refine tr_thenR ?_
            exact tr_mid3 g qs neg ⟨hG, hcan, hbar⟩ ⟨rfl, rfl, rfl, rfl, rfl, rfl, trivial⟩ rfl (fun w h => h)
        ·
          clear hG hbar hpg hpiv hcan
          rintro g' qs' neg' ⟨hG, hcan, hbar⟩
          refine tr_seq ?_
          refine tr_rseq ?_
          refine sq_q (qt_move rfl) rfl ?_
          refine sq_q (qt_bin rfl rfl (bin_addI (by omega) (by omega))) rfl ?_
          refine sq_q (qt_assign rfl) rfl ?_
          refine sq_end ?_
          refine tr_block ?_
          refine tr_loop2 (fun (i : Nat) (qs : List Wr) => k + 1 ≤ i ∧ i ≤ n ∧ allz Zd.can qs ∧ MG (elimP g' k pz.z i 0) n n qs) (fun i qs => [(2, .pointer (some ⟨r2, 0, none⟩)), (3, .slice (some ⟨o, 0, none⟩) n n), (4, .int .i64 (n : Int)), (5, .pointer (some ⟨r5, 0, none⟩)), (6, .bool neg'), (7, .int .i64 (k : Int)), (9, .int .i64 (i : Int))])
            (fun i qs => zblk r5 pz :: zblk r2 z0 :: mownS σ o qs) (fun i qs w => alli (fun a b z => z.ok (bb B k i 0 a b) w) qs ∧ pz.ok (bd B k) w) (fun i qs => n - i) (k + 1) qs' ⟨Nat.le_refl _, hlt, hcan, hG.congr (fun a b _ _ => by unfold elimP; rw [if_neg (by omega)])⟩ ⟨rfl, rfl, rfl, rfl, rfl, rfl, rfl, trivial⟩ rfl (fun w h => ⟨h.1.mono fun a b z hz => by unfold bb; rw [if_neg (by unfold dn; omega)]; exact hz, h.2⟩) ?_
          clear hG hcan
          rintro i qs ⟨hki, hin, hcan, hG⟩
          refine tr_seq ?_
          refine tr_rseq ?_
          refine sq_q (qt_move rfl) rfl ?_
          refine sq_q (qt_move rfl) rfl ?_
          refine sq_q (qt_bin rfl rfl bin_lss) rfl ?_
          refine sq_end ?_
          refine tr_if rfl (fun hc => ?_) (fun hc => ?_)
          ·
            have hil : i < n := by have := of_decide_eq_true hc; omega
            refine tr_skip ?_
            repeat with_reducible first | refine tr_skip ?_ | refine tr_exit ?_ | refine tr_then ?_ | refine tr_inX ?_ | refine tr_thenX ?_ | refine tr_inN ?_ | refine tr_inR ?_ | refine tr_thenR ?_
            refine tr_seq ?_
            refine tr_block ?_
            refine tr_rseq ?_
            refine sq_q (qt_move rfl) rfl ?_
            refine sq_q (qt_bin rfl rfl (bin_addI (by omega) (by omega))) rfl ?_
            refine sq_q (qt_assign rfl) rfl ?_
            refine sq_end ?_
            refine tr_block ?_
            refine tr_loop2 (fun (j : Nat) (qs : List Wr) => k + 1 ≤ j ∧ j ≤ n ∧ allz Zd.can qs ∧ MG (elimP g' k pz.z i j) n n qs) (fun j qs => [(2, .pointer (some ⟨r2, 0, none⟩)), (3, .slice (some ⟨o, 0, none⟩) n n), (4, .int .i64 (n : Int)), (5, .pointer (some ⟨r5, 0, none⟩)), (6, .bool neg'), (7, .int .i64 (k : Int)), (9, .int .i64 (i : Int)), (10, .int .i64 (j : Int))])
              (fun j qs => zblk r5 pz :: zblk r2 z0 :: mownS σ o qs) (fun j qs w => alli (fun a b z => z.ok (bb B k i j a b) w) qs ∧ pz.ok (bd B k) w) (fun j qs => n - j) (k + 1) qs ⟨Nat.le_refl _, hlt, hcan, hG.congr (fun a b _ _ => by unfold elimP; congr 1; exact propext (by omega))⟩ ⟨rfl, rfl, rfl, rfl, rfl, rfl, rfl, rfl, trivial⟩ rfl (fun w h => ⟨h.1.mono fun a b z hz => by have e : bb B k i (k + 1) a b = bb B k i 0 a b := (by unfold bb; congr 1; exact propext (by unfold dn; omega)); rw [e]; exact hz, h.2⟩) ?_
            clear hG hcan
            rintro j qs ⟨hkj, hjn, hcan, hG⟩
            refine tr_seq ?_
            refine tr_rseq ?_
            refine sq_q (qt_move rfl) rfl ?_
            refine sq_q (qt_move rfl) rfl ?_
            refine sq_q (qt_bin rfl rfl bin_lss) rfl ?_
            refine sq_end ?_
            refine tr_if rfl (fun hc => ?_) (fun hc => ?_)
            ·
              have hjl : j < n := by have := of_decide_eq_true hc; omega
              obtain ⟨qk, hqk, hqkl⟩ := hG.get hlt
              obtain ⟨qi, hqi, hqil⟩ := hG.get hil
              obtain ⟨zkk, hkk⟩ : ∃ z, qk.2[k]? = some z := ⟨_, List.getElem?_eq_getElem (by omega)⟩
              obtain ⟨zkj, hkjz⟩ : ∃ z, qk.2[j]? = some z := ⟨_, List.getElem?_eq_getElem (by omega)⟩
              obtain ⟨zik, hik⟩ : ∃ z, qi.2[k]? = some z := ⟨_, List.getElem?_eq_getElem (by omega)⟩
              obtain ⟨zij, hij⟩ : ∃ z, qi.2[j]? = some z := ⟨_, List.getElem?_eq_getElem (by omega)⟩
              have ekk : zkk.z = g' k k := by rw [(hG.2 k qk hqk).2 k zkk hkk]; unfold elimP; rw [if_neg (by omega)]
              have ekj : zkj.z = g' k j := by rw [(hG.2 k qk hqk).2 j zkj hkjz]; unfold elimP; rw [if_neg (by omega)]
              have eik : zik.z = g' i k := by rw [(hG.2 i qi hqi).2 k zik hik]; unfold elimP; rw [if_neg (by omega)]
              have eij : zij.z = g' i j := by rw [(hG.2 i qi hqi).2 j zij hij]; unfold elimP; rw [if_neg (by omega)]
              have hlow : ∀ a b, ¬ dn k i j a b → bb B k i j a b = bd B k := fun a b h => by unfold bb; rw [if_neg h]
              have bkk := hlow k k (by unfold dn; omega)
              have bkj := hlow k j (by unfold dn; omega)
              have bik := hlow i k (by unfold dn; omega)
              have bij := hlow i j (by unfold dn; omega)
              obtain ⟨Xv, hXv⟩ : ∃ X, X = zkk.z * zij.z - zik.z * zkj.z := ⟨_, rfl⟩
              refine tr_have (fun w t => (⟨nl_zd (t.r.1 k qk hqk k zkk hkk), nl_zd (t.r.1 i qi hqi j zij hij), nl_zd (t.r.1 i qi hqi k zik hik), nl_zd (t.r.1 k qk hqk j zkj hkjz)⟩ : nl zkk.z.natAbs ≤ bb B k i j k k ∧ nl zij.z.natAbs ≤ bb B k i j i j ∧ nl zik.z.natAbs ≤ bb B k i j i k ∧ nl zkj.z.natAbs ≤ bb B k i j k j)) fun hb => ?_
              obtain ⟨hb1, hb2, hb3, hb4⟩ := hb
              rw [bkk] at hb1
              rw [bij] at hb2
              rw [bik] at hb3
              rw [bkj] at hb4
              have hm1 := nl_imul zkk.z zij.z
              have hm2 := nl_imul zik.z zkj.z
              have hm3 := nl_isub (zkk.z * zij.z) (zik.z * zkj.z)
              rw [← hXv] at hm3
              have hXb : nl Xv.natAbs ≤ bd B (k + 1) := by rw [bd]; omega
              refine tr_skip ?_
              repeat with_reducible first | refine tr_skip ?_ | refine tr_exit ?_ | refine tr_then ?_ | refine tr_inX ?_ | refine tr_thenX ?_ | refine tr_inN ?_ | refine tr_inR ?_ | refine tr_thenR ?_
              refine tr_seq ?_
              refine tr_block ?_
              refine tr_sb [39] ?_
              refine sb_q 0 rfl (by kernel_rfl) (qt_move rfl) rfl ?_
              refine sb_q 1 rfl (by kernel_rfl) (qt_move rfl) rfl ?_
              refine sb_q 2 rfl (by kernel_rfl) (qt_index (i := i) rfl rfl hil) rfl ?_
              refine sb_q 3 rfl (by kernel_rfl) (qt_load rfl (fun w t => t.o1 2 rfl (moutS_get hqi))) rfl ?_
              refine sb_q 4 rfl (by kernel_rfl) (qt_move rfl) rfl ?_
              refine sb_q 5 rfl (by kernel_rfl) (qt_move rfl) rfl ?_
              refine sb_q 6 rfl (by kernel_rfl) (qt_move rfl) rfl ?_
              refine sb_q 7 rfl (by kernel_rfl) (qt_index (i := k) rfl rfl hlt) rfl ?_
              refine sb_q 8 rfl (by kernel_rfl) (qt_load rfl (fun w t => t.o1 2 rfl (moutS_get hqk))) rfl ?_
              refine sb_q 9 rfl (by kernel_rfl) (qt_move rfl) rfl ?_
              refine sb_q 10 rfl (by kernel_rfl) (qt_index (i := k) rfl rfl (by omega)) rfl ?_
              refine sb_q 11 rfl (by kernel_rfl) (qt_load2 rfl (fun w t => t.mzS0 (k + 3) (mownS_at (o := o) hqk) hkk) (fun w t => t.mzS1 (k + 3) (mownS_at (o := o) hqk) hkk)) rfl ?_
              refine sb_q 12 rfl (by kernel_rfl) (qt_move rfl) rfl ?_
              refine sb_q 13 rfl (by kernel_rfl) (qt_move rfl) rfl ?_
              refine sb_q 14 rfl (by kernel_rfl) (qt_index (i := i) rfl rfl hil) rfl ?_
              refine sb_q 15 rfl (by kernel_rfl) (qt_load rfl (fun w t => t.o1 2 rfl (moutS_get hqi))) rfl ?_
              refine sb_q 16 rfl (by kernel_rfl) (qt_move rfl) rfl ?_
              refine sb_q 17 rfl (by kernel_rfl) (qt_index (i := j) rfl rfl (by omega)) rfl ?_
              refine sb_q 18 rfl (by kernel_rfl) (qt_load2 rfl (fun w t => t.mzS0 (i + 3) (mownS_at (o := o) hqi) hij) (fun w t => t.mzS1 (i + 3) (mownS_at (o := o) hqi) hij)) rfl ?_
              refine sb_q 20 rfl (by kernel_rfl) (qt_move rfl) rfl ?_
              refine sb_q 21 rfl (by kernel_rfl) (qt_move rfl) rfl ?_
              refine sb_q 22 rfl (by kernel_rfl) (qt_index (i := i) rfl rfl hil) rfl ?_
              refine sb_q 23 rfl (by kernel_rfl) (qt_load rfl (fun w t => t.o1 2 rfl (moutS_get hqi))) rfl ?_
              refine sb_q 24 rfl (by kernel_rfl) (qt_move rfl) rfl ?_
              refine sb_q 25 rfl (by kernel_rfl) (qt_index (i := k) rfl rfl (by omega)) rfl ?_
              refine sb_q 26 rfl (by kernel_rfl) (qt_load2 rfl (fun w t => t.mzS0 (i + 3) (mownS_at (o := o) hqi) hik) (fun w t => t.mzS1 (i + 3) (mownS_at (o := o) hqi) hik)) rfl ?_
              refine sb_q 27 rfl (by kernel_rfl) (qt_move rfl) rfl ?_
              refine sb_q 28 rfl (by kernel_rfl) (qt_move rfl) rfl ?_
              refine sb_q 29 rfl (by kernel_rfl) (qt_index (i := k) rfl rfl hlt) rfl ?_
              refine sb_q 30 rfl (by kernel_rfl) (qt_load rfl (fun w t => t.o1 2 rfl (moutS_get hqk))) rfl ?_
              refine sb_q 31 rfl (by kernel_rfl) (qt_move rfl) rfl ?_
              refine sb_q 32 rfl (by kernel_rfl) (qt_index (i := j) rfl rfl (by omega)) rfl ?_
              refine sb_q 33 rfl (by kernel_rfl) (qt_load2 rfl (fun w t => t.mzS0 (k + 3) (mownS_at (o := o) hqk) hkjz) (fun w t => t.mzS1 (k + 3) (mownS_at (o := o) hqk) hkjz)) rfl ?_
              refine sb_q 36 rfl (by kernel_rfl) (qt_load2 rfl (fun w t => t.atO 0 rfl rfl) (fun w t => t.atO 0 rfl rfl)) rfl ?_
              refine sb_one 19 (by kernel_rfl) ?_
              refine so2_call (iv (zkk.z * zij.z)) (Lz (zkk.z * zij.z).natAbs) rfl rfl rfl rfl (fun w t => rmul_zd (t.r.1 k qk hqk k zkk hkk) (t.r.1 i qi hqi j zij hij) (by rw [bkk, bij]; omega)) fun x94 => ?_
              refine sb_one 34 (by kernel_rfl) ?_
              refine so2_call (iv (zik.z * zkj.z)) (Lz (zik.z * zkj.z).natAbs) rfl rfl rfl rfl (fun w t => rmul_zd (t.r.1.1 i qi hqi k zik hik) (t.r.1.1 k qk hqk j zkj hkjz) (by rw [bik, bkj]; omega)) fun x109 => ?_
              refine sb_one 35 (by kernel_rfl) ?_
              refine so2_call (iv Xv) (Lz Xv.natAbs) rfl rfl rfl rfl (fun w t => by rw [hXv]; exact rsub_iv t.r.1.2 t.r.2 (by omega) (by omega)) fun x110 => ?_
              refine sb_one 37 (by kernel_rfl) ?_
              refine so2_call (iv (Xv / pz.z)) (Lz (Xv / pz.z).natAbs) rfl rfl rfl rfl (fun w t => rquo_iz t.r.2 t.r.1.1.1.2 (by omega) (by omega)) fun x => ?_
              refine sb_q 38 rfl (by kernel_rfl) (qt_index (i := j) rfl rfl (by omega)) rfl ?_
              refine sb_one 39 (by kernel_rfl) ?_
              refine so2_store (i + 3) rfl rfl rfl rfl (mownS_at (o := o) hqi) rfl (show 0 + j * 2 + 2 ≤ (zcs qi.2 ++ σ qi.1).length by rw [List.length_append, zcs_length]; omega) rfl rfl ?_
              refine sb_end (by kernel_rfl) ?_
              refine tr_own (zblk r5 pz :: zblk r2 z0 :: mownS σ o (qs.set i (qi.1, qi.2.set j (zd (Xv / pz.z) x)))) (by rw [← mownS_wr (zd (Xv / pz.z) x) hqi (by omega)]; rfl) ?_
              repeat with_reducible first | refine tr_skip ?_ | refine tr_exit ?_ | refine tr_then ?_ | refine tr_inX ?_ | refine tr_thenX ?_ | refine tr_inN ?_ | refine tr_inR ?_ | refine tr_thenR ?_
              refine tr_region ?_
              refine sq_q (qt_move rfl) rfl ?_
              refine sq_q (qt_bin rfl rfl (bin_addI (by omega) (by omega))) rfl ?_
              refine sq_q (qt_assign rfl) rfl ?_
              refine sq_nil ?_
              repeat with_reducible first | refine tr_skip ?_ | refine tr_exit ?_ | refine tr_then ?_ | refine tr_inX ?_ | refine tr_thenX ?_ | refine tr_inN ?_ | refine tr_inR ?_ | refine tr_thenR ?_
              have hv : Xv / pz.z = elm g' k pz.z i j := by unfold elm; rw [hXv, ekk, eij, eik, ekj]
              refine tr_round2 (j + 1) (qs.set i (qi.1, qi.2.set j (zd (Xv / pz.z) x))) ⟨by omega, by omega, hcan.set hqi (zd_can _ _), (hG.set hqi (zd (Xv / pz.z) x) _ (zd_z _ _)).congr (fun a b _ _ => ?_)⟩ (by omega) ⟨rfl, rfl, rfl, rfl, rfl, rfl, rfl, rfl, trivial⟩ rfl (fun w h => ⟨h.1.1.1.1.1.set hqi (zd_ok h.2 ?_) (fun a b z hab hz => hz.mono (bb_mono fun hd => ?_)), h.1.1.1.1.2⟩)
              · unfold gset elimP
                by_cases hab : a = i ∧ b = j
                · rw [if_pos hab, if_pos (by omega), hv, hab.1, hab.2]
                · rw [if_neg hab]
                  congr 1
                  exact propext (by omega)
              · refine Nat.le_trans (nl_idiv _ _) (Nat.le_trans hXb ?_)
                unfold bb
                rw [if_pos (by unfold dn; omega)]
                exact Nat.le_refl _
              · unfold dn at hd ⊢
                omega
            ·
              have hje : j = n := by have := of_decide_eq_false hc; omega
              refine tr_exit ?_
              repeat with_reducible first | refine tr_skip ?_ | refine tr_exit ?_ | refine tr_then ?_ | refine tr_inX ?_ | refine tr_thenX ?_ | refine tr_inN ?_ | refine tr_inR ?_ | refine tr_thenR ?_
              refine tr_region ?_
              refine sq_q (qt_move rfl) rfl ?_
              refine sq_q (qt_bin rfl rfl (bin_addI (by omega) (by omega))) rfl ?_
              refine sq_q (qt_assign rfl) rfl ?_
              refine sq_nil ?_
              repeat with_reducible first | refine tr_skip ?_ | refine tr_exit ?_ | refine tr_then ?_ | refine tr_inX ?_ | refine tr_thenX ?_ | refine tr_inN ?_ | refine tr_inR ?_ | refine tr_thenR ?_
              refine tr_round2 (i + 1) qs ⟨by omega, by omega, hcan, hG.congr (fun a b _ hb => ?_)⟩ (by omega) ⟨rfl, rfl, rfl, rfl, rfl, rfl, rfl, trivial⟩ rfl (fun w h => ⟨h.1.mono fun a b z hz => hz.mono (bb_mono fun hd => ?_), h.2⟩)
              · unfold elimP
                congr 1
                exact propext (by omega)
              · unfold dn at hd ⊢
                omega
          ·
            have hie : i = n := by have := of_decide_eq_false hc; omega
            obtain ⟨qk, hqk, hqkl⟩ := hG.get hlt
            obtain ⟨zkk, hkk⟩ : ∃ z, qk.2[k]? = some z := ⟨_, List.getElem?_eq_getElem (by omega)⟩
            have ekk : zkk.z = g' k k := by rw [(hG.2 k qk hqk).2 k zkk hkk]; unfold elimP; rw [if_neg (by omega)]
            refine tr_exit ?_
            repeat with_reducible first | refine tr_skip ?_ | refine tr_exit ?_ | refine tr_then ?_ | refine tr_inX ?_ | refine tr_thenX ?_ | refine tr_inN ?_ | refine tr_inR ?_ | refine tr_thenR ?_
            refine tr_region ?_
            refine sq_q (qt_move rfl) rfl ?_
            refine sq_q (qt_move rfl) rfl ?_
            refine sq_q (qt_index (i := k) rfl rfl hlt) rfl ?_
            refine sq_q (qt_load rfl (fun w t => t.o1 2 rfl (moutS_get hqk))) rfl ?_
            refine sq_q (qt_move rfl) rfl ?_
            refine sq_q (qt_index (i := k) rfl rfl (by omega)) rfl ?_
            refine sq_q (qt_load2 rfl (fun w t => t.mzS0 (k + 3) (mownS_at (o := o) hqk) hkk) (fun w t => t.mzS1 (k + 3) (mownS_at (o := o) hqk) hkk)) rfl ?_
            refine sq_store 0 rfl rfl rfl rfl (Nat.le_refl 2) rfl rfl ?_
            refine sq_nil ?_
            repeat with_reducible first | refine tr_skip ?_ | refine tr_exit ?_ | refine tr_then ?_ | refine tr_inX ?_ | refine tr_thenX ?_ | refine tr_inN ?_ | refine tr_inR ?_ | refine tr_thenR ?_
            refine tr_region ?_
            refine sq_q (qt_move rfl) rfl ?_
            refine sq_q (qt_bin rfl rfl (bin_addI (by omega) (by omega))) rfl ?_
            refine sq_q (qt_assign rfl) rfl ?_
            refine sq_nil ?_
            repeat with_reducible first | refine tr_skip ?_ | refine tr_exit ?_ | refine tr_then ?_ | refine tr_inX ?_ | refine tr_thenX ?_ | refine tr_inN ?_ | refine tr_inR ?_ | refine tr_thenR ?_
            refine tr_own (zblk r5 zkk :: zblk r2 z0 :: mownS σ o qs) rfl ?_
            refine tr_round4 (k + 1) qs zkk neg' ⟨hlt, hcan, hcan _ (List.mem_of_getElem? hqk) _ (List.mem_of_getElem? hkk), elim g' k pz.z, hG.congr (fun a b ha _ => ?_), by rw [ekk]; exact hbar⟩ (by omega) ⟨rfl, rfl, rfl, rfl, rfl, rfl, trivial⟩ rfl (fun w h => ⟨h.1.mono fun a b z hz => hz.mono (bb_le B k _ _ a b), (h.1 k qk hqk k zkk hkk).mono (bb_le B k _ _ k k)⟩)
            unfold elimP elim
            congr 1
            exact propext (by omega)
  ·
    have hke : k = n := by have := of_decide_eq_false hc; omega
    subst hke
    rw [Nat.sub_self, bar] at hbar
    have hbd := bd_le (B := B) (k := k) hn16 hB
    refine tr_have (fun w t => nl_zd t.r.2) fun hnz => ?_
    refine tr_exit ?_
    repeat with_reducible first | refine tr_skip ?_ | refine tr_exit ?_ | refine tr_then ?_ | refine tr_inX ?_ | refine tr_thenX ?_ | refine tr_inN ?_ | refine tr_inR ?_ | refine tr_thenR ?_
    refine tr_seq ?_
    refine tr_rseq ?_
    refine sq_q (qt_move rfl) rfl ?_
    refine sq_end ?_
    refine tr_if rfl (fun hc => ?_) (fun hc => ?_)
    ·
      rw [if_pos hc] at hbar
      refine tr_rseq ?_
      refine sq_q (qt_load2 rfl (fun w t => t.atO 0 rfl rfl) (fun w t => t.atO 0 rfl rfl)) rfl ?_
      refine sq_call (iv (-pz.z)) (Lz (-pz.z).natAbs) rfl rfl rfl (fun w t => rneg_zd t.r.2 (by omega)) fun x => ?_
      refine sq_store 1 rfl rfl rfl rfl (by first | (simp [u32s, Value.cells]; done) | (simp [u32s, Value.cells]; omega) | exact Nat.le_refl 2) rfl rfl ?_
      refine sq_end ?_
      refine tr_ret ?_
      repeat with_reducible first | refine tr_skip ?_ | refine tr_exit ?_ | refine tr_then ?_ | refine tr_inX ?_ | refine tr_thenX ?_ | refine tr_inN ?_ | refine tr_inR ?_ | refine tr_thenR ?_
      rw [← hbar]
      exact tr_done x (fun a w s t => results_1 rfl (resv_cell 1 s t rfl rfl rfl)) (fun w h _ _ => ⟨h.2, by rw [Int.natAbs_neg]; omega⟩)
    ·
      rw [if_neg (by rw [hc]; decide)] at hbar
      refine tr_own (zblk r5 (zd pz.z pz.p) :: zblk r2 z0 :: mownS σ o qs) (by rw [← Zd.can_eq hpc]) ?_
      refine tr_skip ?_
      repeat with_reducible first | refine tr_skip ?_ | refine tr_exit ?_ | refine tr_then ?_ | refine tr_inX ?_ | refine tr_thenX ?_ | refine tr_inN ?_ | refine tr_inR ?_ | refine tr_thenR ?_
      refine tr_rseq ?_
      refine sq_q (qt_load2 rfl (fun w t => t.atO 0 rfl rfl) (fun w t => t.atO 0 rfl rfl)) rfl ?_
      refine sq_store 1 rfl rfl rfl rfl (by first | (simp [u32s, Value.cells]; done) | (simp [u32s, Value.cells]; omega) | exact Nat.le_refl 2) rfl rfl ?_
      refine sq_end ?_
      refine tr_ret ?_
      repeat with_reducible first | refine tr_skip ?_ | refine tr_exit ?_ | refine tr_then ?_ | refine tr_inX ?_ | refine tr_thenX ?_ | refine tr_inN ?_ | refine tr_inR ?_ | refine tr_thenR ?_
      rw [← hbar]
      exact tr_done pz.p (fun a w s t => results_1 rfl (resv_cell 1 s t rfl rfl rfl)) (fun w h _ _ => ⟨by have h1 := h.2.1; rw [Zd.can_eq hpc] at h1; exact h1, by omega⟩)
end Go.Qk
end
section
set_option linter.unusedVariables false
namespace Go.Qk
open Go Go.Proofs Go.RowKit
set_option maxRecDepth 100000
set_option maxHeartbeats 4000000
theorem rmmul_ret (m m' : Mt) (B B' : Nat) (w0 : World) (S : Nat → Prop) (hm : m.ok B w0) (hm' : m'.ok B' w0) (hB : B + B' ≤ 35184372088700) (hl : m.rs.length ≤ 35184372088832) (hr : ∀ r ∈ m.rs, r.l.length ≤ 35184372088832) (hl' : m'.rs.length ≤ 35184372088832) (hr' : ∀ r ∈ m'.rs, r.l.length ≤ 35184372088832) :
    Ret Try.prog 53 [m.v, m'.v] w0 S (optV (mulO m.zs m'.zs)) (optF (B + B' + 16) (mulO m.zs m'.zs)) := by
  obtain ⟨o, ho⟩ : ∃ o, o = shp m.zs := ⟨_, rfl⟩
  obtain ⟨o', ho'⟩ : ∃ o, o = shp m'.zs := ⟨_, rfl⟩
  have hO : mulO m.zs m'.zs = mulP o o' m.zs m'.zs := by rw [ho, ho']; rfl
  rw [hO]
  clear hO
  refine ret_of Try.func53 rfl Try.ntmps53 rfl ?_
  refine tr_rseq ?_
  refine sq_q (qt_assign rfl) rfl ?_
  refine sq_q (qt_assign rfl) rfl ?_
  refine sq_end ?_
  refine tr_rseq ?_
  refine sq_q (qt_move rfl) rfl ?_
  refine sq_call (val := fun _ : Unit => shpV o) (F := fun _ _ => True) rfl rfl rfl (fun w t => by rw [ho]; exact rshape_ret m B w _ (t.mt hm) hl hr) fun _ => ?_
  refine sq_q (qt_move rfl) rfl ?_
  refine sq_q (qt_extract rfl rfl) rfl ?_
  refine sq_q (qt_extract rfl rfl) rfl ?_
  refine sq_q (qt_extract rfl rfl) rfl ?_
  refine sq_q (qt_assign rfl) rfl ?_
  refine sq_q (qt_assign rfl) rfl ?_
  refine sq_q (qt_assign rfl) rfl ?_
  refine sq_end ?_
  refine tr_rseq ?_
  refine sq_q (qt_move rfl) rfl ?_
  refine sq_call (optV (trP o' m'.zs)) (optF B' (trP o' m'.zs)) rfl rfl rfl (fun w t => by rw [ho']; exact rtranspose_ret m' B' w _ (t.mt hm') (by omega) hl' hr') fun m9 => ?_
  refine sq_q (qt_move rfl) rfl ?_
  refine sq_q (qt_extract rfl rfl) rfl ?_
  refine sq_q (qt_extract rfl rfl) rfl ?_
  refine sq_q (qt_assign rfl) rfl ?_
  refine sq_q (qt_assign rfl) rfl ?_
  refine sq_end ?_
  refine tr_seq ?_
  have hcs : o = none ∨ (∃ r c, o = some (r, c) ∧ o' = none) ∨ (∃ r c r' c', o = some (r, c) ∧ o' = some (r', c') ∧ c ≠ r') ∨ (∃ r c c', o = some (r, c) ∧ o' = some (c, c')) := by
    cases o with
    | none => exact .inl rfl
    | some x =>
      cases o' with
      | none => exact .inr (.inl ⟨x.1, x.2, rfl, rfl⟩)
      | some y =>
        obtain ⟨r, c⟩ := x
        obtain ⟨r', c'⟩ := y
        by_cases h1 : c = r'
        · subst h1; exact .inr (.inr (.inr ⟨_, _, _, rfl, rfl⟩))
        · exact .inr (.inr (.inl ⟨_, _, _, _, rfl, rfl, h1⟩))
  rcases hcs with h1 | ⟨r, c, h1, h2⟩ | ⟨r, c, r', c', h1, h2, h3⟩ | ⟨r, c, c', h1, h2⟩
  ·
    subst h1
    rw [show mulP none o' m.zs m'.zs = none from rfl]
    refine tr_rseq ?_
    refine sq_q (qt_move rfl) rfl ?_
    refine sq_q (qt_not rfl) rfl ?_
    refine sq_q (qt_move rfl) rfl ?_
    refine sq_gF rfl rfl rfl rfl ?_
    refine sq_gF rfl rfl rfl rfl ?_
    refine sq_q (qt_pick rfl rfl) rfl ?_
    refine sq_q (qt_move rfl) rfl ?_
    refine sq_gF rfl rfl rfl rfl ?_
    refine sq_gF rfl rfl rfl rfl ?_
    refine sq_gF rfl rfl rfl rfl ?_
    refine sq_gF rfl rfl rfl rfl ?_
    refine sq_q (qt_pick rfl rfl) rfl ?_
    refine sq_end ?_
    refine tr_ifT rfl ?_
    refine tr_rseq ?_
    refine sq_q (qt_assign rfl) rfl ?_
    refine sq_q (qt_assign rfl) rfl ?_
    refine sq_end ?_
    refine tr_ret ?_
    repeat with_reducible first | refine tr_skip ?_ | refine tr_exit ?_ | refine tr_then ?_ | refine tr_inX ?_ | refine tr_thenX ?_ | refine tr_inN ?_ | refine tr_inR ?_ | refine tr_thenR ?_
    exact tr_done ⟨[], (none, 0)⟩ (fun a w s t => results_2 rfl (resv_tmp s rfl) (resv_tmp s rfl)) (fun w _ _ _ => optF_none _ _)
  ·
    subst h1
    subst h2
    rw [show mulP (some (r, c)) none m.zs m'.zs = none from rfl]
    refine tr_rseq ?_
    refine sq_q (qt_move rfl) rfl ?_
    refine sq_q (qt_not rfl) rfl ?_
    refine sq_q (qt_move rfl) rfl ?_
    refine sq_gT rfl rfl ?_
    refine sq_q (qt_move rfl) rfl ?_
    refine sq_gT rfl rfl ?_
    refine sq_q (qt_not rfl) rfl ?_
    refine sq_q (qt_pick rfl rfl) rfl ?_
    refine sq_q (qt_move rfl) rfl ?_
    refine sq_gF rfl rfl rfl rfl ?_
    refine sq_gF rfl rfl rfl rfl ?_
    refine sq_gF rfl rfl rfl rfl ?_
    refine sq_gF rfl rfl rfl rfl ?_
    refine sq_q (qt_pick rfl rfl) rfl ?_
    refine sq_end ?_
    refine tr_ifT rfl ?_
    refine tr_rseq ?_
    refine sq_q (qt_assign rfl) rfl ?_
    refine sq_q (qt_assign rfl) rfl ?_
    refine sq_end ?_
    refine tr_ret ?_
    repeat with_reducible first | refine tr_skip ?_ | refine tr_exit ?_ | refine tr_then ?_ | refine tr_inX ?_ | refine tr_thenX ?_ | refine tr_inN ?_ | refine tr_inR ?_ | refine tr_thenR ?_
    exact tr_done ⟨[], (none, 0)⟩ (fun a w s t => results_2 rfl (resv_tmp s rfl) (resv_tmp s rfl)) (fun w _ _ _ => optF_none _ _)
  ·
    subst h1
    subst h2
    rw [show mulP (some (r, c)) (some (r', c')) m.zs m'.zs = none from if_neg h3]
    obtain ⟨g1', g2', g3', g4', g5', g6'⟩ := mt_shp ho'.symm
    refine tr_rseq ?_
    refine sq_q (qt_move rfl) rfl ?_
    refine sq_q (qt_not rfl) rfl ?_
    refine sq_q (qt_move rfl) rfl ?_
    refine sq_gT rfl rfl ?_
    refine sq_q (qt_move rfl) rfl ?_
    refine sq_gT rfl rfl ?_
    refine sq_q (qt_not rfl) rfl ?_
    refine sq_q (qt_pick rfl rfl) rfl ?_
    refine sq_q (qt_move rfl) rfl ?_
    refine sq_gT rfl rfl ?_
    refine sq_q (qt_move rfl) rfl ?_
    refine sq_gT rfl rfl ?_
    refine sq_q (qt_len rfl) rfl ?_
    refine sq_gT rfl rfl ?_
    refine sq_q (qt_move rfl) rfl ?_
    refine sq_gT rfl rfl ?_
    refine sq_q (qt_bin rfl rfl (bT bin_neq (by simp only [Option.getD_some]; omega))) rfl ?_
    refine sq_q (qt_pick rfl rfl) rfl ?_
    refine sq_end ?_
    refine tr_ifT rfl ?_
    refine tr_rseq ?_
    refine sq_q (qt_assign rfl) rfl ?_
    refine sq_q (qt_assign rfl) rfl ?_
    refine sq_end ?_
    refine tr_ret ?_
    repeat with_reducible first | refine tr_skip ?_ | refine tr_exit ?_ | refine tr_then ?_ | refine tr_inX ?_ | refine tr_thenX ?_ | refine tr_inN ?_ | refine tr_inR ?_ | refine tr_thenR ?_
    exact tr_done ⟨[], (none, 0)⟩ (fun a w s t => results_2 rfl (resv_tmp s rfl) (resv_tmp s rfl)) (fun w _ _ _ => optF_none _ _)
  ·
    subst h1
    subst h2
    rw [show mulP (some (r, c)) (some (c, c')) m.zs m'.zs = some (grid (mmul c (ent m.zs) (ent m'.zs)) r c') from if_pos rfl]
    obtain ⟨g1, g2, g3, g4, g5, g6⟩ := mt_shp ho.symm
    obtain ⟨g1', g2', g3', g4', g5', g6'⟩ := mt_shp ho'.symm
    refine tr_rseq ?_
    refine sq_q (qt_move rfl) rfl ?_
    refine sq_q (qt_not rfl) rfl ?_
    refine sq_q (qt_move rfl) rfl ?_
    refine sq_gT rfl rfl ?_
    refine sq_q (qt_move rfl) rfl ?_
    refine sq_gT rfl rfl ?_
    refine sq_q (qt_not rfl) rfl ?_
    refine sq_q (qt_pick rfl rfl) rfl ?_
    refine sq_q (qt_move rfl) rfl ?_
    refine sq_gT rfl rfl ?_
    refine sq_q (qt_move rfl) rfl ?_
    refine sq_gT rfl rfl ?_
    refine sq_q (qt_len rfl) rfl ?_
    refine sq_gT rfl rfl ?_
    refine sq_q (qt_move rfl) rfl ?_
    refine sq_gT rfl rfl ?_
    refine sq_q (qt_bin rfl rfl (bF bin_neq (by simp only [Option.getD_some]; omega))) rfl ?_
    refine sq_q (qt_pick rfl rfl) rfl ?_
    refine sq_end ?_
    refine tr_ifF rfl ?_
    refine tr_skip ?_
    repeat with_reducible first | refine tr_skip ?_ | refine tr_exit ?_ | refine tr_then ?_ | refine tr_inX ?_ | refine tr_thenX ?_ | refine tr_inN ?_ | refine tr_inR ?_ | refine tr_thenR ?_
    refine tr_have (fun w t => t.r.2.2.1) fun (hz9 : m9.zs = grid (tr (ent m'.zs)) c' c) => ?_
    obtain ⟨k1, k6⟩ := mt_lens hz9
    refine tr_have (p := ∃ r9 o9, m9.v = .slice (some ⟨r9, o9, none⟩) m9.rs.length m9.p.2) (fun w t => by obtain ⟨r9, o9, e9, _⟩ := t.r.2.1.at_ (show 0 < m9.rs.length by omega); exact ⟨r9, o9, e9⟩) fun ⟨r9, o9, ev9⟩ => ?_
    subst g1
    subst k1
    refine tr_rseq ?_
    refine sq_q (qt_move rfl) rfl ?_
    refine sq_q (qt_len rfl) rfl ?_
    refine sq_q (qt_move rfl) rfl ?_
    refine sq_q (qt_len rfl) rfl ?_
    refine sq_callA (fun x : Nat × List Wr => .slice (some ⟨x.1, 0, none⟩) m.rs.length m.rs.length) (fun x => mown x.1 x.2) (fun x => x.2.map (·.2) = List.replicate m.rs.length (List.replicate m9.rs.length z0)) rfl rfl rfl (fun w t => zero_ret m.rs.length m9.rs.length w _ (by omega) (by omega)) fun x hqs => ?_
    refine sq_q (qt_assign rfl) rfl ?_
    refine sq_end ?_
    obtain ⟨ob, qs⟩ := x
    refine tr_own (mown ob qs) (List.append_nil _) ?_
    obtain ⟨ro, oo, evm, hat⟩ := hm.at_ (show 0 < m.rs.length by omega)
    refine tr_seq ?_
    refine tr_rseq ?_
    refine sq_q (qt_move rfl) rfl ?_
    refine sq_q (qt_len rfl) rfl ?_
    refine sq_q (qt_move rfl) rfl ?_
    refine sq_end ?_
    refine tr_block ?_
    refine tr_loop2 (fun (i : Nat) (qs : List Wr) => i ≤ m.rs.length ∧ MG (fun a b => if a < i then mmul c (ent m.zs) (ent m'.zs) a b else 0) m.rs.length m9.rs.length qs ∧ allz Zd.can qs) (fun i qs => [(0, m.v), (9, m9.v), (11, .slice (some ⟨ob, 0, none⟩) m.rs.length m.rs.length), (43, .int .i64 (m.rs.length : Int)), (44, .int .i64 (i : Int))])
      (fun i qs => mown ob qs) (fun i qs w => allz (fun z => z.ok (B + B' + 16) w) qs ∧ m9.ok B' w) (fun i qs => m.rs.length - i) 0 qs ⟨Nat.zero_le _, (MG.of_zero hqs).congr (fun a b _ _ => by rw [if_neg (by omega)]), allz.of_zero hqs z0_can⟩ ⟨rfl, rfl, rfl, rfl, rfl, trivial⟩ rfl (fun w h => ⟨allz.of_zero hqs (z0_ok (B + B' + 16) w), h.2.1⟩) ?_
    clear hqs qs
    rintro i qs ⟨hle, hG, hcan⟩
    refine tr_rseq ?_
    refine sq_q (qt_bin rfl rfl bin_lss) rfl ?_
    refine sq_end ?_
    refine tr_seq ?_
    refine tr_if rfl (fun hc => ?_) (fun hc => ?_)
    ·
      have hlt : i < m.rs.length := by have := of_decide_eq_true hc; omega
      refine tr_sub [(0, .slice (some ⟨ro, oo, none⟩) m.rs.length m.p.2), (9, .slice (some ⟨r9, o9, none⟩) m9.rs.length m9.p.2), (11, .slice (some ⟨ob, 0, none⟩) m.rs.length m.rs.length), (43, .int .i64 (m.rs.length : Int)), (44, .int .i64 (i : Int))] ⟨congrArg some evm, congrArg some ev9, rfl, rfl, rfl, trivial⟩ ?_
      refine tr_skip ?_
      repeat with_reducible first | refine tr_skip ?_ | refine tr_exit ?_ | refine tr_then ?_ | refine tr_inX ?_ | refine tr_thenX ?_ | refine tr_inN ?_ | refine tr_inR ?_ | refine tr_thenR ?_
      refine tr_seq ?_
      refine tr_block ?_
      refine tr_rseq ?_
      refine sq_q (qt_move rfl) rfl ?_
      refine sq_q (qt_assign rfl) rfl ?_
      refine sq_end ?_
      refine tr_rseq ?_
      refine sq_q (qt_move rfl) rfl ?_
      refine sq_q (qt_len rfl) rfl ?_
      refine sq_q (qt_move rfl) rfl ?_
      refine sq_end ?_
      refine tr_block ?_
      have hG0 : MG (fun a b => if a < i ∨ (a = i ∧ b < 0) then mmul c (ent m.zs) (ent m'.zs) a b else 0) m.rs.length m9.rs.length qs := hG.congr fun a b _ _ => by
        by_cases h : a < i
        · rw [if_pos h, if_pos (.inl h)]
        · rw [if_neg h, if_neg (by omega)]
      refine tr_loop2 (fun (j : Nat) (qs : List Wr) => j ≤ m9.rs.length ∧ MG (fun a b => if a < i ∨ (a = i ∧ b < j) then mmul c (ent m.zs) (ent m'.zs) a b else 0) m.rs.length m9.rs.length qs ∧ allz Zd.can qs) (fun j qs => [(0, .slice (some ⟨ro, oo, none⟩) m.rs.length m.p.2), (9, .slice (some ⟨r9, o9, none⟩) m9.rs.length m9.p.2), (11, .slice (some ⟨ob, 0, none⟩) m.rs.length m.rs.length), (12, .int .i64 (i : Int)), (43, .int .i64 (m.rs.length : Int)), (44, .int .i64 (i : Int)), (48, .int .i64 (m9.rs.length : Int)), (49, .int .i64 (j : Int))])
        (fun j qs => mown ob qs) (fun j qs w => allz (fun z => z.ok (B + B' + 16) w) qs ∧ m9.ok B' w) (fun j qs => m9.rs.length - j) 0 qs ⟨Nat.zero_le _, hG0, hcan⟩ ⟨rfl, rfl, rfl, rfl, rfl, rfl, rfl, rfl, trivial⟩ rfl (fun w h => h) ?_
      clear hG0 hG hcan qs
      rintro j qs ⟨hjc, hG, hcan⟩
      refine tr_rseq ?_
      refine sq_q (qt_bin rfl rfl bin_lss) rfl ?_
      refine sq_end ?_
      refine tr_seq ?_
      refine tr_if rfl (fun hc => ?_) (fun hc => ?_)
      ·
        have hlt2 : j < m9.rs.length := by have := of_decide_eq_true hc; omega
        have hml : m.rs[i].l.length = c := g6 _ (List.getElem_mem hlt)
        have hml9 : m9.rs[j].l.length = c := k6 _ (List.getElem_mem hlt2)
        obtain ⟨q, hq, hql⟩ := hG.get hlt
        refine tr_skip ?_
        repeat with_reducible first | refine tr_skip ?_ | refine tr_exit ?_ | refine tr_then ?_ | refine tr_inX ?_ | refine tr_thenX ?_ | refine tr_inN ?_ | refine tr_inR ?_ | refine tr_thenR ?_
        refine tr_seq ?_
        refine tr_block ?_
        refine tr_rseq ?_
        refine sq_q (qt_move rfl) rfl ?_
        refine sq_q (qt_assign rfl) rfl ?_
        refine sq_end ?_
        refine tr_draw 14 [] [] [0, 1, 4, 5, 7, 8, 9, 10, 11, 12, 13, 36, 43, 44, 45, 48, 49, 50, 55, 56, 65] (by kernel_rfl) ?_
        refine dx_q rfl (qt_move rfl) rfl ?_
        refine dx_q rfl (qt_move rfl) rfl ?_
        refine dx_q rfl (qt_index (i := i) rfl rfl hlt) rfl ?_
        refine dx_q rfl (qt_load rfl (fun w t => t.o1 0 rfl (mout_get hq))) rfl ?_
        refine dx_q rfl (qt_move rfl) rfl ?_
        refine dx_q rfl (qt_move rfl) rfl ?_
        refine dx_q rfl (qt_move rfl) rfl ?_
        refine dx_q rfl (qt_index (i := i) rfl rfl hlt) rfl ?_
        refine dx_q rfl (qt_load rfl (fun w t => t.a1 (hat i hlt))) rfl ?_
        refine dx_q rfl (qt_move rfl) rfl ?_
        refine dx_q rfl (qt_move rfl) rfl ?_
        refine dx_q rfl (qt_index (i := j) rfl rfl hlt2) rfl ?_
        refine dx_q rfl (qt_load rfl (fun w t => t.r.2.row_at ev9 hlt2)) rfl ?_
        refine dx_call (iv (mmul c (ent m.zs) (ent m'.zs) i j)) (fun p w => Lz (mmul c (ent m.zs) (ent m'.zs) i j).natAbs p w ∧ nl (mmul c (ent m.zs) (ent m'.zs) i j).natAbs ≤ B + B' + 16) rfl rfl rfl (fun w t => by
          have h := fun S' => dot_ret m.rs[i] m9.rs[j] (fun k => ent m.zs i k * ent m'.zs k j) B B' w S' (t.rw (hm.2.2 _ (List.getElem_mem hlt))) (t.r.2.2.2 _ (List.getElem_mem hlt2)) (by omega) (by omega) (by omega) hB (fun k hk hk' => by rw [mt_ent_grid hz9 hlt2 hk', ← mt_ent hlt hk]; rfl)
          rw [hml] at h
          exact (h _).imp fun p w h => ⟨h.1, by have h2 := h.2; exact Nat.le_trans h2 (by omega)⟩) ?_
        refine dx_nil ?_
        repeat (first | refine es_val rfl ?_ rfl | refine es_skip rfl ?_)
        refine es_res rfl (fun x => ?_) rfl
        repeat (first | refine es_val rfl ?_ rfl | refine es_skip rfl ?_)
        refine es_nil rfl ?_
        refine tx_q (qt_index (i := j) rfl rfl (by omega)) rfl rfl rfl ?_
        refine tx_store (i + 1) rfl rfl (mown_at hq) rfl (show 0 + j * 2 + 2 ≤ (zcs q.2).length by rw [zcs_length, hql]; omega) rfl rfl rfl ?_
        refine tx_end ?_
        repeat with_reducible first | refine tr_skip ?_ | refine tr_exit ?_ | refine tr_then ?_ | refine tr_inX ?_ | refine tr_thenX ?_ | refine tr_inN ?_ | refine tr_inR ?_ | refine tr_thenR ?_
        refine tr_region ?_
        refine sq_q (qt_bin rfl rfl (bin_addI (by omega) (by omega))) rfl ?_
        refine sq_q (qt_move rfl) rfl ?_
        refine sq_nil ?_
        repeat with_reducible first | refine tr_skip ?_ | refine tr_exit ?_ | refine tr_then ?_ | refine tr_inX ?_ | refine tr_thenX ?_ | refine tr_inN ?_ | refine tr_inR ?_ | refine tr_thenR ?_
        refine tr_own (mown ob (qs.set i (q.1, q.2.set j (zd (mmul c (ent m.zs) (ent m'.zs) i j) x)))) (mown_wr (zd (mmul c (ent m.zs) (ent m'.zs) i j) x) hq (by omega)) ?_
        refine tr_round2 (j + 1) (qs.set i (q.1, q.2.set j (zd (mmul c (ent m.zs) (ent m'.zs) i j) x))) ⟨by omega, (hG.set hq (zd (mmul c (ent m.zs) (ent m'.zs) i j) x) (mmul c (ent m.zs) (ent m'.zs) i j) (zd_z _ _)).congr (fun a b _ _ => ?_), hcan.set hq (zd_can _ _)⟩ (by omega) ⟨rfl, rfl, rfl, rfl, rfl, rfl, rfl, rfl, trivial⟩ rfl (fun w h => ⟨h.1.1.set hq (zd_ok h.2.1 h.2.2), h.1.2⟩)
        unfold gset
        dsimp only
        split
        · rename_i h; rw [if_pos (by omega), h.1, h.2]
        · rename_i h
          by_cases h' : a < i ∨ (a = i ∧ b < j)
          · rw [if_pos h', if_pos (by omega)]
          · rw [if_neg h', if_neg (by omega)]
      ·
        have hje : j = m9.rs.length := by have := of_decide_eq_false hc; omega
        refine tr_exit ?_
        repeat with_reducible first | refine tr_skip ?_ | refine tr_exit ?_ | refine tr_then ?_ | refine tr_inX ?_ | refine tr_thenX ?_ | refine tr_inN ?_ | refine tr_inR ?_ | refine tr_thenR ?_
        refine tr_region ?_
        refine sq_q (qt_bin rfl rfl (bin_addI (by omega) (by omega))) rfl ?_
        refine sq_q (qt_move rfl) rfl ?_
        refine sq_nil ?_
        repeat with_reducible first | refine tr_skip ?_ | refine tr_exit ?_ | refine tr_then ?_ | refine tr_inX ?_ | refine tr_thenX ?_ | refine tr_inN ?_ | refine tr_inR ?_ | refine tr_thenR ?_
        refine tr_round2 (i + 1) qs ⟨by omega, hG.congr (fun a b ha hb => ?_), hcan⟩ (by omega) ⟨congrArg some evm.symm, congrArg some ev9.symm, rfl, rfl, rfl, trivial⟩ rfl (fun w h => h)
        by_cases h : a < i ∨ (a = i ∧ b < j)
        · rw [if_pos h, if_pos (by omega)]
        · rw [if_neg h, if_neg (by omega)]
    ·
      have hik : i = m.rs.length := by have := of_decide_eq_false hc; omega
      refine tr_exit ?_
      repeat with_reducible first | refine tr_skip ?_ | refine tr_exit ?_ | refine tr_then ?_ | refine tr_inX ?_ | refine tr_thenX ?_ | refine tr_inN ?_ | refine tr_inR ?_ | refine tr_thenR ?_
      refine tr_rseq ?_
      refine sq_q (qt_move rfl) rfl ?_
      refine sq_q (qt_assign rfl) rfl ?_
      refine sq_q (qt_assign rfl) rfl ?_
      refine sq_end ?_
      refine tr_ret ?_
      repeat with_reducible first | refine tr_skip ?_ | refine tr_exit ?_ | refine tr_then ?_ | refine tr_inX ?_ | refine tr_thenX ?_ | refine tr_inN ?_ | refine tr_inR ?_ | refine tr_thenR ?_
      refine tr_done (mmt ob qs) (fun a w s t => results_2 rfl (resv_tmp s (by rw [mmt_v, hG.1]; rfl)) (resv_tmp s rfl)) (fun w h ho _ => ⟨mmt_ok ho h.1, ?_, mmt_can hcan⟩)
      rw [mmt_zs, hG.zs]
      show grid _ m.rs.length m9.rs.length = grid (mmul c (ent m.zs) (ent m'.zs)) m.rs.length m9.rs.length
      unfold grid
      refine List.map_congr_left fun a ha => List.map_congr_left fun b hb => ?_
      have ha := List.mem_range.1 ha
      exact if_pos (by omega)
end Go.Qk
end
