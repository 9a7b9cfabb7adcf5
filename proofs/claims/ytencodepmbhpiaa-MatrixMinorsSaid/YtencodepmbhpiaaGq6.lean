/- Lemmas and contracts of functions that the law reaches. -/
import Derived.Test.YtencodepmbhpiaaGq5
set_option linter.unusedVariables false
set_option linter.unusedSimpArgs false
section
set_option linter.unusedVariables false
namespace Go.Qk
open Go Go.Proofs Go.RowKit
set_option maxRecDepth 100000
set_option maxHeartbeats 4000000
theorem gmatrix_ret (g : Gd) (k : Nat) (w0 : World) (S : Nat → Prop) (hg : g.ok w0) (hk : 1 ≤ k) (hk16 : k ≤ 16) :
    Ret Try.prog 30 [g.v, .int .i64 (k : Int)] w0 S Mt.v (fun m w => m.ok 2 w ∧ m.zs = g.zs k ∧ m.can) := by
  refine ret_of Try.func30 rfl Try.ntmps30 rfl ?_
  refine tr_rseq ?_
  refine sq_box rfl rfl fun r2 => ?_
  refine sq_q (qt_assign rfl) rfl ?_
  refine sq_end ?_
  refine tr_rseq ?_
  refine sq_q (qt_load_agg (vs := [.int .u8 (g.r : Int), .int .u8 (g.c : Int), .slice g.p.1 g.l.length g.p.2]) rfl rfl (fun w t j v hv => by rw [Nat.zero_add]; exact t.atO 0 rfl hv)) rfl ?_
  refine sq_q (qt_move rfl) rfl ?_
  refine sq_call Xm.v (fun m w => m.ok w ∧ m.zs = g.zs k) rfl rfl rfl (fun w t => ints_ret g k w _ (t.gd hg) hk hk16) fun m => ?_
  refine sq_have (fun w t => t.r.2.2) fun hz => ?_
  obtain ⟨hl, hr⟩ := xm_lens hz
  have h1 := Nat.mod_lt g.r (show 0 < k by omega)
  have h2 := Nat.mod_lt g.c (show 0 < k by omega)
  refine sq_call Mt.v (optF 2 (some (g.zs k))) rfl rfl rfl (fun w t => by have h := fun S' => of_ret m w S' t.r.2.1 (by omega) (fun r hr' => by rw [hr r hr']; omega); rw [hz, g.keep hk hk16] at h; exact h _) fun m2 => ?_
  refine sq_q (qt_assign rfl) rfl ?_
  refine sq_end ?_
  refine tr_ret ?_
  repeat with_reducible first | refine tr_skip ?_ | refine tr_exit ?_ | refine tr_then ?_ | refine tr_inX ?_ | refine tr_thenX ?_ | refine tr_inN ?_ | refine tr_inR ?_ | refine tr_thenR ?_
  exact tr_done m2 (fun a w s t => results_1 rfl (resv_tmp s rfl)) (fun w h _ _ => h.2)
end Go.Qk
end
section
set_option linter.unusedVariables false
namespace Go.Qk
open Go Go.Proofs Go.RowKit
theorem mt_ent {m : Mt} {i j : Nat} (hi : i < m.rs.length) (hj : j < m.rs[i].l.length) : ent m.zs i j = m.rs[i].l[j].z := by
  rw [ent_at (by rw [m.zs_len]; exact hi) (by rw [m.zs_at hi, Rw.zs_len]; exact hj)]
  simp [m.zs_at hi, Rw.zs]
theorem radd_zd {z z' : Zd} {B B' : Nat} {w : World} {S : Nat → Prop} (h : z.ok B w) (h' : z'.ok B' w) (hB : B < 35184372088832) (hB' : B' < 35184372088832) : Ret Try.prog 59 [z.v, z'.v] w S (iv (z.z + z'.z)) (Lz (z.z + z'.z).natAbs) :=
  radd_ret z.n z'.n z.xs z'.xs z.p z'.p w S h.1 h.2.1 h'.1 h'.2.1 (by have := h.2.2; omega) (by have := h'.2.2; omega)
end Go.Qk
end
section
set_option linter.unusedVariables false
namespace Go.Qk
open Go Go.Proofs Go.RowKit Go.ChangeShapes Go.WideShapes Go.Deep
section
variable {H : Type} {enc : TypeId × Value → H} {w : World} {fuel : Nat} {x : DataW H × List MemPlace} {cs : List Value}
theorem bytes_i8 : Try.prog.bytesOf 106 = 1 := by kernel_rfl
theorem cells_i8 : Try.prog.cellsOf 106 = 1 := by kernel_rfl
theorem bytes_int : Try.prog.bytesOf 3 = 8 := by kernel_rfl
theorem cells_int : Try.prog.cellsOf 3 = 1 := by kernel_rfl
theorem open_ints (h : DataW.trod enc Try.prog w 0 (fun _ => true) true fuel 22 cs = some x) (hw : ∀ n ∈ x.1.weights Try.prog 22, n ≤ reachBytes) : ∃ (l : List Int) (p : Sv), cs = [.slice p.1 l.length p.2] ∧ Rd p.1 (i64s l) w ∧ l.length ≤ 35184372088832 := by
  obtain ⟨zs, p, rfl, h1, h2, h3, h4⟩ := open_row1 Try.underlying22 Try.underlying3 cells_int h hw
  refine ⟨zs, p, rfl, h1, ?_⟩
  rw [bytes_int] at h4
  have h5 := Nat.le_trans h4 (Nat.le_refl reachBytes)
  have h6 : reachBytes ≤ 281474976710656 := by unfold reachBytes; decide
  omega
theorem cells_u8 : Try.prog.cellsOf 5 = 1 := by kernel_rfl
theorem cells_i8s : Try.prog.cellsOf 29 = 1 := by kernel_rfl
theorem cells_grid : Try.prog.cellsOf 31 = 3 := by kernel_rfl
theorem und_grid : ∃ f0 f1 f2 : Field, Try.prog.underlying 31 = some (.struct #[f0, f1, f2]) ∧ f0.offset = 0 ∧ f1.offset = 1 ∧ f2.offset = 2 ∧ f0.type = 5 ∧ f1.type = 5 ∧ f2.type = 29 := ⟨_, _, _, Try.underlying31, rfl, rfl, rfl, rfl, rfl, rfl⟩
theorem open_i8row (h : DataW.trod enc Try.prog w 0 (fun _ => true) true fuel 29 cs = some x) (hw : ∀ n ∈ x.1.weights Try.prog 29, n ≤ reachBytes) : ∃ (l : List Int) (p : Sv), cs = [.slice p.1 l.length p.2] ∧ Rd p.1 (i8s l) w ∧ l.length ≤ p.2 ∧ (∀ a ∈ l, -128 ≤ a ∧ a < 128) ∧ l.length ≤ 281474976710656 := by
  obtain ⟨zs, p, rfl, h1, h2, h3, h4⟩ := open_row1 Try.underlying29 Try.underlying106 cells_i8 h hw
  refine ⟨zs, p, rfl, h1, h2, fun a ha => wf_i8 (h3 a ha), ?_⟩
  have h5 := Nat.le_trans h4 (Nat.le_refl reachBytes)
  rw [bytes_i8, Nat.mul_one] at h5
  exact Nat.le_trans h5 (by unfold reachBytes; decide)
set_option maxRecDepth 100000 in
theorem open_grid {base : Nat} {v : Value} {d : DataW H} {p : List MemPlace} (hv : Value.okWide Try.prog w .any base 31 v) (h : DataW.Trod enc Try.prog w 0 (fun _ => true) true 31 v d p) (hw : ∀ n ∈ d.weights Try.prog 31, n ≤ reachBytes) : ∃ g : Gd, v = g.v ∧ g.ok w := by
  obtain ⟨f0, f1, f2, hu, o0, o1, o2, t0, t1, t2⟩ := und_grid
  obtain ⟨cs, rfl, hsz⟩ := okWide_struct hu hv
  rw [cells_grid] at hsz
  obtain ⟨fu, hf⟩ := h
  obtain ⟨xs, n, _, hx, _, hxl, hxs⟩ := DataW.trod_struct hu hf
  match cs, hsz with
  | ⟨[c0, c1, c2]⟩, _ =>
    match xs, hxl with
    | [y0, y1, y2], _ =>
      have h0 := hxs 0 f0 rfl
      have h1 := hxs 1 f1 rfl
      have h2 := hxs 2 f2 rfl
      rw [o0, t0, cells_u8] at h0
      rw [o1, t1, cells_u8] at h1
      rw [o2, t2, cells_i8s] at h2
      simp only [Value.cells, List.drop, List.take, List.getElem?_cons_zero, List.getElem?_cons_succ] at h0 h1 h2
      obtain ⟨r, e0, _, r1⟩ := DataW.trod_int Try.underlying5 h0
      obtain ⟨c, e1, _, c1'⟩ := DataW.trod_int Try.underlying5 h1
      obtain ⟨l, q, e2, l1, l2, l3, l4⟩ := open_i8row h2 (fun k hk => hw k (by
        injection hx with hx _
        rw [hx]
        simp only [DataW.weights, hu, List.map_cons, List.map_nil, DataW.weightsEach, t2, List.mem_append]
        exact .inr (.inr (.inl hk))))
      have r2 := wf_u8 r1
      have c2' := wf_u8 c1'
      obtain ⟨rn, rfl⟩ := Int.eq_ofNat_of_zero_le r2.1
      obtain ⟨cn, rfl⟩ := Int.eq_ofNat_of_zero_le c2'.1
      simp only [List.cons.injEq, and_true] at e0 e1 e2
      refine ⟨⟨rn, cn, l, q⟩, ?_, by dsimp only; omega, by dsimp only; omega, l1, l2, l4, l3⟩
      rw [e0, e1, e2]
      rfl
end
end Go.Qk
end
section
set_option linter.unusedVariables false
namespace Go.Qk
open Go Go.Proofs Go.RowKit
theorem grid_lens (f : Nat → Nat → Int) (r c : Nat) {n : Nat} (hr : r ≤ n) (hc : c ≤ n) : ((some (grid f r c)).getD []).length ≤ n ∧ ∀ q ∈ (some (grid f r c)).getD [], q.length ≤ n := by
  refine ⟨by simpa [grid] using hr, fun q hq => ?_⟩
  simp only [Option.getD_some, grid, List.mem_map] at hq
  obtain ⟨i, _, rfl⟩ := hq
  simpa using hc
theorem Gd.lens (g : Gd) (k : Nat) {n : Nat} (h1 : 1 ≤ k) (hk : k ≤ 16) (hn : 16 ≤ n) : (g.zs k).length ≤ n ∧ ∀ q ∈ g.zs k, q.length ≤ n := by
  have h1 := Nat.mod_lt g.r (show 0 < k by omega)
  have h2 := Nat.mod_lt g.c (show 0 < k by omega)
  have := grid_lens (g.e k) (1 + g.r % k) (1 + g.c % k) (n := n) (by omega) (by omega)
  exact this
end Go.Qk
end
section
set_option linter.unusedVariables false
set_option linter.unusedSimpArgs false
namespace Go.Qk
abbrev Mf := Nat → Nat → Int
section
variable {n : Nat} {F : Mf → Int}
end
end Go.Qk
end
section
set_option linter.unusedVariables false
namespace Go.Qk
open Go Go.Proofs Go.RowKit
theorem rmul_zd {z z' : Zd} {B B' : Nat} {w : World} {S : Nat → Prop} (h : z.ok B w) (h' : z'.ok B' w) (hB : B + B' ≤ 35184372088832) : Ret Try.prog 56 [z.v, z'.v] w S (iv (z.z * z'.z)) (Lz (z.z * z'.z).natAbs) :=
  rmul_ret z.n z'.n z.xs z'.xs z.p z'.p w S h.1 h.2.1 h'.1 h'.2.1 (by have := h.2.2; have := h'.2.2; omega)
theorem radd_iv {a b : Int} {p q : Sv} {w : World} {S : Nat → Prop} (h : Lz a.natAbs p w) (h' : Lz b.natAbs q w) (hB : nl a.natAbs < 35184372088832) (hB' : nl b.natAbs < 35184372088832) : Ret Try.prog 59 [iv a p, iv b q] w S (iv (a + b)) (Lz (a + b).natAbs) := by
  have g := radd_zd (S := S) (zd_ok h (Nat.le_refl _)) (zd_ok h' (Nat.le_refl _)) hB hB'
  rwa [zd_z, zd_z] at g
theorem zd_natAbs (z : Zd) : z.z.natAbs = val z.xs := sgn_natAbs _ _
theorem rnorm_zd {z : Zd} {B : Nat} {w : World} {S : Nat → Prop} (h : z.ok B w) (hB : B ≤ 35184372088832) : Ret Try.prog 91 [z.v] w S (iv z.z) (Lz z.z.natAbs) := by
  have g := rnormalize_ret z.n z.xs z.p w S h.1 h.2.1 (by have := h.2.2; omega)
  rw [zd_natAbs]
  exact g
theorem mt_lens {m : Mt} {f : Nat → Nat → Int} {r c : Nat} (h : m.zs = grid f r c) : m.rs.length = r ∧ ∀ q ∈ m.rs, q.l.length = c := by
  have h1 := congrArg List.length h
  simp only [Mt.zs, grid, List.length_map, List.length_range] at h1
  refine ⟨h1, fun q hq => ?_⟩
  have h2 : q.zs ∈ m.zs := List.mem_map.2 ⟨q, hq, rfl⟩
  rw [h] at h2
  simp only [grid, List.mem_map] at h2
  obtain ⟨i, _, e⟩ := h2
  rw [← Rw.zs_len, ← e]
  simp
theorem Mt.ok.at_eq {B : Nat} {m : Mt} {w : World} {r o : Nat} (h : m.ok B w) (e : m.v = .slice (some ⟨r, o, none⟩) m.rs.length m.p.2) {i : Nat} (hi : i < m.rs.length) : At r (o + i) (m.rs[i]).v w := by
  obtain ⟨r', o', e', h'⟩ := h.at_ (by omega)
  rw [e] at e'
  simp only [Value.slice.injEq, Option.some.injEq, Addr.mk.injEq, and_true] at e'
  obtain ⟨rfl, rfl⟩ := e'
  exact h' i hi
end Go.Qk
end
section
set_option linter.unusedVariables false
set_option linter.unusedSimpArgs false
namespace Go.Qk
open Go Go.RowKit
section
variable {P : Program} {n : Nat} {w0 : World} {X : List Nat} {S : Nat → Prop} {E : Env} {own : Own} {R : World → Prop} {Q : Exit → Act → World → Prop} {ops : Array Oper} {rest : List Oper} {ws : List Nat}
/-- in every order; operations that are not among 'ws' leave the old memory as it is -/
def wpAnyT (P : Program) (ops : Array Oper) (Q : Exit → Act → World → Prop) (ws : List Nat) : Nat → Array Bool → Act → World → Prop
  | 0, listed, a, w => Region.ready .any ops listed = [] ∧ Q .normal a w
  | fuel + 1, listed, a, w => (Region.ready .any ops listed = [] → Q .normal a w) ∧
    ∀ i ∈ Region.ready .any ops listed, wpOp P ops Q i (fun a' w' => (ws.contains i = false → Below w.heap.size w w') ∧ wpAnyT P ops Q ws fuel (listed.setIfInBounds i true) a' w') a w
theorem wpAny_of_T : ∀ (fuel : Nat) (listed : Array Bool) (a : Act) (w : World), wpAnyT P ops Q ws fuel listed a w → wpAny P .any ops Q fuel listed a w
  | 0, _, _, _, h => h
  | fuel + 1, _, _, _, h => ⟨h.1, fun i hi => wpOp_mono (fun a' w' h' => wpAny_of_T fuel _ a' w' h'.2) (h.2 i hi)⟩
theorem mem_aft {o : Oper} {k : Nat} : k ∈ aft o ↔ ∃ e ∈ o.after, Region.binds .any e = true ∧ e.on = k := by
  unfold aft
  simp only [List.mem_map, List.mem_filter, Array.mem_toList_iff]
  constructor
  · rintro ⟨e, ⟨h1, h2⟩, h3⟩; exact ⟨e, h1, h2, h3⟩
  · rintro ⟨e, h1, h2, h3⟩; exact ⟨e, ⟨h1, h2⟩, h3⟩
theorem closed_set {listed : Array Bool} {j : Nat} (hclo : ∀ q o, ops[q]? = some o → listed.getD q false = true → ∀ k ∈ aft o, listed.getD k false = true) (hj : j ∈ Region.ready .any ops listed) :
    ∀ q o, ops[q]? = some o → (listed.setIfInBounds j true).getD q false = true → ∀ k ∈ aft o, (listed.setIfInBounds j true).getD k false = true := by
  intro q o ho hq k hk
  refine getD_set_true ?_
  by_cases hqj : q = j
  · subst hqj
    obtain ⟨_, o', ho', hall⟩ := mem_ready.1 hj
    rw [ho] at ho'
    injection ho' with ho'
    subst ho'
    obtain ⟨e, he, hb, rfl⟩ := mem_aft.1 hk
    exact hall e he hb
  · rw [getD_set_ne false (Ne.symm hqj)] at hq
    exact hclo q o ho hq k hk
/-- the worlds in which an operation that is taken first must answer: all, or those in which the old memory is as it was -/
def Sw (pu : Bool) (w w' : World) : Prop := pu = true ∨ Below w.heap.size w w'
theorem wpAnyT_first (pu : Bool) {i : Nat} {oi : Oper} {v : Value} (hi : ops[i]? = some oi) (hsel : ∀ (j : Nat) (o : Oper) cs b, ops[j]? = some o → o.op ≠ .select cs b)
    (hQ : ∀ c a w, Q (.panic c) (a.put oi.dst v) w → Q (.panic c) a w) :
    ∀ (fuel : Nat) (listed : Array Bool) (a : Act) (w : World),
      (∀ s ∈ ws, ∀ o, ops[s]? = some o → pu = true ∨ listed.getD s false = true ∨ reach ops 2 (aft o) i = true) →
      (∀ j oj, ops[j]? = some oj → j ≠ i → listed.getD j true = false → (∀ e ∈ oj.after, Region.binds .any e = true → e.on ≠ i) → oi.apart ops oj = true) →
      (∀ q o, ops[q]? = some o → listed.getD q false = true → ∀ k ∈ aft o, listed.getD k false = true) →
      i ∈ Region.ready .any ops listed → YieldsIf P ops (Sw pu w) oi v a →
      wpAnyT P ops Q ws fuel (listed.setIfInBounds i true) (a.put oi.dst v) w → wpAnyT P ops Q ws (fuel + 1) listed a w := by
  intro fuel
  induction fuel with
  | zero =>
    intro listed a w _ _ _ hr hy H
    refine ⟨fun h => (by rw [h] at hr; cases hr), fun j hj => ?_⟩
    by_cases hji : j = i
    · subst hji; exact hy.wpOp hi (.inr (Below.refl _ _)) ⟨fun _ => Below.refl _ _, H⟩
    · have := ready_mono hj hji
      rw [H.1] at this
      cases this
  | succ fuel ih =>
    intro listed a w hws hfree hclo hr hy H
    refine ⟨fun h => (by rw [h] at hr; cases hr), fun j hj => ?_⟩
    by_cases hji : j = i
    · subst hji; exact hy.wpOp hi (.inr (Below.refl _ _)) ⟨fun _ => Below.refl _ _, H⟩
    · have h1 := H.2 j (ready_mono hj hji)
      obtain ⟨hjun, oj, hoj, hall⟩ := mem_ready.1 hj
      have hnl : listed.getD i false = false := by
        have h0 := (mem_ready.1 hr).1
        cases hq : listed.getD i false with
        | false => rfl
        | true =>
          exfalso
          rcases Nat.lt_or_ge i listed.size with h' | h'
          · simp [h'] at h0 hq; rw [h0] at hq; cases hq
          · simp [Array.getElem?_eq_none h'] at hq
      have hnot : ∀ e ∈ oj.after, Region.binds .any e = true → e.on ≠ i := fun e he hb heq => by
        have h1 := hall e he hb
        rw [heq, hnl] at h1
        cases h1
      have hnw : pu = true ∨ ws.contains j = false := by
        cases hc : ws.contains j with
        | false => exact .inr rfl
        | true =>
          refine (hws j (by simpa using hc) oj hoj).imp id fun h2 => ?_
          exfalso
          have h2 := h2.resolve_left fun h => (by
            rcases Nat.lt_or_ge j listed.size with h' | h'
            · simp [h'] at hjun h; rw [hjun] at h; cases h
            · simp [Array.getElem?_eq_none h'] at h)
          have h3 := reach_ok (D := fun k => listed.getD k false) hclo 2 (aft oj) i (fun k hk => by
            obtain ⟨e, he, hb, rfl⟩ := mem_aft.1 hk
            exact hall e he hb) h2
          rw [hnl] at h3
          cases h3
      have h2 := wpOp_putIf hoj (hfree j oj hoj hji hjun hnot) (fun cs b => hsel i oi cs b hi) (fun cs b => hsel j oj cs b hoj) hQ hy h1
      have hfree' : ∀ k ok, ops[k]? = some ok → k ≠ i → (listed.setIfInBounds j true).getD k true = false →
          (∀ e ∈ ok.after, Region.binds .any e = true → e.on ≠ i) → oi.apart ops ok = true := fun k ok hk hki hun hno => by
        refine hfree k ok hk hki ?_ hno
        by_cases hjk : j = k
        · subst hjk; exact hjun
        · rw [getD_set_ne true hjk] at hun; exact hun
      refine wpOp_mono (fun a' w' h3 => ?_) h2
      obtain ⟨h4, h5, h6⟩ := h3
      have hb : Sw pu w w' := hnw.imp id h5
      refine ⟨h5, ih (listed.setIfInBounds j true) a' w' (fun s hs o ho => (hws s hs o ho).imp id (·.imp getD_set_true id)) hfree' (closed_set hclo hj) (ready_mono hr (Ne.symm hji)) ?_ ?_⟩
      · rcases h4 with ⟨e1, e2⟩ | e1
        · refine .inl ⟨e1, fun w'' h => e2 w'' ?_⟩
          rcases h with h | h
          · exact .inl h
          · exact hb.imp id fun hb => hb.trans (h.mono hb.size)
        · exact .inr e1
      · rw [Array.setIfInBounds_comm _ _ hji]
        exact h6
def closedB (ops : Array Oper) (listed : Array Bool) : Bool := (List.range ops.size).all fun q => !listed.getD q false || match ops[q]? with
  | some o => (aft o).all fun k => listed.getD k false
  | none => true
theorem closedB_ok {listed : Array Bool} (h : closedB ops listed = true) : ∀ q o, ops[q]? = some o → listed.getD q false = true → ∀ k ∈ aft o, listed.getD k false = true := by
  intro q o ho hq k hk
  have hlt : q < ops.size := (Array.getElem?_eq_some_iff.1 ho).1
  have h1 := List.all_eq_true.1 h q (by simpa using hlt)
  rw [hq, ho] at h1
  simp only [Bool.not_true, Bool.false_or] at h1
  exact List.all_eq_true.1 h1 k hk
/-- may operation 'i' be taken now, though it reads memory? -/
def tkB (ops : Array Oper) (ws : List Nat) (listed : Array Bool) (i : Nat) : Bool := Region.noSelect ops && Region.free .any ops listed i && (Region.ready .any ops listed).contains i && closedB ops listed &&
  ws.all fun s => match ops[s]? with
    | some o => listed.getD s false || reach ops 2 (aft o) i
    | none => true
/-- a panic's end does not look at the slots -/
class PkI (Q : Exit → Act → World → Prop) : Prop where
  h : Pk Q
instance {k : Act → World → Prop} [h : PkI Q] : PkI (Exit.then k Q) := ⟨pk_then h.h⟩
instance {id : Nat} [h : PkI Q] : PkI (Exit.inBlock id Q) := ⟨pk_in h.h⟩
instance {fn : Func} {F : Ending → World → Prop} : PkI (bodyPost P fn F) := ⟨pk_body⟩
/-- the walk of such a region -/
def Sb (P : Program) (ops : Array Oper) (Q : Exit → Act → World → Prop) (n : Nat) (w0 : World) (X : List Nat) (S : Nat → Prop) (ws : List Nat) (fuel : Nat) (listed : Array Bool) (E : Env) (own : Own) (R : World → Prop) : Prop :=
  ∀ a w, St n a E → SS w0 X S own R w → wpAnyT P ops Q ws fuel listed a w
theorem tr_sb (ws : List Nat) [hM : Mx P] {id : Nat} {l : List Oper} (h : Sb P l.toArray Q n w0 X S ws l.length (Array.replicate l.length false) E own R) : Tr n w0 X S E own R ((Code.region id l.toArray true).wp P Q) := fun a w s t =>
  wp_region_any hM.m (wpAny_of_T _ _ _ _ (by have := h a _ s (t.drawn (w.drawn + 1)); simp only [List.size_toArray]; exact this))
theorem tr_rsb (ws : List Nat) [hM : Mx P] {id : Nat} {l : List Oper} {d : Code} (h : Sb P l.toArray (Exit.then (d.wp P Q) Q) n w0 X S ws l.length (Array.replicate l.length false) E own R) : Tr n w0 X S E own R ((Code.seq (.region id l.toArray true) d).wp P Q) := tr_seq (tr_sb ws h)
/-- an operation that changes nothing is taken first -/
theorem sb_q (i : Nat) {fuel : Nat} {listed : Array Bool} {op : Op} {ty : TypeId} {v : Value} {d : Nat} {pos : String} {af : Array Edge} (hi : ops[i]? = some ⟨some d, op, ty, pos, af, none⟩) (hc : tkB ops ws listed i = true) [hQ : PkI Q]
    (hq : Qt P (SS w0 X S own R) (look E) op ty v) (hd : Nat.blt d n = true) (h : Sb P ops Q n w0 X S ws fuel (listed.setIfInBounds i true) ((d, v) :: E) own R) : Sb P ops Q n w0 X S ws (fuel + 1) listed E own R := by
  intro a w s t
  unfold tkB at hc
  simp only [Bool.and_eq_true] at hc
  refine wpAnyT_first false hi (Region.noSelect_spec hc.1.1.1.1) (fun c a w h => hQ.h c a w _ _ h) _ _ _ _ (fun q hq o ho => ?_) (Region.free_spec hi hc.1.1.1.2) (closedB_ok hc.1.2) (by simpa using hc.1.1.2) (.inl ⟨wanted_none rfl, fun w' hw' => hq _ w' s.agr (t.grow (hw'.resolve_left (by simp))) _ _ _ _⟩) (h _ _ (s.put hd v) t)
  have := List.all_eq_true.1 hc.2 q hq
  rw [ho] at this
  exact .inr ((Bool.or_eq_true _ _).mp this)
/-- the same where writing operations may come ahead of it: it reads no memory -/
theorem sb_p (i : Nat) {fuel : Nat} {listed : Array Bool} {op : Op} {ty : TypeId} {v : Value} {d : Nat} {pos : String} {af : Array Edge} (hi : ops[i]? = some ⟨some d, op, ty, pos, af, none⟩) (hc : tkB ops [] listed i = true) [hQ : PkI Q]
    (hq : Qt P (fun _ => True) (look E) op ty v) (hd : Nat.blt d n = true) (h : Sb P ops Q n w0 X S ws fuel (listed.setIfInBounds i true) ((d, v) :: E) own R) : Sb P ops Q n w0 X S ws (fuel + 1) listed E own R := by
  intro a w s t
  unfold tkB at hc
  simp only [Bool.and_eq_true] at hc
  exact wpAnyT_first true hi (Region.noSelect_spec hc.1.1.1.1) (fun c a w h => hQ.h c a w _ _ h) _ _ _ _ (fun q hq o ho => .inl rfl) (Region.free_spec hi hc.1.1.1.2) (closedB_ok hc.1.2) (by simpa using hc.1.1.2) (.inl ⟨wanted_none rfl, fun w' hw' => hq _ w' s.agr trivial _ _ _ _⟩) (h _ _ (s.put hd v) t)
/-- one operation first, then the others -/
def Sbo (P : Program) (ops : Array Oper) (Q : Exit → Act → World → Prop) (n : Nat) (w0 : World) (X : List Nat) (S : Nat → Prop) (ws : List Nat) (fuel : Nat) (listed : Array Bool) (i : Nat) (E : Env) (own : Own) (R : World → Prop) : Prop :=
  ∀ a w, St n a E → SS w0 X S own R w → wpOp P ops Q i (fun a' w' => (ws.contains i = false → Below w.heap.size w w') ∧ wpAnyT P ops Q ws fuel (listed.setIfInBounds i true) a' w') a w
theorem sb_one (i : Nat) {fuel : Nat} {listed : Array Bool} (hr : Region.ready .any ops listed = [i]) (h1 : Sbo P ops Q n w0 X S ws fuel listed i E own R) : Sb P ops Q n w0 X S ws (fuel + 1) listed E own R := by
  intro a w s t
  unfold wpAnyT
  refine ⟨fun h => (by rw [hr] at h; cases h), fun k hk => ?_⟩
  rw [hr] at hk
  obtain rfl := List.mem_singleton.1 hk
  exact h1 a w s t
theorem sb_two (i j : Nat) {fuel : Nat} {listed : Array Bool} (hr : Region.ready .any ops listed = [i, j]) (h1 : Sbo P ops Q n w0 X S ws fuel listed i E own R) (h2 : Sbo P ops Q n w0 X S ws fuel listed j E own R) : Sb P ops Q n w0 X S ws (fuel + 1) listed E own R := by
  intro a w s t
  unfold wpAnyT
  refine ⟨fun h => (by rw [hr] at h; cases h), fun k hk => ?_⟩
  rw [hr] at hk
  rcases List.mem_cons.1 hk with rfl | hk
  · exact h1 a w s t
  · obtain rfl := List.mem_singleton.1 hk
    exact h2 a w s t
theorem sb_end {fuel : Nat} {listed : Array Bool} (hr : Region.ready .any ops listed = []) (h : Tr n w0 X S E own R (Q .normal)) : Sb P ops Q n w0 X S ws fuel listed E own R := fun a w s t => by
  cases fuel with
  | zero => unfold wpAnyT; exact ⟨hr, h a w s t⟩
  | succ f => unfold wpAnyT; exact ⟨fun _ => h a w s t, by rw [hr]; simp⟩
theorem sb_endk {fuel : Nat} {listed : Array Bool} {k : Act → World → Prop} (hr : Region.ready .any ops listed = []) (h : Tr n w0 X S E own R k) : Sb P ops (Exit.then k Q) n w0 X S ws fuel listed E own R := sb_end hr h
/-- an operation that changes nothing, at its turn -/
theorem so2_q {i : Nat} {fuel : Nat} {listed : Array Bool} {op : Op} {ty : TypeId} {v : Value} {d : Nat} {pos : String} {af : Array Edge} (hi : ops[i]? = some ⟨some d, op, ty, pos, af, none⟩)
    (hq : Qt P (SS w0 X S own R) (look E) op ty v) (hd : Nat.blt d n = true) (h : Sb P ops Q n w0 X S ws fuel (listed.setIfInBounds i true) ((d, v) :: E) own R) : Sbo P ops Q n w0 X S ws fuel listed i E own R := by
  intro a w s t
  unfold wpOp
  rw [hi]
  refine (if_pos (wanted_none rfl)).mpr (.inl ?_)
  unfold Oper.wp
  rw [hq _ w s.agr t]
  exact ⟨fun _ => Below.refl _ _, h _ _ (s.put hd v) t⟩
theorem so2_call {i : Nat} {α : Type} {fuel : Nat} {listed : Array Bool} {c : Operand} {f : FuncId} {pre cap : List Value} {xs : List Operand} {vs : List Value} {ats : Array TypeId} {ty : TypeId} {d : Nat} {pos : String} {af : Array Edge} (val : α → Value) (F : α → World → Prop) [hB : FnB P f]
    (hi : ops[i]? = some ⟨some d, .call { callee := .value c, args := xs.toArray, argTypes := ats }, ty, pos, af, none⟩) (hc : fnv (look E) c f pre cap) (hxs : evs (look E) xs = some vs) (hd : Nat.blt d n = true)
    (hcall : ∀ w, SS w0 X S own R w → Ret P f (pre ++ vs ++ cap) w (Nn w0 S own w) val F)
    (h : ∀ x, Sb P ops Q n w0 X S ws fuel (listed.setIfInBounds i true) ((d, val x) :: E) own (fun w => R w ∧ F x w)) : Sbo P ops Q n w0 X S ws fuel listed i E own R := by
  intro a w s t
  unfold wpOp
  rw [hi]
  refine (if_pos (wanted_none rfl)).mpr (.inl ?_)
  unfold Oper.wp
  rw [run_call s.agr hc hxs, Oper.upon_enter]
  refine (hcall w t).mono ?_
  rintro e w' ⟨x, rfl, hb, hf⟩
  exact ⟨fun _ => hb, h x _ _ (s.put hd _) (t.add hb hf fun k hk => hk)⟩
theorem so2_lit {i : Nat} {fuel : Nat} {listed : Array Bool} {t e : TypeId} {agg : Bool} {sz by_ : Nat} {z : Value} [hs : SlT P t e] [hT : TyI P e agg sz by_ z] {len : Nat} {xs : List (Nat × Operand)} {vs : List (Nat × Value)} {cells : List Value} {ty : TypeId} {d : Nat} {pos : String} {af : Array Edge} (hi : ops[i]? = some ⟨some d, .buildSlice t len xs.toArray, ty, pos, af, none⟩) (hx : evp (look E) xs = some vs)
    (hlen : Nat.ble (len * sz) 1000 = true) (hpos : Nat.blt 0 (len * sz) = true) (hf : Instr.fill (fun i => some (i * sz, sz)) ((Array.range (len * sz)).map (z.cells[· % z.cells.size]!)) vs = some cells.toArray) (hd : Nat.blt d n = true)
    (h : ∀ r, Sb P ops Q n w0 X S ws fuel (listed.setIfInBounds i true) ((d, .slice (some ⟨r, 0, none⟩) len len) :: E) ((r, .cells cells.toArray e (0, 0)) :: own) R) : Sbo P ops Q n w0 X S ws fuel listed i E own R := by
  intro a w s t'
  unfold wpOp
  rw [hi]
  refine (if_pos (wanted_none rfl)).mpr (.inl ?_)
  have h1 : ¬ (len * sz > 2 ^ 24) := by have : len * sz ≤ 1000 := by simpa using hlen
                                        omega
  have h2 : ¬ (len * sz = 0) := by have : 0 < len * sz := by simpa using hpos
                                   omega
  have e0 : (List.map (fun (x : Nat × Operand) => match x with | (i, x) => (i, a.eval x)) xs) = vs := by rw [← evp_map s.agr hx]
  have e : (execOp a.eval ⟨some d, .buildSlice t len xs.toArray, ty, pos, af, none⟩).run P w = .ok (.value (.slice (some ⟨w.heap.size, 0, none⟩) len len)) (w.alloc (.cells cells.toArray e (0, 0))) := by
    simp only [execOp, List.map_toArray, e0, Instr.buildSlice, Sem.run_bind, run_underlying hs.u, Result.andThen_ok, hT.sizeOf w, if_neg h1, if_neg h2, Sem.run_pure, hT.zero w, hf]
    simp [newRow]
  unfold Oper.wp
  rw [e]
  exact ⟨fun _ => (Below.refl _ _).alloc (Nat.le_refl _) _, h _ _ _ (s.put hd _) (t'.alloc _)⟩
theorem so2_store {i : Nat} (k : Nat) {fuel : Nat} {listed : Array Bool} {t : TypeId} {agg : Bool} {sz by_ : Nat} {z : Value} [hT : TyI P t agg sz by_ z] {x y : Operand} {r off : Nat} {l : List Value} {e : TypeId} {v : Value} {ty : TypeId} {pos : String} {af : Array Edge} (hi : ops[i]? = some ⟨none, .store t x y, ty, pos, af, none⟩) (hw : ws.contains i = true)
    (hx : ev (look E) x = some (.pointer (some ⟨r, off, none⟩))) (hy : ev (look E) y = some v)
    (hk : ownAt own k = some (r, .cells l.toArray e (0, 0))) (hv : v.cells.size = sz) (hl : off + sz ≤ l.length) (hsz : Nat.blt 0 sz = true) (h1 : one' v.cells.toList = true)
    (h : Sb P ops Q n w0 X S ws fuel (listed.setIfInBounds i true) E (ownSet own k (.cells (wr l off v.cells.toList).toArray e (0, 0))) R) : Sbo P ops Q n w0 X S ws fuel listed i E own R := by
  intro a w s t'
  unfold wpOp
  rw [hi]
  refine (if_pos (wanted_none rfl)).mpr (.inl ?_)
  obtain ⟨w', e1, e2⟩ := run_storeVar_own (P := P) (t := t) (w := w) (off := off) (v := v) (t'.has _ (ownAt_mem hk)) hv hl (by simpa using hsz) (fun u hu => (List.all_eq_true.1 h1) u hu)
  have e : (execOp a.eval ⟨none, .store t x y, ty, pos, af, none⟩).run P w = .ok .skip w' := by
    simp only [execOp, s.agr x _ hx, s.agr y _ hy, Instr.storeAt, Instr.sureAddr, Sem.run_bind, Sem.run_pure, Result.andThen_ok, e1]
  unfold Oper.wp
  rw [e]
  exact ⟨fun hc => (by rw [hw] at hc; cases hc), h _ _ s (t'.upd hk e2)⟩
/-- a rule of sequences, for one operation that writes -/
def Qn (Q : Exit → Act → World → Prop) (K : Act → World → Prop) : Exit → Act → World → Prop
  | .normal => K
  | e => Q e
theorem wp_qn {o : Oper} {a : Act} {w : World} {K K' : Act → World → Prop} (h : o.wp P a w K' (Qn Q K)) : o.wp P a w K' Q := by
  unfold Oper.wp at *
  generalize (execOp a.eval o).run P w = r at *
  cases r with
  | ok x w' =>
    cases x <;> simp only [Oper.upon] at h ⊢ <;>
      first
        | exact h
        | exact Calls.mono h (fun e w'' he => by cases e <;> exact he)
        | exact Rows.mono h (fun _ _ he => he)
  | halt x w' => cases x <;> simp only [Oper.upon] at h ⊢ <;> exact h
theorem so2_of {i : Nat} {fuel : Nat} {listed : Array Bool} {o : Oper} (hi : ops[i]? = some o) (hw : ws.contains i = true) (h : Sq P ops (Qn Q (wpAnyT P ops Q ws fuel (listed.setIfInBounds i true))) n w0 X S [o] E own R) : Sbo P ops Q n w0 X S ws fuel listed i E own R := by
  intro a w s t
  have h' := h a w s t
  unfold wpList at h'
  unfold wpOp
  rw [hi]
  simp only
  split at h'
  · rename_i hg
    rw [if_pos hg]
    rcases h' with h' | h'
    · exact .inl (Oper.wp_mono (fun a' w' h => ⟨fun hc => (by rw [hw] at hc; cases hc), h⟩) (wp_qn h'))
    · exact .inr h'
  · rename_i hg
    rw [if_neg hg]
    exact ⟨fun hc => (by rw [hw] at hc; cases hc), h'⟩
theorem sq_back {fuel : Nat} {listed : Array Bool} (h : Sb P ops Q n w0 X S ws fuel listed E own R) : Sq P ops (Qn Q (wpAnyT P ops Q ws fuel listed)) n w0 X S [] E own R := fun a w s t => wpList_nil (h a w s t)
end
end Go.Qk
end
section
set_option linter.unusedVariables false
namespace Go.Qk
open Go Go.Proofs Go.RowKit
section
variable {z z' : Zd} {a b : Int} {p q : Sv} {B B' : Nat} {w : World} {S : Nat → Prop}
theorem rsign_zd (h : z.ok B w) (hB : B ≤ 35184372088832) : Ret Try.prog 111 [z.v] w S (fun _ : Unit => .int .i64 z.z.sign) (fun _ _ => True) :=
  rsign_ret z.n z.xs z.p w S h.1 h.2.1 (by have := h.2.2; omega)
theorem rsign_iv (h : Lz a.natAbs p w) (hB : nl a.natAbs ≤ 35184372088832) : Ret Try.prog 111 [iv a p] w S (fun _ : Unit => .int .i64 a.sign) (fun _ _ => True) := by
  have g := rsign_zd (S := S) (zd_ok h (Nat.le_refl _)) hB
  rwa [zd_z] at g
theorem rsub_zd (h : z.ok B w) (h' : z'.ok B' w) (hB : B < 35184372088832) (hB' : B' < 35184372088832) : Ret Try.prog 113 [z.v, z'.v] w S (iv (z.z - z'.z)) (Lz (z.z - z'.z).natAbs) :=
  rsub_ret z.n z'.n z.xs z'.xs z.p z'.p w S h.1 h.2.1 h'.1 h'.2.1 (by have := h.2.2; omega) (by have := h'.2.2; omega)
theorem rsub_iv (h : Lz a.natAbs p w) (h' : Lz b.natAbs q w) (hB : nl a.natAbs < 35184372088832) (hB' : nl b.natAbs < 35184372088832) : Ret Try.prog 113 [iv a p, iv b q] w S (iv (a - b)) (Lz (a - b).natAbs) := by
  have g := rsub_zd (S := S) (zd_ok h (Nat.le_refl _)) (zd_ok h' (Nat.le_refl _)) hB hB'
  rwa [zd_z, zd_z] at g
end
theorem dm_pos {n n' : Bool} {m k : Nat} (h : k ≠ 0) (h0 : ¬ sgn n (m % k) < 0) : sgn n m / sgn n' k = sgn (n != n') (m / k) ∧ sgn n m % sgn n' k = sgn n (m % k) := by
  have e : n = true → m % k = 0 := fun hn => by subst hn; simp only [sgn] at h0; simp only [if_pos] at h0; omega
  obtain ⟨h1, h2⟩ := dm_keep (n := n) (n' := n') h e
  refine ⟨h1, ?_⟩
  rw [h2]
  cases n with
  | false => rfl
  | true => rw [e rfl]; rfl
theorem dm_neg {n n' : Bool} {m k : Nat} (h : k ≠ 0) (h0 : sgn n (m % k) < 0) : sgn n m % sgn n' k = sgn n (m % k) + (k : Int) ∧ sgn n m / sgn n' k = sgn (n != n') (m / k) + (if sgn n' k < 0 then 1 else -1) := by
  cases n with
  | false => simp only [sgn] at h0; simp only [Bool.false_eq_true, if_false] at h0; omega
  | true =>
    have h2 : 0 < m % k := by simp only [sgn, if_pos] at h0; omega
    have hlt := Nat.mod_lt m (Nat.pos_of_ne_zero h)
    obtain ⟨e1, e2⟩ := dm_up (n' := n') h h2
    rw [e1, e2]
    refine ⟨by simp only [sgn, if_pos]; omega, ?_⟩
    cases n' with
    | true => rw [if_pos (by simp only [sgn, if_pos]; omega)]; show ((m / k + 1 : Nat) : Int) = ((m / k : Nat) : Int) + 1; omega
    | false => rw [if_neg (by simp only [sgn, Bool.false_eq_true, if_false]; omega)]; show -((m / k + 1 : Nat) : Int) = -((m / k : Nat) : Int) + -1; omega
end Go.Qk
end
section
set_option linter.unusedVariables false
namespace Go.Qk
open Go Go.Proofs Go.RowKit
set_option maxRecDepth 100000
set_option maxHeartbeats 4000000
theorem rdivmod_ret (n n' : Bool) (xs ys : List Nat) (p p' : Sv) (w : World) (S : Nat → Prop) (hx : Lm xs p w) (lx : lim xs) (hy : Lm ys p' w) (ly : lim ys) (hb : xs.length < 35184372088831) (hb' : ys.length < 35184372088831) :
    Ret Try.prog 123 [ig n xs p, ig n' ys p'] w S (fun q : Sv × Sv => .tuple #[iv (sgn n (val xs) / sgn n' (val ys)) q.1, iv (if (val ys) = 0 then 0 else sgn n (val xs) % sgn n' (val ys)) q.2, .bool (decide ((val ys) ≠ 0))]) (fun q w => Lz (sgn n (val xs) / sgn n' (val ys)).natAbs q.1 w ∧ Lz (if (val ys) = 0 then 0 else sgn n (val xs) % sgn n' (val ys)).natAbs q.2 w) := by
  have hxn := nl_val lx
  have hyn := nl_val ly
  obtain ⟨m, hm⟩ : ∃ m, m = val xs := ⟨_, rfl⟩
  obtain ⟨k, hk⟩ : ∃ k, k = val ys := ⟨_, rfl⟩
  rw [← hm] at hxn ⊢
  rw [← hk] at hyn ⊢
  refine ret_of Try.func123 rfl Try.ntmps123 rfl ?_
  refine tr_rseq ?_
  refine sq_box rfl rfl fun r2 => ?_
  refine sq_box rfl rfl fun r3 => ?_
  refine sq_alloc rfl fun r4 => ?_
  refine sq_alloc rfl fun r5 => ?_
  refine sq_q (qt_assign rfl) rfl ?_
  refine sq_end ?_
  refine tr_rdraw0 [0, 1, 2, 3, 4, 5, 6, 7, 8, 9, 10, 11, 12, 21, 43, 50] (by kernel_rfl) ?_
  refine dx_q rfl (qt_fieldAddr rfl) rfl ?_
  refine dx_q rfl (qt_load rfl (fun w t => t.atO 3 rfl rfl)) rfl ?_
  refine dx_call (slv (limbsOf m)) (Lz m) rfl rfl rfl (fun w t => by rw [hm]; exact rtrim_ret xs p.1 p.2 w _ (t.lm hx).1 lx hx.2 (by omega)) ?_
  refine dx_q rfl (qt_fieldAddr rfl) rfl ?_
  refine dx_q rfl (qt_load rfl (fun w t => t.atO 2 rfl rfl)) rfl ?_
  refine dx_call (slv (limbsOf k)) (Lz k) rfl rfl rfl (fun w t => by rw [hk]; exact rtrim_ret ys p'.1 p'.2 w _ (t.lm hy).1 ly hy.2 (by omega)) ?_
  refine dx_q1 15 (slv (limbsOf m)) rfl rfl (fun o ho => mem_looksAt (by rw [ho]; simp [Op.operands])) (fun _ => qt_assign rfl) rfl ?_
  refine dx_q1 18 (slv (limbsOf k)) rfl rfl (fun o ho => mem_looksAt (by rw [ho]; simp [Op.operands])) (fun _ => qt_assign rfl) rfl ?_
  refine dx_nil ?_
  repeat (first | refine es_val rfl ?_ rfl | refine es_res rfl (fun x => ?_) rfl | refine es_skip rfl ?_)
  refine es_nil rfl ?_
  refine tx_endk ?_
  rename_i x5
  revert x
  intro x6
  refine tr_seq ?_
  refine tr_rseq ?_
  refine sq_q (qt_move rfl) rfl ?_
  refine sq_q (qt_len rfl) rfl ?_
  refine sq_q (qt_bin rfl rfl bin_eql) rfl ?_
  refine sq_end ?_
  refine tr_if rfl (fun hc => ?_) (fun hc => ?_)
  ·
    have h0 : k = 0 := nl_zero.1 (by have := of_decide_eq_true hc; unfold nl; omega)
    refine tr_rseq ?_
    refine sq_q (qt_build rfl built0) rfl ?_
    refine sq_q (qt_build rfl built0) rfl ?_
    refine sq_store 1 rfl rfl rfl rfl (by first | (simp [u32s, Value.cells]; done) | (simp [u32s, Value.cells]; omega) | exact Nat.le_refl 2) rfl rfl ?_
    refine sq_store 0 rfl rfl rfl rfl (by first | (simp [u32s, Value.cells]; done) | (simp [u32s, Value.cells]; omega) | exact Nat.le_refl 2) rfl rfl ?_
    refine sq_q (qt_assign rfl) rfl ?_
    refine sq_end ?_
    refine tr_ret ?_
    repeat with_reducible first | refine tr_skip ?_ | refine tr_exit ?_ | refine tr_then ?_ | refine tr_inX ?_ | refine tr_thenX ?_ | refine tr_inN ?_ | refine tr_inR ?_ | refine tr_thenR ?_
    have e1 : sgn n m / sgn n' k = 0 := by rw [h0, show sgn n' 0 = 0 by unfold sgn; split <;> rfl, Int.ediv_zero]
    rw [e1, if_pos h0]
    rw [show decide (k ≠ 0) = false from decide_eq_false (fun h => absurd h0 h)]
    refine tr_done ((none, 0), (none, 0)) (fun a w s t => results_3 rfl (by rw [iv_zero]; exact resv_cell 1 s t rfl rfl rfl) (by rw [iv_zero]; exact resv_cell 0 s t rfl rfl rfl) (resv_tmp s rfl)) (fun w _ _ _ => ?_)
    rw [show (0 : Int).natAbs = 0 from rfl, Lz, limbsOf_zero]
    exact ⟨⟨Rd.nil _ _, Nat.le_refl _⟩, Rd.nil _ _, Nat.le_refl _⟩
  ·
    have h0 : k ≠ 0 := by
      intro h
      have := of_decide_eq_false hc
      rw [h, limbsOf_zero] at this
      exact this rfl
    rw [if_neg h0]
    obtain ⟨D, hD⟩ : ∃ D, D = sgn n m / sgn n' k := ⟨_, rfl⟩
    obtain ⟨M, hM⟩ : ∃ M, M = sgn n m % sgn n' k := ⟨_, rfl⟩
    rw [← hD, ← hM]
    have hmod := Nat.mod_lt m (Nat.pos_of_ne_zero h0)
    have hq1 := nl_mono (Nat.div_le_self m k)
    have hq4 := nl_mono (Nat.le_of_lt hmod)
    obtain ⟨a, ha⟩ : ∃ a, a = sgn (n != n') (m / k) := ⟨_, rfl⟩
    obtain ⟨b, hb0⟩ : ∃ b, b = sgn n (m % k) := ⟨_, rfl⟩
    have hal : nl a.natAbs ≤ xs.length := by rw [ha, sgn_natAbs]; omega
    have hbl : nl b.natAbs ≤ ys.length := by rw [hb0, sgn_natAbs]; omega
    refine tr_skip ?_
    repeat with_reducible first | refine tr_skip ?_ | refine tr_exit ?_ | refine tr_then ?_ | refine tr_inX ?_ | refine tr_thenX ?_ | refine tr_inN ?_ | refine tr_inR ?_ | refine tr_thenR ?_
    refine tr_rseq ?_
    refine sq_q (qt_move rfl) rfl ?_
    refine sq_q (qt_move rfl) rfl ?_
    refine sq_call (fun q : Sv × Sv => .tuple #[slv (limbsOf (m / k)) q.1, slv (limbsOf (m % k)) q.2]) (fun q w => Lz (m / k) q.1 w ∧ Lz (m % k) q.2 w) rfl rfl rfl (fun w t => rdivide_ret m k x5.1 x6.1 x5.2 x6.2 w _ t.r.1.2.1 t.r.2.1 (by omega) (by omega) h0) fun qr => ?_
    refine sq_q (qt_move rfl) rfl ?_
    refine sq_q (qt_extract rfl rfl) rfl ?_
    refine sq_q (qt_extract rfl rfl) rfl ?_
    refine sq_q (qt_assign rfl) rfl ?_
    refine sq_q (qt_assign rfl) rfl ?_
    refine sq_end ?_
    refine tr_rdrawA 13 [] [] [0, 1, 2, 3, 4, 5, 6, 7, 8, 9, 10, 36, 40] 11 12 11 12 (by kernel_rfl) ⟨_, _, _, rfl⟩ ⟨_, _, _, rfl⟩ rfl ?_
    refine dx_q rfl (qt_fieldAddr rfl) rfl ?_
    refine dx_q rfl (qt_load rfl (fun w t => t.atO 3 rfl rfl)) rfl ?_
    refine dx_q rfl (qt_fieldAddr rfl) rfl ?_
    refine dx_q rfl (qt_load rfl (fun w t => t.atO 2 rfl rfl)) rfl ?_
    refine dx_q rfl (qt_binB rfl rfl (bin_neqB boolT _ _)) rfl ?_
    refine dx_q rfl (qt_move rfl) rfl ?_
    refine dx_call (iv a) (Lz a.natAbs) rfl rfl rfl (fun w t => by
      have h := fun S' => make_ret (n != n') (limbsOf (m / k)) qr.1.1 qr.1.2 w S' t.r.2.1.1 (lim_limbsOf _) t.r.2.1.2 (by unfold nl at *; omega)
      rw [val_limbsOf, ← ha] at h
      rw [show a.natAbs = m / k by rw [ha, sgn_natAbs]]
      exact h _) ?_
    refine dx_q rfl (qt_fieldAddr rfl) rfl ?_
    refine dx_q rfl (qt_load rfl (fun w t => t.atO 3 rfl rfl)) rfl ?_
    refine dx_q rfl (qt_move rfl) rfl ?_
    refine dx_call (iv b) (Lz b.natAbs) rfl rfl rfl (fun w t => by
      have h := fun S' => make_ret n (limbsOf (m % k)) qr.2.1 qr.2.2 w S' t.r.2.2.1 (lim_limbsOf _) t.r.2.2.2 (by unfold nl at *; omega)
      rw [val_limbsOf, ← hb0] at h
      rw [show b.natAbs = m % k by rw [hb0, sgn_natAbs]]
      exact h _) ?_
    refine dx_alloc rfl ?_
    refine dx_alloc rfl ?_
    refine dx_nil ?_
    refine es_two rfl rfl (fun r11 r12 hne => ?_) rfl rfl
    repeat (first | refine es_val rfl ?_ rfl | refine es_skip rfl ?_)
    refine es_res rfl (fun x36 => ?_) rfl
    refine es_res rfl (fun x40 => ?_) rfl
    repeat (first | refine es_val rfl ?_ rfl | refine es_skip rfl ?_)
    refine es_adopt [zblk r11 z0, zblk r12 z0, zblk r5 z0, zblk r4 z0, (r3, .cells (ig n' ys p').cells 35 (0, 0)), (r2, .cells (ig n xs p).cells 35 (0, 0))] (fun w => (Lz k x6 w ∧ Lz a.natAbs x36 w) ∧ Lz b.natAbs x40 w) rfl (fun w t => ?_) ?_
    · have h11 := t.r.1.1.1.2
      have h12 := t.r.1.1.2
      have hne' : r11 ≠ r12 := fun e => hne (by rw [e])
      have t1 := t.adoptL h12.1 h12.2.1 h12.2.2 (not_u32b_z0 _ _) (R' := fun w => (Lz k x6 w ∧ Lz a.natAbs x36 w) ∧ Lz b.natAbs x40 w) (fun w h => ⟨⟨h.1.1.1.1.1.2, h.1.2⟩, h.2⟩) (((LimbR.lm _ _).and (LimbR.lm _ _)).and (LimbR.lm _ _))
      exact t1.adoptL h11.1 (fun q hq => by
        rcases List.mem_cons.1 hq with rfl | hq
        · exact fun e => hne' e.symm
        · exact h11.2.1 q hq) h11.2.2 (not_u32b_z0 _ _) (fun w h => h) (((LimbR.lm _ _).and (LimbR.lm _ _)).and (LimbR.lm _ _))
    refine tx_store 0 rfl rfl rfl rfl (Nat.le_refl 2) rfl rfl rfl ?_
    refine tx_store 1 rfl rfl rfl rfl (Nat.le_refl 2) rfl rfl rfl ?_
    refine tx_endk ?_
    refine tr_own [zblk r11 (zd a x36), zblk r12 (zd b x40), zblk r5 z0, zblk r4 z0, (r3, .cells (ig n' ys p').cells 35 (0, 0)), (r2, .cells (ig n xs p).cells 35 (0, 0))] rfl ?_
    refine tr_seq ?_
    refine tr_rseq ?_
    refine sq_q (qt_load2 rfl (fun w t => t.atO 1 rfl rfl) (fun w t => t.atO 1 rfl rfl)) rfl ?_
    refine sq_call (val := fun _ : Unit => .int .i64 b.sign) (F := fun _ _ => True) rfl rfl rfl (fun w t => rsign_iv t.r.2 (by omega)) fun _ => ?_
    refine sq_q (qt_bin rfl rfl bin_lss) rfl ?_
    refine sq_end ?_
    refine tr_if rfl (fun hc => ?_) (fun hc => ?_)
    ·
      have hbn : b < 0 := Int.sign_neg_iff.1 (by have := of_decide_eq_true hc; omega)
      obtain ⟨c, hcd⟩ : ∃ c, c = b + (k : Int) := ⟨_, rfl⟩
      have hcl : nl c.natAbs ≤ ys.length + 1 := by rw [hcd]; have h := nl_iadd b (k : Int); have h2 : nl (k : Int).natAbs ≤ ys.length := hyn; omega
      refine tr_rsb [4] ?_
      refine sb_q 0 rfl (by kernel_rfl) (qt_load2 rfl (fun w t => t.atO 1 rfl rfl) (fun w t => t.atO 1 rfl rfl)) rfl ?_
      refine sb_q 1 rfl (by kernel_rfl) (qt_move rfl) rfl ?_
      refine sb_one 2 (by kernel_rfl) ?_
      refine so2_call (iv (k : Int)) (Lz (k : Int).natAbs) rfl rfl rfl rfl (fun w t => by
        have h := fun S' => make_ret false (limbsOf k) x6.1 x6.2 w S' t.r.1.1.1.1 (lim_limbsOf _) t.r.1.1.1.2 (by unfold nl at *; omega)
        rw [val_limbsOf] at h
        exact h _) fun x46 => ?_
      refine sb_one 3 (by kernel_rfl) ?_
      refine so2_call (iv c) (Lz c.natAbs) rfl rfl rfl rfl (fun w t => by rw [hcd]; exact radd_iv t.r.1.1.2 t.r.2 (by omega) (Nat.lt_of_le_of_lt hyn (by omega))) fun x47 => ?_
      refine sb_one 4 (by kernel_rfl) ?_
      refine so2_store 1 rfl rfl rfl rfl rfl rfl (by first | (simp [u32s, Value.cells]; done) | (simp [u32s, Value.cells]; omega) | exact Nat.le_refl 2) rfl rfl ?_
      refine sb_endk (by kernel_rfl) ?_
      refine tr_own [zblk r11 (zd a x36), zblk r12 (zd c x47), zblk r5 z0, zblk r4 z0, (r3, .cells (ig n' ys p').cells 35 (0, 0)), (r2, .cells (ig n xs p).cells 35 (0, 0))] rfl ?_
      refine tr_r (fun w => Lz a.natAbs x36 w ∧ Lz c.natAbs x47 w) (fun w h => ⟨h.1.1.1.1.2, h.2⟩) ?_
      obtain ⟨eM, eD⟩ := dm_neg (n := n) (n' := n') (m := m) h0 (by rw [← hb0]; exact hbn)
      rw [← hM, ← hb0, ← hcd] at eM
      rw [← hD, ← ha] at eD
      rw [eM]
      refine tr_seq ?_
      refine tr_rseq ?_
      refine sq_q (qt_load2 rfl (fun w t => t.atO 4 rfl rfl) (fun w t => t.atO 4 rfl rfl)) rfl ?_
      refine sq_call (val := fun _ : Unit => .int .i64 (sgn n' k).sign) (F := fun _ _ => True) rfl rfl rfl (fun w t => by rw [hk]; exact rsign_ret n' ys p' w _ (t.lm hy) ly (by omega)) fun _ => ?_
      refine sq_q (qt_bin rfl rfl bin_lss) rfl ?_
      refine sq_end ?_
      refine tr_if rfl (fun hc => ?_) (fun hc => ?_)
      ·
        have hkn : sgn n' k < 0 := Int.sign_neg_iff.1 (by have := of_decide_eq_true hc; omega)
        rw [if_pos hkn] at eD
        refine tr_cut (ι := Sv) (fun _ => True) (fun x => [(4, .pointer (some ⟨r4, 0, none⟩)), (5, .pointer (some ⟨r5, 0, none⟩)), (6, .bool true)]) (fun x => [zblk r11 (zd a x36), zblk r12 (zd c x47), zblk r5 (zd c x47), zblk r4 (zd D x), (r3, .cells (ig n' ys p').cells 35 (0, 0)), (r2, .cells (ig n xs p).cells 35 (0, 0))]) (fun x w => Lz D.natAbs x w ∧ Lz c.natAbs x47 w) ?_ (fun x _ => ?_)
        ·
          refine tr_sb [4, 5] ?_
          refine sb_q 0 rfl (by kernel_rfl) (qt_load2 rfl (fun w t => t.atO 0 rfl rfl) (fun w t => t.atO 0 rfl rfl)) rfl ?_
          refine sb_two 1 3 (by kernel_rfl) ?_ ?_
          ·
            refine so2_call (iv 1) (Lz (1 : Int).natAbs) rfl rfl rfl rfl (fun w t => rsmall_ret 1 w _ (by omega) (by omega)) fun x52 => ?_
            refine sb_two 2 3 (by kernel_rfl) ?_ ?_
            ·
              refine so2_call (iv D) (Lz D.natAbs) rfl rfl rfl rfl (fun w t => by rw [eD]; exact radd_iv t.r.1.1.1 t.r.2 (by omega) (Nat.lt_of_le_of_lt nl_one (by omega))) fun x => ?_
              refine sb_two 3 4 (by kernel_rfl) ?_ ?_
              ·
                refine so2_q rfl (qt_load2 rfl (fun w t => t.atO 1 rfl rfl) (fun w t => t.atO 1 rfl rfl)) rfl ?_
                refine sb_one 4 (by kernel_rfl) ?_
                refine so2_store 3 rfl rfl rfl rfl rfl rfl (by first | (simp [u32s, Value.cells]; done) | (simp [u32s, Value.cells]; omega) | exact Nat.le_refl 2) rfl rfl ?_
                refine sb_one 5 (by kernel_rfl) ?_
                refine so2_store 2 rfl rfl rfl rfl rfl rfl (by first | (simp [u32s, Value.cells]; done) | (simp [u32s, Value.cells]; omega) | exact Nat.le_refl 2) rfl rfl ?_
                refine sb_q 6 rfl (by kernel_rfl) (qt_assign rfl) rfl ?_
                refine sb_end (by kernel_rfl) ?_
                exact tr_mid x trivial ⟨rfl, rfl, rfl, trivial⟩ rfl (fun w h => ⟨h.2, h.1.1.1.2⟩)
              ·
                refine so2_store 3 rfl rfl rfl rfl rfl rfl (by first | (simp [u32s, Value.cells]; done) | (simp [u32s, Value.cells]; omega) | exact Nat.le_refl 2) rfl rfl ?_
                refine sb_q 3 rfl (by kernel_rfl) (qt_load2 rfl (fun w t => t.atO 1 rfl rfl) (fun w t => t.atO 1 rfl rfl)) rfl ?_
                refine sb_one 5 (by kernel_rfl) ?_
                refine so2_store 2 rfl rfl rfl rfl rfl rfl (by first | (simp [u32s, Value.cells]; done) | (simp [u32s, Value.cells]; omega) | exact Nat.le_refl 2) rfl rfl ?_
                refine sb_q 6 rfl (by kernel_rfl) (qt_assign rfl) rfl ?_
                refine sb_end (by kernel_rfl) ?_
                exact tr_mid x trivial ⟨rfl, rfl, rfl, trivial⟩ rfl (fun w h => ⟨h.2, h.1.1.1.2⟩)
            ·
              refine so2_q rfl (qt_load2 rfl (fun w t => t.atO 1 rfl rfl) (fun w t => t.atO 1 rfl rfl)) rfl ?_
              refine sb_one 2 (by kernel_rfl) ?_
              refine so2_call (iv D) (Lz D.natAbs) rfl rfl rfl rfl (fun w t => by rw [eD]; exact radd_iv t.r.1.1.1 t.r.2 (by omega) (Nat.lt_of_le_of_lt nl_one (by omega))) fun x => ?_
              refine sb_one 4 (by kernel_rfl) ?_
              refine so2_store 3 rfl rfl rfl rfl rfl rfl (by first | (simp [u32s, Value.cells]; done) | (simp [u32s, Value.cells]; omega) | exact Nat.le_refl 2) rfl rfl ?_
              refine sb_one 5 (by kernel_rfl) ?_
              refine so2_store 2 rfl rfl rfl rfl rfl rfl (by first | (simp [u32s, Value.cells]; done) | (simp [u32s, Value.cells]; omega) | exact Nat.le_refl 2) rfl rfl ?_
              refine sb_q 6 rfl (by kernel_rfl) (qt_assign rfl) rfl ?_
              refine sb_end (by kernel_rfl) ?_
              exact tr_mid x trivial ⟨rfl, rfl, rfl, trivial⟩ rfl (fun w h => ⟨h.2, h.1.1.1.2⟩)
          ·
            refine so2_q rfl (qt_load2 rfl (fun w t => t.atO 1 rfl rfl) (fun w t => t.atO 1 rfl rfl)) rfl ?_
            refine sb_one 1 (by kernel_rfl) ?_
            refine so2_call (iv 1) (Lz (1 : Int).natAbs) rfl rfl rfl rfl (fun w t => rsmall_ret 1 w _ (by omega) (by omega)) fun x52 => ?_
            refine sb_one 2 (by kernel_rfl) ?_
            refine so2_call (iv D) (Lz D.natAbs) rfl rfl rfl rfl (fun w t => by rw [eD]; exact radd_iv t.r.1.1.1 t.r.2 (by omega) (Nat.lt_of_le_of_lt nl_one (by omega))) fun x => ?_
            refine sb_one 4 (by kernel_rfl) ?_
            refine so2_store 3 rfl rfl rfl rfl rfl rfl (by first | (simp [u32s, Value.cells]; done) | (simp [u32s, Value.cells]; omega) | exact Nat.le_refl 2) rfl rfl ?_
            refine sb_one 5 (by kernel_rfl) ?_
            refine so2_store 2 rfl rfl rfl rfl rfl rfl (by first | (simp [u32s, Value.cells]; done) | (simp [u32s, Value.cells]; omega) | exact Nat.le_refl 2) rfl rfl ?_
            refine sb_q 6 rfl (by kernel_rfl) (qt_assign rfl) rfl ?_
            refine sb_end (by kernel_rfl) ?_
            exact tr_mid x trivial ⟨rfl, rfl, rfl, trivial⟩ rfl (fun w h => ⟨h.2, h.1.1.1.2⟩)
        ·
          refine tr_ret ?_
          repeat with_reducible first | refine tr_skip ?_ | refine tr_exit ?_ | refine tr_then ?_ | refine tr_inX ?_ | refine tr_thenX ?_ | refine tr_inN ?_ | refine tr_inR ?_ | refine tr_thenR ?_
          refine tr_done (x, x47) (fun a w s t => results_3 rfl (resv_cell 3 s t rfl rfl rfl) (resv_cell 2 s t rfl rfl rfl) (resv_tmp s (by rw [decide_eq_true h0]; rfl))) (fun w h _ _ => h)
      ·
        have hkn : ¬ sgn n' k < 0 := fun h => of_decide_eq_false hc (by rw [Int.sign_eq_neg_one_of_neg h]; decide)
        rw [if_neg hkn] at eD
        refine tr_skip ?_
        repeat with_reducible first | refine tr_skip ?_ | refine tr_exit ?_ | refine tr_then ?_ | refine tr_inX ?_ | refine tr_thenX ?_ | refine tr_inN ?_ | refine tr_inR ?_ | refine tr_thenR ?_
        refine tr_cut (ι := Sv) (fun _ => True) (fun x => [(4, .pointer (some ⟨r4, 0, none⟩)), (5, .pointer (some ⟨r5, 0, none⟩)), (6, .bool true)]) (fun x => [zblk r11 (zd a x36), zblk r12 (zd c x47), zblk r5 (zd c x47), zblk r4 (zd D x), (r3, .cells (ig n' ys p').cells 35 (0, 0)), (r2, .cells (ig n xs p).cells 35 (0, 0))]) (fun x w => Lz D.natAbs x w ∧ Lz c.natAbs x47 w) ?_ (fun x _ => ?_)
        ·
          refine tr_sb [4, 5] ?_
          refine sb_q 0 rfl (by kernel_rfl) (qt_load2 rfl (fun w t => t.atO 0 rfl rfl) (fun w t => t.atO 0 rfl rfl)) rfl ?_
          refine sb_two 1 3 (by kernel_rfl) ?_ ?_
          ·
            refine so2_call (iv 1) (Lz (1 : Int).natAbs) rfl rfl rfl rfl (fun w t => rsmall_ret 1 w _ (by omega) (by omega)) fun x56 => ?_
            refine sb_two 2 3 (by kernel_rfl) ?_ ?_
            ·
              refine so2_call (iv D) (Lz D.natAbs) rfl rfl rfl rfl (fun w t => by rw [eD]; exact rsub_iv t.r.1.1.1 t.r.2 (by omega) (Nat.lt_of_le_of_lt nl_one (by omega))) fun x => ?_
              refine sb_two 3 4 (by kernel_rfl) ?_ ?_
              ·
                refine so2_q rfl (qt_load2 rfl (fun w t => t.atO 1 rfl rfl) (fun w t => t.atO 1 rfl rfl)) rfl ?_
                refine sb_one 4 (by kernel_rfl) ?_
                refine so2_store 3 rfl rfl rfl rfl rfl rfl (by first | (simp [u32s, Value.cells]; done) | (simp [u32s, Value.cells]; omega) | exact Nat.le_refl 2) rfl rfl ?_
                refine sb_one 5 (by kernel_rfl) ?_
                refine so2_store 2 rfl rfl rfl rfl rfl rfl (by first | (simp [u32s, Value.cells]; done) | (simp [u32s, Value.cells]; omega) | exact Nat.le_refl 2) rfl rfl ?_
                refine sb_q 6 rfl (by kernel_rfl) (qt_assign rfl) rfl ?_
                refine sb_end (by kernel_rfl) ?_
                exact tr_mid x trivial ⟨rfl, rfl, rfl, trivial⟩ rfl (fun w h => ⟨h.2, h.1.1.1.2⟩)
              ·
                refine so2_store 3 rfl rfl rfl rfl rfl rfl (by first | (simp [u32s, Value.cells]; done) | (simp [u32s, Value.cells]; omega) | exact Nat.le_refl 2) rfl rfl ?_
                refine sb_q 3 rfl (by kernel_rfl) (qt_load2 rfl (fun w t => t.atO 1 rfl rfl) (fun w t => t.atO 1 rfl rfl)) rfl ?_
                refine sb_one 5 (by kernel_rfl) ?_
                refine so2_store 2 rfl rfl rfl rfl rfl rfl (by first | (simp [u32s, Value.cells]; done) | (simp [u32s, Value.cells]; omega) | exact Nat.le_refl 2) rfl rfl ?_
                refine sb_q 6 rfl (by kernel_rfl) (qt_assign rfl) rfl ?_
                refine sb_end (by kernel_rfl) ?_
                exact tr_mid x trivial ⟨rfl, rfl, rfl, trivial⟩ rfl (fun w h => ⟨h.2, h.1.1.1.2⟩)
            ·
              refine so2_q rfl (qt_load2 rfl (fun w t => t.atO 1 rfl rfl) (fun w t => t.atO 1 rfl rfl)) rfl ?_
              refine sb_one 2 (by kernel_rfl) ?_
              refine so2_call (iv D) (Lz D.natAbs) rfl rfl rfl rfl (fun w t => by rw [eD]; exact rsub_iv t.r.1.1.1 t.r.2 (by omega) (Nat.lt_of_le_of_lt nl_one (by omega))) fun x => ?_
              refine sb_one 4 (by kernel_rfl) ?_
              refine so2_store 3 rfl rfl rfl rfl rfl rfl (by first | (simp [u32s, Value.cells]; done) | (simp [u32s, Value.cells]; omega) | exact Nat.le_refl 2) rfl rfl ?_
              refine sb_one 5 (by kernel_rfl) ?_
              refine so2_store 2 rfl rfl rfl rfl rfl rfl (by first | (simp [u32s, Value.cells]; done) | (simp [u32s, Value.cells]; omega) | exact Nat.le_refl 2) rfl rfl ?_
              refine sb_q 6 rfl (by kernel_rfl) (qt_assign rfl) rfl ?_
              refine sb_end (by kernel_rfl) ?_
              exact tr_mid x trivial ⟨rfl, rfl, rfl, trivial⟩ rfl (fun w h => ⟨h.2, h.1.1.1.2⟩)
          ·
            refine so2_q rfl (qt_load2 rfl (fun w t => t.atO 1 rfl rfl) (fun w t => t.atO 1 rfl rfl)) rfl ?_
            refine sb_one 1 (by kernel_rfl) ?_
            refine so2_call (iv 1) (Lz (1 : Int).natAbs) rfl rfl rfl rfl (fun w t => rsmall_ret 1 w _ (by omega) (by omega)) fun x56 => ?_
            refine sb_one 2 (by kernel_rfl) ?_
            refine so2_call (iv D) (Lz D.natAbs) rfl rfl rfl rfl (fun w t => by rw [eD]; exact rsub_iv t.r.1.1.1 t.r.2 (by omega) (Nat.lt_of_le_of_lt nl_one (by omega))) fun x => ?_
            refine sb_one 4 (by kernel_rfl) ?_
            refine so2_store 3 rfl rfl rfl rfl rfl rfl (by first | (simp [u32s, Value.cells]; done) | (simp [u32s, Value.cells]; omega) | exact Nat.le_refl 2) rfl rfl ?_
            refine sb_one 5 (by kernel_rfl) ?_
            refine so2_store 2 rfl rfl rfl rfl rfl rfl (by first | (simp [u32s, Value.cells]; done) | (simp [u32s, Value.cells]; omega) | exact Nat.le_refl 2) rfl rfl ?_
            refine sb_q 6 rfl (by kernel_rfl) (qt_assign rfl) rfl ?_
            refine sb_end (by kernel_rfl) ?_
            exact tr_mid x trivial ⟨rfl, rfl, rfl, trivial⟩ rfl (fun w h => ⟨h.2, h.1.1.1.2⟩)
        ·
          refine tr_ret ?_
          repeat with_reducible first | refine tr_skip ?_ | refine tr_exit ?_ | refine tr_then ?_ | refine tr_inX ?_ | refine tr_thenX ?_ | refine tr_inN ?_ | refine tr_inR ?_ | refine tr_thenR ?_
          refine tr_done (x, x47) (fun a w s t => results_3 rfl (resv_cell 3 s t rfl rfl rfl) (resv_cell 2 s t rfl rfl rfl) (resv_tmp s (by rw [decide_eq_true h0]; rfl))) (fun w h _ _ => h)
    ·
      have hbn : ¬ b < 0 := fun h => of_decide_eq_false hc (by rw [Int.sign_eq_neg_one_of_neg h]; decide)
      obtain ⟨eD, eM⟩ := dm_pos (n := n) (n' := n') (m := m) h0 (by rw [← hb0]; exact hbn)
      rw [← hD, ← ha] at eD
      rw [← hM, ← hb0] at eM
      rw [eD, eM]
      refine tr_skip ?_
      repeat with_reducible first | refine tr_skip ?_ | refine tr_exit ?_ | refine tr_then ?_ | refine tr_inX ?_ | refine tr_thenX ?_ | refine tr_inN ?_ | refine tr_inR ?_ | refine tr_thenR ?_
      refine tr_cut (ι := Unit) (fun _ => True) (fun _ => [(4, .pointer (some ⟨r4, 0, none⟩)), (5, .pointer (some ⟨r5, 0, none⟩)), (6, .bool true)]) (fun _ => [zblk r11 (zd a x36), zblk r12 (zd b x40), zblk r5 (zd b x40), zblk r4 (zd a x36), (r3, .cells (ig n' ys p').cells 35 (0, 0)), (r2, .cells (ig n xs p).cells 35 (0, 0))]) (fun _ w => Lz a.natAbs x36 w ∧ Lz b.natAbs x40 w) ?_ (fun _ _ => ?_)
      ·
        refine tr_sb [2, 3] ?_
        refine sb_q 0 rfl (by kernel_rfl) (qt_load2 rfl (fun w t => t.atO 0 rfl rfl) (fun w t => t.atO 0 rfl rfl)) rfl ?_
        refine sb_two 1 2 (by kernel_rfl) ?_ ?_
        ·
          refine so2_q rfl (qt_load2 rfl (fun w t => t.atO 1 rfl rfl) (fun w t => t.atO 1 rfl rfl)) rfl ?_
          refine sb_one 2 (by kernel_rfl) ?_
          refine so2_store 3 rfl rfl rfl rfl rfl rfl (by first | (simp [u32s, Value.cells]; done) | (simp [u32s, Value.cells]; omega) | exact Nat.le_refl 2) rfl rfl ?_
          refine sb_one 3 (by kernel_rfl) ?_
          refine so2_store 2 rfl rfl rfl rfl rfl rfl (by first | (simp [u32s, Value.cells]; done) | (simp [u32s, Value.cells]; omega) | exact Nat.le_refl 2) rfl rfl ?_
          refine sb_q 4 rfl (by kernel_rfl) (qt_assign rfl) rfl ?_
          refine sb_end (by kernel_rfl) ?_
          exact tr_mid () trivial ⟨rfl, rfl, rfl, trivial⟩ rfl (fun w h => ⟨h.1.1.2, h.1.2⟩)
        ·
          refine so2_store 3 rfl rfl rfl rfl rfl rfl (by first | (simp [u32s, Value.cells]; done) | (simp [u32s, Value.cells]; omega) | exact Nat.le_refl 2) rfl rfl ?_
          refine sb_q 1 rfl (by kernel_rfl) (qt_load2 rfl (fun w t => t.atO 1 rfl rfl) (fun w t => t.atO 1 rfl rfl)) rfl ?_
          refine sb_one 3 (by kernel_rfl) ?_
          refine so2_store 2 rfl rfl rfl rfl rfl rfl (by first | (simp [u32s, Value.cells]; done) | (simp [u32s, Value.cells]; omega) | exact Nat.le_refl 2) rfl rfl ?_
          refine sb_q 4 rfl (by kernel_rfl) (qt_assign rfl) rfl ?_
          refine sb_end (by kernel_rfl) ?_
          exact tr_mid () trivial ⟨rfl, rfl, rfl, trivial⟩ rfl (fun w h => ⟨h.1.1.2, h.1.2⟩)
      ·
        refine tr_ret ?_
        repeat with_reducible first | refine tr_skip ?_ | refine tr_exit ?_ | refine tr_then ?_ | refine tr_inX ?_ | refine tr_thenX ?_ | refine tr_inN ?_ | refine tr_inR ?_ | refine tr_thenR ?_
        refine tr_done (x36, x40) (fun a w s t => results_3 rfl (resv_cell 3 s t rfl rfl rfl) (resv_cell 2 s t rfl rfl rfl) (resv_tmp s (by rw [decide_eq_true h0]; rfl))) (fun w h _ _ => h)
end Go.Qk
end
section
set_option linter.unusedVariables false
namespace Go.Qk
open Go Go.Proofs Go.RowKit
section
variable {P : Program} {n : Nat} {w0 : World} {X : List Nat} {S : Nat → Prop} {E : Env} {own : Own} {R : World → Prop} {Q : Exit → Act → World → Prop} {ops : Array Oper} {rest : List Oper}
theorem SS.give {w w' : World} (t : SS w0 X S own R w) (hb : Below w.heap.size w w') {ad : Own} (hf : Fresh w.heap.size ad w') : SS w0 X S (ad ++ own) R w' := by
  have g := t.grow hb
  have hlt : ∀ p ∈ ad, p.1 < w'.heap.size := fun p hp => (Array.getElem?_eq_some_iff.1 (hf.2 p hp).2).1
  refine ⟨g.os, g.tape, g.output, g.size, g.pres, ?_, ?_, ?_, ?_⟩
  · intro p hp
    rcases List.mem_append.1 hp with h | h
    · exact ⟨hlt p h, .inr (Nat.le_trans t.size (hf.2 p h).1)⟩
    · exact g.lt p h
  · intro p hp
    rcases List.mem_append.1 hp with h | h
    · exact (hf.2 p h).2
    · exact g.has p h
  · refine List.pairwise_append.2 ⟨hf.1, g.nd, fun p hp q hq e => ?_⟩
    have h1 := (hf.2 p hp).1
    have h2 := (t.lt q hq).1
    omega
  · intro w'' hs hk
    refine t.keep w'' (Nat.le_trans hb.size hs) fun k h1 h2 h3 => ?_
    rw [hk k h1 (Nat.lt_of_lt_of_le h2 hb.size) fun p hp e => ?_, hb.block k h2]
    rcases List.mem_append.1 hp with h | h
    · have := (hf.2 p h).1; omega
    · exact h3 p h e
end
end Go.Qk
end
section
set_option linter.unusedVariables false
namespace Go.Qk
open Go Go.Proofs Go.RowKit
/-- what stands behind the integers of a row, by the row's block -/
abbrev Sk := Nat → List Value
def mhdrS (σ : Sk) (q : Wr) : Value := .slice (some ⟨q.1, 0, none⟩) q.2.length (q.2.length + (σ q.1).length / 2)
def mrowS (σ : Sk) (q : Wr) : Nat × Obj := (q.1, .cells (zcs q.2 ++ σ q.1).toArray 35 (0, 0))
def moutS (σ : Sk) (o : Nat) (qs : List Wr) (k : Nat) : Nat × Obj := (o, .cells (qs.map (mhdrS σ) ++ List.replicate k (Value.slice none 0 0)).toArray 44 (0, 0))
def mownS (σ : Sk) (o : Nat) (qs : List Wr) : Own := moutS σ o qs 0 :: qs.map (mrowS σ)
section
variable {σ : Sk} {o : Nat} {qs : List Wr}
theorem mownS_at {i : Nat} {q : Wr} (h : qs[i]? = some q) : ownAt (mownS σ o qs) (i + 1) = some (mrowS σ q) := ownAt_map (mrowS σ) qs i q h
theorem mownS_set {i : Nat} {q : Wr} {l : List Zd} (h : qs[i]? = some q) (hl : l.length = q.2.length) : ownSet (mownS σ o qs) (i + 1) (.cells (zcs l ++ σ q.1).toArray 35 (0, 0)) = mownS σ o (qs.set i (q.1, l)) := by
  show moutS σ o qs 0 :: ownSet (qs.map (mrowS σ)) i _ = _
  rw [ownSet_map (mrowS σ) qs i q (q.1, l) _ h rfl]
  have e : (qs.set i (q.1, l)).map (mhdrS σ) = qs.map (mhdrS σ) := by
    rw [List.map_set]
    have : mhdrS σ (q.1, l) = mhdrS σ q := by unfold mhdrS; rw [hl]
    rw [this]
    refine List.ext_getElem? fun k => ?_
    rw [List.getElem?_set]
    split
    · rename_i hk
      subst hk
      rw [List.getElem?_map, h]
      split
      · rfl
      · rename_i hlt
        rw [List.getElem?_eq_none (by simpa using hlt)] at h
        simp at h
    · rfl
  unfold mownS moutS
  rw [e]
theorem wr_app {vs : List Value} : ∀ {l r : List Value} {off : Nat}, off + vs.length ≤ l.length → wr (l ++ r) off vs = wr l off vs ++ r := by
  induction vs with
  | nil => intro l r off _; rfl
  | cons v vs ih =>
    intro l r off h
    simp only [List.length_cons] at h
    simp only [wr]
    rw [List.set_append_left _ _ (by omega)]
    exact ih (by simp; omega)
theorem mownS_wr {i j : Nat} {q : Wr} (z : Zd) (h : qs[i]? = some q) (hj : j < q.2.length) : ownSet (mownS σ o qs) (i + 1) (.cells (wr (zcs q.2 ++ σ q.1) (0 + j * 2) z.v.cells.toList).toArray 35 (0, 0)) = mownS σ o (qs.set i (q.1, q.2.set j z)) := by
  rw [wr_app (by rw [zcs_length]; simp [Zd.v, ig, Value.cells]; omega), zcs_set z hj, mownS_set h (by simp)]
theorem moutS_get {i k : Nat} {q : Wr} (h : qs[i]? = some q) : (qs.map (mhdrS σ) ++ List.replicate k (Value.slice none 0 0))[i]? = some (mhdrS σ q) := by
  have hl : i < qs.length := by
    rcases Nat.lt_or_ge i qs.length with hh | hh
    · exact hh
    · rw [List.getElem?_eq_none hh] at h; simp at h
  rw [List.getElem?_append_left (by simpa using hl), List.getElem?_map, h]
  rfl
theorem qswapS_hdr {a b : Nat} {qa qb : Wr} : ((qs.map (mhdrS σ) ++ List.replicate 0 (Value.slice none 0 0)).set a (mhdrS σ qb)).set b (mhdrS σ qa) = (qswap qs a b qa qb).map (mhdrS σ) ++ List.replicate 0 (Value.slice none 0 0) := by
  rw [List.replicate_zero, List.append_nil, List.append_nil, ← List.map_set, ← List.map_set]
  rfl
end
section
variable {P : Program} {n : Nat} {w0 w : World} {X : List Nat} {S : Nat → Prop} {E : Env} {own : Own} {R : World → Prop} {Q : Exit → Act → World → Prop} {ops : Array Oper} {σ : Sk}
theorem SS.mzS0 (i : Nat) (t : SS w0 X S own R w) {q : Wr} (h : ownAt own i = some (mrowS σ q)) {j : Nat} {z : Zd} (hz : q.2[j]? = some z) : At q.1 (0 + j * 2) (.bool z.n) w := by
  obtain ⟨hj, e⟩ := List.getElem?_eq_some_iff.1 hz
  refine t.atO i h ?_
  rw [Nat.zero_add, List.getElem?_append_left (by rw [zcs_length]; omega), zcs_get0 hj, e]
theorem SS.mzS1 (i : Nat) (t : SS w0 X S own R w) {q : Wr} (h : ownAt own i = some (mrowS σ q)) {j : Nat} {z : Zd} (hz : q.2[j]? = some z) : At q.1 (0 + j * 2 + 1) (slv z.xs z.p) w := by
  obtain ⟨hj, e⟩ := List.getElem?_eq_some_iff.1 hz
  refine t.atO i h ?_
  rw [Nat.zero_add, List.getElem?_append_left (by rw [zcs_length]; omega), zcs_get1 hj, e]
theorem sq_perm {l : List Oper} (own' : Own) (e : own.Perm own') (h : Sq P ops Q n w0 X S l E own' R) : Sq P ops Q n w0 X S l E own R := fun a w s t => h a w s (t.perm e)
/-- the end of a function that hands out its own blocks; what else it knows does not hang on these -/
theorem tr_doneK {fn : Func} {α : Type} {val : α → Value} {F : α → World → Prop} (x : α) (hres : ∀ a w, St n a E → SS w0 [] S own R w → (results fn a.tmps).run P w = .ok (val x) w)
    (hF : ∀ w, Fresh w0.heap.size own w → Kp w0 S own R w → F x w) : Tr n w0 [] S E own R (bodyPost P fn (Rt w0 S val F) .ret) := by
  intro a w s t
  refine ⟨s.defers, val x, hres a w s t, x, rfl, t.arg, fun w'' hs hk => hF w'' ⟨t.nd, fun p hp => ⟨(t.lt p hp).2.resolve_left (by simp), ?_⟩⟩ fun w3 hs3 hk3 => t.keep w3 (Nat.le_trans hs hs3) fun k h1 h2 h3 => ?_⟩
  · rw [hk p.1 (.inl ((t.lt p hp).2.resolve_left (by simp))) (t.lt p hp).1]
    exact t.has p hp
  · rw [hk3 k h1 (Nat.lt_of_lt_of_le h2 hs) h3, hk k h1 h2]
/-- a call that hands out fresh blocks -/
theorem SS.giveK {w w' : World} {S' : Nat → Prop} {G : World → Prop} (t : SS w0 X S own R w) (hb : Below w.heap.size w w') {ad : Own} (hf : Fresh w.heap.size ad w') (hg : Kp w S' ad G w') (hS : ∀ k, S' k → Nn w0 S own w k) : SS w0 X S (ad ++ own) (fun w => R w ∧ G w) w' := by
  have g := t.give hb hf
  refine ⟨g.os, g.tape, g.output, g.size, g.pres, g.lt, g.has, g.nd, fun w'' hs hk => ⟨g.keep w'' hs hk, hg w'' hs fun k h1 h2 h3 => ?_⟩⟩
  rcases h1 with h1 | h1
  · exact hk k (.inl (Nat.le_trans t.size h1)) h2 fun p hp e => by
      rcases List.mem_append.1 hp with h | h
      · exact h3 p h e
      · have := (t.lt p h).1; omega
  · exact hk k (hS k h1).1 h2 fun p hp e => by
      rcases List.mem_append.1 hp with h | h
      · exact h3 p h e
      · exact (hS k h1).2.2 p h e
theorem sq_callK {rest : List Oper} {α : Type} {c : Operand} {f : FuncId} {pre cap : List Value} {xs : List Operand} {vs : List Value} {ats : Array TypeId} {ty : TypeId} {d : Nat} {pos : String} {af : Array Edge} (val : α → Value) (ad : α → Own) (p : α → Prop) (G : α → World → Prop) [hB : FnB P f]
    (hc : fnv (look E) c f pre cap) (hxs : evs (look E) xs = some vs) (hd : Nat.blt d n = true)
    (hcall : ∀ w, SS w0 X S own R w → Ret P f (pre ++ vs ++ cap) w (Nn w0 S own w) val (fun x w' => Fresh w.heap.size (ad x) w' ∧ p x ∧ Kp w (Nn w0 S own w) (ad x) (G x) w'))
    (h : ∀ x, p x → Sq P ops Q n w0 X S rest ((d, val x) :: E) (ad x ++ own) (fun w => R w ∧ G x w)) :
    Sq P ops Q n w0 X S (⟨some d, .call { callee := .value c, args := xs.toArray, argTypes := ats }, ty, pos, af, none⟩ :: rest) E own R := by
  intro a w s t'
  refine wpList_plain rfl fun K hK => ?_
  unfold Oper.wp
  rw [run_call s.agr hc hxs, Oper.upon_enter]
  refine (hcall w t').mono ?_
  rintro e w' ⟨x, rfl, hb, hf⟩
  exact hK _ _ (h x hf.now.2.1 _ _ (s.put hd _) (t'.giveK hb hf.now.1 hf.now.2.2 fun k hk => hk))
end
abbrev Ws := Wr × List Value
def hdrW (p : Ws) : Value := .slice (some ⟨p.1.1, 0, none⟩) p.1.2.length (p.1.2.length + p.2.length / 2)
def rowW (p : Ws) : Nat × Obj := (p.1.1, .cells (zcs p.1.2 ++ p.2).toArray 35 (0, 0))
def skOf (ps : List Ws) : Sk := fun k => match ps.find? (fun p => p.1.1 == k) with
  | some p => p.2
  | none => []
theorem skOf_get {ps : List Ws} (h : (ps.map rowW).Pairwise fun p q => p.1 ≠ q.1) {p : Ws} (hp : p ∈ ps) : skOf ps p.1.1 = p.2 := by
  unfold skOf
  induction ps with
  | nil => cases hp
  | cons q ps ih =>
    rw [List.map_cons, List.pairwise_cons] at h
    rw [List.find?_cons]
    rcases List.mem_cons.1 hp with rfl | hp
    · rw [beq_self_eq_true]
    · have h1 : (q.1.1 == p.1.1) = false := by
        have := h.1 (rowW p) (List.mem_map.2 ⟨p, hp, rfl⟩)
        exact beq_false_of_ne this
      rw [h1]
      exact ih h.2 hp
theorem skOf_rows {ps : List Ws} (h : (ps.map rowW).Pairwise fun p q => p.1 ≠ q.1) : ps.map rowW = (ps.map (·.1)).map (mrowS (skOf ps)) := by
  rw [List.map_map]
  refine List.map_congr_left fun p hp => ?_
  show rowW p = mrowS (skOf ps) p.1
  unfold mrowS rowW
  rw [skOf_get h hp]
theorem skOf_hdrs {ps : List Ws} (h : (ps.map rowW).Pairwise fun p q => p.1 ≠ q.1) : ps.map hdrW = (ps.map (·.1)).map (mhdrS (skOf ps)) := by
  rw [List.map_map]
  refine List.map_congr_left fun p hp => ?_
  show hdrW p = mhdrS (skOf ps) p.1
  unfold mhdrS hdrW
  rw [skOf_get h hp]
def outW (o : Nat) (ps : List Ws) (k : Nat) : Nat × Obj := (o, .cells (ps.map hdrW ++ List.replicate k (Value.slice none 0 0)).toArray 44 (0, 0))
def outG (o : Nat) (ps : List Ws) (v : Value) (k : Nat) : Nat × Obj := (o, .cells (ps.map hdrW ++ v :: List.replicate k (Value.slice none 0 0)).toArray 44 (0, 0))
theorem mid_set {α : Type} (A B : List α) (x y : α) : (A ++ x :: B).set A.length y = A ++ y :: B := by
  rw [List.set_append_right _ _ (Nat.le_refl _), Nat.sub_self]
  rfl
theorem mid_get {α : Type} (A B : List α) (x : α) : (A ++ x :: B)[A.length]? = some x := by
  rw [List.getElem?_append_right (Nat.le_refl _), Nat.sub_self]
  rfl
theorem perm_mid2 {α : Type} (G rest : List α) (a b : α) : (G ++ a :: b :: rest).Perm (a :: b :: (G ++ rest)) := List.perm_middle.trans (List.Perm.cons _ List.perm_middle)
theorem outG_get {ps : List Ws} {v : Value} {k : Nat} : (ps.map hdrW ++ v :: List.replicate k (Value.slice none 0 0))[ps.length]? = some v := by
  have := mid_get (ps.map hdrW) (List.replicate k (Value.slice none 0 0)) v
  rwa [List.length_map] at this
theorem outG_set {o : Nat} {ps : List Ws} {v v' : Value} {k : Nat} : (o, Obj.cells (wr (ps.map hdrW ++ v :: List.replicate k (Value.slice none 0 0)) (0 + ps.length * 1) [v']).toArray 44 (0, 0)) = outG o ps v' k := by
  have e := mid_set (ps.map hdrW) (List.replicate k (Value.slice none 0 0)) v v'
  rw [List.length_map] at e
  unfold outG
  rw [← e, Nat.zero_add, Nat.mul_one]
  rfl
end Go.Qk
end
section
set_option linter.unusedVariables false
namespace Go.Qk
open Go Go.Proofs Go.RowKit
set_option maxRecDepth 100000
set_option maxHeartbeats 4000000
theorem copy_ret (m : Mt) (B c : Nat) (w0 : World) (S : Nat → Prop) (hm : m.ok B w0) (hB : B ≤ 35184372088832) (hl : m.rs.length ≤ 65536) (hc : ∀ q ∈ m.rs, q.l.length = c) (hc1 : 1 ≤ c ∨ m.rs.length = 0) (hc16 : c ≤ 65536) :
    Ret Try.prog 82 [m.v] w0 S (fun x : Sk × Nat × List Wr => .slice (some ⟨x.2.1, 0, none⟩) m.rs.length m.rs.length) (fun x w' => Fresh w0.heap.size (mownS x.1 x.2.1 x.2.2) w' ∧ (MG (ent m.zs) m.rs.length c x.2.2 ∧ allz Zd.can x.2.2) ∧ Kp w0 S (mownS x.1 x.2.1 x.2.2) (fun w => allz (fun z => z.ok B w) x.2.2) w') := by
  have hc0 := hc
  refine ret_of Try.func82 rfl Try.ntmps82 rfl ?_
  refine tr_rseq ?_
  refine sq_q (qt_assign rfl) rfl ?_
  refine sq_end ?_
  refine tr_rseq ?_
  refine sq_q (qt_move rfl) rfl ?_
  refine sq_q (qt_len rfl) rfl ?_
  refine sq_make (c := m.rs.length) rfl rfl (by omega) (by omega) rfl fun r9 => ?_
  refine sq_q (qt_assign rfl) rfl ?_
  refine sq_end ?_
  refine tr_seq ?_
  refine tr_rseq ?_
  refine sq_q (qt_move rfl) rfl ?_
  refine sq_q (qt_len rfl) rfl ?_
  refine sq_q (qt_move rfl) rfl ?_
  refine sq_end ?_
  refine tr_block ?_
  refine tr_loop (fun ps : List Ws => ps.length ≤ m.rs.length ∧ ∀ a p, ps[a]? = some p → p.1.2.length = c ∧ ∀ b z, p.1.2[b]? = some z → z.z = ent m.zs a b ∧ z.can) (fun ps => [(0, m.v), (3, .slice (some ⟨r9, 0, none⟩) m.rs.length m.rs.length), (11, .int .i64 (m.rs.length : Int)), (12, .int .i64 (ps.length : Int))])
    (fun ps => outW r9 ps (m.rs.length - ps.length) :: ps.map rowW) (fun ps w => ∀ p ∈ ps, ∀ z ∈ p.1.2, z.ok B w) (fun ps => m.rs.length - ps.length) [] ⟨Nat.zero_le _, fun a p h => by simp at h⟩ ⟨rfl, rfl, rfl, rfl, trivial⟩ (by rw [made_s]; rfl) (fun _ _ p hp => nomatch hp) ?_
  rintro ps ⟨hle, hps⟩
  refine tr_rseq ?_
  refine sq_q (qt_bin rfl rfl bin_lss) rfl ?_
  refine sq_end ?_
  refine tr_seq ?_
  refine tr_if rfl (fun hc => ?_) (fun hc => ?_)
  ·
    have hlt : ps.length < m.rs.length := by have := of_decide_eq_true hc; omega
    obtain ⟨ro, oo, evm, hat⟩ := hm.at_ (show 0 < m.rs.length by omega)
    have hrl := hc0 _ (List.getElem_mem hlt)
    obtain ⟨rr, orr, evr, hatr⟩ := (hm.2.2 _ (List.getElem_mem hlt)).at_ (show 0 < m.rs[ps.length].l.length by omega)
    have hrw := hat _ hlt
    rw [evr] at hrw
    obtain ⟨k, hk⟩ : ∃ k, m.rs.length - ps.length = k + 1 := ⟨m.rs.length - ps.length - 1, by omega⟩
    refine tr_sub [(0, .slice (some ⟨ro, oo, none⟩) m.rs.length m.p.2), (3, .slice (some ⟨r9, 0, none⟩) m.rs.length m.rs.length), (11, .int .i64 (m.rs.length : Int)), (12, .int .i64 (ps.length : Int))] ⟨congrArg some evm, rfl, rfl, rfl, trivial⟩ ?_
    refine tr_skip ?_
    repeat with_reducible first | refine tr_skip ?_ | refine tr_exit ?_ | refine tr_then ?_ | refine tr_inX ?_ | refine tr_thenX ?_ | refine tr_inN ?_ | refine tr_inR ?_ | refine tr_thenR ?_
    refine tr_seq ?_
    refine tr_block ?_
    refine tr_rseq ?_
    refine sq_q (qt_move rfl) rfl ?_
    refine sq_q (qt_assign rfl) rfl ?_
    refine sq_end ?_
    refine tr_rseq ?_
    refine sq_q (qt_move rfl) rfl ?_
    refine sq_q (qt_move rfl) rfl ?_
    refine sq_q (qt_index (i := ps.length) rfl rfl hlt) rfl ?_
    refine sq_q (qt_load rfl (fun w t => t.a1 hrw)) rfl ?_
    refine sq_q (qt_len rfl) rfl ?_
    refine sq_q (qt_move rfl) rfl ?_
    refine sq_end ?_
    refine tr_block ?_
    refine tr_own (outG r9 ps (grV 0 none) k :: (grO 35 (zcs []) none ++ ps.map rowW)) (by unfold outG outW; rw [hk]; rfl) ?_
    refine tr_loop2 (fun (l : List Zd) (p : Gr) => l.length ≤ c ∧ grOk 2 l.length (zcs l) p ∧ ∀ b z, l[b]? = some z → z.z = ent m.zs ps.length b ∧ z.can) (fun l p => [(0, .slice (some ⟨ro, oo, none⟩) m.rs.length m.p.2), (3, .slice (some ⟨r9, 0, none⟩) m.rs.length m.rs.length), (4, .int .i64 (ps.length : Int)), (11, .int .i64 (m.rs.length : Int)), (12, .int .i64 (ps.length : Int)), (18, .slice (some ⟨rr, orr, none⟩) m.rs[ps.length].l.length m.rs[ps.length].p.2), (19, .int .i64 (c : Int)), (20, .int .i64 (l.length : Int))])
      (fun l p => outG r9 ps (grV l.length p) k :: (grO 35 (zcs l) p ++ ps.map rowW)) (fun l p w => (∀ q ∈ ps, ∀ z ∈ q.1.2, z.ok B w) ∧ ∀ z ∈ l, z.ok B w) (fun l p => c - l.length) [] none ⟨Nat.zero_le _, ⟨rfl, rfl⟩, fun b z h => by simp at h⟩ ⟨rfl, rfl, rfl, rfl, rfl, rfl, congrArg (fun z => some (Value.int .i64 ((z : Nat) : Int))) hrl, rfl, trivial⟩ rfl (fun w h => ⟨h, fun z hz => nomatch hz⟩) ?_
    rintro l p ⟨hlc, hok, hlz⟩
    refine tr_rseq ?_
    refine sq_q (qt_bin rfl rfl bin_lss) rfl ?_
    refine sq_end ?_
    refine tr_seq ?_
    refine tr_if rfl (fun hc => ?_) (fun hc => ?_)
    ·
      have hlt2 : l.length < c := by have := of_decide_eq_true hc; omega
      have hjl : l.length < m.rs[ps.length].l.length := by omega
      obtain ⟨hz0, hz1⟩ := hatr _ hjl
      have hzok := (hm.2.2 _ (List.getElem_mem hlt)).2.2 _ (List.getElem_mem hjl)
      have he := mt_ent hlt hjl
      obtain ⟨z, hz⟩ : ∃ z, z = m.rs[ps.length].l[l.length] := ⟨_, rfl⟩
      rw [← hz] at hz0 hz1 hzok he
      have hnz := nl_zd hzok
      refine tr_skip ?_
      repeat with_reducible first | refine tr_skip ?_ | refine tr_exit ?_ | refine tr_then ?_ | refine tr_inX ?_ | refine tr_thenX ?_ | refine tr_inN ?_ | refine tr_inR ?_ | refine tr_thenR ?_
      refine tr_seq ?_
      refine tr_block ?_
      refine tr_rseq ?_
      refine sq_q (qt_index (i := l.length) rfl rfl hjl) rfl ?_
      refine sq_q (qt_load2 rfl (fun w t => t.atA hz0) (fun w t => t.atA hz1)) rfl ?_
      refine sq_alloc rfl fun r6 => ?_
      refine sq_store 0 rfl rfl rfl rfl (Nat.le_refl 2) rfl rfl ?_
      refine sq_end ?_
      refine tr_own (zblk r6 z :: outG r9 ps (grV l.length p) k :: (grO 35 (zcs l) p ++ ps.map rowW)) rfl ?_
      refine tr_sb [9, 11] ?_
      refine sb_p 0 rfl (by kernel_rfl) (qt_move rfl) rfl ?_
      refine sb_p 1 rfl (by kernel_rfl) (qt_move rfl) rfl ?_
      refine sb_q 2 rfl (by kernel_rfl) (qt_move rfl) rfl ?_
      refine sb_q 3 rfl (by kernel_rfl) (qt_move rfl) rfl ?_
      refine sb_q 4 rfl (by kernel_rfl) (qt_index (i := ps.length) rfl rfl hlt) rfl ?_
      refine sb_q 5 rfl (by kernel_rfl) (qt_load (v := grV l.length p) rfl (fun w t => t.o1 1 rfl outG_get)) rfl ?_
      refine sb_q 6 rfl (by kernel_rfl) (qt_load2 rfl (fun w t => t.atO 0 rfl rfl) (fun w t => t.atO 0 rfl rfl)) rfl ?_
      refine sb_one 7 (by kernel_rfl) ?_
      refine so2_call (iv z.z) (Lz z.z.natAbs) rfl rfl rfl rfl (fun w t => rnorm_zd (t.zd hzok) hB) fun y => ?_
      refine sb_one 8 (by kernel_rfl) ?_
      refine so2_lit (vs := [(0, iv z.z y)]) (cells := zcs [zd z.z y]) rfl rfl rfl rfl (by simp [Instr.fill, Value.cells, iv, ig, zcs, Zd.cs, zd, show Array.range 2 = #[0, 1] from by decide]) rfl fun r32 => ?_
      refine sb_one 9 (by kernel_rfl) ?_
      refine so2_of rfl rfl ?_
      refine sq_perm ((r32, .cells (zcs [zd z.z y]).toArray 35 (0, 0)) :: (grO 35 (zcs l) p ++ (zblk r6 z :: outG r9 ps (grV l.length p) k :: ps.map rowW))) (List.Perm.cons _ (perm_mid2 _ _ _ _).symm) ?_
      refine sq_grow (p := p) (k := l.length) (m := 1) (xs := zcs l) (news := zcs [zd z.z y]) (own' := zblk r6 z :: outG r9 ps (grV l.length p) k :: ps.map rowW) rfl rfl hok rfl (by omega) (by omega) (by omega) rfl rfl rfl rfl fun p' hok' => ?_
      refine sq_perm (zblk r6 z :: outG r9 ps (grV l.length p) k :: (grO 35 (zcs l ++ zcs [zd z.z y]) p' ++ ps.map rowW)) (perm_mid2 _ _ _ _) ?_
      rw [grP_v hok']
      refine sq_back ?_
      refine sb_q 10 rfl (by kernel_rfl) (qt_index (i := ps.length) rfl rfl hlt) rfl ?_
      refine sb_one 11 (by kernel_rfl) ?_
      refine so2_store 1 rfl rfl rfl rfl rfl rfl (show 0 + ps.length * 1 + 1 ≤ (ps.map hdrW ++ grV l.length p :: List.replicate k (Value.slice none 0 0)).length by simp) rfl rfl ?_
      refine sb_end (by kernel_rfl) ?_
      refine tr_own (zblk r6 z :: outG r9 ps (grV (l ++ [zd z.z y]).length p') k :: (grO 35 (zcs (l ++ [zd z.z y])) p' ++ ps.map rowW)) ?_ ?_
      · rw [← outG_set (o := r9) (ps := ps) (v := grV l.length p) (v' := grV (l ++ [zd z.z y]).length p') (k := k), zcs_append, List.length_append, List.length_singleton, grP_v hok']
        rfl
      refine tr_drop (outG r9 ps (grV (l ++ [zd z.z y]).length p') k :: (grO 35 (zcs (l ++ [zd z.z y])) p' ++ ps.map rowW)) (List.sublist_cons_self ..) ?_
      repeat with_reducible first | refine tr_skip ?_ | refine tr_exit ?_ | refine tr_then ?_ | refine tr_inX ?_ | refine tr_thenX ?_ | refine tr_inN ?_ | refine tr_inR ?_ | refine tr_thenR ?_
      refine tr_region ?_
      refine sq_q (qt_bin rfl rfl (bin_addI (by omega) (by omega))) rfl ?_
      refine sq_q (qt_move rfl) rfl ?_
      refine sq_nil ?_
      repeat with_reducible first | refine tr_skip ?_ | refine tr_exit ?_ | refine tr_then ?_ | refine tr_inX ?_ | refine tr_thenX ?_ | refine tr_inN ?_ | refine tr_inR ?_ | refine tr_thenR ?_
      have e3 : (l ++ [zd z.z y]).length = l.length + 1 := by simp
      refine tr_round2 (l ++ [zd z.z y]) p' ⟨by omega, by rw [e3, zcs_append]; exact hok', fun b u hu => ?_⟩ (by omega) ⟨rfl, rfl, rfl, rfl, rfl, rfl, rfl, by rw [e3]; rfl, trivial⟩ rfl (fun w h => ⟨h.1.1, fun u hu => ?_⟩)
      · rw [List.getElem?_append] at hu
        split at hu
        · exact hlz b u hu
        · rw [List.getElem?_singleton] at hu
          split at hu
          · injection hu with hu
            subst hu
            rw [show b = l.length by omega]
            exact ⟨by rw [zd_z, he], zd_can _ _⟩
          · simp at hu
      · rcases List.mem_append.1 hu with h' | h'
        · exact h.1.2 u h'
        · rw [List.mem_singleton.1 h']
          exact zd_ok h.2 hnz
    ·
      have hlen : l.length = c := by have := of_decide_eq_false hc; omega
      obtain ⟨g, cap, sl, rfl⟩ : ∃ g cap sl, p = some (g, cap, sl) := by
        cases p with
        | none => exact absurd hok.1 (by omega)
        | some q => exact ⟨q.1, q.2.1, q.2.2, rfl⟩
      obtain ⟨o1, o2, o3⟩ := hok
      refine tr_exit ?_
      repeat with_reducible first | refine tr_skip ?_ | refine tr_exit ?_ | refine tr_then ?_ | refine tr_inX ?_ | refine tr_thenX ?_ | refine tr_inN ?_ | refine tr_inR ?_ | refine tr_thenR ?_
      refine tr_region ?_
      refine sq_q (qt_bin rfl rfl (bin_addI (by omega) (by omega))) rfl ?_
      refine sq_q (qt_move rfl) rfl ?_
      refine sq_nil ?_
      repeat with_reducible first | refine tr_skip ?_ | refine tr_exit ?_ | refine tr_then ?_ | refine tr_inX ?_ | refine tr_thenX ?_ | refine tr_inN ?_ | refine tr_inR ?_ | refine tr_thenR ?_
      have e4 : (ps ++ [((g, l), sl)]).length = ps.length + 1 := by simp
      refine tr_perm (outW r9 (ps ++ [((g, l), sl)]) k :: (ps ++ [((g, l), sl)]).map rowW) ?_ ?_
      · have e5 : outW r9 (ps ++ [((g, l), sl)]) k = outG r9 ps (grV l.length (some (g, cap, sl))) k := by
          unfold outW outG
          rw [List.map_append, List.append_assoc]
          show (r9, Obj.cells (ps.map hdrW ++ hdrW ((g, l), sl) :: List.replicate k (Value.slice none 0 0)).toArray _ _) = _
          rw [show hdrW ((g, l), sl) = grV l.length (some (g, cap, sl)) by
            show Value.slice _ l.length (l.length + sl.length / 2) = Value.slice _ l.length cap
            rw [show l.length + sl.length / 2 = cap by omega]]
        rw [e5, List.map_append]
        exact List.Perm.cons _ (List.perm_append_comm (l₁ := [rowW ((g, l), sl)]) (l₂ := ps.map rowW))
      refine tr_round (ps ++ [((g, l), sl)]) ⟨by omega, fun a q hq => ?_⟩ (by omega) ⟨congrArg some evm.symm, rfl, rfl, by rw [e4]; rfl, trivial⟩ (by rw [e4, show m.rs.length - (ps.length + 1) = k by omega]) (fun w h q hq z hz => ?_)
      · rw [List.getElem?_append] at hq
        split at hq
        · exact hps a q hq
        · rw [List.getElem?_singleton] at hq
          split at hq
          · injection hq with hq
            subst hq
            rw [show a = ps.length by omega]
            exact ⟨hlen, hlz⟩
          · simp at hq
      · rcases List.mem_append.1 hq with h' | h'
        · exact h.1 q h' z hz
        · rw [List.mem_singleton.1 h'] at hz
          exact h.2 z hz
  ·
    have hpl : ps.length = m.rs.length := by have := of_decide_eq_false hc; omega
    refine tr_have (fun w t => (List.pairwise_cons.1 t.nd).2) fun hnd => ?_
    refine tr_own (mownS (skOf ps) r9 (ps.map (·.1))) ?_ ?_
    · unfold mownS outW moutS
      rw [← skOf_rows hnd, ← skOf_hdrs hnd, hpl, Nat.sub_self]
    refine tr_exit ?_
    repeat with_reducible first | refine tr_skip ?_ | refine tr_exit ?_ | refine tr_then ?_ | refine tr_inX ?_ | refine tr_thenX ?_ | refine tr_inN ?_ | refine tr_inR ?_ | refine tr_thenR ?_
    refine tr_rseq ?_
    refine sq_q (qt_move rfl) rfl ?_
    refine sq_q (qt_assign rfl) rfl ?_
    refine sq_end ?_
    refine tr_ret ?_
    repeat with_reducible first | refine tr_skip ?_ | refine tr_exit ?_ | refine tr_then ?_ | refine tr_inX ?_ | refine tr_thenX ?_ | refine tr_inN ?_ | refine tr_inR ?_ | refine tr_thenR ?_
    refine tr_doneK (skOf ps, r9, ps.map (·.1)) (fun a w s t => results_1 rfl (resv_tmp s rfl)) (fun w hf hk => ⟨hf, ⟨⟨by simpa using hpl, fun a q hq => ?_⟩, fun q hq z hz => ?_⟩, hk.mono fun w h q hq z hz => ?_⟩)
    · rw [List.getElem?_map] at hq
      cases hp : ps[a]? with
      | none => rw [hp] at hq; simp at hq
      | some p =>
        rw [hp] at hq
        injection hq with hq
        subst hq
        exact ⟨(hps a p hp).1, fun b z hz => ((hps a p hp).2 b z hz).1⟩
    · obtain ⟨p, hp, rfl⟩ := List.mem_map.1 hq
      obtain ⟨a, ha⟩ := List.getElem?_of_mem hp
      obtain ⟨b, hb⟩ := List.getElem?_of_mem hz
      exact ((hps a p ha).2 b z hb).2
    · obtain ⟨p, hp, rfl⟩ := List.mem_map.1 hq
      exact h p hp z hz
end Go.Qk
end
section
set_option linter.unusedVariables false
namespace Go.Qk
open Go Go.Proofs Go.RowKit
set_option maxRecDepth 100000
set_option maxHeartbeats 4000000
theorem rquo_ret (n n' : Bool) (xs ys : List Nat) (p p' : Sv) (w : World) (S : Nat → Prop) (hx : Lm xs p w) (lx : lim xs) (hy : Lm ys p' w) (ly : lim ys) (hb : xs.length < 35184372088831) (hb' : ys.length < 35184372088831) :
    Ret Try.prog 112 [ig n xs p, ig n' ys p'] w S (iv (sgn n (val xs) / sgn n' (val ys))) (Lz (sgn n (val xs) / sgn n' (val ys)).natAbs) := by
  obtain ⟨D, hD⟩ : ∃ D, D = sgn n (val xs) / sgn n' (val ys) := ⟨_, rfl⟩
  obtain ⟨M, hM⟩ : ∃ M, M = (if (val ys) = 0 then 0 else sgn n (val xs) % sgn n' (val ys)) := ⟨_, rfl⟩
  rw [← hD]
  refine ret_of Try.func112 rfl Try.ntmps112 rfl ?_
  refine tr_rseq ?_
  refine sq_box rfl rfl fun r2 => ?_
  refine sq_box rfl rfl fun r3 => ?_
  refine sq_alloc rfl fun r4 => ?_
  refine sq_end ?_
  refine tr_rseq ?_
  refine sq_q (qt_load2 rfl (fun w t => t.atO 2 rfl rfl) (fun w t => t.atO 2 rfl rfl)) rfl ?_
  refine sq_q (qt_load2 rfl (fun w t => t.atO 1 rfl rfl) (fun w t => t.atO 1 rfl rfl)) rfl ?_
  refine sq_call (fun q : Sv × Sv => .tuple #[iv D q.1, iv M q.2, .bool (decide ((val ys) ≠ 0))]) (fun q w => Lz D.natAbs q.1 w ∧ Lz M.natAbs q.2 w) rfl rfl rfl (fun w t => by rw [hD, hM]; exact rdivmod_ret n n' xs ys p p' w _ (t.lm hx) lx (t.lm hy) ly hb hb') fun qr => ?_
  refine sq_q (qt_move rfl) rfl ?_
  refine sq_q (qt_extract rfl rfl) rfl ?_
  refine sq_q (qt_extract rfl rfl) rfl ?_
  refine sq_q (qt_extract rfl rfl) rfl ?_
  refine sq_alloc rfl fun r5 => ?_
  refine sq_alloc rfl fun r6 => ?_
  refine sq_store 1 rfl rfl rfl rfl (by first | (simp [u32s, Value.cells]; done) | (simp [u32s, Value.cells]; omega) | exact Nat.le_refl 2) rfl rfl ?_
  refine sq_store 0 rfl rfl rfl rfl (by first | (simp [u32s, Value.cells]; done) | (simp [u32s, Value.cells]; omega) | exact Nat.le_refl 2) rfl rfl ?_
  refine sq_q (qt_assign rfl) rfl ?_
  refine sq_end ?_
  refine tr_own [zblk r6 (zd M qr.2), zblk r5 (zd D qr.1), zblk r4 z0, (r3, .cells (ig n' ys p').cells 35 (0, 0)), (r2, .cells (ig n xs p).cells 35 (0, 0))] rfl ?_
  refine tr_rseq ?_
  refine sq_q (qt_load2 rfl (fun w t => t.atO 1 rfl rfl) (fun w t => t.atO 1 rfl rfl)) rfl ?_
  refine sq_store 2 rfl rfl rfl rfl (by first | (simp [u32s, Value.cells]; done) | (simp [u32s, Value.cells]; omega) | exact Nat.le_refl 2) rfl rfl ?_
  refine sq_end ?_
  refine tr_ret ?_
  repeat with_reducible first | refine tr_skip ?_ | refine tr_exit ?_ | refine tr_then ?_ | refine tr_inX ?_ | refine tr_thenX ?_ | refine tr_inN ?_ | refine tr_inR ?_ | refine tr_thenR ?_
  exact tr_done qr.1 (fun a w s t => results_1 rfl (resv_cell 2 s t rfl rfl rfl)) (fun w h _ _ => h.2.1)
end Go.Qk
end
section
set_option linter.unusedVariables false
namespace Go.Qk
open Go Go.Proofs Go.RowKit
section
variable {z z' : Zd} {a b : Int} {p q : Sv} {B B' : Nat} {w : World} {S : Nat → Prop}
theorem rquo_zd (h : z.ok B w) (h' : z'.ok B' w) (hB : B < 35184372088831) (hB' : B' < 35184372088831) : Ret Try.prog 112 [z.v, z'.v] w S (iv (z.z / z'.z)) (Lz (z.z / z'.z).natAbs) :=
  rquo_ret z.n z'.n z.xs z'.xs z.p z'.p w S h.1 h.2.1 h'.1 h'.2.1 (by have := h.2.2; omega) (by have := h'.2.2; omega)
theorem rquo_iz (h : Lz a.natAbs p w) (h' : z'.ok B' w) (hB : nl a.natAbs < 35184372088831) (hB' : B' < 35184372088831) : Ret Try.prog 112 [iv a p, z'.v] w S (iv (a / z'.z)) (Lz (a / z'.z).natAbs) := by
  have g := rquo_zd (S := S) (zd_ok h (Nat.le_refl _)) h' hB hB'
  rwa [zd_z] at g
theorem rneg_zd (h : z.ok B w) (hB : B ≤ 35184372088832) : Ret Try.prog 73 [z.v] w S (iv (-z.z)) (Lz (-z.z).natAbs) := by
  have h := rneg_ret z.n z.xs z.p w S h.1 h.2.1 (Nat.le_trans h.2.2 hB)
  rw [show (-z.z).natAbs = val z.xs by rw [Int.natAbs_neg]; exact sgn_natAbs _ _]
  exact h
end
end Go.Qk
end
section
set_option linter.unusedVariables false
namespace Go.Qk
open Go Go.Proofs Go.RowKit
set_option maxRecDepth 100000
set_option maxHeartbeats 4000000
theorem rdeterminant_ret (m : Mt) (B n : Nat) (w0 : World) (S : Nat → Prop) (hm : m.ok B w0) (hB : B ≤ 8388607) (hB1 : 1 ≤ B) (hlen : m.rs.length = n) (hn16 : n ≤ 16) (hrow : ∀ r ∈ m.rs, r.l.length = n) :
    Ret Try.prog 69 [m.v] w0 S (iv (bdet n (ent m.zs))) (fun p w => Lz (bdet n (ent m.zs)).natAbs p w ∧ nl (bdet n (ent m.zs)).natAbs ≤ 549755813887) := by
  obtain ⟨D, hD⟩ : ∃ D, D = bdet n (ent m.zs) := ⟨_, rfl⟩
  rw [← hD]
  refine ret_of Try.func69 rfl Try.ntmps69 rfl ?_
  refine tr_rseq ?_
  refine sq_alloc rfl fun r2 => ?_
  refine sq_end ?_
  refine tr_rseq ?_
  refine sq_q (qt_move rfl) rfl ?_
  refine sq_callK (fun x : Sk × Nat × List Wr => .slice (some ⟨x.2.1, 0, none⟩) n n) (fun x => mownS x.1 x.2.1 x.2.2) (fun x => MG (ent m.zs) n n x.2.2 ∧ allz Zd.can x.2.2) (fun x w => allz (fun z => z.ok B w) x.2.2) rfl rfl rfl (fun w t => by
    have h := copy_ret m B n w (Nn w0 S [(r2, .cells (Value.agg #[.bool false, .slice none 0 0]).cells 35 (0, 0))] w) (t.mt hm) (by omega) (by omega) hrow (by omega) (by omega)
    rw [hlen] at h
    exact h) fun x hx => ?_
  refine sq_q (qt_assign rfl) rfl ?_
  refine sq_end ?_
  obtain ⟨σ, o, qs⟩ := x
  obtain ⟨hG, hcan⟩ := hx
  dsimp only at hG hcan
  refine tr_rseq ?_
  refine sq_q (qt_move rfl) rfl ?_
  refine sq_q (qt_len rfl) rfl ?_
  refine sq_q (qt_assign rfl) rfl ?_
  refine sq_end ?_
  refine tr_rseq ?_
  refine sq_call (iv 1) (Lz (1 : Int).natAbs) rfl rfl rfl (fun w t => rsmall_ret 1 w _ (by omega) (by omega)) fun p1 => ?_
  refine sq_alloc rfl fun r5 => ?_
  refine sq_store 0 rfl rfl rfl rfl (Nat.le_refl 2) rfl rfl ?_
  refine sq_q (qt_assign rfl) rfl ?_
  refine sq_end ?_
  refine tr_perm (zblk r5 (zd 1 p1) :: zblk r2 z0 :: mownS σ o qs) (List.Perm.cons _ (List.perm_append_comm (l₁ := mownS σ o qs) (l₂ := [zblk r2 z0]))) ?_
  refine tr_seq ?_
  refine tr_rseq ?_
  refine sq_q (qt_assign rfl) rfl ?_
  refine sq_end ?_
  refine tr_block ?_
  refine tr_loop4 (fun (k : Nat) (qs : List Wr) (pz : Zd) (neg : Bool) => k ≤ n ∧ allz Zd.can qs ∧ pz.can ∧ ∃ g, MG g n n qs ∧ bar n (n - k) k g pz.z neg = D)
    (fun k qs pz neg => [(2, .pointer (some ⟨r2, 0, none⟩)), (3, .slice (some ⟨o, 0, none⟩) n n), (4, .int .i64 (n : Int)), (5, .pointer (some ⟨r5, 0, none⟩)), (6, .bool neg), (7, .int .i64 (k : Int))])
    (fun k qs pz neg => zblk r5 pz :: zblk r2 z0 :: mownS σ o qs) (fun k qs pz neg w => alli (fun _ _ z => z.ok (bd B k) w) qs ∧ pz.ok (bd B k) w) (fun k qs pz neg => n - k) 0 qs (zd 1 p1) false ⟨Nat.zero_le _, hcan, zd_can _ _, ent m.zs, hG, by rw [zd_z, Nat.sub_zero, hD]; rfl⟩ ⟨rfl, rfl, rfl, rfl, rfl, rfl, trivial⟩ rfl (fun w h => ⟨fun a q hq b z hz => h.1.2 q (List.mem_of_getElem? hq) z (List.mem_of_getElem? hz), zd_ok h.2 (Nat.le_trans nl_one hB1)⟩) ?_
  clear hG hcan qs
  rintro k qs pz neg ⟨hkn, hcan, hpc, g, hG, hbar⟩
  refine tr_seq ?_
  refine tr_rseq ?_
  refine sq_q (qt_move rfl) rfl ?_
  refine sq_q (qt_move rfl) rfl ?_
  refine sq_q (qt_bin rfl rfl bin_lss) rfl ?_
  refine sq_end ?_
  refine tr_if rfl (fun hc => ?_) (fun hc => ?_)
  ·
    have hlt : k < n := by have := of_decide_eq_true hc; omega
    have hbd := bd_le (B := B) (k := k) (by omega) hB
    have hbd1 := bd_le (B := B) (k := k + 1) (by omega) hB
    refine tr_skip ?_
    repeat with_reducible first | refine tr_skip ?_ | refine tr_exit ?_ | refine tr_then ?_ | refine tr_inX ?_ | refine tr_thenX ?_ | refine tr_inN ?_ | refine tr_inR ?_ | refine tr_thenR ?_
    refine tr_seq ?_
    refine tr_block ?_
    refine tr_rseq ?_
    refine sq_q (qt_move rfl) rfl ?_
    refine sq_q (qt_assign rfl) rfl ?_
    refine sq_end ?_
    refine tr_cut (fun p : Nat => k ≤ p ∧ p ≤ n ∧ piv g k (n - k) k = p ∧ (p < n → g p k ≠ 0)) (fun p => [(2, .pointer (some ⟨r2, 0, none⟩)), (3, .slice (some ⟨o, 0, none⟩) n n), (4, .int .i64 (n : Int)), (5, .pointer (some ⟨r5, 0, none⟩)), (6, .bool neg), (7, .int .i64 (k : Int)), (8, .int .i64 (p : Int))])
      (fun p => zblk r5 pz :: zblk r2 z0 :: mownS σ o qs) (fun p w => alli (fun _ _ z => z.ok (bd B k) w) qs ∧ pz.ok (bd B k) w) ?_ ?_
    ·
      refine tr_block ?_
      refine tr_loop (fun p : Nat => k ≤ p ∧ p ≤ n ∧ piv g k (n - k) k = piv g k (n - p) p) (fun p => [(2, .pointer (some ⟨r2, 0, none⟩)), (3, .slice (some ⟨o, 0, none⟩) n n), (4, .int .i64 (n : Int)), (5, .pointer (some ⟨r5, 0, none⟩)), (6, .bool neg), (7, .int .i64 (k : Int)), (8, .int .i64 (p : Int))])
        (fun p => zblk r5 pz :: zblk r2 z0 :: mownS σ o qs) (fun p w => alli (fun _ _ z => z.ok (bd B k) w) qs ∧ pz.ok (bd B k) w) (fun p => n - p) k ⟨Nat.le_refl _, hkn, rfl⟩ ⟨rfl, rfl, rfl, rfl, rfl, rfl, rfl, trivial⟩ rfl (fun _ h => h) ?_
      rintro p ⟨hkp, hpn, hpiv⟩
      refine tr_seq ?_
      have hcs : p = n ∨ (p < n ∧ g p k = 0) ∨ (p < n ∧ g p k ≠ 0) := by omega
      rcases hcs with hpe | ⟨hpl, hg0⟩ | ⟨hpl, hg0⟩
      ·
        refine tr_rseq ?_
        refine sq_q (qt_move rfl) rfl ?_
        refine sq_q (qt_move rfl) rfl ?_
        refine sq_q (qt_bin rfl rfl (bF bin_lss (by omega))) rfl ?_
        refine sq_q (qt_move rfl) rfl ?_
        refine sq_gF rfl rfl rfl rfl ?_
        refine sq_gF rfl rfl rfl rfl ?_
        refine sq_gF rfl rfl rfl rfl ?_
        refine sq_gF rfl rfl rfl rfl ?_
        refine sq_gF rfl rfl rfl rfl ?_
        refine sq_gF rfl rfl rfl rfl ?_
        refine sq_gF rfl rfl rfl rfl ?_
        refine sq_gF rfl rfl rfl rfl ?_
        refine sq_gF rfl rfl rfl rfl ?_
        refine sq_q (qt_pick rfl rfl) rfl ?_
        refine sq_end ?_
        refine tr_ifF rfl ?_
        refine tr_exit ?_
        repeat with_reducible first | refine tr_skip ?_ | refine tr_exit ?_ | refine tr_then ?_ | refine tr_inX ?_ | refine tr_thenX ?_ | refine tr_inN ?_ | refine tr_inR ?_ | refine tr_thenR ?_
        exact tr_mid p ⟨hkp, hpn, by rw [hpiv, hpe, Nat.sub_self]; rfl, fun h => by omega⟩ ⟨rfl, rfl, rfl, rfl, rfl, rfl, rfl, trivial⟩ rfl (fun _ h => h)
      ·
        obtain ⟨q, hq, hql⟩ := hG.get hpl
        obtain ⟨z, hz⟩ : ∃ z, q.2[k]? = some z := ⟨_, List.getElem?_eq_getElem (by omega)⟩
        have hzz := (hG.2 p q hq).2 k z hz
        refine tr_rseq ?_
        refine sq_q (qt_move rfl) rfl ?_
        refine sq_q (qt_move rfl) rfl ?_
        refine sq_q (qt_bin rfl rfl (bT bin_lss (by omega))) rfl ?_
        refine sq_q (qt_move rfl) rfl ?_
        refine sq_gT rfl rfl ?_
        refine sq_q (qt_move rfl) rfl ?_
        refine sq_gT rfl rfl ?_
        refine sq_q (qt_move rfl) rfl ?_
        refine sq_gT rfl rfl ?_
        refine sq_q (qt_index (i := p) rfl rfl hpl) rfl ?_
        refine sq_gT rfl rfl ?_
        refine sq_q (qt_load rfl (fun w t => t.o1 2 rfl (moutS_get hq))) rfl ?_
        refine sq_gT rfl rfl ?_
        refine sq_q (qt_move rfl) rfl ?_
        refine sq_gT rfl rfl ?_
        refine sq_q (qt_index (i := k) rfl rfl (by omega)) rfl ?_
        refine sq_gT rfl rfl ?_
        refine sq_q (qt_load2 rfl (fun w t => t.mzS0 (p + 3) (mownS_at (o := o) hq) hz) (fun w t => t.mzS1 (p + 3) (mownS_at (o := o) hq) hz)) rfl ?_
        refine sq_gT rfl rfl ?_
        refine sq_call (val := fun _ : Unit => .int .i64 z.z.sign) (F := fun _ _ => True) rfl rfl rfl (fun w t => rsign_zd (t.r.1 p q hq k z hz) (by omega)) fun _ => ?_
        refine sq_gT rfl rfl ?_
        refine sq_q (qt_bin rfl rfl (bT bin_eql (by rw [hzz, hg0]; rfl))) rfl ?_
        refine sq_q (qt_pick rfl rfl) rfl ?_
        refine sq_end ?_
        refine tr_ifT rfl ?_
        refine tr_skip ?_
        repeat with_reducible first | refine tr_skip ?_ | refine tr_exit ?_ | refine tr_then ?_ | refine tr_inX ?_ | refine tr_thenX ?_ | refine tr_inN ?_ | refine tr_inR ?_ | refine tr_thenR ?_
        refine tr_block ?_
        refine tr_region ?_
        refine sq_q (qt_move rfl) rfl ?_
        refine sq_q (qt_bin rfl rfl (bin_addI (by omega) (by omega))) rfl ?_
        refine sq_q (qt_assign rfl) rfl ?_
        refine sq_nil ?_
        repeat with_reducible first | refine tr_skip ?_ | refine tr_exit ?_ | refine tr_then ?_ | refine tr_inX ?_ | refine tr_thenX ?_ | refine tr_inN ?_ | refine tr_inR ?_ | refine tr_thenR ?_
        refine tr_round (p + 1) ⟨by omega, by omega, ?_⟩ (by omega) ⟨rfl, rfl, rfl, rfl, rfl, rfl, rfl, trivial⟩ rfl (fun _ h => h.1)
        rw [hpiv, show n - p = (n - (p + 1)) + 1 by omega, piv_go hg0]
      ·
        obtain ⟨q, hq, hql⟩ := hG.get hpl
        obtain ⟨z, hz⟩ : ∃ z, q.2[k]? = some z := ⟨_, List.getElem?_eq_getElem (by omega)⟩
        have hzz := (hG.2 p q hq).2 k z hz
        refine tr_rseq ?_
        refine sq_q (qt_move rfl) rfl ?_
        refine sq_q (qt_move rfl) rfl ?_
        refine sq_q (qt_bin rfl rfl (bT bin_lss (by omega))) rfl ?_
        refine sq_q (qt_move rfl) rfl ?_
        refine sq_gT rfl rfl ?_
        refine sq_q (qt_move rfl) rfl ?_
        refine sq_gT rfl rfl ?_
        refine sq_q (qt_move rfl) rfl ?_
        refine sq_gT rfl rfl ?_
        refine sq_q (qt_index (i := p) rfl rfl hpl) rfl ?_
        refine sq_gT rfl rfl ?_
        refine sq_q (qt_load rfl (fun w t => t.o1 2 rfl (moutS_get hq))) rfl ?_
        refine sq_gT rfl rfl ?_
        refine sq_q (qt_move rfl) rfl ?_
        refine sq_gT rfl rfl ?_
        refine sq_q (qt_index (i := k) rfl rfl (by omega)) rfl ?_
        refine sq_gT rfl rfl ?_
        refine sq_q (qt_load2 rfl (fun w t => t.mzS0 (p + 3) (mownS_at (o := o) hq) hz) (fun w t => t.mzS1 (p + 3) (mownS_at (o := o) hq) hz)) rfl ?_
        refine sq_gT rfl rfl ?_
        refine sq_call (val := fun _ : Unit => .int .i64 z.z.sign) (F := fun _ _ => True) rfl rfl rfl (fun w t => rsign_zd (t.r.1 p q hq k z hz) (by omega)) fun _ => ?_
        refine sq_gT rfl rfl ?_
        refine sq_q (qt_bin rfl rfl (bF bin_eql (by rw [hzz]; exact fun h => hg0 (Int.sign_eq_zero_iff_zero.1 h)))) rfl ?_
        refine sq_q (qt_pick rfl rfl) rfl ?_
        refine sq_end ?_
        refine tr_ifF rfl ?_
        refine tr_exit ?_
        repeat with_reducible first | refine tr_skip ?_ | refine tr_exit ?_ | refine tr_then ?_ | refine tr_inX ?_ | refine tr_thenX ?_ | refine tr_inN ?_ | refine tr_inR ?_ | refine tr_thenR ?_
        exact tr_mid p ⟨hkp, hpn, by rw [hpiv, piv_stop hg0], fun _ => hg0⟩ ⟨rfl, rfl, rfl, rfl, rfl, rfl, rfl, trivial⟩ rfl (fun _ h => h.1)
    ·
      rintro p ⟨hkp, hpn, hpiv, hpg⟩
      rw [show n - k = (n - (k + 1)) + 1 by omega, bar, hpiv] at hbar
      refine tr_seq ?_
      refine tr_rseq ?_
      refine sq_q (qt_move rfl) rfl ?_
      refine sq_q (qt_move rfl) rfl ?_
      refine sq_q (qt_bin rfl rfl bin_eql) rfl ?_
      refine sq_end ?_
      refine tr_if rfl (fun hc => ?_) (fun hc => ?_)
      ·
        have hpe : p = n := by have := of_decide_eq_true hc; omega
        rw [if_pos hpe] at hbar
        refine tr_rseq ?_
        refine sq_q (qt_build rfl built0) rfl ?_
        refine sq_store 1 rfl rfl rfl rfl (by first | (simp [u32s, Value.cells]; done) | (simp [u32s, Value.cells]; omega) | exact Nat.le_refl 2) rfl rfl ?_
        refine sq_end ?_
        refine tr_ret ?_
        repeat with_reducible first | refine tr_skip ?_ | refine tr_exit ?_ | refine tr_then ?_ | refine tr_inX ?_ | refine tr_thenX ?_ | refine tr_inN ?_ | refine tr_inR ?_ | refine tr_thenR ?_
        refine tr_done (none, 0) (fun a w s t => results_1 rfl (by rw [← hbar, iv_zero]; exact resv_cell 1 s t rfl rfl rfl)) (fun w _ _ _ => ?_)
        rw [← hbar, show (0 : Int).natAbs = 0 from rfl, Lz, limbsOf_zero, nl_zero.2 rfl]
        exact ⟨⟨Rd.nil _ _, Nat.le_refl _⟩, Nat.zero_le _⟩
      ·
        have hpl : p < n := by have := of_decide_eq_false hc; omega
        have hpk := hpg hpl
        rw [if_neg (by omega)] at hbar
        refine tr_skip ?_
        repeat with_reducible first | refine tr_skip ?_ | refine tr_exit ?_ | refine tr_then ?_ | refine tr_inX ?_ | refine tr_thenX ?_ | refine tr_inN ?_ | refine tr_inR ?_ | refine tr_thenR ?_
        refine tr_cut3 (fun (g' : Nat → Nat → Int) (qs' : List Wr) (neg' : Bool) => MG g' n n qs' ∧ allz Zd.can qs' ∧ bar n (n - (k + 1)) (k + 1) (elim g' k pz.z) (g' k k) neg' = D) (fun g' qs' neg' => [(2, .pointer (some ⟨r2, 0, none⟩)), (3, .slice (some ⟨o, 0, none⟩) n n), (4, .int .i64 (n : Int)), (5, .pointer (some ⟨r5, 0, none⟩)), (6, .bool neg'), (7, .int .i64 (k : Int))])
          (fun g' qs' neg' => zblk r5 pz :: zblk r2 z0 :: mownS σ o qs') (fun g' qs' neg' w => alli (fun _ _ z => z.ok (bd B k) w) qs' ∧ pz.ok (bd B k) w) ?_ ?_
        ·
          refine tr_rseq ?_
          refine sq_q (qt_move rfl) rfl ?_
          refine sq_q (qt_move rfl) rfl ?_
          refine sq_q (qt_bin rfl rfl bin_gtr) rfl ?_
          refine sq_end ?_
          refine tr_if rfl (fun hc => ?_) (fun hc => ?_)
          ·
            have hne : p ≠ k := by have := of_decide_eq_true hc; omega
            rw [if_neg hne] at hbar
            obtain ⟨qp, hqp, _⟩ := hG.get hpl
            obtain ⟨qk, hqk, _⟩ := hG.get hlt
            refine tr_rsb [13, 15] ?_
            refine sb_q 0 rfl (by kernel_rfl) (qt_move rfl) rfl ?_
            refine sb_q 1 rfl (by kernel_rfl) (qt_move rfl) rfl ?_
            refine sb_p 2 rfl (by kernel_rfl) (qt_move rfl) rfl ?_
            refine sb_p 3 rfl (by kernel_rfl) (qt_move rfl) rfl ?_
            refine sb_q 4 rfl (by kernel_rfl) (qt_move rfl) rfl ?_
            refine sb_q 5 rfl (by kernel_rfl) (qt_move rfl) rfl ?_
            refine sb_q 6 rfl (by kernel_rfl) (qt_index (i := k) rfl rfl hlt) rfl ?_
            refine sb_q 7 rfl (by kernel_rfl) (qt_load rfl (fun w t => t.o1 2 rfl (moutS_get hqk))) rfl ?_
            refine sb_q 8 rfl (by kernel_rfl) (qt_move rfl) rfl ?_
            refine sb_q 9 rfl (by kernel_rfl) (qt_move rfl) rfl ?_
            refine sb_q 10 rfl (by kernel_rfl) (qt_index (i := p) rfl rfl hpl) rfl ?_
            refine sb_q 11 rfl (by kernel_rfl) (qt_load rfl (fun w t => t.o1 2 rfl (moutS_get hqp))) rfl ?_
            refine sb_q 12 rfl (by kernel_rfl) (qt_index (i := p) rfl rfl hpl) rfl ?_
            refine sb_one 13 (by kernel_rfl) ?_
            refine so2_store 2 rfl rfl rfl rfl rfl rfl (show 0 + p * 1 + 1 ≤ (qs.map (mhdrS σ) ++ List.replicate 0 (Value.slice none 0 0)).length by simp; have := hG.1; omega) rfl rfl ?_
            refine sb_q 14 rfl (by kernel_rfl) (qt_index (i := k) rfl rfl hlt) rfl ?_
            refine sb_one 15 (by kernel_rfl) ?_
            refine so2_store 2 rfl rfl rfl rfl rfl rfl (show 0 + k * 1 + 1 ≤ (wr (qs.map (mhdrS σ) ++ List.replicate 0 (Value.slice none 0 0)) (0 + p * 1) [mhdrS σ qk]).length by rw [wr_length]; simp; have := hG.1; omega) rfl rfl ?_
            refine sb_endk (by kernel_rfl) ?_
            refine tr_region ?_
            refine sq_q (qt_move rfl) rfl ?_
            refine sq_q (qt_not rfl) rfl ?_
            refine sq_q (qt_assign rfl) rfl ?_
            refine sq_nil ?_
            repeat with_reducible first | refine tr_skip ?_ | refine tr_exit ?_ | refine tr_then ?_ | refine tr_inX ?_ | refine tr_thenX ?_ | refine tr_inN ?_ | refine tr_inR ?_ | refine tr_thenR ?_
            refine tr_perm (zblk r5 pz :: zblk r2 z0 :: mownS σ o (qswap qs p k qp qk)) ?_ ?_
            · have e : (o, Obj.cells (wr (wr (qs.map (mhdrS σ) ++ List.replicate 0 (Value.slice none 0 0)) (0 + p * 1) [mhdrS σ qk]) (0 + k * 1) [mhdrS σ qp]).toArray 44 (0, 0)) = moutS σ o (qswap qs p k qp qk) 0 := by
                unfold moutS
                rw [← qswapS_hdr]
                simp only [wr, Nat.zero_add, Nat.mul_one]
              show (zblk r5 pz :: zblk r2 z0 :: (o, Obj.cells (wr (wr (qs.map (mhdrS σ) ++ List.replicate 0 (Value.slice none 0 0)) (0 + p * 1) [mhdrS σ qk]) (0 + k * 1) [mhdrS σ qp]).toArray 44 (0, 0)) :: qs.map (mrowS σ)).Perm _
              rw [e]
              exact ((((qswap_perm hqp hqk).symm.map (mrowS σ)).cons _).cons _).cons _
            exact tr_mid3 (swp g p k) (qswap qs p k qp qk) (!neg) ⟨hG.swap hqp hqk, fun q hq => hcan q ((qswap_perm hqp hqk).mem_iff.1 hq), hbar⟩ ⟨rfl, rfl, rfl, rfl, rfl, rfl, trivial⟩ rfl (fun w h => ⟨h.1.swap hqp hqk, h.2⟩)
          ·
            have hpe : p = k := by have := of_decide_eq_false hc; omega
            rw [if_pos hpe] at hbar
            refine tr_skip ?_
            repeat with_reducible first | refine tr_skip ?_ | refine tr_exit ?_ | refine tr_then ?_ | refine tr_inX ?_ | refine tr_thenX ?_ | refine tr_inN ?_ | refine tr_inR ?_ | refine tr_thenR ?_
            exact tr_mid3 g qs neg ⟨hG, hcan, hbar⟩ ⟨rfl, rfl, rfl, rfl, rfl, rfl, trivial⟩ rfl (fun w h => h)
        ·
          clear hG hbar hpg hpiv hcan
          rintro g' qs' neg' ⟨hG, hcan, hbar⟩
          refine tr_seq ?_
          refine tr_rseq ?_
          refine sq_q (qt_move rfl) rfl ?_
          refine sq_q (qt_bin rfl rfl (bin_addI (by omega) (by omega))) rfl ?_
          refine sq_q (qt_assign rfl) rfl ?_
          refine sq_end ?_
          refine tr_block ?_
          refine tr_loop2 (fun (i : Nat) (qs : List Wr) => k + 1 ≤ i ∧ i ≤ n ∧ allz Zd.can qs ∧ MG (elimP g' k pz.z i 0) n n qs) (fun i qs => [(2, .pointer (some ⟨r2, 0, none⟩)), (3, .slice (some ⟨o, 0, none⟩) n n), (4, .int .i64 (n : Int)), (5, .pointer (some ⟨r5, 0, none⟩)), (6, .bool neg'), (7, .int .i64 (k : Int)), (9, .int .i64 (i : Int))])
            (fun i qs => zblk r5 pz :: zblk r2 z0 :: mownS σ o qs) (fun i qs w => alli (fun a b z => z.ok (bb B k i 0 a b) w) qs ∧ pz.ok (bd B k) w) (fun i qs => n - i) (k + 1) qs' ⟨Nat.le_refl _, hlt, hcan, hG.congr (fun a b _ _ => by unfold elimP; rw [if_neg (by omega)])⟩ ⟨rfl, rfl, rfl, rfl, rfl, rfl, rfl, trivial⟩ rfl (fun w h => ⟨h.1.mono fun a b z hz => by unfold bb; rw [if_neg (by unfold dn; omega)]; exact hz, h.2⟩) ?_
          clear hG hcan
          rintro i qs ⟨hki, hin, hcan, hG⟩
          refine tr_seq ?_
          refine tr_rseq ?_
          refine sq_q (qt_move rfl) rfl ?_
          refine sq_q (qt_move rfl) rfl ?_
          refine sq_q (qt_bin rfl rfl bin_lss) rfl ?_
          refine sq_end ?_
          refine tr_if rfl (fun hc => ?_) (fun hc => ?_)
          ·
            have hil : i < n := by have := of_decide_eq_true hc; omega
            refine tr_skip ?_
            repeat with_reducible first | refine tr_skip ?_ | refine tr_exit ?_ | refine tr_then ?_ | refine tr_inX ?_ | refine tr_thenX ?_ | refine tr_inN ?_ | refine tr_inR ?_ | refine tr_thenR ?_
            refine tr_seq ?_
            refine tr_block ?_
            refine tr_rseq ?_
            refine sq_q (qt_move rfl) rfl ?_
            refine sq_q (qt_bin rfl rfl (bin_addI (by omega) (by omega))) rfl ?_
            refine sq_q (qt_assign rfl) rfl ?_
            refine sq_end ?_
            refine tr_block ?_
            refine tr_loop2 (fun (j : Nat) (qs : List Wr) => k + 1 ≤ j ∧ j ≤ n ∧ allz Zd.can qs ∧ MG (elimP g' k pz.z i j) n n qs) (fun j qs => [(2, .pointer (some ⟨r2, 0, none⟩)), (3, .slice (some ⟨o, 0, none⟩) n n), (4, .int .i64 (n : Int)), (5, .pointer (some ⟨r5, 0, none⟩)), (6, .bool neg'), (7, .int .i64 (k : Int)), (9, .int .i64 (i : Int)), (10, .int .i64 (j : Int))])
              (fun j qs => zblk r5 pz :: zblk r2 z0 :: mownS σ o qs) (fun j qs w => alli (fun a b z => z.ok (bb B k i j a b) w) qs ∧ pz.ok (bd B k) w) (fun j qs => n - j) (k + 1) qs ⟨Nat.le_refl _, hlt, hcan, hG.congr (fun a b _ _ => by unfold elimP; congr 1; exact propext (by omega))⟩ ⟨rfl, rfl, rfl, rfl, rfl, rfl, rfl, rfl, trivial⟩ rfl (fun w h => ⟨h.1.mono fun a b z hz => by have e : bb B k i (k + 1) a b = bb B k i 0 a b := (by unfold bb; congr 1; exact propext (by unfold dn; omega)); rw [e]; exact hz, h.2⟩) ?_
            clear hG hcan
            rintro j qs ⟨hkj, hjn, hcan, hG⟩
            refine tr_seq ?_
            refine tr_rseq ?_
            refine sq_q (qt_move rfl) rfl ?_
            refine sq_q (qt_move rfl) rfl ?_
            refine sq_q (qt_bin rfl rfl bin_lss) rfl ?_
            refine sq_end ?_
            refine tr_if rfl (fun hc => ?_) (fun hc => ?_)
            ·
              have hjl : j < n := by have := of_decide_eq_true hc; omega
              obtain ⟨qk, hqk, hqkl⟩ := hG.get hlt
              obtain ⟨qi, hqi, hqil⟩ := hG.get hil
              obtain ⟨zkk, hkk⟩ : ∃ z, qk.2[k]? = some z := ⟨_, List.getElem?_eq_getElem (by omega)⟩
              obtain ⟨zkj, hkjz⟩ : ∃ z, qk.2[j]? = some z := ⟨_, List.getElem?_eq_getElem (by omega)⟩
              obtain ⟨zik, hik⟩ : ∃ z, qi.2[k]? = some z := ⟨_, List.getElem?_eq_getElem (by omega)⟩
              obtain ⟨zij, hij⟩ : ∃ z, qi.2[j]? = some z := ⟨_, List.getElem?_eq_getElem (by omega)⟩
              have ekk : zkk.z = g' k k := by rw [(hG.2 k qk hqk).2 k zkk hkk]; unfold elimP; rw [if_neg (by omega)]
              have ekj : zkj.z = g' k j := by rw [(hG.2 k qk hqk).2 j zkj hkjz]; unfold elimP; rw [if_neg (by omega)]
              have eik : zik.z = g' i k := by rw [(hG.2 i qi hqi).2 k zik hik]; unfold elimP; rw [if_neg (by omega)]
              have eij : zij.z = g' i j := by rw [(hG.2 i qi hqi).2 j zij hij]; unfold elimP; rw [if_neg (by omega)]
              have hlow : ∀ a b, ¬ dn k i j a b → bb B k i j a b = bd B k := fun a b h => by unfold bb; rw [if_neg h]
              have bkk := hlow k k (by unfold dn; omega)
              have bkj := hlow k j (by unfold dn; omega)
              have bik := hlow i k (by unfold dn; omega)
              have bij := hlow i j (by unfold dn; omega)
              obtain ⟨Xv, hXv⟩ : ∃ X, X = zkk.z * zij.z - zik.z * zkj.z := ⟨_, rfl⟩
              refine tr_have (fun w t => (⟨nl_zd (t.r.1 k qk hqk k zkk hkk), nl_zd (t.r.1 i qi hqi j zij hij), nl_zd (t.r.1 i qi hqi k zik hik), nl_zd (t.r.1 k qk hqk j zkj hkjz)⟩ : nl zkk.z.natAbs ≤ bb B k i j k k ∧ nl zij.z.natAbs ≤ bb B k i j i j ∧ nl zik.z.natAbs ≤ bb B k i j i k ∧ nl zkj.z.natAbs ≤ bb B k i j k j)) fun hb => ?_
              obtain ⟨hb1, hb2, hb3, hb4⟩ := hb
              rw [bkk] at hb1
              rw [bij] at hb2
              rw [bik] at hb3
              rw [bkj] at hb4
              have hm1 := nl_imul zkk.z zij.z
              have hm2 := nl_imul zik.z zkj.z
              have hm3 := nl_isub (zkk.z * zij.z) (zik.z * zkj.z)
              rw [← hXv] at hm3
              have hXb : nl Xv.natAbs ≤ bd B (k + 1) := by rw [bd]; omega
              refine tr_skip ?_
              repeat with_reducible first | refine tr_skip ?_ | refine tr_exit ?_ | refine tr_then ?_ | refine tr_inX ?_ | refine tr_thenX ?_ | refine tr_inN ?_ | refine tr_inR ?_ | refine tr_thenR ?_
              refine tr_seq ?_
              refine tr_block ?_
              refine tr_sb [39] ?_
              refine sb_q 0 rfl (by kernel_rfl) (qt_move rfl) rfl ?_
              refine sb_q 1 rfl (by kernel_rfl) (qt_move rfl) rfl ?_
              refine sb_q 2 rfl (by kernel_rfl) (qt_index (i := i) rfl rfl hil) rfl ?_
              refine sb_q 3 rfl (by kernel_rfl) (qt_load rfl (fun w t => t.o1 2 rfl (moutS_get hqi))) rfl ?_
              refine sb_q 4 rfl (by kernel_rfl) (qt_move rfl) rfl ?_
              refine sb_q 5 rfl (by kernel_rfl) (qt_move rfl) rfl ?_
              refine sb_q 6 rfl (by kernel_rfl) (qt_move rfl) rfl ?_
              refine sb_q 7 rfl (by kernel_rfl) (qt_index (i := k) rfl rfl hlt) rfl ?_
              refine sb_q 8 rfl (by kernel_rfl) (qt_load rfl (fun w t => t.o1 2 rfl (moutS_get hqk))) rfl ?_
              refine sb_q 9 rfl (by kernel_rfl) (qt_move rfl) rfl ?_
              refine sb_q 10 rfl (by kernel_rfl) (qt_index (i := k) rfl rfl (by omega)) rfl ?_
              refine sb_q 11 rfl (by kernel_rfl) (qt_load2 rfl (fun w t => t.mzS0 (k + 3) (mownS_at (o := o) hqk) hkk) (fun w t => t.mzS1 (k + 3) (mownS_at (o := o) hqk) hkk)) rfl ?_
              refine sb_q 12 rfl (by kernel_rfl) (qt_move rfl) rfl ?_
              refine sb_q 13 rfl (by kernel_rfl) (qt_move rfl) rfl ?_
              refine sb_q 14 rfl (by kernel_rfl) (qt_index (i := i) rfl rfl hil) rfl ?_
              refine sb_q 15 rfl (by kernel_rfl) (qt_load rfl (fun w t => t.o1 2 rfl (moutS_get hqi))) rfl ?_
              refine sb_q 16 rfl (by kernel_rfl) (qt_move rfl) rfl ?_
              refine sb_q 17 rfl (by kernel_rfl) (qt_index (i := j) rfl rfl (by omega)) rfl ?_
              refine sb_q 18 rfl (by kernel_rfl) (qt_load2 rfl (fun w t => t.mzS0 (i + 3) (mownS_at (o := o) hqi) hij) (fun w t => t.mzS1 (i + 3) (mownS_at (o := o) hqi) hij)) rfl ?_
              refine sb_q 20 rfl (by kernel_rfl) (qt_move rfl) rfl ?_
              refine sb_q 21 rfl (by kernel_rfl) (qt_move rfl) rfl ?_
              refine sb_q 22 rfl (by kernel_rfl) (qt_index (i := i) rfl rfl hil) rfl ?_
              refine sb_q 23 rfl (by kernel_rfl) (qt_load rfl (fun w t => t.o1 2 rfl (moutS_get hqi))) rfl ?_
              refine sb_q 24 rfl (by kernel_rfl) (qt_move rfl) rfl ?_
              refine sb_q 25 rfl (by kernel_rfl) (qt_index (i := k) rfl rfl (by omega)) rfl ?_
              refine sb_q 26 rfl (by kernel_rfl) (qt_load2 rfl (fun w t => t.mzS0 (i + 3) (mownS_at (o := o) hqi) hik) (fun w t => t.mzS1 (i + 3) (mownS_at (o := o) hqi) hik)) rfl ?_
              refine sb_q 27 rfl (by kernel_rfl) (qt_move rfl) rfl ?_
              refine sb_q 28 rfl (by kernel_rfl) (qt_move rfl) rfl ?_
              refine sb_q 29 rfl (by kernel_rfl) (qt_index (i := k) rfl rfl hlt) rfl ?_
              refine sb_q 30 rfl (by kernel_rfl) (qt_load rfl (fun w t => t.o1 2 rfl (moutS_get hqk))) rfl ?_
              refine sb_q 31 rfl (by kernel_rfl) (qt_move rfl) rfl ?_
              refine sb_q 32 rfl (by kernel_rfl) (qt_index (i := j) rfl rfl (by omega)) rfl ?_
              refine sb_q 33 rfl (by kernel_rfl) (qt_load2 rfl (fun w t => t.mzS0 (k + 3) (mownS_at (o := o) hqk) hkjz) (fun w t => t.mzS1 (k + 3) (mownS_at (o := o) hqk) hkjz)) rfl ?_
              refine sb_q 36 rfl (by kernel_rfl) (qt_load2 rfl (fun w t => t.atO 0 rfl rfl) (fun w t => t.atO 0 rfl rfl)) rfl ?_
              refine sb_one 19 (by kernel_rfl) ?_
              refine so2_call (iv (zkk.z * zij.z)) (Lz (zkk.z * zij.z).natAbs) rfl rfl rfl rfl (fun w t => rmul_zd (t.r.1 k qk hqk k zkk hkk) (t.r.1 i qi hqi j zij hij) (by rw [bkk, bij]; omega)) fun x94 => ?_
              refine sb_one 34 (by kernel_rfl) ?_
              refine so2_call (iv (zik.z * zkj.z)) (Lz (zik.z * zkj.z).natAbs) rfl rfl rfl rfl (fun w t => rmul_zd (t.r.1.1 i qi hqi k zik hik) (t.r.1.1 k qk hqk j zkj hkjz) (by rw [bik, bkj]; omega)) fun x109 => ?_
              refine sb_one 35 (by kernel_rfl) ?_
              refine so2_call (iv Xv) (Lz Xv.natAbs) rfl rfl rfl rfl (fun w t => by rw [hXv]; exact rsub_iv t.r.1.2 t.r.2 (by omega) (by omega)) fun x110 => ?_
              refine sb_one 37 (by kernel_rfl) ?_
              refine so2_call (iv (Xv / pz.z)) (Lz (Xv / pz.z).natAbs) rfl rfl rfl rfl (fun w t => rquo_iz t.r.2 t.r.1.1.1.2 (by omega) (by omega)) fun x => ?_
              refine sb_q 38 rfl (by kernel_rfl) (qt_index (i := j) rfl rfl (by omega)) rfl ?_
              refine sb_one 39 (by kernel_rfl) ?_
              refine so2_store (i + 3) rfl rfl rfl rfl (mownS_at (o := o) hqi) rfl (show 0 + j * 2 + 2 ≤ (zcs qi.2 ++ σ qi.1).length by rw [List.length_append, zcs_length]; omega) rfl rfl ?_
              refine sb_end (by kernel_rfl) ?_
              refine tr_own (zblk r5 pz :: zblk r2 z0 :: mownS σ o (qs.set i (qi.1, qi.2.set j (zd (Xv / pz.z) x)))) (by rw [← mownS_wr (zd (Xv / pz.z) x) hqi (by omega)]; rfl) ?_
              repeat with_reducible first | refine tr_skip ?_ | refine tr_exit ?_ | refine tr_then ?_ | refine tr_inX ?_ | refine tr_thenX ?_ | refine tr_inN ?_ | refine tr_inR ?_ | refine tr_thenR ?_
              refine tr_region ?_
              refine sq_q (qt_move rfl) rfl ?_
              refine sq_q (qt_bin rfl rfl (bin_addI (by omega) (by omega))) rfl ?_
              refine sq_q (qt_assign rfl) rfl ?_
              refine sq_nil ?_
              repeat with_reducible first | refine tr_skip ?_ | refine tr_exit ?_ | refine tr_then ?_ | refine tr_inX ?_ | refine tr_thenX ?_ | refine tr_inN ?_ | refine tr_inR ?_ | refine tr_thenR ?_
              have hv : Xv / pz.z = elm g' k pz.z i j := by unfold elm; rw [hXv, ekk, eij, eik, ekj]
              refine tr_round2 (j + 1) (qs.set i (qi.1, qi.2.set j (zd (Xv / pz.z) x))) ⟨by omega, by omega, hcan.set hqi (zd_can _ _), (hG.set hqi (zd (Xv / pz.z) x) _ (zd_z _ _)).congr (fun a b _ _ => ?_)⟩ (by omega) ⟨rfl, rfl, rfl, rfl, rfl, rfl, rfl, rfl, trivial⟩ rfl (fun w h => ⟨h.1.1.1.1.1.set hqi (zd_ok h.2 ?_) (fun a b z hab hz => hz.mono (bb_mono fun hd => ?_)), h.1.1.1.1.2⟩)
              · unfold gset elimP
                by_cases hab : a = i ∧ b = j
                · rw [if_pos hab, if_pos (by omega), hv, hab.1, hab.2]
                · rw [if_neg hab]
                  congr 1
                  exact propext (by omega)
              · refine Nat.le_trans (nl_idiv _ _) (Nat.le_trans hXb ?_)
                unfold bb
                rw [if_pos (by unfold dn; omega)]
                exact Nat.le_refl _
              · unfold dn at hd ⊢
                omega
            ·
              have hje : j = n := by have := of_decide_eq_false hc; omega
              refine tr_exit ?_
              repeat with_reducible first | refine tr_skip ?_ | refine tr_exit ?_ | refine tr_then ?_ | refine tr_inX ?_ | refine tr_thenX ?_ | refine tr_inN ?_ | refine tr_inR ?_ | refine tr_thenR ?_
              refine tr_region ?_
              refine sq_q (qt_move rfl) rfl ?_
              refine sq_q (qt_bin rfl rfl (bin_addI (by omega) (by omega))) rfl ?_
              refine sq_q (qt_assign rfl) rfl ?_
              refine sq_nil ?_
              repeat with_reducible first | refine tr_skip ?_ | refine tr_exit ?_ | refine tr_then ?_ | refine tr_inX ?_ | refine tr_thenX ?_ | refine tr_inN ?_ | refine tr_inR ?_ | refine tr_thenR ?_
              refine tr_round2 (i + 1) qs ⟨by omega, by omega, hcan, hG.congr (fun a b _ hb => ?_)⟩ (by omega) ⟨rfl, rfl, rfl, rfl, rfl, rfl, rfl, trivial⟩ rfl (fun w h => ⟨h.1.mono fun a b z hz => hz.mono (bb_mono fun hd => ?_), h.2⟩)
              · unfold elimP
                congr 1
                exact propext (by omega)
              · unfold dn at hd ⊢
                omega
          ·
            have hie : i = n := by have := of_decide_eq_false hc; omega
            obtain ⟨qk, hqk, hqkl⟩ := hG.get hlt
            obtain ⟨zkk, hkk⟩ : ∃ z, qk.2[k]? = some z := ⟨_, List.getElem?_eq_getElem (by omega)⟩
            have ekk : zkk.z = g' k k := by rw [(hG.2 k qk hqk).2 k zkk hkk]; unfold elimP; rw [if_neg (by omega)]
            refine tr_exit ?_
            repeat with_reducible first | refine tr_skip ?_ | refine tr_exit ?_ | refine tr_then ?_ | refine tr_inX ?_ | refine tr_thenX ?_ | refine tr_inN ?_ | refine tr_inR ?_ | refine tr_thenR ?_
            refine tr_region ?_
            refine sq_q (qt_move rfl) rfl ?_
            refine sq_q (qt_move rfl) rfl ?_
            refine sq_q (qt_index (i := k) rfl rfl hlt) rfl ?_
            refine sq_q (qt_load rfl (fun w t => t.o1 2 rfl (moutS_get hqk))) rfl ?_
            refine sq_q (qt_move rfl) rfl ?_
            refine sq_q (qt_index (i := k) rfl rfl (by omega)) rfl ?_
            refine sq_q (qt_load2 rfl (fun w t => t.mzS0 (k + 3) (mownS_at (o := o) hqk) hkk) (fun w t => t.mzS1 (k + 3) (mownS_at (o := o) hqk) hkk)) rfl ?_
            refine sq_store 0 rfl rfl rfl rfl (Nat.le_refl 2) rfl rfl ?_
            refine sq_nil ?_
            repeat with_reducible first | refine tr_skip ?_ | refine tr_exit ?_ | refine tr_then ?_ | refine tr_inX ?_ | refine tr_thenX ?_ | refine tr_inN ?_ | refine tr_inR ?_ | refine tr_thenR ?_
            refine tr_region ?_
            refine sq_q (qt_move rfl) rfl ?_
            refine sq_q (qt_bin rfl rfl (bin_addI (by omega) (by omega))) rfl ?_
            refine sq_q (qt_assign rfl) rfl ?_
            refine sq_nil ?_
            repeat with_reducible first | refine tr_skip ?_ | refine tr_exit ?_ | refine tr_then ?_ | refine tr_inX ?_ | refine tr_thenX ?_ | refine tr_inN ?_ | refine tr_inR ?_ | refine tr_thenR ?_
            refine tr_own (zblk r5 zkk :: zblk r2 z0 :: mownS σ o qs) rfl ?_
            refine tr_round4 (k + 1) qs zkk neg' ⟨hlt, hcan, hcan _ (List.mem_of_getElem? hqk) _ (List.mem_of_getElem? hkk), elim g' k pz.z, hG.congr (fun a b ha _ => ?_), by rw [ekk]; exact hbar⟩ (by omega) ⟨rfl, rfl, rfl, rfl, rfl, rfl, trivial⟩ rfl (fun w h => ⟨h.1.mono fun a b z hz => hz.mono (bb_le B k _ _ a b), (h.1 k qk hqk k zkk hkk).mono (bb_le B k _ _ k k)⟩)
            unfold elimP elim
            congr 1
            exact propext (by omega)
  ·
    have hke : k = n := by have := of_decide_eq_false hc; omega
    subst hke
    rw [Nat.sub_self, bar] at hbar
    have hbd := bd_le (B := B) (k := k) hn16 hB
    refine tr_have (fun w t => nl_zd t.r.2) fun hnz => ?_
    refine tr_exit ?_
    repeat with_reducible first | refine tr_skip ?_ | refine tr_exit ?_ | refine tr_then ?_ | refine tr_inX ?_ | refine tr_thenX ?_ | refine tr_inN ?_ | refine tr_inR ?_ | refine tr_thenR ?_
    refine tr_seq ?_
    refine tr_rseq ?_
    refine sq_q (qt_move rfl) rfl ?_
    refine sq_end ?_
    refine tr_if rfl (fun hc => ?_) (fun hc => ?_)
    ·
      rw [if_pos hc] at hbar
      refine tr_rseq ?_
      refine sq_q (qt_load2 rfl (fun w t => t.atO 0 rfl rfl) (fun w t => t.atO 0 rfl rfl)) rfl ?_
      refine sq_call (iv (-pz.z)) (Lz (-pz.z).natAbs) rfl rfl rfl (fun w t => rneg_zd t.r.2 (by omega)) fun x => ?_
      refine sq_store 1 rfl rfl rfl rfl (by first | (simp [u32s, Value.cells]; done) | (simp [u32s, Value.cells]; omega) | exact Nat.le_refl 2) rfl rfl ?_
      refine sq_end ?_
      refine tr_ret ?_
      repeat with_reducible first | refine tr_skip ?_ | refine tr_exit ?_ | refine tr_then ?_ | refine tr_inX ?_ | refine tr_thenX ?_ | refine tr_inN ?_ | refine tr_inR ?_ | refine tr_thenR ?_
      rw [← hbar]
      exact tr_done x (fun a w s t => results_1 rfl (resv_cell 1 s t rfl rfl rfl)) (fun w h _ _ => ⟨h.2, by rw [Int.natAbs_neg]; omega⟩)
    ·
      rw [if_neg (by rw [hc]; decide)] at hbar
      refine tr_own (zblk r5 (zd pz.z pz.p) :: zblk r2 z0 :: mownS σ o qs) (by rw [← Zd.can_eq hpc]) ?_
      refine tr_skip ?_
      repeat with_reducible first | refine tr_skip ?_ | refine tr_exit ?_ | refine tr_then ?_ | refine tr_inX ?_ | refine tr_thenX ?_ | refine tr_inN ?_ | refine tr_inR ?_ | refine tr_thenR ?_
      refine tr_rseq ?_
      refine sq_q (qt_load2 rfl (fun w t => t.atO 0 rfl rfl) (fun w t => t.atO 0 rfl rfl)) rfl ?_
      refine sq_store 1 rfl rfl rfl rfl (by first | (simp [u32s, Value.cells]; done) | (simp [u32s, Value.cells]; omega) | exact Nat.le_refl 2) rfl rfl ?_
      refine sq_end ?_
      refine tr_ret ?_
      repeat with_reducible first | refine tr_skip ?_ | refine tr_exit ?_ | refine tr_then ?_ | refine tr_inX ?_ | refine tr_thenX ?_ | refine tr_inN ?_ | refine tr_inR ?_ | refine tr_thenR ?_
      rw [← hbar]
      exact tr_done pz.p (fun a w s t => results_1 rfl (resv_cell 1 s t rfl rfl rfl)) (fun w h _ _ => ⟨by have h1 := h.2.1; rw [Zd.can_eq hpc] at h1; exact h1, by omega⟩)
end Go.Qk
end
section
set_option linter.unusedVariables false
namespace Go.Qk
open Go Go.Proofs Go.RowKit
theorem Rd.left {A : Option Addr} {xs ys : List Value} {w : World} (h : Rd A (xs ++ ys) w) : Rd A xs w := fun i v hv => h i v (by rw [List.getElem?_append_left (List.getElem?_eq_some_iff.1 hv).1]; exact hv)
section
variable {P : Program} {J : World → Prop} {lk : Nat → Option Value} {ty : TypeId}
end
section
variable {P : Program} {n : Nat} {w0 : World} {X : List Nat} {S : Nat → Prop} {E : Env} {own : Own} {R : World → Prop}
theorem tr_retireG {e : TypeId} {sz k : Nat} {xs : List Value} {p : Gr} {f : Act → World → Prop} (hok : grOk sz k xs p) (h : Tr n w0 [] S E own (fun w => R w ∧ Rd (grP p).1 xs w) f) : Tr n w0 [] S E (grO e xs p ++ own) R f := by
  match p, hok with
  | none, ⟨h1, h2⟩ =>
    intro a w s t
    subst h2
    exact h a w s (t.mono fun w hR => ⟨hR, Rd.nil _ _⟩)
  | some (g, c, sl), _ =>
    refine tr_retire ?_
    intro a w s t
    exact h a w s (t.mono fun w hR => ⟨hR.1, (Rd.own hR.2).left⟩)
end
/-- a matrix of fresh rows, whose integers may stand in older memory -/
def Mt.fr (m : Mt) (w : World) : Prop := Rd m.p.1 (m.rs.map Rw.v) w ∧ m.rs.length ≤ m.p.2 ∧ ∀ r ∈ m.rs, Rd r.p.1 (zcs r.l) w ∧ r.l.length ≤ r.p.2
theorem Mt.fr.ok {m : Mt} {B : Nat} {w0 w : World} {S : Nat → Prop} {own : Own} {R : World → Prop} (h : m.fr w) (ha : m.al fun z => z.ok B w0) (t : SS w0 [] S own R w) : m.ok B w :=
  ⟨h.1, h.2.1, fun r hr => ⟨(h.2.2 r hr).1, (h.2.2 r hr).2, fun z hz => t.zd (ha r hr z hz)⟩⟩
end Go.Qk
end
section
set_option linter.unusedVariables false
namespace Go.Qk
open Go Go.Proofs Go.RowKit
set_option maxRecDepth 100000
set_option maxHeartbeats 4000000
theorem select_ret (m : Mt) (rs cs : List Nat) (p q : Sv) (B : Nat) (w0 : World) (S : Nat → Prop) (K : Zd → Prop) (hm : m.ok B w0) (hK : m.al K) (hp : Rd p.1 (ints rs) w0) (hq : Rd q.1 (ints cs) w0) (hrs : ∀ a ∈ rs, a < m.rs.length) (hcs : ∀ r ∈ m.rs, ∀ b ∈ cs, b < r.l.length) (hrl : rs.length ≤ 65536) (hcl : cs.length ≤ 65536) :
    Ret Try.prog 71 [m.v, .slice p.1 rs.length p.2, .slice q.1 cs.length q.2] w0 S Mt.v (fun x w => x.fr w ∧ x.al K ∧ x.zs = rs.map fun a => cs.map fun b => ent m.zs a b) := by
  refine ret_of Try.func71 rfl Try.ntmps71 rfl ?_
  refine tr_rseq ?_
  refine sq_q (qt_assign rfl) rfl ?_
  refine sq_end ?_
  refine tr_rseq ?_
  refine sq_q (qt_assign rfl) rfl ?_
  refine sq_end ?_
  refine tr_seq ?_
  refine tr_rseq ?_
  refine sq_q (qt_move rfl) rfl ?_
  refine sq_q (qt_len rfl) rfl ?_
  refine sq_q (qt_move rfl) rfl ?_
  refine sq_end ?_
  refine tr_block ?_
  refine tr_loop2 (fun (done : List Rw) (g : Gr) => done.length ≤ rs.length ∧ done.map Rw.zs = ((rs.take done.length).map fun a => cs.map fun b => ent m.zs a b) ∧ (∀ r ∈ done, ∀ z ∈ r.l, K z) ∧ grOk 1 done.length (done.map Rw.v) g) (fun done g => [(0, m.v), (2, .slice q.1 cs.length q.2), (7, grV done.length g), (13, .slice p.1 rs.length p.2), (14, .int .i64 (rs.length : Int)), (15, .int .i64 (done.length : Int))]) (fun done g => grO 44 (done.map Rw.v) g) (fun done g w => ∀ r ∈ done, Rd r.p.1 (zcs r.l) w ∧ r.l.length ≤ r.p.2) (fun done g => rs.length - done.length) [] none ⟨Nat.zero_le _, rfl, by simp, rfl, rfl⟩ ⟨rfl, rfl, rfl, rfl, rfl, rfl, trivial⟩ rfl (fun _ _ => by simp) ?_
  rintro done g ⟨hle, hzs, hcan, hok⟩
  refine tr_rseq ?_
  refine sq_q (qt_bin rfl rfl bin_lss) rfl ?_
  refine sq_end ?_
  refine tr_seq ?_
  refine tr_if rfl (fun hc => ?_) (fun hc => ?_)
  ·
    have hlt : done.length < rs.length := by have := of_decide_eq_true hc; omega
    obtain ⟨a, ha⟩ : ∃ a, a = rs[done.length] := ⟨_, rfl⟩
    have ham : a < m.rs.length := hrs a (by rw [ha]; exact List.getElem_mem hlt)
    have hga : (ints rs)[done.length]? = some (.int .i64 (a : Int)) := by simp [ints, hlt, ha]
    obtain ⟨rp, op, ep, hatp⟩ := hp.at_ hga
    obtain ⟨ro, oo, evm, hat⟩ := hm.at_ (show 0 < m.rs.length by omega)
    refine tr_sub [(0, .slice (some ⟨ro, oo, none⟩) m.rs.length m.p.2), (2, .slice q.1 cs.length q.2), (7, grV done.length g), (13, .slice (some ⟨rp, op, none⟩) rs.length p.2), (14, .int .i64 (rs.length : Int)), (15, .int .i64 (done.length : Int))] ⟨congrArg some evm, rfl, rfl, by show some (Value.slice p.1 rs.length p.2) = _; rw [ep], rfl, rfl, trivial⟩ ?_
    refine tr_skip ?_
    repeat with_reducible first | refine tr_skip ?_ | refine tr_exit ?_ | refine tr_then ?_ | refine tr_inX ?_ | refine tr_thenX ?_ | refine tr_inN ?_ | refine tr_inR ?_ | refine tr_thenR ?_
    refine tr_seq ?_
    refine tr_block ?_
    refine tr_rseq ?_
    refine sq_q (qt_index (i := done.length) rfl rfl hlt) rfl ?_
    refine sq_q (qt_load rfl (fun w t => t.a1 hatp)) rfl ?_
    refine sq_q (qt_assign rfl) rfl ?_
    refine sq_end ?_
    refine tr_rseq ?_
    refine sq_q (qt_assign rfl) rfl ?_
    refine sq_end ?_
    refine tr_seq ?_
    refine tr_rseq ?_
    refine sq_q (qt_move rfl) rfl ?_
    refine sq_q (qt_len rfl) rfl ?_
    refine sq_q (qt_move rfl) rfl ?_
    refine sq_end ?_
    refine tr_block ?_
    refine tr_own (grO 35 (zcs []) none ++ grO 44 (done.map Rw.v) g) rfl ?_
    refine tr_loop2 (fun (zs : List Zd) (h : Gr) => zs.length ≤ cs.length ∧ zs.map Zd.z = ((cs.take zs.length).map fun b => ent m.zs a b) ∧ (∀ z ∈ zs, K z) ∧ grOk 2 zs.length (zcs zs) h) (fun zs h => [(0, .slice (some ⟨ro, oo, none⟩) m.rs.length m.p.2), (2, .slice q.1 cs.length q.2), (7, grV done.length g), (9, .int .i64 (a : Int)), (10, grV zs.length h), (13, .slice (some ⟨rp, op, none⟩) rs.length p.2), (14, .int .i64 (rs.length : Int)), (15, .int .i64 (done.length : Int)), (19, .slice q.1 cs.length q.2), (20, .int .i64 (cs.length : Int)), (21, .int .i64 (zs.length : Int))]) (fun zs h => grO 35 (zcs zs) h ++ grO 44 (done.map Rw.v) g) (fun zs h w => ∀ r ∈ done, Rd r.p.1 (zcs r.l) w ∧ r.l.length ≤ r.p.2) (fun zs h => cs.length - zs.length) [] none ⟨Nat.zero_le _, rfl, by simp, rfl, rfl⟩ ⟨rfl, rfl, rfl, rfl, rfl, rfl, rfl, rfl, rfl, rfl, rfl, trivial⟩ rfl (fun _ h => h) ?_
    rintro zs h ⟨hle2, hzs2, hcan2, hok2⟩
    refine tr_rseq ?_
    refine sq_q (qt_bin rfl rfl bin_lss) rfl ?_
    refine sq_end ?_
    refine tr_seq ?_
    refine tr_if rfl (fun hc => ?_) (fun hc => ?_)
    ·
      have hlt2 : zs.length < cs.length := by have := of_decide_eq_true hc; omega
      obtain ⟨b, hb⟩ : ∃ b, b = cs[zs.length] := ⟨_, rfl⟩
      have hbm : b < m.rs[a].l.length := hcs _ (List.getElem_mem ham) b (by rw [hb]; exact List.getElem_mem hlt2)
      have hgb : (ints cs)[zs.length]? = some (.int .i64 (b : Int)) := by simp [ints, hlt2, hb]
      obtain ⟨rq, oq, eq, hatq⟩ := hq.at_ hgb
      obtain ⟨rr, orr, evr, hatr⟩ := (hm.2.2 _ (List.getElem_mem ham)).at_ (show 0 < m.rs[a].l.length by omega)
      have hrw := hat a ham
      rw [evr] at hrw
      obtain ⟨hz0, hz1⟩ := hatr b hbm
      have hzc := hK _ (List.getElem_mem ham) _ (List.getElem_mem hbm)
      have hze : m.rs[a].l[b].z = ent m.zs a b := (mt_ent ham hbm).symm
      obtain ⟨z, hzz⟩ : ∃ z, z = m.rs[a].l[b] := ⟨_, rfl⟩
      rw [← hzz] at hz0 hz1 hzc hze
      refine tr_sub [(0, .slice (some ⟨ro, oo, none⟩) m.rs.length m.p.2), (2, .slice q.1 cs.length q.2), (7, grV done.length g), (9, .int .i64 (a : Int)), (10, grV zs.length h), (13, .slice (some ⟨rp, op, none⟩) rs.length p.2), (14, .int .i64 (rs.length : Int)), (15, .int .i64 (done.length : Int)), (19, .slice (some ⟨rq, oq, none⟩) cs.length q.2), (20, .int .i64 (cs.length : Int)), (21, .int .i64 (zs.length : Int))] ⟨rfl, rfl, rfl, rfl, rfl, rfl, rfl, rfl, by show some (Value.slice q.1 cs.length q.2) = _; rw [eq], rfl, rfl, trivial⟩ ?_
      refine tr_skip ?_
      repeat with_reducible first | refine tr_skip ?_ | refine tr_exit ?_ | refine tr_then ?_ | refine tr_inX ?_ | refine tr_thenX ?_ | refine tr_inN ?_ | refine tr_inR ?_ | refine tr_thenR ?_
      refine tr_seq ?_
      refine tr_block ?_
      refine tr_rseq ?_
      refine sq_q (qt_index (i := zs.length) rfl rfl hlt2) rfl ?_
      refine sq_q (qt_load rfl (fun w t => t.a1 hatq)) rfl ?_
      refine sq_q (qt_assign rfl) rfl ?_
      refine sq_end ?_
      refine tr_region ?_
      refine sq_q (qt_move rfl) rfl ?_
      refine sq_q (qt_move rfl) rfl ?_
      refine sq_q (qt_move rfl) rfl ?_
      refine sq_q (qt_index (i := a) rfl rfl ham) rfl ?_
      refine sq_q (qt_load rfl (fun w t => t.a1 hrw)) rfl ?_
      refine sq_q (qt_move rfl) rfl ?_
      refine sq_q (qt_index (i := b) rfl rfl hbm) rfl ?_
      refine sq_q (qt_load2 rfl (fun w t => t.atA hz0) (fun w t => t.atA hz1)) rfl ?_
      refine sq_lit (vs := [(0, .agg #[.bool z.n, slv z.xs z.p])]) (cells := zcs [z]) rfl rfl rfl (by simp [Instr.fill, Value.cells, zcs, Zd.cs, show Array.range 2 = #[0, 1] from by decide]) rfl fun r33 => ?_
      refine sq_grow (p := h) (k := zs.length) (m := 1) (xs := zcs zs) (news := zcs [z]) (own' := grO 44 (done.map Rw.v) g) rfl rfl hok2 rfl (by omega) (by omega) (by omega) rfl rfl rfl rfl fun h' hok' => ?_
      refine sq_q (qt_assign rfl) rfl ?_
      refine sq_nil ?_
      repeat with_reducible first | refine tr_skip ?_ | refine tr_exit ?_ | refine tr_then ?_ | refine tr_inX ?_ | refine tr_thenX ?_ | refine tr_inN ?_ | refine tr_inR ?_ | refine tr_thenR ?_
      refine tr_region ?_
      refine sq_q (qt_bin rfl rfl (bin_addI (by omega) (by omega))) rfl ?_
      refine sq_q (qt_move rfl) rfl ?_
      refine sq_nil ?_
      repeat with_reducible first | refine tr_skip ?_ | refine tr_exit ?_ | refine tr_then ?_ | refine tr_inX ?_ | refine tr_thenX ?_ | refine tr_inN ?_ | refine tr_inR ?_ | refine tr_thenR ?_
      have e3 : (zs ++ [z]).length = zs.length + 1 := by simp
      refine tr_round2 (zs ++ [z]) h' ⟨by omega, ?_, ?_, ?_⟩ (by omega) ⟨rfl, rfl, rfl, rfl, by rw [e3]; rfl, rfl, rfl, rfl, by rw [eq]; rfl, rfl, by rw [e3]; rfl, trivial⟩ (by rw [zcs_append]) (fun w hh => hh)
      · rw [e3, List.take_succ_eq_append_getElem hlt2, List.map_append, List.map_append, hzs2, ← hb]
        simp [hze]
      · intro z' hz'
        rcases List.mem_append.1 hz' with h1 | h1
        · exact hcan2 z' h1
        · rw [List.mem_singleton.1 h1]; exact hzc
      · rw [e3, zcs_append]; exact hok'
    ·
      have hze : zs.length = cs.length := by have := of_decide_eq_false hc; omega
      refine tr_exit ?_
      repeat with_reducible first | refine tr_skip ?_ | refine tr_exit ?_ | refine tr_then ?_ | refine tr_inX ?_ | refine tr_thenX ?_ | refine tr_inN ?_ | refine tr_inR ?_ | refine tr_thenR ?_
      refine tr_retireG hok2 ?_
      refine tr_sub [(0, .slice (some ⟨ro, oo, none⟩) m.rs.length m.p.2), (2, .slice q.1 cs.length q.2), (7, grV done.length g), (10, Rw.v ⟨zs, grP h⟩), (13, .slice (some ⟨rp, op, none⟩) rs.length p.2), (14, .int .i64 (rs.length : Int)), (15, .int .i64 (done.length : Int))] ⟨rfl, rfl, rfl, congrArg some (grP_v hok2), rfl, rfl, rfl, trivial⟩ ?_
      refine tr_region ?_
      refine sq_q (qt_move rfl) rfl ?_
      refine sq_q (qt_move rfl) rfl ?_
      refine sq_lit (vs := [(0, Rw.v ⟨zs, grP h⟩)]) (cells := [Rw.v ⟨zs, grP h⟩]) rfl rfl rfl (by simp [Instr.fill, Value.cells, Rw.v, show Array.range 1 = #[0] from by decide]) rfl fun r38 => ?_
      refine sq_own ((r38, .cells [Rw.v ⟨zs, grP h⟩].toArray 44 (0, 0)) :: (grO 44 (done.map Rw.v) g ++ [])) (by rw [List.append_nil]) ?_
      refine sq_grow (p := g) (k := done.length) (m := 1) (xs := done.map Rw.v) (news := [Rw.v ⟨zs, grP h⟩]) (own' := []) rfl rfl hok rfl (by omega) (by omega) (by omega) rfl rfl rfl rfl fun g' hok' => ?_
      rw [List.append_nil]
      refine sq_q (qt_assign rfl) rfl ?_
      refine sq_nil ?_
      repeat with_reducible first | refine tr_skip ?_ | refine tr_exit ?_ | refine tr_then ?_ | refine tr_inX ?_ | refine tr_thenX ?_ | refine tr_inN ?_ | refine tr_inR ?_ | refine tr_thenR ?_
      refine tr_region ?_
      refine sq_q (qt_bin rfl rfl (bin_addI (by omega) (by omega))) rfl ?_
      refine sq_q (qt_move rfl) rfl ?_
      refine sq_nil ?_
      repeat with_reducible first | refine tr_skip ?_ | refine tr_exit ?_ | refine tr_then ?_ | refine tr_inX ?_ | refine tr_thenX ?_ | refine tr_inN ?_ | refine tr_inR ?_ | refine tr_thenR ?_
      have e3 : (done ++ [Rw.mk zs (grP h)]).length = done.length + 1 := by simp
      refine tr_have (p := zs.length ≤ (grP h).2) (fun w t => by
        match h, hok2 with
        | none, h3 => rw [h3.1]; exact Nat.zero_le _
        | some (g0, c0, sl0), h3 => exact h3.1) fun hcap => ?_
      refine tr_round2 (done ++ [⟨zs, grP h⟩]) g' ⟨by omega, ?_, ?_, ?_⟩ (by omega) ⟨congrArg some evm.symm, rfl, by rw [e3]; rfl, by rw [ep]; rfl, rfl, by rw [e3]; rfl, trivial⟩ (by rw [List.map_append]; rfl) (fun w hh r hr => ?_)
      · rw [e3, List.take_succ_eq_append_getElem hlt, List.map_append, List.map_append, hzs, ← ha]
        congr 1
        show [zs.map Zd.z] = _
        rw [hzs2, hze, List.take_length]
        rfl
      · intro r hr
        rcases List.mem_append.1 hr with h1 | h1
        · exact hcan r h1
        · rw [List.mem_singleton.1 h1]; exact hcan2
      · rw [e3, List.map_append]; exact hok'
      · rcases List.mem_append.1 hr with h1 | h1
        · exact hh.1 _ h1
        · rw [List.mem_singleton.1 h1]; exact ⟨hh.2, hcap⟩
  ·
    have hlr : done.length = rs.length := by have := of_decide_eq_false hc; omega
    refine tr_exit ?_
    repeat with_reducible first | refine tr_skip ?_ | refine tr_exit ?_ | refine tr_then ?_ | refine tr_inX ?_ | refine tr_thenX ?_ | refine tr_inN ?_ | refine tr_inR ?_ | refine tr_thenR ?_
    refine tr_rseq ?_
    refine sq_q (qt_move rfl) rfl ?_
    refine sq_q (qt_assign rfl) rfl ?_
    refine sq_end ?_
    refine tr_ret ?_
    repeat with_reducible first | refine tr_skip ?_ | refine tr_exit ?_ | refine tr_then ?_ | refine tr_inX ?_ | refine tr_thenX ?_ | refine tr_inN ?_ | refine tr_inR ?_ | refine tr_thenR ?_
    refine tr_done ⟨done, grP g⟩ (fun a w s t => results_1 rfl (resv_tmp s (by show some (grV done.length g) = some (Mt.v ⟨done, grP g⟩); rw [grP_v hok]; rfl))) (fun w h ho _ => ⟨⟨(grP_rd hok ho).1, (grP_rd hok ho).2, h⟩, hcan, ?_⟩)
    show done.map Rw.zs = _
    rw [hzs, hlr, List.take_length]
end Go.Qk
end
section
set_option linter.unusedVariables false
namespace Go.Qk
open Go Go.Proofs Go.RowKit
def rascB (n : Int) (l : List Int) : Bool := decide (l.length = 0) || ascB n l
theorem rascB_false {n : Int} {l : List Int} {k : Nat} (hk : k < l.length) (h : ascAt n l k = false) : rascB n l = false := by
  unfold rascB
  rw [ascB_false hk h, decide_eq_false (by omega)]
  rfl
theorem rascB_all {n : Int} {l : List Int} (h : ∀ i, i < l.length → ascAt n l i = true) : rascB n l = true := by
  unfold rascB
  rw [ascB_all h]
  by_cases h0 : l.length = 0
  · rw [decide_eq_true h0]; rfl
  · rw [decide_eq_true (show 0 < l.length by omega), Bool.or_true]
theorem rascB_eq {n : Int} {l : List Int} (h : ¬ l.length < 1) : rascB n l = ascB n l := by
  unfold rascB
  rw [decide_eq_false (by omega), Bool.false_or]
theorem ascB_nil {n : Int} {l : List Int} (h : l.length < 1) : ascB n l = false := by
  unfold ascB
  rw [decide_eq_false (by omega), Bool.false_and]
theorem ints_toNat {l : List Int} (h : ∀ i (hi : i < l.length), 0 ≤ l[i]) : ints (l.map Int.toNat) = i64s l := by
  unfold ints i64s
  rw [List.map_map]
  refine List.map_congr_left fun a ha => ?_
  obtain ⟨i, hi, rfl⟩ := List.getElem_of_mem ha
  have := h i hi
  show Value.int .i64 ((l[i].toNat : Nat) : Int) = _
  rw [Int.toNat_of_nonneg this]
theorem sel_grid (L : List (List Int)) (rs cs : List Int) : ((rs.map Int.toNat).map fun a => (cs.map Int.toNat).map fun b => ent L a b) = grid (sel L rs cs) rs.length cs.length := by
  unfold grid
  refine List.ext_getElem (by simp) fun i h1 h2 => ?_
  have hi : i < rs.length := by simpa using h1
  simp only [List.getElem_map, List.getElem_range]
  refine List.ext_getElem (by simp) fun j h3 h4 => ?_
  have hj : j < cs.length := by simpa using h3
  simp only [List.getElem_map, List.getElem_range]
  unfold sel
  simp [List.getD, hi, hj]
end Go.Qk
end
section
set_option linter.unusedVariables false
namespace Go.Qk
open Go Go.Proofs Go.RowKit
set_option maxRecDepth 100000
set_option maxHeartbeats 4000000
theorem rascending_ret (l : List Int) (A : Option Addr) (c : Nat) (n : Int) (w : World) (S : Nat → Prop) (hrd : Rd A (i64s l) w) (hb : l.length ≤ 35184372088832) :
    Ret Try.prog 78 [.slice A l.length c, .int .i64 n] w S (fun _ : Unit => .bool (rascB n l)) (fun _ _ => True) := by
  refine ret_of Try.func78 rfl Try.ntmps78 rfl ?_
  refine tr_rseq ?_
  refine sq_q (qt_assign rfl) rfl ?_
  refine sq_end ?_
  refine tr_seq ?_
  refine tr_rseq ?_
  refine sq_q (qt_move rfl) rfl ?_
  refine sq_q (qt_len rfl) rfl ?_
  refine sq_q (qt_move rfl) rfl ?_
  refine sq_end ?_
  refine tr_block ?_
  refine tr_loop (fun k : Nat => k ≤ l.length ∧ ∀ i, i < k → ascAt n l i = true) (fun k => [(0, .slice A l.length c), (1, .int .i64 n), (7, .slice A l.length c), (8, .int .i64 (l.length : Int)), (9, .int .i64 (k : Int))]) (fun _ => []) (fun _ _ => True) (fun k => l.length - k) 0 ⟨Nat.zero_le _, fun i h => by omega⟩ ⟨rfl, rfl, rfl, rfl, rfl, trivial⟩ rfl (fun _ _ => trivial) ?_
  rintro k ⟨hk, hall⟩
  refine tr_rseq ?_
  refine sq_q (qt_bin rfl rfl bin_lss) rfl ?_
  refine sq_end ?_
  refine tr_seq ?_
  refine tr_if rfl (fun hc => ?_) (fun hc => ?_)
  ·
    have hlt : k < l.length := by have := of_decide_eq_true hc; omega
    obtain ⟨ra, oa, rfl, hat⟩ := hrd.at_ (i64s_get hlt)
    have hgk : l.getD k 0 = l[k] := by simp [List.getD, hlt]
    refine tr_skip ?_
    repeat with_reducible first | refine tr_skip ?_ | refine tr_exit ?_ | refine tr_then ?_ | refine tr_inX ?_ | refine tr_thenX ?_ | refine tr_inN ?_ | refine tr_inR ?_ | refine tr_thenR ?_
    refine tr_seq ?_
    refine tr_block ?_
    refine tr_rseq ?_
    refine sq_q (qt_move rfl) rfl ?_
    refine sq_q (qt_index (i := k) rfl rfl hlt) rfl ?_
    refine sq_q (qt_load rfl (fun w t => t.a1 hat)) rfl ?_
    refine sq_q (qt_assign rfl) rfl ?_
    refine sq_q (qt_assign rfl) rfl ?_
    refine sq_end ?_
    have hcs : l[k] < 0 ∨ (0 ≤ l[k] ∧ n ≤ l[k]) ∨ ((0 ≤ l[k] ∧ l[k] < n) ∧ k = 0) ∨ ((0 ≤ l[k] ∧ l[k] < n) ∧ 0 < k ∧ l[k] ≤ l[k - 1]) ∨ ((0 ≤ l[k] ∧ l[k] < n) ∧ 0 < k ∧ l[k - 1] < l[k]) := by omega
    rcases hcs with h1 | ⟨h1, h2⟩ | ⟨⟨h1, h2⟩, h3⟩ | ⟨⟨h1, h2⟩, h3, h4⟩ | ⟨⟨h1, h2⟩, h3, h4⟩
    ·
      rw [rascB_false hlt (by unfold ascAt; rw [hgk, decide_eq_false (by omega)]; rfl)]
      refine tr_rseq ?_
      refine sq_q (qt_move rfl) rfl ?_
      refine sq_q (qt_bin rfl rfl (bT bin_lss h1)) rfl ?_
      refine sq_q (qt_move rfl) rfl ?_
      refine sq_gF rfl rfl rfl rfl ?_
      refine sq_gF rfl rfl rfl rfl ?_
      refine sq_gF rfl rfl rfl rfl ?_
      refine sq_q (qt_pick rfl rfl) rfl ?_
      refine sq_q (qt_move rfl) rfl ?_
      refine sq_gF rfl rfl rfl rfl ?_
      refine sq_gF rfl rfl rfl rfl ?_
      refine sq_gF rfl rfl rfl rfl ?_
      refine sq_gU rfl rfl rfl ?_
      refine sq_gU rfl rfl rfl ?_
      refine sq_gU rfl rfl rfl ?_
      refine sq_gU rfl rfl rfl ?_
      refine sq_gU rfl rfl rfl ?_
      refine sq_gU rfl rfl rfl ?_
      refine sq_gU rfl rfl rfl ?_
      refine sq_gF rfl rfl rfl rfl ?_
      refine sq_q (qt_pick rfl rfl) rfl ?_
      refine sq_end ?_
      refine tr_ifT rfl ?_
      refine tr_rseq ?_
      refine sq_q (qt_assign rfl) rfl ?_
      refine sq_end ?_
      refine tr_ret ?_
      repeat with_reducible first | refine tr_skip ?_ | refine tr_exit ?_ | refine tr_then ?_ | refine tr_inX ?_ | refine tr_thenX ?_ | refine tr_inN ?_ | refine tr_inR ?_ | refine tr_thenR ?_
      exact tr_done () (fun a w s t => results_1 rfl (resv_tmp s rfl)) (fun _ _ _ _ => trivial)
    ·
      rw [rascB_false hlt (by unfold ascAt; rw [hgk, show decide (l[k] < n) = false from decide_eq_false (by omega), Bool.and_false, Bool.false_and])]
      refine tr_rseq ?_
      refine sq_q (qt_move rfl) rfl ?_
      refine sq_q (qt_bin rfl rfl (bF bin_lss (by omega))) rfl ?_
      refine sq_q (qt_move rfl) rfl ?_
      refine sq_gT rfl rfl ?_
      refine sq_q (qt_move rfl) rfl ?_
      refine sq_gT rfl rfl ?_
      refine sq_q (qt_move rfl) rfl ?_
      refine sq_gT rfl rfl ?_
      refine sq_q (qt_bin rfl rfl (bT bin_geq h2)) rfl ?_
      refine sq_q (qt_pick rfl rfl) rfl ?_
      refine sq_q (qt_move rfl) rfl ?_
      refine sq_gF rfl rfl rfl rfl ?_
      refine sq_gF rfl rfl rfl rfl ?_
      refine sq_gF rfl rfl rfl rfl ?_
      refine sq_gU rfl rfl rfl ?_
      refine sq_gU rfl rfl rfl ?_
      refine sq_gU rfl rfl rfl ?_
      refine sq_gU rfl rfl rfl ?_
      refine sq_gU rfl rfl rfl ?_
      refine sq_gU rfl rfl rfl ?_
      refine sq_gU rfl rfl rfl ?_
      refine sq_gF rfl rfl rfl rfl ?_
      refine sq_q (qt_pick rfl rfl) rfl ?_
      refine sq_end ?_
      refine tr_ifT rfl ?_
      refine tr_rseq ?_
      refine sq_q (qt_assign rfl) rfl ?_
      refine sq_end ?_
      refine tr_ret ?_
      repeat with_reducible first | refine tr_skip ?_ | refine tr_exit ?_ | refine tr_then ?_ | refine tr_inX ?_ | refine tr_thenX ?_ | refine tr_inN ?_ | refine tr_inR ?_ | refine tr_thenR ?_
      exact tr_done () (fun a w s t => results_1 rfl (resv_tmp s rfl)) (fun _ _ _ _ => trivial)
    ·
      refine tr_rseq ?_
      refine sq_q (qt_move rfl) rfl ?_
      refine sq_q (qt_bin rfl rfl (bF bin_lss (by omega))) rfl ?_
      refine sq_q (qt_move rfl) rfl ?_
      refine sq_gT rfl rfl ?_
      refine sq_q (qt_move rfl) rfl ?_
      refine sq_gT rfl rfl ?_
      refine sq_q (qt_move rfl) rfl ?_
      refine sq_gT rfl rfl ?_
      refine sq_q (qt_bin rfl rfl (bF bin_geq (by omega))) rfl ?_
      refine sq_q (qt_pick rfl rfl) rfl ?_
      refine sq_q (qt_move rfl) rfl ?_
      refine sq_gT rfl rfl ?_
      refine sq_q (qt_move rfl) rfl ?_
      refine sq_gT rfl rfl ?_
      refine sq_q (qt_bin rfl rfl (bF bin_gtr (by omega))) rfl ?_
      refine sq_gT rfl rfl ?_
      refine sq_q (qt_move rfl) rfl ?_
      refine sq_gF rfl rfl rfl rfl ?_
      refine sq_gF rfl rfl rfl rfl ?_
      refine sq_gF rfl rfl rfl rfl ?_
      refine sq_gF rfl rfl rfl rfl ?_
      refine sq_gF rfl rfl rfl rfl ?_
      refine sq_gF rfl rfl rfl rfl ?_
      refine sq_gF rfl rfl rfl rfl ?_
      refine sq_gT rfl rfl ?_
      refine sq_q (qt_pick rfl rfl) rfl ?_
      refine sq_q (qt_pick rfl rfl) rfl ?_
      refine sq_end ?_
      refine tr_ifF rfl ?_
      refine tr_skip ?_
      repeat with_reducible first | refine tr_skip ?_ | refine tr_exit ?_ | refine tr_then ?_ | refine tr_inX ?_ | refine tr_thenX ?_ | refine tr_inN ?_ | refine tr_inR ?_ | refine tr_thenR ?_
      refine tr_region ?_
      refine sq_q (qt_bin rfl rfl (bin_addI (by omega) (by omega))) rfl ?_
      refine sq_q (qt_move rfl) rfl ?_
      refine sq_nil ?_
      repeat with_reducible first | refine tr_skip ?_ | refine tr_exit ?_ | refine tr_then ?_ | refine tr_inX ?_ | refine tr_thenX ?_ | refine tr_inN ?_ | refine tr_inR ?_ | refine tr_thenR ?_
      refine tr_round (k + 1) ⟨hlt, fun i hi => ?_⟩ (by omega) ⟨rfl, rfl, rfl, rfl, rfl, trivial⟩ rfl (fun _ h => h)
      by_cases e : i = k
      · subst e
        unfold ascAt
        rw [hgk, decide_eq_true h1, decide_eq_true h2, decide_eq_true h3]
        rfl
      · exact hall i (by omega)
    ·
      obtain ⟨_, _, e', hat'⟩ := hrd.at_ (i64s_get (show k - 1 < l.length by omega))
      injection e' with e'
      injection e' with e1 e2 _
      subst e1 e2
      rw [rascB_false hlt (by unfold ascAt; rw [hgk, show decide (k = 0) = false from decide_eq_false (by omega), show l.getD (k - 1) 0 = l[k - 1] by simp [List.getD, show k - 1 < l.length by omega], show decide (l[k - 1] < l[k]) = false from decide_eq_false (by omega)]; simp)]
      refine tr_rseq ?_
      refine sq_q (qt_move rfl) rfl ?_
      refine sq_q (qt_bin rfl rfl (bF bin_lss (by omega))) rfl ?_
      refine sq_q (qt_move rfl) rfl ?_
      refine sq_gT rfl rfl ?_
      refine sq_q (qt_move rfl) rfl ?_
      refine sq_gT rfl rfl ?_
      refine sq_q (qt_move rfl) rfl ?_
      refine sq_gT rfl rfl ?_
      refine sq_q (qt_bin rfl rfl (bF bin_geq (by omega))) rfl ?_
      refine sq_q (qt_pick rfl rfl) rfl ?_
      refine sq_q (qt_move rfl) rfl ?_
      refine sq_gT rfl rfl ?_
      refine sq_q (qt_move rfl) rfl ?_
      refine sq_gT rfl rfl ?_
      refine sq_q (qt_bin rfl rfl (bT bin_gtr (by omega))) rfl ?_
      refine sq_gT rfl rfl ?_
      refine sq_q (qt_move rfl) rfl ?_
      refine sq_gT rfl rfl ?_
      refine sq_q (qt_move rfl) rfl ?_
      refine sq_gT rfl rfl ?_
      refine sq_q (qt_move rfl) rfl ?_
      refine sq_gT rfl rfl ?_
      refine sq_q (qt_move rfl) rfl ?_
      refine sq_gT rfl rfl ?_
      refine sq_q (qt_bin rfl rfl (bin_subN (a := k) (b := 1) rfl (by omega) (by omega))) rfl ?_
      refine sq_gT rfl rfl ?_
      refine sq_q (qt_index (i := k - 1) rfl rfl (by omega)) rfl ?_
      refine sq_gT rfl rfl ?_
      refine sq_q (qt_load rfl (fun w t => t.a1 hat')) rfl ?_
      refine sq_gT rfl rfl ?_
      refine sq_q (qt_bin rfl rfl (bT bin_leq h4)) rfl ?_
      refine sq_gT rfl rfl ?_
      refine sq_q (qt_pick rfl rfl) rfl ?_
      refine sq_q (qt_pick rfl rfl) rfl ?_
      refine sq_end ?_
      refine tr_ifT rfl ?_
      refine tr_rseq ?_
      refine sq_q (qt_assign rfl) rfl ?_
      refine sq_end ?_
      refine tr_ret ?_
      repeat with_reducible first | refine tr_skip ?_ | refine tr_exit ?_ | refine tr_then ?_ | refine tr_inX ?_ | refine tr_thenX ?_ | refine tr_inN ?_ | refine tr_inR ?_ | refine tr_thenR ?_
      exact tr_done () (fun a w s t => results_1 rfl (resv_tmp s rfl)) (fun _ _ _ _ => trivial)
    ·
      obtain ⟨_, _, e', hat'⟩ := hrd.at_ (i64s_get (show k - 1 < l.length by omega))
      injection e' with e'
      injection e' with e1 e2 _
      subst e1 e2
      refine tr_rseq ?_
      refine sq_q (qt_move rfl) rfl ?_
      refine sq_q (qt_bin rfl rfl (bF bin_lss (by omega))) rfl ?_
      refine sq_q (qt_move rfl) rfl ?_
      refine sq_gT rfl rfl ?_
      refine sq_q (qt_move rfl) rfl ?_
      refine sq_gT rfl rfl ?_
      refine sq_q (qt_move rfl) rfl ?_
      refine sq_gT rfl rfl ?_
      refine sq_q (qt_bin rfl rfl (bF bin_geq (by omega))) rfl ?_
      refine sq_q (qt_pick rfl rfl) rfl ?_
      refine sq_q (qt_move rfl) rfl ?_
      refine sq_gT rfl rfl ?_
      refine sq_q (qt_move rfl) rfl ?_
      refine sq_gT rfl rfl ?_
      refine sq_q (qt_bin rfl rfl (bT bin_gtr (by omega))) rfl ?_
      refine sq_gT rfl rfl ?_
      refine sq_q (qt_move rfl) rfl ?_
      refine sq_gT rfl rfl ?_
      refine sq_q (qt_move rfl) rfl ?_
      refine sq_gT rfl rfl ?_
      refine sq_q (qt_move rfl) rfl ?_
      refine sq_gT rfl rfl ?_
      refine sq_q (qt_move rfl) rfl ?_
      refine sq_gT rfl rfl ?_
      refine sq_q (qt_bin rfl rfl (bin_subN (a := k) (b := 1) rfl (by omega) (by omega))) rfl ?_
      refine sq_gT rfl rfl ?_
      refine sq_q (qt_index (i := k - 1) rfl rfl (by omega)) rfl ?_
      refine sq_gT rfl rfl ?_
      refine sq_q (qt_load rfl (fun w t => t.a1 hat')) rfl ?_
      refine sq_gT rfl rfl ?_
      refine sq_q (qt_bin rfl rfl (bF bin_leq (by omega))) rfl ?_
      refine sq_gT rfl rfl ?_
      refine sq_q (qt_pick rfl rfl) rfl ?_
      refine sq_q (qt_pick rfl rfl) rfl ?_
      refine sq_end ?_
      refine tr_ifF rfl ?_
      refine tr_skip ?_
      repeat with_reducible first | refine tr_skip ?_ | refine tr_exit ?_ | refine tr_then ?_ | refine tr_inX ?_ | refine tr_thenX ?_ | refine tr_inN ?_ | refine tr_inR ?_ | refine tr_thenR ?_
      refine tr_region ?_
      refine sq_q (qt_bin rfl rfl (bin_addI (by omega) (by omega))) rfl ?_
      refine sq_q (qt_move rfl) rfl ?_
      refine sq_nil ?_
      repeat with_reducible first | refine tr_skip ?_ | refine tr_exit ?_ | refine tr_then ?_ | refine tr_inX ?_ | refine tr_thenX ?_ | refine tr_inN ?_ | refine tr_inR ?_ | refine tr_thenR ?_
      refine tr_round (k + 1) ⟨hlt, fun i hi => ?_⟩ (by omega) ⟨rfl, rfl, rfl, rfl, rfl, trivial⟩ rfl (fun _ h => h)
      by_cases e : i = k
      · subst e
        unfold ascAt
        rw [hgk, decide_eq_true h1, decide_eq_true h2, show l.getD (i - 1) 0 = l[i - 1] by simp [List.getD, show i - 1 < l.length by omega], decide_eq_true h4]
        simp
      · exact hall i (by omega)
  ·
    have hkl : k = l.length := by have := of_decide_eq_false hc; omega
    subst hkl
    refine tr_exit ?_
    repeat with_reducible first | refine tr_skip ?_ | refine tr_exit ?_ | refine tr_then ?_ | refine tr_inX ?_ | refine tr_thenX ?_ | refine tr_inN ?_ | refine tr_inR ?_ | refine tr_thenR ?_
    refine tr_rseq ?_
    refine sq_q (qt_assign rfl) rfl ?_
    refine sq_end ?_
    refine tr_ret ?_
    repeat with_reducible first | refine tr_skip ?_ | refine tr_exit ?_ | refine tr_then ?_ | refine tr_inX ?_ | refine tr_thenX ?_ | refine tr_inN ?_ | refine tr_inR ?_ | refine tr_thenR ?_
    exact tr_done () (fun a w s t => results_1 rfl (resv_tmp s (by rw [rascB_all hall]; rfl))) (fun _ _ _ _ => trivial)
theorem rminor_ret (m : Mt) (B : Nat) (rs cs : List Int) (A A' : Option Addr) (c c' : Nat) (w0 : World) (S : Nat → Prop) (hm : m.ok B w0) (hB : B ≤ 8388607) (hB1 : 1 ≤ B) (hA : Rd A (i64s rs) w0) (hA' : Rd A' (i64s cs) w0) (hlen : m.rs.length ≤ 35184372088832) (hrow : ∀ r ∈ m.rs, r.l.length ≤ 35184372088832) (hrl : rs.length ≤ 35184372088832) (hcl : cs.length ≤ 35184372088832) :
    Ret Try.prog 32 [m.v, .slice A rs.length c, .slice A' cs.length c'] w0 S (optZV (minorO m.zs rs cs)) (optZF (minorO m.zs rs cs)) := by
  obtain ⟨o, ho⟩ : ∃ o, o = shp m.zs := ⟨_, rfl⟩
  have hM : minorO m.zs rs cs = minorP o m.zs rs cs := by rw [ho]; rfl
  rw [hM]
  refine ret_of Try.func32 rfl Try.ntmps32 rfl ?_
  refine tr_rseq ?_
  refine sq_alloc rfl fun r6 => ?_
  refine sq_q (qt_assign rfl) rfl ?_
  refine sq_end ?_
  refine tr_rseq ?_
  refine sq_q (qt_move rfl) rfl ?_
  refine sq_call (val := fun _ : Unit => shpV o) (F := fun _ _ => True) rfl rfl rfl (fun w t => by rw [ho]; exact rshape_ret m B w _ (t.mt hm) hlen hrow) fun _ => ?_
  refine sq_q (qt_move rfl) rfl ?_
  refine sq_q (qt_extract rfl rfl) rfl ?_
  refine sq_q (qt_extract rfl rfl) rfl ?_
  refine sq_q (qt_extract rfl rfl) rfl ?_
  refine sq_q (qt_assign rfl) rfl ?_
  refine sq_q (qt_assign rfl) rfl ?_
  refine sq_q (qt_assign rfl) rfl ?_
  refine sq_end ?_
  refine tr_seq ?_
  have hcs : o = none ∨ ∃ r k, o = some (r, k) ∧ (rs.length ≠ cs.length ∨ (rs.length = cs.length ∧ (rs.length < 1 ∨ (¬ rs.length < 1 ∧ (ascB r rs = false ∨ (ascB r rs = true ∧ (ascB k cs = false ∨ ascB k cs = true))))))) := by
    cases o with
    | none => exact .inl rfl
    | some rc =>
      refine .inr ⟨rc.1, rc.2, rfl, ?_⟩
      by_cases h : rs.length = cs.length
      · by_cases h0 : rs.length < 1
        · exact .inr ⟨h, .inl h0⟩
        · cases h1 : ascB rc.1 rs
          · exact .inr ⟨h, .inr ⟨h0, .inl rfl⟩⟩
          · cases h2 : ascB rc.2 cs
            · exact .inr ⟨h, .inr ⟨h0, .inr ⟨rfl, .inl rfl⟩⟩⟩
            · exact .inr ⟨h, .inr ⟨h0, .inr ⟨rfl, .inr rfl⟩⟩⟩
      · exact .inl h
  rcases hcs with hn | ⟨r, k, hs, h1 | ⟨h1, h0 | ⟨h0, h2 | ⟨h2, h3 | h3⟩⟩⟩⟩
  ·
    subst hn
    refine tr_rseq ?_
    refine sq_q (qt_move rfl) rfl ?_
    refine sq_q (qt_not rfl) rfl ?_
    refine sq_q (qt_move rfl) rfl ?_
    refine sq_gF rfl rfl rfl rfl ?_
    refine sq_gF rfl rfl rfl rfl ?_
    refine sq_gF rfl rfl rfl rfl ?_
    refine sq_gF rfl rfl rfl rfl ?_
    refine sq_gF rfl rfl rfl rfl ?_
    refine sq_q (qt_pick rfl rfl) rfl ?_
    refine sq_q (qt_move rfl) rfl ?_
    refine sq_gF rfl rfl rfl rfl ?_
    refine sq_gF rfl rfl rfl rfl ?_
    refine sq_gF rfl rfl rfl rfl ?_
    refine sq_q (qt_pick rfl rfl) rfl ?_
    refine sq_q (qt_move rfl) rfl ?_
    refine sq_gF rfl rfl rfl rfl ?_
    refine sq_gF rfl rfl rfl rfl ?_
    refine sq_gF rfl rfl rfl rfl ?_
    refine sq_gF rfl rfl rfl rfl ?_
    refine sq_q (qt_pick rfl rfl) rfl ?_
    refine sq_q (qt_move rfl) rfl ?_
    refine sq_gF rfl rfl rfl rfl ?_
    refine sq_gF rfl rfl rfl rfl ?_
    refine sq_gF rfl rfl rfl rfl ?_
    refine sq_gF rfl rfl rfl rfl ?_
    refine sq_q (qt_pick rfl rfl) rfl ?_
    refine sq_end ?_
    refine tr_ifT rfl ?_
    refine tr_rseq ?_
    refine sq_q (qt_build rfl built0) rfl ?_
    refine sq_store 0 rfl rfl rfl rfl (by first | (simp [u32s, Value.cells]; done) | (simp [u32s, Value.cells]; omega) | exact Nat.le_refl 2) rfl rfl ?_
    refine sq_q (qt_assign rfl) rfl ?_
    refine sq_end ?_
    refine tr_ret ?_
    repeat with_reducible first | refine tr_skip ?_ | refine tr_exit ?_ | refine tr_then ?_ | refine tr_inX ?_ | refine tr_thenX ?_ | refine tr_inN ?_ | refine tr_inR ?_ | refine tr_thenR ?_
    exact tr_done (none, 0) (fun a w s t => results_2 rfl (by show ResV _ _ _ _ (iv 0 (none, 0)); rw [iv_zero]; exact resv_cell 0 s t rfl rfl rfl) (resv_tmp s rfl)) (fun w _ _ _ => optZF_none)
  ·
    subst hs
    rw [show minorP (some (r, k)) m.zs rs cs = none from if_neg (fun e => h1 e.1)]
    refine tr_rseq ?_
    refine sq_q (qt_move rfl) rfl ?_
    refine sq_q (qt_not rfl) rfl ?_
    refine sq_q (qt_move rfl) rfl ?_
    refine sq_gT rfl rfl ?_
    refine sq_q (qt_move rfl) rfl ?_
    refine sq_gT rfl rfl ?_
    refine sq_q (qt_len rfl) rfl ?_
    refine sq_gT rfl rfl ?_
    refine sq_q (qt_move rfl) rfl ?_
    refine sq_gT rfl rfl ?_
    refine sq_q (qt_len rfl) rfl ?_
    refine sq_gT rfl rfl ?_
    refine sq_q (qt_bin rfl rfl (bT bin_neq (by omega))) rfl ?_
    refine sq_q (qt_pick rfl rfl) rfl ?_
    refine sq_q (qt_move rfl) rfl ?_
    refine sq_gF rfl rfl rfl rfl ?_
    refine sq_gF rfl rfl rfl rfl ?_
    refine sq_gF rfl rfl rfl rfl ?_
    refine sq_q (qt_pick rfl rfl) rfl ?_
    refine sq_q (qt_move rfl) rfl ?_
    refine sq_gF rfl rfl rfl rfl ?_
    refine sq_gF rfl rfl rfl rfl ?_
    refine sq_gF rfl rfl rfl rfl ?_
    refine sq_gF rfl rfl rfl rfl ?_
    refine sq_q (qt_pick rfl rfl) rfl ?_
    refine sq_q (qt_move rfl) rfl ?_
    refine sq_gF rfl rfl rfl rfl ?_
    refine sq_gF rfl rfl rfl rfl ?_
    refine sq_gF rfl rfl rfl rfl ?_
    refine sq_gF rfl rfl rfl rfl ?_
    refine sq_q (qt_pick rfl rfl) rfl ?_
    refine sq_end ?_
    refine tr_ifT rfl ?_
    refine tr_rseq ?_
    refine sq_q (qt_build rfl built0) rfl ?_
    refine sq_store 0 rfl rfl rfl rfl (by first | (simp [u32s, Value.cells]; done) | (simp [u32s, Value.cells]; omega) | exact Nat.le_refl 2) rfl rfl ?_
    refine sq_q (qt_assign rfl) rfl ?_
    refine sq_end ?_
    refine tr_ret ?_
    repeat with_reducible first | refine tr_skip ?_ | refine tr_exit ?_ | refine tr_then ?_ | refine tr_inX ?_ | refine tr_thenX ?_ | refine tr_inN ?_ | refine tr_inR ?_ | refine tr_thenR ?_
    exact tr_done (none, 0) (fun a w s t => results_2 rfl (by show ResV _ _ _ _ (iv 0 (none, 0)); rw [iv_zero]; exact resv_cell 0 s t rfl rfl rfl) (resv_tmp s rfl)) (fun w _ _ _ => optZF_none)
  ·
    subst hs
    rw [show minorP (some (r, k)) m.zs rs cs = none from if_neg (fun e => by have e2 := e.2.1; rw [ascB_nil h0] at e2; exact absurd e2 (by decide))]
    refine tr_rseq ?_
    refine sq_q (qt_move rfl) rfl ?_
    refine sq_q (qt_not rfl) rfl ?_
    refine sq_q (qt_move rfl) rfl ?_
    refine sq_gT rfl rfl ?_
    refine sq_q (qt_move rfl) rfl ?_
    refine sq_gT rfl rfl ?_
    refine sq_q (qt_len rfl) rfl ?_
    refine sq_gT rfl rfl ?_
    refine sq_q (qt_move rfl) rfl ?_
    refine sq_gT rfl rfl ?_
    refine sq_q (qt_len rfl) rfl ?_
    refine sq_gT rfl rfl ?_
    refine sq_q (qt_bin rfl rfl (bF bin_neq (by omega))) rfl ?_
    refine sq_q (qt_pick rfl rfl) rfl ?_
    refine sq_q (qt_move rfl) rfl ?_
    refine sq_gT rfl rfl ?_
    refine sq_q (qt_move rfl) rfl ?_
    refine sq_gT rfl rfl ?_
    refine sq_q (qt_len rfl) rfl ?_
    refine sq_gT rfl rfl ?_
    refine sq_q (qt_bin rfl rfl (bT bin_lss (by omega))) rfl ?_
    refine sq_q (qt_pick rfl rfl) rfl ?_
    refine sq_q (qt_move rfl) rfl ?_
    refine sq_gF rfl rfl rfl rfl ?_
    refine sq_gF rfl rfl rfl rfl ?_
    refine sq_gF rfl rfl rfl rfl ?_
    refine sq_gF rfl rfl rfl rfl ?_
    refine sq_q (qt_pick rfl rfl) rfl ?_
    refine sq_q (qt_move rfl) rfl ?_
    refine sq_gF rfl rfl rfl rfl ?_
    refine sq_gF rfl rfl rfl rfl ?_
    refine sq_gF rfl rfl rfl rfl ?_
    refine sq_gF rfl rfl rfl rfl ?_
    refine sq_q (qt_pick rfl rfl) rfl ?_
    refine sq_end ?_
    refine tr_ifT rfl ?_
    refine tr_rseq ?_
    refine sq_q (qt_build rfl built0) rfl ?_
    refine sq_store 0 rfl rfl rfl rfl (by first | (simp [u32s, Value.cells]; done) | (simp [u32s, Value.cells]; omega) | exact Nat.le_refl 2) rfl rfl ?_
    refine sq_q (qt_assign rfl) rfl ?_
    refine sq_end ?_
    refine tr_ret ?_
    repeat with_reducible first | refine tr_skip ?_ | refine tr_exit ?_ | refine tr_then ?_ | refine tr_inX ?_ | refine tr_thenX ?_ | refine tr_inN ?_ | refine tr_inR ?_ | refine tr_thenR ?_
    exact tr_done (none, 0) (fun a w s t => results_2 rfl (by show ResV _ _ _ _ (iv 0 (none, 0)); rw [iv_zero]; exact resv_cell 0 s t rfl rfl rfl) (resv_tmp s rfl)) (fun w _ _ _ => optZF_none)
  ·
    subst hs
    rw [show minorP (some (r, k)) m.zs rs cs = none from if_neg (fun e => by rw [e.2.1] at h2; exact absurd h2 (by decide))]
    rw [← rascB_eq (by omega)] at h2
    refine tr_rseq ?_
    refine sq_q (qt_move rfl) rfl ?_
    refine sq_q (qt_not rfl) rfl ?_
    refine sq_q (qt_move rfl) rfl ?_
    refine sq_gT rfl rfl ?_
    refine sq_q (qt_move rfl) rfl ?_
    refine sq_gT rfl rfl ?_
    refine sq_q (qt_len rfl) rfl ?_
    refine sq_gT rfl rfl ?_
    refine sq_q (qt_move rfl) rfl ?_
    refine sq_gT rfl rfl ?_
    refine sq_q (qt_len rfl) rfl ?_
    refine sq_gT rfl rfl ?_
    refine sq_q (qt_bin rfl rfl (bF bin_neq (by omega))) rfl ?_
    refine sq_q (qt_pick rfl rfl) rfl ?_
    refine sq_q (qt_move rfl) rfl ?_
    refine sq_gT rfl rfl ?_
    refine sq_q (qt_move rfl) rfl ?_
    refine sq_gT rfl rfl ?_
    refine sq_q (qt_len rfl) rfl ?_
    refine sq_gT rfl rfl ?_
    refine sq_q (qt_bin rfl rfl (bF bin_lss (by omega))) rfl ?_
    refine sq_q (qt_pick rfl rfl) rfl ?_
    refine sq_q (qt_move rfl) rfl ?_
    refine sq_gT rfl rfl ?_
    refine sq_q (qt_move rfl) rfl ?_
    refine sq_gT rfl rfl ?_
    refine sq_q (qt_move rfl) rfl ?_
    refine sq_gT rfl rfl ?_
    refine sq_call (val := fun _ : Unit => .bool false) (F := fun _ _ => True) rfl rfl rfl (fun w t => by have h := fun S' => rascending_ret rs A c r w S' (t.rd hA) hrl; simp only [h2] at h; exact h _) fun _ => ?_
    refine sq_gT rfl rfl ?_
    refine sq_q (qt_not rfl) rfl ?_
    refine sq_q (qt_pick rfl rfl) rfl ?_
    refine sq_q (qt_move rfl) rfl ?_
    refine sq_gF rfl rfl rfl rfl ?_
    refine sq_gF rfl rfl rfl rfl ?_
    refine sq_gF rfl rfl rfl rfl ?_
    refine sq_gF rfl rfl rfl rfl ?_
    refine sq_q (qt_pick rfl rfl) rfl ?_
    refine sq_end ?_
    refine tr_ifT rfl ?_
    refine tr_rseq ?_
    refine sq_q (qt_build rfl built0) rfl ?_
    refine sq_store 0 rfl rfl rfl rfl (by first | (simp [u32s, Value.cells]; done) | (simp [u32s, Value.cells]; omega) | exact Nat.le_refl 2) rfl rfl ?_
    refine sq_q (qt_assign rfl) rfl ?_
    refine sq_end ?_
    refine tr_ret ?_
    repeat with_reducible first | refine tr_skip ?_ | refine tr_exit ?_ | refine tr_then ?_ | refine tr_inX ?_ | refine tr_thenX ?_ | refine tr_inN ?_ | refine tr_inR ?_ | refine tr_thenR ?_
    exact tr_done (none, 0) (fun a w s t => results_2 rfl (by show ResV _ _ _ _ (iv 0 (none, 0)); rw [iv_zero]; exact resv_cell 0 s t rfl rfl rfl) (resv_tmp s rfl)) (fun w _ _ _ => optZF_none)
  ·
    subst hs
    rw [show minorP (some (r, k)) m.zs rs cs = none from if_neg (fun e => by rw [e.2.2] at h3; exact absurd h3 (by decide))]
    rw [← rascB_eq (by omega)] at h2 h3
    refine tr_rseq ?_
    refine sq_q (qt_move rfl) rfl ?_
    refine sq_q (qt_not rfl) rfl ?_
    refine sq_q (qt_move rfl) rfl ?_
    refine sq_gT rfl rfl ?_
    refine sq_q (qt_move rfl) rfl ?_
    refine sq_gT rfl rfl ?_
    refine sq_q (qt_len rfl) rfl ?_
    refine sq_gT rfl rfl ?_
    refine sq_q (qt_move rfl) rfl ?_
    refine sq_gT rfl rfl ?_
    refine sq_q (qt_len rfl) rfl ?_
    refine sq_gT rfl rfl ?_
    refine sq_q (qt_bin rfl rfl (bF bin_neq (by omega))) rfl ?_
    refine sq_q (qt_pick rfl rfl) rfl ?_
    refine sq_q (qt_move rfl) rfl ?_
    refine sq_gT rfl rfl ?_
    refine sq_q (qt_move rfl) rfl ?_
    refine sq_gT rfl rfl ?_
    refine sq_q (qt_len rfl) rfl ?_
    refine sq_gT rfl rfl ?_
    refine sq_q (qt_bin rfl rfl (bF bin_lss (by omega))) rfl ?_
    refine sq_q (qt_pick rfl rfl) rfl ?_
    refine sq_q (qt_move rfl) rfl ?_
    refine sq_gT rfl rfl ?_
    refine sq_q (qt_move rfl) rfl ?_
    refine sq_gT rfl rfl ?_
    refine sq_q (qt_move rfl) rfl ?_
    refine sq_gT rfl rfl ?_
    refine sq_call (val := fun _ : Unit => .bool true) (F := fun _ _ => True) rfl rfl rfl (fun w t => by have h := fun S' => rascending_ret rs A c r w S' (t.rd hA) hrl; simp only [h2] at h; exact h _) fun _ => ?_
    refine sq_gT rfl rfl ?_
    refine sq_q (qt_not rfl) rfl ?_
    refine sq_q (qt_pick rfl rfl) rfl ?_
    refine sq_q (qt_move rfl) rfl ?_
    refine sq_gT rfl rfl ?_
    refine sq_q (qt_move rfl) rfl ?_
    refine sq_gT rfl rfl ?_
    refine sq_q (qt_move rfl) rfl ?_
    refine sq_gT rfl rfl ?_
    refine sq_call (val := fun _ : Unit => .bool false) (F := fun _ _ => True) rfl rfl rfl (fun w t => by have h := fun S' => rascending_ret cs A' c' k w S' (t.rd hA') hcl; simp only [h3] at h; exact h _) fun _ => ?_
    refine sq_gT rfl rfl ?_
    refine sq_q (qt_not rfl) rfl ?_
    refine sq_q (qt_pick rfl rfl) rfl ?_
    refine sq_end ?_
    refine tr_ifT rfl ?_
    refine tr_rseq ?_
    refine sq_q (qt_build rfl built0) rfl ?_
    refine sq_store 0 rfl rfl rfl rfl (by first | (simp [u32s, Value.cells]; done) | (simp [u32s, Value.cells]; omega) | exact Nat.le_refl 2) rfl rfl ?_
    refine sq_q (qt_assign rfl) rfl ?_
    refine sq_end ?_
    refine tr_ret ?_
    repeat with_reducible first | refine tr_skip ?_ | refine tr_exit ?_ | refine tr_then ?_ | refine tr_inX ?_ | refine tr_thenX ?_ | refine tr_inN ?_ | refine tr_inR ?_ | refine tr_thenR ?_
    exact tr_done (none, 0) (fun a w s t => results_2 rfl (by show ResV _ _ _ _ (iv 0 (none, 0)); rw [iv_zero]; exact resv_cell 0 s t rfl rfl rfl) (resv_tmp s rfl)) (fun w _ _ _ => optZF_none)
  ·
    subst hs
    rw [show minorP (some (r, k)) m.zs rs cs = some (bdet rs.length (ent (grid (sel m.zs rs cs) rs.length cs.length))) from if_pos ⟨h1, h2, h3⟩]
    have g2 := h2
    have g3 := h3
    rw [← rascB_eq (by omega)] at h2 h3
    refine tr_rseq ?_
    refine sq_q (qt_move rfl) rfl ?_
    refine sq_q (qt_not rfl) rfl ?_
    refine sq_q (qt_move rfl) rfl ?_
    refine sq_gT rfl rfl ?_
    refine sq_q (qt_move rfl) rfl ?_
    refine sq_gT rfl rfl ?_
    refine sq_q (qt_len rfl) rfl ?_
    refine sq_gT rfl rfl ?_
    refine sq_q (qt_move rfl) rfl ?_
    refine sq_gT rfl rfl ?_
    refine sq_q (qt_len rfl) rfl ?_
    refine sq_gT rfl rfl ?_
    refine sq_q (qt_bin rfl rfl (bF bin_neq (by omega))) rfl ?_
    refine sq_q (qt_pick rfl rfl) rfl ?_
    refine sq_q (qt_move rfl) rfl ?_
    refine sq_gT rfl rfl ?_
    refine sq_q (qt_move rfl) rfl ?_
    refine sq_gT rfl rfl ?_
    refine sq_q (qt_len rfl) rfl ?_
    refine sq_gT rfl rfl ?_
    refine sq_q (qt_bin rfl rfl (bF bin_lss (by omega))) rfl ?_
    refine sq_q (qt_pick rfl rfl) rfl ?_
    refine sq_q (qt_move rfl) rfl ?_
    refine sq_gT rfl rfl ?_
    refine sq_q (qt_move rfl) rfl ?_
    refine sq_gT rfl rfl ?_
    refine sq_q (qt_move rfl) rfl ?_
    refine sq_gT rfl rfl ?_
    refine sq_call (val := fun _ : Unit => .bool true) (F := fun _ _ => True) rfl rfl rfl (fun w t => by have h := fun S' => rascending_ret rs A c r w S' (t.rd hA) hrl; simp only [h2] at h; exact h _) fun _ => ?_
    refine sq_gT rfl rfl ?_
    refine sq_q (qt_not rfl) rfl ?_
    refine sq_q (qt_pick rfl rfl) rfl ?_
    refine sq_q (qt_move rfl) rfl ?_
    refine sq_gT rfl rfl ?_
    refine sq_q (qt_move rfl) rfl ?_
    refine sq_gT rfl rfl ?_
    refine sq_q (qt_move rfl) rfl ?_
    refine sq_gT rfl rfl ?_
    refine sq_call (val := fun _ : Unit => .bool true) (F := fun _ _ => True) rfl rfl rfl (fun w t => by have h := fun S' => rascending_ret cs A' c' k w S' (t.rd hA') hcl; simp only [h3] at h; exact h _) fun _ => ?_
    refine sq_gT rfl rfl ?_
    refine sq_q (qt_not rfl) rfl ?_
    refine sq_q (qt_pick rfl rfl) rfl ?_
    refine sq_end ?_
    refine tr_ifF rfl ?_
    refine tr_skip ?_
    repeat with_reducible first | refine tr_skip ?_ | refine tr_exit ?_ | refine tr_then ?_ | refine tr_inX ?_ | refine tr_thenX ?_ | refine tr_inN ?_ | refine tr_inR ?_ | refine tr_thenR ?_
    obtain ⟨q1, q2, q3, q4, q5, q6⟩ := shp_inv ho.symm
    have hn1 := asc_len g2
    have hra := asc_at g2
    have hca := asc_at g3
    rw [m.zs_len] at q1
    have hcol : ∀ q ∈ m.rs, q.l.length = k := fun q hq => by rw [← Rw.zs_len]; exact q6 _ (List.mem_map.2 ⟨q, hq, rfl⟩)
    have er := ints_toNat (l := rs) fun i hi => (hra.2 i hi).1
    have ec := ints_toNat (l := cs) fun i hi => (hca.2 i hi).1
    refine tr_rseq ?_
    refine sq_q (qt_move rfl) rfl ?_
    refine sq_q (qt_move rfl) rfl ?_
    refine sq_q (qt_move rfl) rfl ?_
    refine sq_call Mt.v (fun x w => x.fr w ∧ x.al (fun z => z.ok B w0) ∧ x.zs = grid (sel m.zs rs cs) rs.length cs.length) rfl rfl rfl (fun w t => by
      have h := fun S' => select_ret m (rs.map Int.toNat) (cs.map Int.toNat) (A, c) (A', c') B w S' (fun z => z.ok B w0) (t.mt hm) (fun r hr z hz => (hm.2.2 r hr).2.2 z hz) (by rw [er]; exact t.rd hA) (by rw [ec]; exact t.rd hA') (fun a ha => by
        obtain ⟨i, hi, rfl⟩ := List.getElem_of_mem ha
        rw [List.getElem_map]
        have := (hra.2 i (by simpa using hi)).2.1
        omega) (fun r hr b hb => by
        obtain ⟨i, hi, rfl⟩ := List.getElem_of_mem hb
        rw [List.getElem_map, hcol r hr]
        have := (hca.2 i (by simpa using hi)).2.1
        omega) (by rw [List.length_map]; omega) (by rw [List.length_map]; omega)
      rw [sel_grid, List.length_map, List.length_map] at h
      exact h _) fun x => ?_
    refine sq_have (fun w t => t.r.2.2.2) fun hgz => ?_
    refine sq_call (iv (bdet rs.length (ent (grid (sel m.zs rs cs) rs.length cs.length)))) (optZF (some (bdet rs.length (ent (grid (sel m.zs rs cs) rs.length cs.length))))) rfl rfl rfl (fun w t => by rw [← hgz]; exact rdeterminant_ret x B rs.length w _ (t.r.2.1.ok t.r.2.2.1 t) hB hB1 (grid_rows hgz).1 (by omega) (fun q hq => by rw [(grid_rows hgz).2 q hq]; omega)) fun x => ?_
    refine sq_store 0 rfl rfl rfl rfl (by first | (simp [u32s, Value.cells]; done) | (simp [u32s, Value.cells]; omega) | exact Nat.le_refl 2) rfl rfl ?_
    refine sq_q (qt_assign rfl) rfl ?_
    refine sq_end ?_
    refine tr_ret ?_
    repeat with_reducible first | refine tr_skip ?_ | refine tr_exit ?_ | refine tr_then ?_ | refine tr_inX ?_ | refine tr_thenX ?_ | refine tr_inN ?_ | refine tr_inR ?_ | refine tr_thenR ?_
    exact tr_done x (fun a w s t => results_2 rfl (resv_cell 0 s t rfl rfl rfl) (resv_tmp s rfl)) (fun w h _ _ => h.2)
end Go.Qk
end
section
set_option linter.unusedVariables false
namespace Go.Qk
open Go Go.Proofs Go.RowKit
theorem rsame_opt {o : Option Int} {p q : Sv} {w : World} {S : Nat → Prop} (h : optZF o p w) (h' : optZF o q w) : Ret Try.prog 28 [iv (o.getD 0) p, iv (o.getD 0) q] w S (fun _ : Unit => .bool true) (fun _ _ => True) := by
  have h2 := h.2
  have g := fun S' => rsame_ret (o.getD 0) (o.getD 0) p q w S' h.1 h'.1 (by omega) (by omega)
  rw [decide_eq_true rfl] at g
  exact g _
theorem gd_lens {gx : Gd} {m : Mt} {k : Nat} (h : m.zs = gx.zs k) (h1 : 1 ≤ k) (hk : k ≤ 16) : m.rs.length ≤ 35184372088832 ∧ ∀ r ∈ m.rs, r.l.length ≤ 35184372088832 := by
  obtain ⟨a, b⟩ := gx.lens k (n := 16) h1 hk (by omega)
  obtain ⟨c, d⟩ := lens_of h 16 a b
  exact ⟨by omega, fun r hr => by have := d r hr; omega⟩
section
variable {P : Program} {t : TypeId}
def and8 (a b : Int) : Int := IntKind.u8.wrap (((BitVec.ofInt 8 a &&& BitVec.ofInt 8 b).toNat : Nat) : Int)
theorem bin_and8 {a b : Int} : Bin P .and t (.int .u8 a) (.int .u8 b) (.int .u8 (and8 a b)) := fun w => rfl
theorem bin_shr8 {a : Int} {k' : IntKind} (n : Nat) {y : Int} (hy : y = (n : Int)) (hn : n ≤ 8) (h0 : 0 ≤ a) : Bin P .shr t (.int .u8 a) (.int k' y) (.int .u8 (a / 2 ^ n)) := fun w => by
  subst hy
  have h1 : ¬ ((n : Int) < 0) := by omega
  have h2 : min n 8 = n := by omega
  have e : a.fdiv (2 ^ n) = a / 2 ^ n := by
    rw [Int.fdiv_eq_ediv_of_nonneg _ (Int.le_of_lt (Int.pow_pos (by decide)))]
  simp [binOp, Op.shift, h1, IntKind.bits, h2, e]
end
end Go.Qk
end
section
set_option linter.unusedVariables false
namespace Go.Qk
open Go Go.Proofs Go.RowKit
set_option maxRecDepth 100000
set_option maxHeartbeats 4000000
theorem matrixMinors_ret (gx : Gd) (l : List Int) (p : Sv) (l' : List Int) (p' : Sv) (kk : Int) (w0 : World) (S : Nat → Prop) (hx : gx.ok w0) (hL : Rd p.1 (i64s l) w0) (hll : l.length ≤ 35184372088832) (hL' : Rd p'.1 (i64s l') w0) (hll' : l'.length ≤ 35184372088832) (hkk : 0 ≤ kk ∧ kk < 256) :
    Ret Try.prog 6 [gx.v, .slice p.1 l.length p.2, .slice p'.1 l'.length p'.2, .int .u8 kk] w0 S (fun _ : Unit => .bool true) (fun _ _ => True) := by
  refine ret_of Try.func6 rfl Try.ntmps6 rfl ?_
  refine tr_rseq ?_
  refine sq_box rfl rfl fun r4 => ?_
  refine sq_q (qt_assign rfl) rfl ?_
  refine sq_end ?_
  refine tr_seq ?_
  refine tr_cut (ι := Bool) (fun _ => True) (fun c => [(1, .slice p.1 l.length p.2), (2, .slice p'.1 l'.length p'.2), (3, .int .u8 kk), (4, .pointer (some ⟨r4, 0, none⟩)), (29, .bool c)]) (fun _ => [(r4, .cells gx.v.cells 31 (0, 0))]) (fun _ _ => True) ?_ (fun cc _ => ?_)
  · refine tr_region ?_
    refine sq_q (qt_move rfl) rfl ?_
    refine sq_q (qt_len rfl) rfl ?_
    obtain ⟨b, hb⟩ : ∃ b, b = decide ((20 : Int) < (l.length : Int)) := ⟨_, rfl⟩
    refine sq_q (qt_bin (r := .bool b) rfl rfl (by rw [hb]; exact bin_gtr)) rfl ?_
    refine sq_q (qt_move rfl) rfl ?_
    clear hb
    cases b with
    | true =>
      refine sq_gF rfl rfl rfl rfl ?_
      refine sq_gF rfl rfl rfl rfl ?_
      refine sq_gF rfl rfl rfl rfl ?_
      refine sq_q (qt_pick rfl rfl) rfl ?_
      refine sq_end ?_
      exact tr_mid true trivial ⟨rfl, rfl, rfl, rfl, rfl, trivial⟩ rfl (fun _ _ => trivial)
    | false =>
      refine sq_gT rfl rfl ?_
      refine sq_q (qt_move rfl) rfl ?_
      refine sq_gT rfl rfl ?_
      refine sq_q (qt_len rfl) rfl ?_
      refine sq_gT rfl rfl ?_
      refine sq_q (qt_bin rfl rfl bin_gtr) rfl ?_
      refine sq_q (qt_pick rfl rfl) rfl ?_
      refine sq_end ?_
      exact tr_mid (decide ((20 : Int) < (l'.length : Int))) trivial ⟨rfl, rfl, rfl, rfl, rfl, trivial⟩ rfl (fun _ _ => trivial)
  refine tr_if rfl (fun hc => ?_) (fun hc => ?_)
  ·
    refine tr_rseq ?_
    refine sq_call (val := fun _ : Unit => .bool true) (F := fun _ _ => True) rfl rfl rfl (fun w t => awake_ret w _) fun _ => ?_
    refine sq_q (qt_assign rfl) rfl ?_
    refine sq_end ?_
    refine tr_ret ?_
    repeat with_reducible first | refine tr_skip ?_ | refine tr_exit ?_ | refine tr_then ?_ | refine tr_inX ?_ | refine tr_thenX ?_ | refine tr_inN ?_ | refine tr_inR ?_ | refine tr_thenR ?_
    exact tr_done () (fun a w s t => results_1 rfl (resv_tmp s rfl)) (fun _ _ _ _ => trivial)
  ·
    obtain ⟨d, hd⟩ : ∃ d, d = minorO (gx.zs 6) l l' := ⟨_, rfl⟩
    obtain ⟨g1, g2⟩ := gx.lens 6 (n := 16) (by omega) (by omega) (by omega)
    refine tr_skip ?_
    repeat with_reducible first | refine tr_skip ?_ | refine tr_exit ?_ | refine tr_then ?_ | refine tr_inX ?_ | refine tr_thenX ?_ | refine tr_inN ?_ | refine tr_inR ?_ | refine tr_thenR ?_
    refine tr_rseq ?_
    refine sq_q (qt_load_agg (vs := [.int .u8 (gx.r : Int), .int .u8 (gx.c : Int), .slice gx.p.1 gx.l.length gx.p.2]) rfl rfl (fun w t j v hv => by rw [Nat.zero_add]; exact t.atO 0 rfl hv)) rfl ?_
    refine sq_call Mt.v (fun m w => m.ok 2 w ∧ m.zs = gx.zs 6 ∧ m.can) rfl rfl rfl (fun w t => gmatrix_ret gx 6 w _ (t.gd hx) (by omega) (by omega)) fun m9 => ?_
    refine sq_q (qt_assign rfl) rfl ?_
    refine sq_end ?_
    refine tr_r (fun w => m9.ok 2 w ∧ m9.zs = gx.zs 6) (fun w h => ⟨h.2.1, h.2.2.1⟩) ?_
    refine tr_have (p := m9.zs = gx.zs 6) (fun w t => t.r.2) fun hz9 => ?_
    refine tr_r (fun w => m9.ok 2 w) (fun w h => h.1) ?_
    obtain ⟨hl9, hr9⟩ := mt_lens hz9
    have hb9 := gd_lens hz9 (by omega) (by omega)
    have h09 : 0 < m9.rs.length := by omega
    refine tr_rseq ?_
    refine sq_q (qt_move rfl) rfl ?_
    refine sq_q (qt_move rfl) rfl ?_
    refine sq_q (qt_move rfl) rfl ?_
    refine sq_call (optZV d) (optZF d) rfl rfl rfl (fun w t => by
      have h := fun S' => minor_ret m9 2 l l' p.1 p'.1 p.2 p'.2 w S' t.r (by omega) (by omega) (t.rd hL) (t.rd hL') hb9.1 hb9.2 hll hll'
      rw [hz9, ← hd] at h
      exact h _) fun x4 => ?_
    refine sq_q (qt_move rfl) rfl ?_
    refine sq_q (qt_extract rfl rfl) rfl ?_
    refine sq_q (qt_extract rfl rfl) rfl ?_
    refine sq_alloc rfl fun r10 => ?_
    refine sq_store 0 rfl rfl rfl rfl (Nat.le_refl 2) rfl rfl ?_
    refine sq_q (qt_assign rfl) rfl ?_
    refine sq_end ?_
    refine tr_own [zblk r10 (zd (d.getD 0) x4), (r4, .cells gx.v.cells 31 (0, 0))] rfl ?_
    refine tr_rseq ?_
    refine sq_q (qt_move rfl) rfl ?_
    refine sq_q (qt_move rfl) rfl ?_
    refine sq_q (qt_move rfl) rfl ?_
    refine sq_call (optZV d) (optZF d) rfl rfl rfl (fun w t => by
      have h := fun S' => rminor_ret m9 2 l l' p.1 p'.1 p.2 p'.2 w S' t.r.1 (by omega) (by omega) (t.rd hL) (t.rd hL') hb9.1 hb9.2 hll hll'
      rw [hz9, ← hd] at h
      exact h _) fun x5 => ?_
    refine sq_q (qt_move rfl) rfl ?_
    refine sq_q (qt_extract rfl rfl) rfl ?_
    refine sq_q (qt_extract rfl rfl) rfl ?_
    refine sq_alloc rfl fun r12 => ?_
    refine sq_store 0 rfl rfl rfl rfl (Nat.le_refl 2) rfl rfl ?_
    refine sq_q (qt_assign rfl) rfl ?_
    refine sq_end ?_
    refine tr_rseq ?_
    refine sq_q (qt_assign rfl) rfl ?_
    refine sq_q (qt_assign rfl) rfl ?_
    refine sq_end ?_
    refine tr_seq ?_
    refine tr_rseq ?_
    refine sq_q (qt_move rfl) rfl ?_
    refine sq_q (qt_len rfl) rfl ?_
    refine sq_q (qt_move rfl) rfl ?_
    refine sq_end ?_
    refine tr_block ?_
    refine tr_have (p := ∃ r o, m9.v = .slice (some ⟨r, o, none⟩) m9.rs.length m9.p.2) (fun w t => by obtain ⟨r, o, e, _⟩ := t.r.1.1.at_ h09; exact ⟨r, o, e⟩) fun ⟨r9, o9, ev9⟩ => ?_
    obtain ⟨OW, hOW⟩ : ∃ OW : Own, OW = [zblk r12 (zd (d.getD 0) x5), zblk r10 (zd (d.getD 0) x4), (r4, .cells gx.v.cells 31 (0, 0))] := ⟨_, rfl⟩
    refine tr_own (grO 3 (i64s []) none ++ OW) (by rw [hOW]; rfl) ?_
    refine tr_loop3 (fun (i : Nat) (rl : List Int) (g : Gr) => i ≤ m9.rs.length ∧ rl.length ≤ i ∧ grOk 1 rl.length (i64s rl) g) (fun i rl g => [(3, .int .u8 kk), (9, m9.v), (10, .pointer (some ⟨r10, 0, none⟩)), (11, .bool d.isSome), (12, .pointer (some ⟨r12, 0, none⟩)), (13, .bool d.isSome), (14, grV rl.length g), (15, .slice none 0 0), (48, .int .i64 (m9.rs.length : Int)), (49, .int .i64 (i : Int))]) (fun i rl g => grO 3 (i64s rl) g ++ OW) (fun _ _ _ w => (m9.ok 2 w ∧ optZF d x4 w) ∧ optZF d x5 w) (fun i _ _ => m9.rs.length - i) 0 [] none ⟨Nat.zero_le _, Nat.le_refl _, rfl, rfl⟩ ⟨rfl, rfl, rfl, rfl, rfl, rfl, rfl, rfl, rfl, rfl, trivial⟩ rfl (fun _ h => h) ?_
    rintro i rl g ⟨hi, hrl, hok⟩
    refine tr_rseq ?_
    refine sq_q (qt_bin rfl rfl bin_lss) rfl ?_
    refine sq_end ?_
    refine tr_seq ?_
    refine tr_if rfl (fun hc => ?_) (fun hc => ?_)
    ·
      have hlt : i < m9.rs.length := by have := of_decide_eq_true hc; omega
      refine tr_skip ?_
      repeat with_reducible first | refine tr_skip ?_ | refine tr_exit ?_ | refine tr_then ?_ | refine tr_inX ?_ | refine tr_thenX ?_ | refine tr_inN ?_ | refine tr_inR ?_ | refine tr_thenR ?_
      refine tr_seq ?_
      refine tr_block ?_
      refine tr_rseq ?_
      refine sq_q (qt_move rfl) rfl ?_
      refine sq_q (qt_assign rfl) rfl ?_
      refine sq_end ?_
      refine tr_rseq ?_
      refine sq_q (qt_move rfl) rfl ?_
      refine sq_q (qt_move rfl) rfl ?_
      refine sq_q (qt_bin rfl rfl (bin_rem (by omega) (by omega))) rfl ?_
      refine sq_q (qt_bin rfl rfl (bin_shr8 (i % 8) (by omega) (by omega) hkk.1)) rfl ?_
      refine sq_q (qt_bin rfl rfl bin_and8) rfl ?_
      refine sq_q (qt_bin rfl rfl bin_eql) rfl ?_
      refine sq_end ?_
      refine tr_if rfl (fun hc => ?_) (fun hc => ?_)
      ·
        refine tr_region ?_
        refine sq_q (qt_move rfl) rfl ?_
        refine sq_q (qt_move rfl) rfl ?_
        refine sq_lit (vs := [(0, .int .i64 (i : Int))]) (cells := i64s [(i : Int)]) rfl rfl rfl (by simp [Instr.fill, Value.cells, i64s, show Array.range 1 = #[0] from by decide]) rfl fun r60 => ?_
        refine sq_grow (p := g) (k := rl.length) (m := 1) (xs := i64s rl) (news := i64s [(i : Int)]) (own' := OW) rfl rfl hok rfl (by omega) (by omega) (by omega) rfl rfl rfl rfl fun g' hok' => ?_
        refine sq_q (qt_assign rfl) rfl ?_
        refine sq_nil ?_
        repeat with_reducible first | refine tr_skip ?_ | refine tr_exit ?_ | refine tr_then ?_ | refine tr_inX ?_ | refine tr_thenX ?_ | refine tr_inN ?_ | refine tr_inR ?_ | refine tr_thenR ?_
        refine tr_region ?_
        refine sq_q (qt_bin rfl rfl (bin_addI (by omega) (by omega))) rfl ?_
        refine sq_q (qt_move rfl) rfl ?_
        refine sq_nil ?_
        repeat with_reducible first | refine tr_skip ?_ | refine tr_exit ?_ | refine tr_then ?_ | refine tr_inX ?_ | refine tr_thenX ?_ | refine tr_inN ?_ | refine tr_inR ?_ | refine tr_thenR ?_
        refine tr_round3 (i + 1) (rl ++ [(i : Int)]) g' ⟨by omega, by simp; omega, by rw [i64s_append, List.length_append]; exact hok'⟩ (by omega) ⟨rfl, rfl, rfl, rfl, rfl, rfl, by rw [List.length_append]; rfl, rfl, rfl, rfl, trivial⟩ (by rw [i64s_append]) (fun _ h => h)
      ·
        refine tr_skip ?_
        repeat with_reducible first | refine tr_skip ?_ | refine tr_exit ?_ | refine tr_then ?_ | refine tr_inX ?_ | refine tr_thenX ?_ | refine tr_inN ?_ | refine tr_inR ?_ | refine tr_thenR ?_
        refine tr_region ?_
        refine sq_q (qt_bin rfl rfl (bin_addI (by omega) (by omega))) rfl ?_
        refine sq_q (qt_move rfl) rfl ?_
        refine sq_nil ?_
        repeat with_reducible first | refine tr_skip ?_ | refine tr_exit ?_ | refine tr_then ?_ | refine tr_inX ?_ | refine tr_thenX ?_ | refine tr_inN ?_ | refine tr_inR ?_ | refine tr_thenR ?_
        refine tr_round3 (i + 1) rl g ⟨by omega, by omega, hok⟩ (by omega) ⟨rfl, rfl, rfl, rfl, rfl, rfl, rfl, rfl, rfl, rfl, trivial⟩ rfl (fun _ h => h)
    ·
      refine tr_retireG hok ?_
      refine tr_sub [(3, .int .u8 kk), (9, .slice (some ⟨r9, o9, none⟩) m9.rs.length m9.p.2), (10, .pointer (some ⟨r10, 0, none⟩)), (11, .bool d.isSome), (12, .pointer (some ⟨r12, 0, none⟩)), (13, .bool d.isSome), (14, .slice (grP g).1 rl.length (grP g).2), (15, .slice none 0 0)] ⟨rfl, congrArg some ev9, rfl, rfl, rfl, rfl, congrArg some (grP_v hok), rfl, trivial⟩ ?_
      clear hc
      refine tr_exit ?_
      repeat with_reducible first | refine tr_skip ?_ | refine tr_exit ?_ | refine tr_then ?_ | refine tr_inX ?_ | refine tr_thenX ?_ | refine tr_inN ?_ | refine tr_inR ?_ | refine tr_thenR ?_
      refine tr_seq ?_
      refine tr_rseq ?_
      refine sq_q (qt_move rfl) rfl ?_
      refine sq_q (qt_index (i := 0) rfl rfl h09) rfl ?_
      refine sq_q (qt_load (v := (m9.rs[0]).v) rfl (fun w t => t.r.1.1.1.at_eq ev9 h09)) rfl ?_
      refine sq_q (qt_len rfl) rfl ?_
      refine sq_q (qt_move rfl) rfl ?_
      refine sq_end ?_
      refine tr_block ?_
      refine tr_own (grO 3 (i64s []) none ++ OW) rfl ?_
      refine tr_loop3 (fun (j : Nat) (sl : List Int) (h : Gr) => j ≤ m9.rs[0].l.length ∧ sl.length ≤ j ∧ grOk 1 sl.length (i64s sl) h) (fun j sl h => [(3, .int .u8 kk), (9, .slice (some ⟨r9, o9, none⟩) m9.rs.length m9.p.2), (10, .pointer (some ⟨r10, 0, none⟩)), (11, .bool d.isSome), (12, .pointer (some ⟨r12, 0, none⟩)), (13, .bool d.isSome), (14, .slice (grP g).1 rl.length (grP g).2), (15, grV sl.length h), (66, .int .i64 (m9.rs[0].l.length : Int)), (67, .int .i64 (j : Int))]) (fun j sl h => grO 3 (i64s sl) h ++ OW) (fun _ _ _ w => ((m9.ok 2 w ∧ optZF d x4 w) ∧ optZF d x5 w) ∧ Rd (grP g).1 (i64s rl) w) (fun j _ _ => m9.rs[0].l.length - j) 0 [] none ⟨Nat.zero_le _, Nat.le_refl _, rfl, rfl⟩ ⟨rfl, rfl, rfl, rfl, rfl, rfl, rfl, rfl, rfl, rfl, trivial⟩ rfl (fun _ h => h) ?_
      rintro j sl h ⟨hj, hsl, hok2⟩
      refine tr_rseq ?_
      refine sq_q (qt_bin rfl rfl bin_lss) rfl ?_
      refine sq_end ?_
      refine tr_seq ?_
      refine tr_if rfl (fun hc => ?_) (fun hc => ?_)
      ·
        have hltj : j < m9.rs[0].l.length := by have := of_decide_eq_true hc; omega
        have hr0 := hr9 _ (List.getElem_mem h09)
        have hj8 : j < 16 := by omega
        refine tr_skip ?_
        repeat with_reducible first | refine tr_skip ?_ | refine tr_exit ?_ | refine tr_then ?_ | refine tr_inX ?_ | refine tr_thenX ?_ | refine tr_inN ?_ | refine tr_inR ?_ | refine tr_thenR ?_
        refine tr_seq ?_
        refine tr_block ?_
        refine tr_rseq ?_
        refine sq_q (qt_move rfl) rfl ?_
        refine sq_q (qt_assign rfl) rfl ?_
        refine sq_end ?_
        rcases (by omega : ¬ sl.length < rl.length ∨ sl.length < rl.length) with hsr | hsr
        ·
          refine tr_rseq ?_
          refine sq_q (qt_move rfl) rfl ?_
          refine sq_q (qt_len (x := .tmp 70) (A := (grP h).1) (m := sl.length) (c := (grP h).2) (congrArg some (grP_v hok2))) rfl ?_
          refine sq_q (qt_move rfl) rfl ?_
          refine sq_q (qt_len rfl) rfl ?_
          refine sq_q (qt_bin rfl rfl (bF bin_lss (by omega))) rfl ?_
          refine sq_q (qt_move rfl) rfl ?_
          refine sq_gF rfl rfl rfl rfl ?_
          refine sq_gF rfl rfl rfl rfl ?_
          refine sq_gF rfl rfl rfl rfl ?_
          refine sq_gF rfl rfl rfl rfl ?_
          refine sq_gF rfl rfl rfl rfl ?_
          refine sq_gF rfl rfl rfl rfl ?_
          refine sq_gF rfl rfl rfl rfl ?_
          refine sq_q (qt_pick rfl rfl) rfl ?_
          refine sq_end ?_
          refine tr_ifF rfl ?_
          refine tr_skip ?_
          repeat with_reducible first | refine tr_skip ?_ | refine tr_exit ?_ | refine tr_then ?_ | refine tr_inX ?_ | refine tr_thenX ?_ | refine tr_inN ?_ | refine tr_inR ?_ | refine tr_thenR ?_
          refine tr_region ?_
          refine sq_q (qt_bin rfl rfl (bin_addI (by omega) (by omega))) rfl ?_
          refine sq_q (qt_move rfl) rfl ?_
          refine sq_nil ?_
          repeat with_reducible first | refine tr_skip ?_ | refine tr_exit ?_ | refine tr_then ?_ | refine tr_inX ?_ | refine tr_thenX ?_ | refine tr_inN ?_ | refine tr_inR ?_ | refine tr_thenR ?_
          refine tr_round3 (j + 1) sl h ⟨by omega, by omega, hok2⟩ (by omega) ⟨rfl, rfl, rfl, rfl, rfl, rfl, rfl, rfl, rfl, rfl, trivial⟩ rfl (fun _ h => h)
        ·
          refine tr_rseq ?_
          refine sq_q (qt_move rfl) rfl ?_
          refine sq_q (qt_len (x := .tmp 70) (A := (grP h).1) (m := sl.length) (c := (grP h).2) (congrArg some (grP_v hok2))) rfl ?_
          refine sq_q (qt_move rfl) rfl ?_
          refine sq_q (qt_len rfl) rfl ?_
          refine sq_q (qt_bin rfl rfl (bT bin_lss (by omega))) rfl ?_
          refine sq_q (qt_move rfl) rfl ?_
          refine sq_gT rfl rfl ?_
          refine sq_q (qt_move rfl) rfl ?_
          refine sq_gT rfl rfl ?_
          refine sq_q (qt_move rfl) rfl ?_
          refine sq_gT rfl rfl ?_
          refine sq_q (qt_bin rfl rfl (bin_addI (by omega) (by omega))) rfl ?_
          refine sq_gT rfl rfl ?_
          refine sq_q (qt_bin rfl rfl (bin_rem (by omega) (by omega))) rfl ?_
          refine sq_gT rfl rfl ?_
          refine sq_q (qt_bin rfl rfl (bin_shr8 ((j + 3) % 8) (by omega) (by omega) hkk.1)) rfl ?_
          refine sq_gT rfl rfl ?_
          refine sq_q (qt_bin rfl rfl bin_and8) rfl ?_
          refine sq_gT rfl rfl ?_
          refine sq_q (qt_bin rfl rfl bin_eql) rfl ?_
          refine sq_q (qt_pick rfl rfl) rfl ?_
          refine sq_end ?_
          refine tr_if rfl (fun hc => ?_) (fun hc => ?_)
          ·
            refine tr_region ?_
            refine sq_q (qt_move rfl) rfl ?_
            refine sq_q (qt_move rfl) rfl ?_
            refine sq_lit (vs := [(0, .int .i64 (j : Int))]) (cells := i64s [(j : Int)]) rfl rfl rfl (by simp [Instr.fill, Value.cells, i64s, show Array.range 1 = #[0] from by decide]) rfl fun r86 => ?_
            refine sq_grow (p := h) (k := sl.length) (m := 1) (xs := i64s sl) (news := i64s [(j : Int)]) (own' := OW) rfl rfl hok2 rfl (by omega) (by omega) (by omega) rfl rfl rfl rfl fun g' hok' => ?_
            refine sq_q (qt_assign rfl) rfl ?_
            refine sq_nil ?_
            repeat with_reducible first | refine tr_skip ?_ | refine tr_exit ?_ | refine tr_then ?_ | refine tr_inX ?_ | refine tr_thenX ?_ | refine tr_inN ?_ | refine tr_inR ?_ | refine tr_thenR ?_
            refine tr_region ?_
            refine sq_q (qt_bin rfl rfl (bin_addI (by omega) (by omega))) rfl ?_
            refine sq_q (qt_move rfl) rfl ?_
            refine sq_nil ?_
            repeat with_reducible first | refine tr_skip ?_ | refine tr_exit ?_ | refine tr_then ?_ | refine tr_inX ?_ | refine tr_thenX ?_ | refine tr_inN ?_ | refine tr_inR ?_ | refine tr_thenR ?_
            refine tr_round3 (j + 1) (sl ++ [(j : Int)]) g' ⟨by omega, by simp; omega, by rw [i64s_append, List.length_append]; exact hok'⟩ (by omega) ⟨rfl, rfl, rfl, rfl, rfl, rfl, rfl, by rw [List.length_append]; rfl, rfl, rfl, trivial⟩ (by rw [i64s_append]) (fun _ h => h)
          ·
            refine tr_skip ?_
            repeat with_reducible first | refine tr_skip ?_ | refine tr_exit ?_ | refine tr_then ?_ | refine tr_inX ?_ | refine tr_thenX ?_ | refine tr_inN ?_ | refine tr_inR ?_ | refine tr_thenR ?_
            refine tr_region ?_
            refine sq_q (qt_bin rfl rfl (bin_addI (by omega) (by omega))) rfl ?_
            refine sq_q (qt_move rfl) rfl ?_
            refine sq_nil ?_
            repeat with_reducible first | refine tr_skip ?_ | refine tr_exit ?_ | refine tr_then ?_ | refine tr_inX ?_ | refine tr_thenX ?_ | refine tr_inN ?_ | refine tr_inR ?_ | refine tr_thenR ?_
            refine tr_round3 (j + 1) sl h ⟨by omega, by omega, hok2⟩ (by omega) ⟨rfl, rfl, rfl, rfl, rfl, rfl, rfl, rfl, rfl, rfl, trivial⟩ rfl (fun _ h => h)
      ·
        refine tr_retireG hok2 ?_
        refine tr_sub [(3, .int .u8 kk), (9, m9.v), (10, .pointer (some ⟨r10, 0, none⟩)), (11, .bool d.isSome), (12, .pointer (some ⟨r12, 0, none⟩)), (13, .bool d.isSome), (14, .slice (grP g).1 rl.length (grP g).2), (15, .slice (grP h).1 sl.length (grP h).2)] ⟨rfl, congrArg some ev9.symm, rfl, rfl, rfl, rfl, rfl, congrArg some (grP_v hok2), trivial⟩ ?_
        obtain ⟨e, he⟩ : ∃ e, e = minorO (gx.zs 6) rl sl := ⟨_, rfl⟩
        have hr0 := hr9 _ (List.getElem_mem h09)
        refine tr_exit ?_
        repeat with_reducible first | refine tr_skip ?_ | refine tr_exit ?_ | refine tr_then ?_ | refine tr_inX ?_ | refine tr_thenX ?_ | refine tr_inN ?_ | refine tr_inR ?_ | refine tr_thenR ?_
        refine tr_rseq ?_
        refine sq_q (qt_move rfl) rfl ?_
        refine sq_q (qt_move rfl) rfl ?_
        refine sq_q (qt_move rfl) rfl ?_
        refine sq_call (optZV e) (optZF e) rfl rfl rfl (fun w t => by
          have h := fun S' => minor_ret m9 2 rl sl (grP g).1 (grP h).1 (grP g).2 (grP h).2 w S' t.r.1.1.1.1 (by omega) (by omega) t.r.1.2 t.r.2 hb9.1 hb9.2 (by omega) (by omega)
          rw [hz9, ← he] at h
          exact h _) fun x8 => ?_
        refine sq_q (qt_move rfl) rfl ?_
        refine sq_q (qt_extract rfl rfl) rfl ?_
        refine sq_q (qt_extract rfl rfl) rfl ?_
        refine sq_alloc rfl fun r18 => ?_
        refine sq_store 0 rfl rfl rfl rfl (Nat.le_refl 2) rfl rfl ?_
        refine sq_q (qt_assign rfl) rfl ?_
        refine sq_end ?_
        refine tr_own (zblk r18 (zd (e.getD 0) x8) :: OW) rfl ?_
        refine tr_rseq ?_
        refine sq_q (qt_move rfl) rfl ?_
        refine sq_q (qt_move rfl) rfl ?_
        refine sq_q (qt_move rfl) rfl ?_
        refine sq_call (optZV e) (optZF e) rfl rfl rfl (fun w t => by
          have h := fun S' => rminor_ret m9 2 rl sl (grP g).1 (grP h).1 (grP g).2 (grP h).2 w S' t.r.1.1.1.1.1 (by omega) (by omega) t.r.1.1.2 t.r.1.2 hb9.1 hb9.2 (by omega) (by omega)
          rw [hz9, ← he] at h
          exact h _) fun x9 => ?_
        refine sq_q (qt_move rfl) rfl ?_
        refine sq_q (qt_extract rfl rfl) rfl ?_
        refine sq_q (qt_extract rfl rfl) rfl ?_
        refine sq_alloc rfl fun r20 => ?_
        refine sq_store 0 rfl rfl rfl rfl (Nat.le_refl 2) rfl rfl ?_
        refine sq_q (qt_assign rfl) rfl ?_
        refine sq_end ?_
        refine tr_own [zblk r20 (zd (e.getD 0) x9), zblk r18 (zd (e.getD 0) x8), zblk r12 (zd (d.getD 0) x5), zblk r10 (zd (d.getD 0) x4), (r4, .cells gx.v.cells 31 (0, 0))] (by rw [hOW]; rfl) ?_
        refine tr_r (fun w => ((optZF d x4 w ∧ optZF d x5 w) ∧ optZF e x8 w) ∧ optZF e x9 w) (fun w h => ⟨⟨⟨h.1.1.1.1.1.2, h.1.1.1.1.2⟩, h.1.2⟩, h.2⟩) ?_
        clear hx
        ·
          refine tr_rseq ?_
          refine sq_q (qt_move rfl) rfl ?_
          refine sq_q (qt_move rfl) rfl ?_
          refine sq_q (qt_binB (r := .bool true) rfl rfl (bin_eqlBr boolT _)) rfl ?_
          refine sq_q (qt_move rfl) rfl ?_
          refine sq_gT rfl rfl ?_
          refine sq_q (qt_load2 rfl (fun w t => t.atO 3 rfl rfl) (fun w t => t.atO 3 rfl rfl)) rfl ?_
          refine sq_gT rfl rfl ?_
          refine sq_q (qt_load2 rfl (fun w t => t.atO 2 rfl rfl) (fun w t => t.atO 2 rfl rfl)) rfl ?_
          refine sq_gT rfl rfl ?_
          refine sq_call (val := fun _ : Unit => .bool true) (F := fun _ _ => True) rfl rfl rfl (fun w t => rsame_opt t.r.1.1.1 t.r.1.1.2) fun _ => ?_
          refine sq_q (qt_pick rfl rfl) rfl ?_
          refine sq_q (qt_move rfl) rfl ?_
          refine sq_gT rfl rfl ?_
          refine sq_q (qt_move rfl) rfl ?_
          refine sq_gT rfl rfl ?_
          refine sq_q (qt_move rfl) rfl ?_
          refine sq_gT rfl rfl ?_
          refine sq_q (qt_binB (r := .bool true) rfl rfl (bin_eqlBr boolT _)) rfl ?_
          refine sq_q (qt_pick rfl rfl) rfl ?_
          refine sq_q (qt_move rfl) rfl ?_
          refine sq_gT rfl rfl ?_
          refine sq_q (qt_load2 rfl (fun w t => t.atO 1 rfl rfl) (fun w t => t.atO 1 rfl rfl)) rfl ?_
          refine sq_gT rfl rfl ?_
          refine sq_q (qt_load2 rfl (fun w t => t.atO 0 rfl rfl) (fun w t => t.atO 0 rfl rfl)) rfl ?_
          refine sq_gT rfl rfl ?_
          refine sq_call (val := fun _ : Unit => .bool true) (F := fun _ _ => True) rfl rfl rfl (fun w t => rsame_opt t.r.1.1.2 t.r.1.2) fun _ => ?_
          refine sq_q (qt_pick rfl rfl) rfl ?_
          refine sq_q (qt_move rfl) rfl ?_
          refine sq_gT rfl rfl ?_
          refine sq_call (val := fun _ : Unit => .bool true) (F := fun _ _ => True) rfl rfl rfl (fun w t => awake_ret w _) fun _ => ?_
          refine sq_q (qt_pick rfl rfl) rfl ?_
          refine sq_q (qt_assign rfl) rfl ?_
          refine sq_end ?_
          refine tr_ret ?_
          repeat with_reducible first | refine tr_skip ?_ | refine tr_exit ?_ | refine tr_then ?_ | refine tr_inX ?_ | refine tr_thenX ?_ | refine tr_inN ?_ | refine tr_inR ?_ | refine tr_thenR ?_
          exact tr_done () (fun a w s t => results_1 rfl (resv_tmp s rfl)) (fun _ _ _ _ => trivial)
end Go.Qk
end
