/- Lemmas and contracts of functions that the law reaches. -/
import Derived.Test.YtencodepmbhpiaaGu5
set_option linter.unusedVariables false
set_option linter.unusedSimpArgs false
section
set_option linter.unusedVariables false
namespace Go.Qk
open Go Go.Proofs Go.RowKit
set_option maxRecDepth 100000
set_option maxHeartbeats 4000000
theorem rtranspose_ret (m : Mt) (B : Nat) (w0 : World) (S : Nat → Prop) (hm : m.ok B w0) (hB : B ≤ 35184372088832) (hl : m.rs.length ≤ 35184372088832) (hr : ∀ r ∈ m.rs, r.l.length ≤ 35184372088832) :
    Ret Try.prog 45 [m.v] w0 S (optV (trO m.zs)) (optF B (trO m.zs)) := by
  obtain ⟨o, ho⟩ : ∃ o, o = shp m.zs := ⟨_, rfl⟩
  have hO : trO m.zs = trP o m.zs := by rw [ho]; rfl
  rw [hO]
  clear hO
  refine ret_of Try.func45 rfl Try.ntmps45 rfl ?_
  refine tr_rseq ?_
  refine sq_q (qt_assign rfl) rfl ?_
  refine sq_q (qt_assign rfl) rfl ?_
  refine sq_end ?_
  refine tr_rseq ?_
  refine sq_q (qt_move rfl) rfl ?_
  refine sq_call (val := fun _ : Unit => shpV o) (F := fun _ _ => True) rfl rfl rfl (fun w t => by rw [ho]; exact rshape_ret m B w _ (t.mt hm) hl hr) fun _ => ?_
  refine sq_q (qt_move rfl) rfl ?_
  refine sq_q (qt_extract rfl rfl) rfl ?_
  refine sq_q (qt_extract rfl rfl) rfl ?_
  refine sq_q (qt_extract rfl rfl) rfl ?_
  refine sq_q (qt_assign rfl) rfl ?_
  refine sq_q (qt_assign rfl) rfl ?_
  refine sq_q (qt_assign rfl) rfl ?_
  refine sq_end ?_
  refine tr_seq ?_
  rcases (show o = none ∨ ∃ r c, o = some (r, c) by cases o with | none => exact .inl rfl | some x => exact .inr ⟨x.1, x.2, rfl⟩) with h1 | ⟨r, c, h1⟩
  ·
    subst h1
    rw [show trP none m.zs = none from rfl]
    refine tr_rseq ?_
    refine sq_q (qt_move rfl) rfl ?_
    refine sq_q (qt_not rfl) rfl ?_
    refine sq_end ?_
    refine tr_ifT rfl ?_
    refine tr_rseq ?_
    refine sq_q (qt_assign rfl) rfl ?_
    refine sq_q (qt_assign rfl) rfl ?_
    refine sq_end ?_
    refine tr_ret ?_
    repeat with_reducible first | refine tr_skip ?_ | refine tr_exit ?_ | refine tr_then ?_ | refine tr_inX ?_ | refine tr_thenX ?_ | refine tr_inN ?_ | refine tr_inR ?_ | refine tr_thenR ?_
    exact tr_done ⟨[], (none, 0)⟩ (fun a w s t => results_2 rfl (resv_tmp s rfl) (resv_tmp s rfl)) (fun w _ _ _ => optF_none _ _)
  ·
    subst h1
    rw [show trP (some (r, c)) m.zs = some (grid (tr (ent m.zs)) c r) from rfl]
    obtain ⟨g1, g2, g3, g4, g5, g6⟩ := mt_shp ho.symm
    refine tr_rseq ?_
    refine sq_q (qt_move rfl) rfl ?_
    refine sq_q (qt_not rfl) rfl ?_
    refine sq_end ?_
    refine tr_ifF rfl ?_
    refine tr_skip ?_
    repeat with_reducible first | refine tr_skip ?_ | refine tr_exit ?_ | refine tr_then ?_ | refine tr_inX ?_ | refine tr_thenX ?_ | refine tr_inN ?_ | refine tr_inR ?_ | refine tr_thenR ?_
    refine tr_rseq ?_
    refine sq_q (qt_move rfl) rfl ?_
    refine sq_q (qt_move rfl) rfl ?_
    refine sq_call (fun x : Nat × List Wr => .slice (some ⟨x.1, 0, none⟩) c c) (fun x w' => Fresh w0.heap.size (mown x.1 x.2) w' ∧ x.2.map (·.2) = List.replicate c (List.replicate r z0)) rfl rfl rfl (fun w t => zero_call t c r (by omega) (by omega)) fun x => ?_
    refine sq_q (qt_assign rfl) rfl ?_
    refine sq_end ?_
    obtain ⟨ob, qs⟩ := x
    refine tr_have (fun w t => t.r.2.2) fun hqs => ?_
    refine tr_adopt0 (mown ob qs) (fun w h => h.2.1) ?_
    obtain ⟨ro, oo, evm, hat⟩ := hm.at_ (show 0 < m.rs.length by omega)
    refine tr_seq ?_
    refine tr_rseq ?_
    refine sq_q (qt_move rfl) rfl ?_
    refine sq_q (qt_len rfl) rfl ?_
    refine sq_q (qt_move rfl) rfl ?_
    refine sq_end ?_
    refine tr_block ?_
    refine tr_loop2 (fun (i : Nat) (qs : List Wr) => i ≤ r ∧ MG (fun a b => if b < i then ent m.zs b a else 0) c r qs ∧ allz Zd.can qs) (fun i qs => [(0, m.v), (7, .slice (some ⟨ob, 0, none⟩) c c), (22, .int .i64 (r : Int)), (23, .int .i64 (i : Int))])
      (fun i qs => mown ob qs) (fun i qs w => allz (fun z => z.ok B w) qs) (fun i qs => r - i) 0 qs ⟨Nat.zero_le _, (MG.of_zero hqs).congr (fun a b _ _ => by rw [if_neg (by omega)]), allz.of_zero hqs z0_can⟩ ⟨rfl, rfl, congrArg (fun z => some (Value.int .i64 ((z : Nat) : Int))) g1, rfl, trivial⟩ rfl (fun w _ => allz.of_zero hqs (z0_ok B w)) ?_
    clear hqs qs
    rintro i qs ⟨hle, hG, hcan⟩
    refine tr_rseq ?_
    refine sq_q (qt_bin rfl rfl bin_lss) rfl ?_
    refine sq_end ?_
    refine tr_seq ?_
    refine tr_if rfl (fun hc => ?_) (fun hc => ?_)
    ·
      have hlt : i < r := by have := of_decide_eq_true hc; omega
      have hmi : i < m.rs.length := by omega
      have hcl := g6 _ (List.getElem_mem hmi)
      obtain ⟨rr, orr, evr, hatr⟩ := (hm.2.2 _ (List.getElem_mem hmi)).at_ (show 0 < m.rs[i].l.length by omega)
      have hrw := hat i hmi
      rw [evr] at hrw
      refine tr_sub [(0, .slice (some ⟨ro, oo, none⟩) m.rs.length m.p.2), (7, .slice (some ⟨ob, 0, none⟩) c c), (22, .int .i64 (r : Int)), (23, .int .i64 (i : Int))] ⟨congrArg some evm, rfl, rfl, rfl, trivial⟩ ?_
      refine tr_skip ?_
      repeat with_reducible first | refine tr_skip ?_ | refine tr_exit ?_ | refine tr_then ?_ | refine tr_inX ?_ | refine tr_thenX ?_ | refine tr_inN ?_ | refine tr_inR ?_ | refine tr_thenR ?_
      refine tr_seq ?_
      refine tr_block ?_
      refine tr_rseq ?_
      refine sq_q (qt_move rfl) rfl ?_
      refine sq_q (qt_assign rfl) rfl ?_
      refine sq_end ?_
      refine tr_rseq ?_
      refine sq_q (qt_move rfl) rfl ?_
      refine sq_q (qt_move rfl) rfl ?_
      refine sq_q (qt_index (i := i) rfl rfl hmi) rfl ?_
      refine sq_q (qt_load rfl (fun w t => t.a1 hrw)) rfl ?_
      refine sq_q (qt_len rfl) rfl ?_
      refine sq_q (qt_move rfl) rfl ?_
      refine sq_end ?_
      refine tr_block ?_
      have hG0 : MG (fun a b => if b < i ∨ (b = i ∧ a < 0) then ent m.zs b a else 0) c r qs := hG.congr fun a b _ _ => by
        by_cases h : b < i
        · rw [if_pos h, if_pos (.inl h)]
        · rw [if_neg h, if_neg (by omega)]
      refine tr_loop2 (fun (j : Nat) (qs : List Wr) => j ≤ c ∧ MG (fun a b => if b < i ∨ (b = i ∧ a < j) then ent m.zs b a else 0) c r qs ∧ allz Zd.can qs) (fun j qs => [(0, .slice (some ⟨ro, oo, none⟩) m.rs.length m.p.2), (7, .slice (some ⟨ob, 0, none⟩) c c), (8, .int .i64 (i : Int)), (22, .int .i64 (r : Int)), (23, .int .i64 (i : Int)), (30, .int .i64 (c : Int)), (31, .int .i64 (j : Int))])
        (fun j qs => mown ob qs) (fun j qs w => allz (fun z => z.ok B w) qs) (fun j qs => c - j) 0 qs ⟨Nat.zero_le _, hG0, hcan⟩ ⟨rfl, rfl, rfl, rfl, rfl, congrArg (fun z => some (Value.int .i64 ((z : Nat) : Int))) hcl, rfl, trivial⟩ rfl (fun w h => h) ?_
      clear hG0 hG hcan qs
      rintro j qs ⟨hjc, hG, hcan⟩
      refine tr_rseq ?_
      refine sq_q (qt_bin rfl rfl bin_lss) rfl ?_
      refine sq_end ?_
      refine tr_seq ?_
      refine tr_if rfl (fun hc => ?_) (fun hc => ?_)
      ·
        have hlt2 : j < c := by have := of_decide_eq_true hc; omega
        have hjl : j < m.rs[i].l.length := by omega
        obtain ⟨hz0, hz1⟩ := hatr j hjl
        have hzok := (hm.2.2 _ (List.getElem_mem hmi)).2.2 _ (List.getElem_mem hjl)
        have he : m.rs[i].l[j].z = ent m.zs i j := (mt_ent hmi hjl).symm
        have hbd : nl (ent m.zs i j).natAbs ≤ B := by rw [← he]; exact nl_zd hzok
        obtain ⟨q, hq, hql⟩ := hG.get hlt2
        refine tr_skip ?_
        repeat with_reducible first | refine tr_skip ?_ | refine tr_exit ?_ | refine tr_then ?_ | refine tr_inX ?_ | refine tr_thenX ?_ | refine tr_inN ?_ | refine tr_inR ?_ | refine tr_thenR ?_
        refine tr_seq ?_
        refine tr_block ?_
        refine tr_rseq ?_
        refine sq_q (qt_move rfl) rfl ?_
        refine sq_q (qt_assign rfl) rfl ?_
        refine sq_end ?_
        refine tr_draw 13 [] [] [0, 2, 3, 4, 5, 6, 7, 8, 9, 17, 22, 23, 24, 30, 31, 32, 37, 38, 46] (by kernel_rfl) ?_
        refine dx_q rfl (qt_move rfl) rfl ?_
        refine dx_q rfl (qt_move rfl) rfl ?_
        refine dx_q rfl (qt_index (i := j) rfl rfl hlt2) rfl ?_
        refine dx_q rfl (qt_load rfl (fun w t => t.o1 0 rfl (mout_get hq))) rfl ?_
        refine dx_q rfl (qt_move rfl) rfl ?_
        refine dx_q rfl (qt_move rfl) rfl ?_
        refine dx_q rfl (qt_move rfl) rfl ?_
        refine dx_q rfl (qt_index (i := i) rfl rfl hmi) rfl ?_
        refine dx_q rfl (qt_load rfl (fun w t => t.a1 hrw)) rfl ?_
        refine dx_q rfl (qt_move rfl) rfl ?_
        refine dx_q rfl (qt_index (i := j) rfl rfl hjl) rfl ?_
        refine dx_q rfl (qt_load2 rfl (fun w t => t.atA hz0) (fun w t => t.atA hz1)) rfl ?_
        refine dx_call (iv (ent m.zs i j)) (Lz (ent m.zs i j).natAbs) rfl rfl rfl (fun w t => by rw [← he]; exact rnorm_zd (t.zd hzok) hB) ?_
        refine dx_nil ?_
        repeat (first | refine es_val rfl ?_ rfl | refine es_skip rfl ?_)
        refine es_res rfl (fun x => ?_) rfl
        repeat (first | refine es_val rfl ?_ rfl | refine es_skip rfl ?_)
        refine es_nil rfl ?_
        refine tx_q (qt_index (i := i) rfl rfl (by omega)) rfl rfl rfl ?_
        refine tx_store (j + 1) rfl rfl (mown_at hq) rfl (show 0 + i * 2 + 2 ≤ (zcs q.2).length by rw [zcs_length, hql]; omega) rfl rfl rfl ?_
        refine tx_end ?_
        repeat with_reducible first | refine tr_skip ?_ | refine tr_exit ?_ | refine tr_then ?_ | refine tr_inX ?_ | refine tr_thenX ?_ | refine tr_inN ?_ | refine tr_inR ?_ | refine tr_thenR ?_
        refine tr_region ?_
        refine sq_q (qt_bin rfl rfl (bin_addI (by omega) (by omega))) rfl ?_
        refine sq_q (qt_move rfl) rfl ?_
        refine sq_nil ?_
        repeat with_reducible first | refine tr_skip ?_ | refine tr_exit ?_ | refine tr_then ?_ | refine tr_inX ?_ | refine tr_thenX ?_ | refine tr_inN ?_ | refine tr_inR ?_ | refine tr_thenR ?_
        refine tr_own (mown ob (qs.set j (q.1, q.2.set i (zd (ent m.zs i j) x)))) (mown_wr (zd (ent m.zs i j) x) hq (by omega)) ?_
        refine tr_round2 (j + 1) (qs.set j (q.1, q.2.set i (zd (ent m.zs i j) x))) ⟨by omega, (hG.set hq (zd (ent m.zs i j) x) (ent m.zs i j) (zd_z _ _)).congr (fun a b _ _ => ?_), hcan.set hq (zd_can _ _)⟩ (by omega) ⟨rfl, rfl, rfl, rfl, rfl, rfl, rfl, trivial⟩ rfl (fun w h => h.1.set hq (zd_ok h.2 hbd))
        unfold gset
        dsimp only
        split
        · rename_i h; rw [if_pos (by omega), h.1, h.2]
        · rename_i h
          by_cases h' : b < i ∨ (b = i ∧ a < j)
          · rw [if_pos h', if_pos (by omega)]
          · rw [if_neg h', if_neg (by omega)]
      ·
        have hje : j = c := by have := of_decide_eq_false hc; omega
        refine tr_exit ?_
        repeat with_reducible first | refine tr_skip ?_ | refine tr_exit ?_ | refine tr_then ?_ | refine tr_inX ?_ | refine tr_thenX ?_ | refine tr_inN ?_ | refine tr_inR ?_ | refine tr_thenR ?_
        refine tr_region ?_
        refine sq_q (qt_bin rfl rfl (bin_addI (by omega) (by omega))) rfl ?_
        refine sq_q (qt_move rfl) rfl ?_
        refine sq_nil ?_
        repeat with_reducible first | refine tr_skip ?_ | refine tr_exit ?_ | refine tr_then ?_ | refine tr_inX ?_ | refine tr_thenX ?_ | refine tr_inN ?_ | refine tr_inR ?_ | refine tr_thenR ?_
        refine tr_round2 (i + 1) qs ⟨by omega, hG.congr (fun a b ha hb => ?_), hcan⟩ (by omega) ⟨congrArg some evm.symm, rfl, rfl, rfl, trivial⟩ rfl (fun w h => h)
        by_cases h : b < i ∨ (b = i ∧ a < j)
        · rw [if_pos h, if_pos (by omega)]
        · rw [if_neg h, if_neg (by omega)]
    ·
      have hik : i = r := by have := of_decide_eq_false hc; omega
      subst hik
      refine tr_exit ?_
      repeat with_reducible first | refine tr_skip ?_ | refine tr_exit ?_ | refine tr_then ?_ | refine tr_inX ?_ | refine tr_thenX ?_ | refine tr_inN ?_ | refine tr_inR ?_ | refine tr_thenR ?_
      refine tr_rseq ?_
      refine sq_q (qt_move rfl) rfl ?_
      refine sq_q (qt_assign rfl) rfl ?_
      refine sq_q (qt_assign rfl) rfl ?_
      refine sq_end ?_
      refine tr_ret ?_
      repeat with_reducible first | refine tr_skip ?_ | refine tr_exit ?_ | refine tr_then ?_ | refine tr_inX ?_ | refine tr_thenX ?_ | refine tr_inN ?_ | refine tr_inR ?_ | refine tr_thenR ?_
      refine tr_done (mmt ob qs) (fun a w s t => results_2 rfl (resv_tmp s (by rw [mmt_v, hG.1]; rfl)) (resv_tmp s rfl)) (fun w h ho _ => ⟨mmt_ok ho h, ?_, mmt_can hcan⟩)
      rw [mmt_zs, hG.zs]
      show grid _ c i = grid (tr (ent m.zs)) c i
      unfold grid
      refine List.map_congr_left fun a ha => List.map_congr_left fun b hb => ?_
      have hb := List.mem_range.1 hb
      exact if_pos hb
end Go.Qk
end
section
set_option linter.unusedVariables false
namespace Go.Qk
open Go Go.Proofs Go.RowKit
section
variable {P : Program} {n : Nat} {w0 : World} {X : List Nat} {S : Nat → Prop} {E : Env} {own : Own} {R : World → Prop} {Q : Exit → Act → World → Prop} {ops : Array Oper} {rest : List Oper}
theorem SS.give {w w' : World} (t : SS w0 X S own R w) (hb : Below w.heap.size w w') {ad : Own} (hf : Fresh w.heap.size ad w') : SS w0 X S (ad ++ own) R w' := by
  have g := t.grow hb
  have hlt : ∀ p ∈ ad, p.1 < w'.heap.size := fun p hp => (Array.getElem?_eq_some_iff.1 (hf.2 p hp).2).1
  refine ⟨g.os, g.tape, g.output, g.size, g.pres, ?_, ?_, ?_, ?_⟩
  · intro p hp
    rcases List.mem_append.1 hp with h | h
    · exact ⟨hlt p h, .inr (Nat.le_trans t.size (hf.2 p h).1)⟩
    · exact g.lt p h
  · intro p hp
    rcases List.mem_append.1 hp with h | h
    · exact (hf.2 p h).2
    · exact g.has p h
  · refine List.pairwise_append.2 ⟨hf.1, g.nd, fun p hp q hq e => ?_⟩
    have h1 := (hf.2 p hp).1
    have h2 := (t.lt q hq).1
    omega
  · intro w'' hs hk
    refine t.keep w'' (Nat.le_trans hb.size hs) fun k h1 h2 h3 => ?_
    rw [hk k h1 (Nat.lt_of_lt_of_le h2 hb.size) fun p hp e => ?_, hb.block k h2]
    rcases List.mem_append.1 hp with h | h
    · have := (hf.2 p h).1; omega
    · exact h3 p h e
theorem sq_callA {α : Type} {c : Operand} {f : FuncId} {pre cap : List Value} {xs : List Operand} {vs : List Value} {ats : Array TypeId} {ty : TypeId} {d : Nat} {pos : String} {af : Array Edge} (val : α → Value) (ad : α → Own) (p : α → Prop) [hB : FnB P f]
    (hc : fnv (look E) c f pre cap) (hxs : evs (look E) xs = some vs) (hd : Nat.blt d n = true)
    (hcall : ∀ w, SS w0 X S own R w → Ret P f (pre ++ vs ++ cap) w (Nn w0 S own w) val (fun x w' => Fresh w.heap.size (ad x) w' ∧ p x))
    (h : ∀ x, p x → Sq P ops Q n w0 X S rest ((d, val x) :: E) (ad x ++ own) R) :
    Sq P ops Q n w0 X S (⟨some d, .call { callee := .value c, args := xs.toArray, argTypes := ats }, ty, pos, af, none⟩ :: rest) E own R := by
  intro a w s t'
  refine wpList_plain rfl fun K hK => ?_
  unfold Oper.wp
  rw [run_call s.agr hc hxs, Oper.upon_enter]
  refine (hcall w t').mono ?_
  rintro e w' ⟨x, rfl, hb, hf⟩
  exact hK _ _ (h x hf.now.2 _ _ (s.put hd _) (t'.give hb hf.now.1))
end
theorem Mt.ok.row_at {B : Nat} {m : Mt} {w : World} {r o : Nat} (h : m.ok B w) (e : m.v = .slice (some ⟨r, o, none⟩) m.rs.length m.p.2) {i : Nat} (hi : i < m.rs.length) : At r (o + i * 1) (m.rs[i]).v w := by
  rw [Nat.mul_one]
  exact h.at_eq e hi
end Go.Qk
end
section
set_option linter.unusedVariables false
namespace Go.Qk
open Go Go.Proofs Go.RowKit
/-- what stands behind the integers of a row, by the row's block -/
abbrev Sk := Nat → List Value
def mhdrS (σ : Sk) (q : Wr) : Value := .slice (some ⟨q.1, 0, none⟩) q.2.length (q.2.length + (σ q.1).length / 2)
def mrowS (σ : Sk) (q : Wr) : Nat × Obj := (q.1, .cells (zcs q.2 ++ σ q.1).toArray 35 (0, 0))
def moutS (σ : Sk) (o : Nat) (qs : List Wr) (k : Nat) : Nat × Obj := (o, .cells (qs.map (mhdrS σ) ++ List.replicate k (Value.slice none 0 0)).toArray 44 (0, 0))
def mownS (σ : Sk) (o : Nat) (qs : List Wr) : Own := moutS σ o qs 0 :: qs.map (mrowS σ)
def mrdS (σ : Sk) (q : Wr) : Rw := ⟨q.2, (some ⟨q.1, 0, none⟩, q.2.length + (σ q.1).length / 2)⟩
def mmtS (σ : Sk) (o : Nat) (qs : List Wr) : Mt := ⟨qs.map (mrdS σ), (some ⟨o, 0, none⟩, qs.length)⟩
section
variable {σ : Sk} {o : Nat} {qs : List Wr}
theorem mmtS_v : (mmtS σ o qs).v = .slice (some ⟨o, 0, none⟩) qs.length qs.length := by simp [mmtS, Mt.v]
theorem mmtS_zs : (mmtS σ o qs).zs = qs.map fun q => q.2.map Zd.z := by simp [mmtS, Mt.zs, Rw.zs, mrdS, Function.comp_def]
theorem mmtS_ok {B : Nat} {w : World} (h : ∀ p ∈ mownS σ o qs, w.heap[p.1]? = some p.2) (hz : ∀ q ∈ qs, ∀ z ∈ q.2, z.ok B w) : (mmtS σ o qs).ok B w := by
  refine ⟨?_, by simp [mmtS], ?_⟩
  · have := Rd.own (h (moutS σ o qs 0) (List.mem_cons_self ..))
    rw [List.replicate_zero, List.append_nil] at this
    have e : (qs.map (mrdS σ)).map Rw.v = qs.map (mhdrS σ) := by rw [List.map_map]; rfl
    show Rd _ ((qs.map (mrdS σ)).map Rw.v) w
    rw [e]
    exact this
  · intro r hr
    simp only [mmtS, List.mem_map] at hr
    obtain ⟨q, hq, rfl⟩ := hr
    have h1 := (Rd.own (h (mrowS σ q) (List.mem_cons_of_mem _ (List.mem_map.2 ⟨q, hq, rfl⟩)))).take (zcs q.2).length
    rw [List.take_left] at h1
    exact ⟨h1, Nat.le_add_right _ _, hz q hq⟩
theorem mmtS_can (h : allz Zd.can qs) : (mmtS σ o qs).can := by
  intro r hr z hz
  simp only [mmtS, List.mem_map] at hr
  obtain ⟨q, hq, rfl⟩ := hr
  exact h q hq z hz
theorem mownS_at {i : Nat} {q : Wr} (h : qs[i]? = some q) : ownAt (mownS σ o qs) (i + 1) = some (mrowS σ q) := ownAt_map (mrowS σ) qs i q h
theorem mownS_set {i : Nat} {q : Wr} {l : List Zd} (h : qs[i]? = some q) (hl : l.length = q.2.length) : ownSet (mownS σ o qs) (i + 1) (.cells (zcs l ++ σ q.1).toArray 35 (0, 0)) = mownS σ o (qs.set i (q.1, l)) := by
  show moutS σ o qs 0 :: ownSet (qs.map (mrowS σ)) i _ = _
  rw [ownSet_map (mrowS σ) qs i q (q.1, l) _ h rfl]
  have e : (qs.set i (q.1, l)).map (mhdrS σ) = qs.map (mhdrS σ) := by
    rw [List.map_set]
    have : mhdrS σ (q.1, l) = mhdrS σ q := by unfold mhdrS; rw [hl]
    rw [this]
    refine List.ext_getElem? fun k => ?_
    rw [List.getElem?_set]
    split
    · rename_i hk
      subst hk
      rw [List.getElem?_map, h]
      split
      · rfl
      · rename_i hlt
        rw [List.getElem?_eq_none (by simpa using hlt)] at h
        simp at h
    · rfl
  unfold mownS moutS
  rw [e]
theorem wr_app {vs : List Value} : ∀ {l r : List Value} {off : Nat}, off + vs.length ≤ l.length → wr (l ++ r) off vs = wr l off vs ++ r := by
  induction vs with
  | nil => intro l r off _; rfl
  | cons v vs ih =>
    intro l r off h
    simp only [List.length_cons] at h
    simp only [wr]
    rw [List.set_append_left _ _ (by omega)]
    exact ih (by simp; omega)
theorem mownS_wr {i j : Nat} {q : Wr} (z : Zd) (h : qs[i]? = some q) (hj : j < q.2.length) : ownSet (mownS σ o qs) (i + 1) (.cells (wr (zcs q.2 ++ σ q.1) (0 + j * 2) z.v.cells.toList).toArray 35 (0, 0)) = mownS σ o (qs.set i (q.1, q.2.set j z)) := by
  rw [wr_app (by rw [zcs_length]; simp [Zd.v, ig, Value.cells]; omega), zcs_set z hj, mownS_set h (by simp)]
theorem moutS_get {i k : Nat} {q : Wr} (h : qs[i]? = some q) : (qs.map (mhdrS σ) ++ List.replicate k (Value.slice none 0 0))[i]? = some (mhdrS σ q) := by
  have hl : i < qs.length := by
    rcases Nat.lt_or_ge i qs.length with hh | hh
    · exact hh
    · rw [List.getElem?_eq_none hh] at h; simp at h
  rw [List.getElem?_append_left (by simpa using hl), List.getElem?_map, h]
  rfl
end
section
variable {P : Program} {n : Nat} {w0 w : World} {X : List Nat} {S : Nat → Prop} {E : Env} {own : Own} {R : World → Prop} {Q : Exit → Act → World → Prop} {ops : Array Oper} {σ : Sk}
theorem SS.mzS0 (i : Nat) (t : SS w0 X S own R w) {q : Wr} (h : ownAt own i = some (mrowS σ q)) {j : Nat} {z : Zd} (hz : q.2[j]? = some z) : At q.1 (0 + j * 2) (.bool z.n) w := by
  obtain ⟨hj, e⟩ := List.getElem?_eq_some_iff.1 hz
  refine t.atO i h ?_
  rw [Nat.zero_add, List.getElem?_append_left (by rw [zcs_length]; omega), zcs_get0 hj, e]
theorem SS.mzS1 (i : Nat) (t : SS w0 X S own R w) {q : Wr} (h : ownAt own i = some (mrowS σ q)) {j : Nat} {z : Zd} (hz : q.2[j]? = some z) : At q.1 (0 + j * 2 + 1) (slv z.xs z.p) w := by
  obtain ⟨hj, e⟩ := List.getElem?_eq_some_iff.1 hz
  refine t.atO i h ?_
  rw [Nat.zero_add, List.getElem?_append_left (by rw [zcs_length]; omega), zcs_get1 hj, e]
theorem sq_perm {l : List Oper} (own' : Own) (e : own.Perm own') (h : Sq P ops Q n w0 X S l E own' R) : Sq P ops Q n w0 X S l E own R := fun a w s t => h a w s (t.perm e)
/-- the end of a function that hands out its own blocks; what else it knows does not hang on these -/
theorem tr_doneK {fn : Func} {α : Type} {val : α → Value} {F : α → World → Prop} (x : α) (hres : ∀ a w, St n a E → SS w0 [] S own R w → (results fn a.tmps).run P w = .ok (val x) w)
    (hF : ∀ w, Fresh w0.heap.size own w → Kp w0 S own R w → F x w) : Tr n w0 [] S E own R (bodyPost P fn (Rt w0 S val F) .ret) := by
  intro a w s t
  refine ⟨s.defers, val x, hres a w s t, x, rfl, t.arg, fun w'' hs hk => hF w'' ⟨t.nd, fun p hp => ⟨(t.lt p hp).2.resolve_left (by simp), ?_⟩⟩ fun w3 hs3 hk3 => t.keep w3 (Nat.le_trans hs hs3) fun k h1 h2 h3 => ?_⟩
  · rw [hk p.1 (.inl ((t.lt p hp).2.resolve_left (by simp))) (t.lt p hp).1]
    exact t.has p hp
  · rw [hk3 k h1 (Nat.lt_of_lt_of_le h2 hs) h3, hk k h1 h2]
/-- a call that hands out fresh blocks -/
theorem SS.giveK {w w' : World} {S' : Nat → Prop} {G : World → Prop} (t : SS w0 X S own R w) (hb : Below w.heap.size w w') {ad : Own} (hf : Fresh w.heap.size ad w') (hg : Kp w S' ad G w') (hS : ∀ k, S' k → Nn w0 S own w k) : SS w0 X S (ad ++ own) (fun w => R w ∧ G w) w' := by
  have g := t.give hb hf
  refine ⟨g.os, g.tape, g.output, g.size, g.pres, g.lt, g.has, g.nd, fun w'' hs hk => ⟨g.keep w'' hs hk, hg w'' hs fun k h1 h2 h3 => ?_⟩⟩
  rcases h1 with h1 | h1
  · exact hk k (.inl (Nat.le_trans t.size h1)) h2 fun p hp e => by
      rcases List.mem_append.1 hp with h | h
      · exact h3 p h e
      · have := (t.lt p h).1; omega
  · exact hk k (hS k h1).1 h2 fun p hp e => by
      rcases List.mem_append.1 hp with h | h
      · exact h3 p h e
      · exact (hS k h1).2.2 p h e
theorem sq_callK {rest : List Oper} {α : Type} {c : Operand} {f : FuncId} {pre cap : List Value} {xs : List Operand} {vs : List Value} {ats : Array TypeId} {ty : TypeId} {d : Nat} {pos : String} {af : Array Edge} (val : α → Value) (ad : α → Own) (p : α → Prop) (G : α → World → Prop) [hB : FnB P f]
    (hc : fnv (look E) c f pre cap) (hxs : evs (look E) xs = some vs) (hd : Nat.blt d n = true)
    (hcall : ∀ w, SS w0 X S own R w → Ret P f (pre ++ vs ++ cap) w (Nn w0 S own w) val (fun x w' => Fresh w.heap.size (ad x) w' ∧ p x ∧ Kp w (Nn w0 S own w) (ad x) (G x) w'))
    (h : ∀ x, p x → Sq P ops Q n w0 X S rest ((d, val x) :: E) (ad x ++ own) (fun w => R w ∧ G x w)) :
    Sq P ops Q n w0 X S (⟨some d, .call { callee := .value c, args := xs.toArray, argTypes := ats }, ty, pos, af, none⟩ :: rest) E own R := by
  intro a w s t'
  refine wpList_plain rfl fun K hK => ?_
  unfold Oper.wp
  rw [run_call s.agr hc hxs, Oper.upon_enter]
  refine (hcall w t').mono ?_
  rintro e w' ⟨x, rfl, hb, hf⟩
  exact hK _ _ (h x hf.now.2.1 _ _ (s.put hd _) (t'.giveK hb hf.now.1 hf.now.2.2 fun k hk => hk))
end
abbrev Ws := Wr × List Value
def hdrW (p : Ws) : Value := .slice (some ⟨p.1.1, 0, none⟩) p.1.2.length (p.1.2.length + p.2.length / 2)
def rowW (p : Ws) : Nat × Obj := (p.1.1, .cells (zcs p.1.2 ++ p.2).toArray 35 (0, 0))
def skOf (ps : List Ws) : Sk := fun k => match ps.find? (fun p => p.1.1 == k) with
  | some p => p.2
  | none => []
theorem skOf_get {ps : List Ws} (h : (ps.map rowW).Pairwise fun p q => p.1 ≠ q.1) {p : Ws} (hp : p ∈ ps) : skOf ps p.1.1 = p.2 := by
  unfold skOf
  induction ps with
  | nil => cases hp
  | cons q ps ih =>
    rw [List.map_cons, List.pairwise_cons] at h
    rw [List.find?_cons]
    rcases List.mem_cons.1 hp with rfl | hp
    · rw [beq_self_eq_true]
    · have h1 : (q.1.1 == p.1.1) = false := by
        have := h.1 (rowW p) (List.mem_map.2 ⟨p, hp, rfl⟩)
        exact beq_false_of_ne this
      rw [h1]
      exact ih h.2 hp
theorem skOf_rows {ps : List Ws} (h : (ps.map rowW).Pairwise fun p q => p.1 ≠ q.1) : ps.map rowW = (ps.map (·.1)).map (mrowS (skOf ps)) := by
  rw [List.map_map]
  refine List.map_congr_left fun p hp => ?_
  show rowW p = mrowS (skOf ps) p.1
  unfold mrowS rowW
  rw [skOf_get h hp]
theorem skOf_hdrs {ps : List Ws} (h : (ps.map rowW).Pairwise fun p q => p.1 ≠ q.1) : ps.map hdrW = (ps.map (·.1)).map (mhdrS (skOf ps)) := by
  rw [List.map_map]
  refine List.map_congr_left fun p hp => ?_
  show hdrW p = mhdrS (skOf ps) p.1
  unfold mhdrS hdrW
  rw [skOf_get h hp]
def outW (o : Nat) (ps : List Ws) (k : Nat) : Nat × Obj := (o, .cells (ps.map hdrW ++ List.replicate k (Value.slice none 0 0)).toArray 44 (0, 0))
def outG (o : Nat) (ps : List Ws) (v : Value) (k : Nat) : Nat × Obj := (o, .cells (ps.map hdrW ++ v :: List.replicate k (Value.slice none 0 0)).toArray 44 (0, 0))
theorem mid_set {α : Type} (A B : List α) (x y : α) : (A ++ x :: B).set A.length y = A ++ y :: B := by
  rw [List.set_append_right _ _ (Nat.le_refl _), Nat.sub_self]
  rfl
theorem mid_get {α : Type} (A B : List α) (x : α) : (A ++ x :: B)[A.length]? = some x := by
  rw [List.getElem?_append_right (Nat.le_refl _), Nat.sub_self]
  rfl
theorem perm_mid2 {α : Type} (G rest : List α) (a b : α) : (G ++ a :: b :: rest).Perm (a :: b :: (G ++ rest)) := List.perm_middle.trans (List.Perm.cons _ List.perm_middle)
theorem outG_get {ps : List Ws} {v : Value} {k : Nat} : (ps.map hdrW ++ v :: List.replicate k (Value.slice none 0 0))[ps.length]? = some v := by
  have := mid_get (ps.map hdrW) (List.replicate k (Value.slice none 0 0)) v
  rwa [List.length_map] at this
theorem outG_set {o : Nat} {ps : List Ws} {v v' : Value} {k : Nat} : (o, Obj.cells (wr (ps.map hdrW ++ v :: List.replicate k (Value.slice none 0 0)) (0 + ps.length * 1) [v']).toArray 44 (0, 0)) = outG o ps v' k := by
  have e := mid_set (ps.map hdrW) (List.replicate k (Value.slice none 0 0)) v v'
  rw [List.length_map] at e
  unfold outG
  rw [← e, Nat.zero_add, Nat.mul_one]
  rfl
end Go.Qk
end
section
set_option linter.unusedVariables false
namespace Go.Qk
open Go Go.Proofs Go.RowKit
set_option maxRecDepth 100000
set_option maxHeartbeats 4000000
theorem copy_ret (m : Mt) (B c : Nat) (w0 : World) (S : Nat → Prop) (hm : m.ok B w0) (hB : B ≤ 35184372088832) (hl : m.rs.length ≤ 65536) (hc : ∀ q ∈ m.rs, q.l.length = c) (hc1 : 1 ≤ c ∨ m.rs.length = 0) (hc16 : c ≤ 65536) :
    Ret Try.prog 82 [m.v] w0 S (fun x : Sk × Nat × List Wr => .slice (some ⟨x.2.1, 0, none⟩) m.rs.length m.rs.length) (fun x w' => Fresh w0.heap.size (mownS x.1 x.2.1 x.2.2) w' ∧ (MG (ent m.zs) m.rs.length c x.2.2 ∧ allz Zd.can x.2.2) ∧ Kp w0 S (mownS x.1 x.2.1 x.2.2) (fun w => allz (fun z => z.ok B w) x.2.2) w') := by
  have hc0 := hc
  refine ret_of Try.func82 rfl Try.ntmps82 rfl ?_
  refine tr_rseq ?_
  refine sq_q (qt_assign rfl) rfl ?_
  refine sq_end ?_
  refine tr_rseq ?_
  refine sq_q (qt_move rfl) rfl ?_
  refine sq_q (qt_len rfl) rfl ?_
  refine sq_make (c := m.rs.length) rfl rfl (by omega) (by omega) rfl fun r9 => ?_
  refine sq_q (qt_assign rfl) rfl ?_
  refine sq_end ?_
  refine tr_seq ?_
  refine tr_rseq ?_
  refine sq_q (qt_move rfl) rfl ?_
  refine sq_q (qt_len rfl) rfl ?_
  refine sq_q (qt_move rfl) rfl ?_
  refine sq_end ?_
  refine tr_block ?_
  refine tr_loop (fun ps : List Ws => ps.length ≤ m.rs.length ∧ ∀ a p, ps[a]? = some p → p.1.2.length = c ∧ ∀ b z, p.1.2[b]? = some z → z.z = ent m.zs a b ∧ z.can) (fun ps => [(0, m.v), (3, .slice (some ⟨r9, 0, none⟩) m.rs.length m.rs.length), (11, .int .i64 (m.rs.length : Int)), (12, .int .i64 (ps.length : Int))])
    (fun ps => outW r9 ps (m.rs.length - ps.length) :: ps.map rowW) (fun ps w => ∀ p ∈ ps, ∀ z ∈ p.1.2, z.ok B w) (fun ps => m.rs.length - ps.length) [] ⟨Nat.zero_le _, fun a p h => by simp at h⟩ ⟨rfl, rfl, rfl, rfl, trivial⟩ (by rw [made_s]; rfl) (fun _ _ p hp => nomatch hp) ?_
  rintro ps ⟨hle, hps⟩
  refine tr_rseq ?_
  refine sq_q (qt_bin rfl rfl bin_lss) rfl ?_
  refine sq_end ?_
  refine tr_seq ?_
  refine tr_if rfl (fun hc => ?_) (fun hc => ?_)
  ·
    have hlt : ps.length < m.rs.length := by have := of_decide_eq_true hc; omega
    obtain ⟨ro, oo, evm, hat⟩ := hm.at_ (show 0 < m.rs.length by omega)
    have hrl := hc0 _ (List.getElem_mem hlt)
    obtain ⟨rr, orr, evr, hatr⟩ := (hm.2.2 _ (List.getElem_mem hlt)).at_ (show 0 < m.rs[ps.length].l.length by omega)
    have hrw := hat _ hlt
    rw [evr] at hrw
    obtain ⟨k, hk⟩ : ∃ k, m.rs.length - ps.length = k + 1 := ⟨m.rs.length - ps.length - 1, by omega⟩
    refine tr_sub [(0, .slice (some ⟨ro, oo, none⟩) m.rs.length m.p.2), (3, .slice (some ⟨r9, 0, none⟩) m.rs.length m.rs.length), (11, .int .i64 (m.rs.length : Int)), (12, .int .i64 (ps.length : Int))] ⟨congrArg some evm, rfl, rfl, rfl, trivial⟩ ?_
    refine tr_skip ?_
    repeat with_reducible first | refine tr_skip ?_ | refine tr_exit ?_ | refine tr_then ?_ | refine tr_inX ?_ | refine tr_thenX ?_ | refine tr_inN ?_ | refine tr_inR ?_ | refine tr_thenR ?_
    refine tr_seq ?_
    refine tr_block ?_
    refine tr_rseq ?_
    refine sq_q (qt_move rfl) rfl ?_
    refine sq_q (qt_assign rfl) rfl ?_
    refine sq_end ?_
    refine tr_rseq ?_
    refine sq_q (qt_move rfl) rfl ?_
    refine sq_q (qt_move rfl) rfl ?_
    refine sq_q (qt_index (i := ps.length) rfl rfl hlt) rfl ?_
    refine sq_q (qt_load rfl (fun w t => t.a1 hrw)) rfl ?_
    refine sq_q (qt_len rfl) rfl ?_
    refine sq_q (qt_move rfl) rfl ?_
    refine sq_end ?_
    refine tr_block ?_
    refine tr_own (outG r9 ps (grV 0 none) k :: (grO 35 (zcs []) none ++ ps.map rowW)) (by unfold outG outW; rw [hk]; rfl) ?_
    refine tr_loop2 (fun (l : List Zd) (p : Gr) => l.length ≤ c ∧ grOk 2 l.length (zcs l) p ∧ ∀ b z, l[b]? = some z → z.z = ent m.zs ps.length b ∧ z.can) (fun l p => [(0, .slice (some ⟨ro, oo, none⟩) m.rs.length m.p.2), (3, .slice (some ⟨r9, 0, none⟩) m.rs.length m.rs.length), (4, .int .i64 (ps.length : Int)), (11, .int .i64 (m.rs.length : Int)), (12, .int .i64 (ps.length : Int)), (18, .slice (some ⟨rr, orr, none⟩) m.rs[ps.length].l.length m.rs[ps.length].p.2), (19, .int .i64 (c : Int)), (20, .int .i64 (l.length : Int))])
      (fun l p => outG r9 ps (grV l.length p) k :: (grO 35 (zcs l) p ++ ps.map rowW)) (fun l p w => (∀ q ∈ ps, ∀ z ∈ q.1.2, z.ok B w) ∧ ∀ z ∈ l, z.ok B w) (fun l p => c - l.length) [] none ⟨Nat.zero_le _, ⟨rfl, rfl⟩, fun b z h => by simp at h⟩ ⟨rfl, rfl, rfl, rfl, rfl, rfl, congrArg (fun z => some (Value.int .i64 ((z : Nat) : Int))) hrl, rfl, trivial⟩ rfl (fun w h => ⟨h, fun z hz => nomatch hz⟩) ?_
    rintro l p ⟨hlc, hok, hlz⟩
    refine tr_rseq ?_
    refine sq_q (qt_bin rfl rfl bin_lss) rfl ?_
    refine sq_end ?_
    refine tr_seq ?_
    refine tr_if rfl (fun hc => ?_) (fun hc => ?_)
    ·
      have hlt2 : l.length < c := by have := of_decide_eq_true hc; omega
      have hjl : l.length < m.rs[ps.length].l.length := by omega
      obtain ⟨hz0, hz1⟩ := hatr _ hjl
      have hzok := (hm.2.2 _ (List.getElem_mem hlt)).2.2 _ (List.getElem_mem hjl)
      have he := mt_ent hlt hjl
      obtain ⟨z, hz⟩ : ∃ z, z = m.rs[ps.length].l[l.length] := ⟨_, rfl⟩
      rw [← hz] at hz0 hz1 hzok he
      have hnz := nl_zd hzok
      refine tr_skip ?_
      repeat with_reducible first | refine tr_skip ?_ | refine tr_exit ?_ | refine tr_then ?_ | refine tr_inX ?_ | refine tr_thenX ?_ | refine tr_inN ?_ | refine tr_inR ?_ | refine tr_thenR ?_
      refine tr_seq ?_
      refine tr_block ?_
      refine tr_rseq ?_
      refine sq_q (qt_index (i := l.length) rfl rfl hjl) rfl ?_
      refine sq_q (qt_load2 rfl (fun w t => t.atA hz0) (fun w t => t.atA hz1)) rfl ?_
      refine sq_alloc rfl fun r6 => ?_
      refine sq_store 0 rfl rfl rfl rfl (Nat.le_refl 2) rfl rfl ?_
      refine sq_end ?_
      refine tr_own (zblk r6 z :: outG r9 ps (grV l.length p) k :: (grO 35 (zcs l) p ++ ps.map rowW)) rfl ?_
      refine tr_sb [9, 11] ?_
      refine sb_p 0 rfl (by kernel_rfl) (qt_move rfl) rfl ?_
      refine sb_p 1 rfl (by kernel_rfl) (qt_move rfl) rfl ?_
      refine sb_q 2 rfl (by kernel_rfl) (qt_move rfl) rfl ?_
      refine sb_q 3 rfl (by kernel_rfl) (qt_move rfl) rfl ?_
      refine sb_q 4 rfl (by kernel_rfl) (qt_index (i := ps.length) rfl rfl hlt) rfl ?_
      refine sb_q 5 rfl (by kernel_rfl) (qt_load (v := grV l.length p) rfl (fun w t => t.o1 1 rfl outG_get)) rfl ?_
      refine sb_q 6 rfl (by kernel_rfl) (qt_load2 rfl (fun w t => t.atO 0 rfl rfl) (fun w t => t.atO 0 rfl rfl)) rfl ?_
      refine sb_one 7 (by kernel_rfl) ?_
      refine so2_call (iv z.z) (Lz z.z.natAbs) rfl rfl rfl rfl (fun w t => rnorm_zd (t.zd hzok) hB) fun y => ?_
      refine sb_one 8 (by kernel_rfl) ?_
      refine so2_lit (vs := [(0, iv z.z y)]) (cells := zcs [zd z.z y]) rfl rfl rfl rfl (by simp [Instr.fill, Value.cells, iv, ig, zcs, Zd.cs, zd, show Array.range 2 = #[0, 1] from by decide]) rfl fun r32 => ?_
      refine sb_one 9 (by kernel_rfl) ?_
      refine so2_of rfl rfl ?_
      refine sq_perm ((r32, .cells (zcs [zd z.z y]).toArray 35 (0, 0)) :: (grO 35 (zcs l) p ++ (zblk r6 z :: outG r9 ps (grV l.length p) k :: ps.map rowW))) (List.Perm.cons _ (perm_mid2 _ _ _ _).symm) ?_
      refine sq_grow (p := p) (k := l.length) (m := 1) (xs := zcs l) (news := zcs [zd z.z y]) (own' := zblk r6 z :: outG r9 ps (grV l.length p) k :: ps.map rowW) rfl rfl hok rfl (by omega) (by omega) (by omega) rfl rfl rfl rfl fun p' hok' => ?_
      refine sq_perm (zblk r6 z :: outG r9 ps (grV l.length p) k :: (grO 35 (zcs l ++ zcs [zd z.z y]) p' ++ ps.map rowW)) (perm_mid2 _ _ _ _) ?_
      rw [grP_v hok']
      refine sq_back ?_
      refine sb_q 10 rfl (by kernel_rfl) (qt_index (i := ps.length) rfl rfl hlt) rfl ?_
      refine sb_one 11 (by kernel_rfl) ?_
      refine so2_store 1 rfl rfl rfl rfl rfl rfl (show 0 + ps.length * 1 + 1 ≤ (ps.map hdrW ++ grV l.length p :: List.replicate k (Value.slice none 0 0)).length by simp) rfl rfl ?_
      refine sb_end (by kernel_rfl) ?_
      refine tr_own (zblk r6 z :: outG r9 ps (grV (l ++ [zd z.z y]).length p') k :: (grO 35 (zcs (l ++ [zd z.z y])) p' ++ ps.map rowW)) ?_ ?_
      · rw [← outG_set (o := r9) (ps := ps) (v := grV l.length p) (v' := grV (l ++ [zd z.z y]).length p') (k := k), zcs_append, List.length_append, List.length_singleton, grP_v hok']
        rfl
      refine tr_drop (outG r9 ps (grV (l ++ [zd z.z y]).length p') k :: (grO 35 (zcs (l ++ [zd z.z y])) p' ++ ps.map rowW)) (List.sublist_cons_self ..) ?_
      repeat with_reducible first | refine tr_skip ?_ | refine tr_exit ?_ | refine tr_then ?_ | refine tr_inX ?_ | refine tr_thenX ?_ | refine tr_inN ?_ | refine tr_inR ?_ | refine tr_thenR ?_
      refine tr_region ?_
      refine sq_q (qt_bin rfl rfl (bin_addI (by omega) (by omega))) rfl ?_
      refine sq_q (qt_move rfl) rfl ?_
      refine sq_nil ?_
      repeat with_reducible first | refine tr_skip ?_ | refine tr_exit ?_ | refine tr_then ?_ | refine tr_inX ?_ | refine tr_thenX ?_ | refine tr_inN ?_ | refine tr_inR ?_ | refine tr_thenR ?_
      have e3 : (l ++ [zd z.z y]).length = l.length + 1 := by simp
      refine tr_round2 (l ++ [zd z.z y]) p' ⟨by omega, by rw [e3, zcs_append]; exact hok', fun b u hu => ?_⟩ (by omega) ⟨rfl, rfl, rfl, rfl, rfl, rfl, rfl, by rw [e3]; rfl, trivial⟩ rfl (fun w h => ⟨h.1.1, fun u hu => ?_⟩)
      · rw [List.getElem?_append] at hu
        split at hu
        · exact hlz b u hu
        · rw [List.getElem?_singleton] at hu
          split at hu
          · injection hu with hu
            subst hu
            rw [show b = l.length by omega]
            exact ⟨by rw [zd_z, he], zd_can _ _⟩
          · simp at hu
      · rcases List.mem_append.1 hu with h' | h'
        · exact h.1.2 u h'
        · rw [List.mem_singleton.1 h']
          exact zd_ok h.2 hnz
    ·
      have hlen : l.length = c := by have := of_decide_eq_false hc; omega
      obtain ⟨g, cap, sl, rfl⟩ : ∃ g cap sl, p = some (g, cap, sl) := by
        cases p with
        | none => exact absurd hok.1 (by omega)
        | some q => exact ⟨q.1, q.2.1, q.2.2, rfl⟩
      obtain ⟨o1, o2, o3⟩ := hok
      refine tr_exit ?_
      repeat with_reducible first | refine tr_skip ?_ | refine tr_exit ?_ | refine tr_then ?_ | refine tr_inX ?_ | refine tr_thenX ?_ | refine tr_inN ?_ | refine tr_inR ?_ | refine tr_thenR ?_
      refine tr_region ?_
      refine sq_q (qt_bin rfl rfl (bin_addI (by omega) (by omega))) rfl ?_
      refine sq_q (qt_move rfl) rfl ?_
      refine sq_nil ?_
      repeat with_reducible first | refine tr_skip ?_ | refine tr_exit ?_ | refine tr_then ?_ | refine tr_inX ?_ | refine tr_thenX ?_ | refine tr_inN ?_ | refine tr_inR ?_ | refine tr_thenR ?_
      have e4 : (ps ++ [((g, l), sl)]).length = ps.length + 1 := by simp
      refine tr_perm (outW r9 (ps ++ [((g, l), sl)]) k :: (ps ++ [((g, l), sl)]).map rowW) ?_ ?_
      · have e5 : outW r9 (ps ++ [((g, l), sl)]) k = outG r9 ps (grV l.length (some (g, cap, sl))) k := by
          unfold outW outG
          rw [List.map_append, List.append_assoc]
          show (r9, Obj.cells (ps.map hdrW ++ hdrW ((g, l), sl) :: List.replicate k (Value.slice none 0 0)).toArray _ _) = _
          rw [show hdrW ((g, l), sl) = grV l.length (some (g, cap, sl)) by
            show Value.slice _ l.length (l.length + sl.length / 2) = Value.slice _ l.length cap
            rw [show l.length + sl.length / 2 = cap by omega]]
        rw [e5, List.map_append]
        exact List.Perm.cons _ (List.perm_append_comm (l₁ := [rowW ((g, l), sl)]) (l₂ := ps.map rowW))
      refine tr_round (ps ++ [((g, l), sl)]) ⟨by omega, fun a q hq => ?_⟩ (by omega) ⟨congrArg some evm.symm, rfl, rfl, by rw [e4]; rfl, trivial⟩ (by rw [e4, show m.rs.length - (ps.length + 1) = k by omega]) (fun w h q hq z hz => ?_)
      · rw [List.getElem?_append] at hq
        split at hq
        · exact hps a q hq
        · rw [List.getElem?_singleton] at hq
          split at hq
          · injection hq with hq
            subst hq
            rw [show a = ps.length by omega]
            exact ⟨hlen, hlz⟩
          · simp at hq
      · rcases List.mem_append.1 hq with h' | h'
        · exact h.1 q h' z hz
        · rw [List.mem_singleton.1 h'] at hz
          exact h.2 z hz
  ·
    have hpl : ps.length = m.rs.length := by have := of_decide_eq_false hc; omega
    refine tr_have (fun w t => (List.pairwise_cons.1 t.nd).2) fun hnd => ?_
    refine tr_own (mownS (skOf ps) r9 (ps.map (·.1))) ?_ ?_
    · unfold mownS outW moutS
      rw [← skOf_rows hnd, ← skOf_hdrs hnd, hpl, Nat.sub_self]
    refine tr_exit ?_
    repeat with_reducible first | refine tr_skip ?_ | refine tr_exit ?_ | refine tr_then ?_ | refine tr_inX ?_ | refine tr_thenX ?_ | refine tr_inN ?_ | refine tr_inR ?_ | refine tr_thenR ?_
    refine tr_rseq ?_
    refine sq_q (qt_move rfl) rfl ?_
    refine sq_q (qt_assign rfl) rfl ?_
    refine sq_end ?_
    refine tr_ret ?_
    repeat with_reducible first | refine tr_skip ?_ | refine tr_exit ?_ | refine tr_then ?_ | refine tr_inX ?_ | refine tr_thenX ?_ | refine tr_inN ?_ | refine tr_inR ?_ | refine tr_thenR ?_
    refine tr_doneK (skOf ps, r9, ps.map (·.1)) (fun a w s t => results_1 rfl (resv_tmp s rfl)) (fun w hf hk => ⟨hf, ⟨⟨by simpa using hpl, fun a q hq => ?_⟩, fun q hq z hz => ?_⟩, hk.mono fun w h q hq z hz => ?_⟩)
    · rw [List.getElem?_map] at hq
      cases hp : ps[a]? with
      | none => rw [hp] at hq; simp at hq
      | some p =>
        rw [hp] at hq
        injection hq with hq
        subst hq
        exact ⟨(hps a p hp).1, fun b z hz => ((hps a p hp).2 b z hz).1⟩
    · obtain ⟨p, hp, rfl⟩ := List.mem_map.1 hq
      obtain ⟨a, ha⟩ := List.getElem?_of_mem hp
      obtain ⟨b, hb⟩ := List.getElem?_of_mem hz
      exact ((hps a p ha).2 b z hb).2
    · obtain ⟨p, hp, rfl⟩ := List.mem_map.1 hq
      exact h p hp z hz
end Go.Qk
end
section
set_option linter.unusedVariables false
namespace Go.Qk
open Go Go.Proofs Go.RowKit
set_option maxRecDepth 100000
set_option maxHeartbeats 4000000
theorem rmmul_ret (m m' : Mt) (B B' : Nat) (w0 : World) (S : Nat → Prop) (hm : m.ok B w0) (hm' : m'.ok B' w0) (hB : B + B' ≤ 35184372088700) (hl : m.rs.length ≤ 35184372088832) (hr : ∀ r ∈ m.rs, r.l.length ≤ 35184372088832) (hl' : m'.rs.length ≤ 35184372088832) (hr' : ∀ r ∈ m'.rs, r.l.length ≤ 35184372088832) :
    Ret Try.prog 53 [m.v, m'.v] w0 S (optV (mulO m.zs m'.zs)) (optF (B + B' + 16) (mulO m.zs m'.zs)) := by
  obtain ⟨o, ho⟩ : ∃ o, o = shp m.zs := ⟨_, rfl⟩
  obtain ⟨o', ho'⟩ : ∃ o, o = shp m'.zs := ⟨_, rfl⟩
  have hO : mulO m.zs m'.zs = mulP o o' m.zs m'.zs := by rw [ho, ho']; rfl
  rw [hO]
  clear hO
  refine ret_of Try.func53 rfl Try.ntmps53 rfl ?_
  refine tr_rseq ?_
  refine sq_q (qt_assign rfl) rfl ?_
  refine sq_q (qt_assign rfl) rfl ?_
  refine sq_end ?_
  refine tr_rseq ?_
  refine sq_q (qt_move rfl) rfl ?_
  refine sq_call (val := fun _ : Unit => shpV o) (F := fun _ _ => True) rfl rfl rfl (fun w t => by rw [ho]; exact rshape_ret m B w _ (t.mt hm) hl hr) fun _ => ?_
  refine sq_q (qt_move rfl) rfl ?_
  refine sq_q (qt_extract rfl rfl) rfl ?_
  refine sq_q (qt_extract rfl rfl) rfl ?_
  refine sq_q (qt_extract rfl rfl) rfl ?_
  refine sq_q (qt_assign rfl) rfl ?_
  refine sq_q (qt_assign rfl) rfl ?_
  refine sq_q (qt_assign rfl) rfl ?_
  refine sq_end ?_
  refine tr_rseq ?_
  refine sq_q (qt_move rfl) rfl ?_
  refine sq_call (optV (trP o' m'.zs)) (optF B' (trP o' m'.zs)) rfl rfl rfl (fun w t => by rw [ho']; exact rtranspose_ret m' B' w _ (t.mt hm') (by omega) hl' hr') fun m9 => ?_
  refine sq_q (qt_move rfl) rfl ?_
  refine sq_q (qt_extract rfl rfl) rfl ?_
  refine sq_q (qt_extract rfl rfl) rfl ?_
  refine sq_q (qt_assign rfl) rfl ?_
  refine sq_q (qt_assign rfl) rfl ?_
  refine sq_end ?_
  refine tr_seq ?_
  have hcs : o = none ∨ (∃ r c, o = some (r, c) ∧ o' = none) ∨ (∃ r c r' c', o = some (r, c) ∧ o' = some (r', c') ∧ c ≠ r') ∨ (∃ r c c', o = some (r, c) ∧ o' = some (c, c')) := by
    cases o with
    | none => exact .inl rfl
    | some x =>
      cases o' with
      | none => exact .inr (.inl ⟨x.1, x.2, rfl, rfl⟩)
      | some y =>
        obtain ⟨r, c⟩ := x
        obtain ⟨r', c'⟩ := y
        by_cases h1 : c = r'
        · subst h1; exact .inr (.inr (.inr ⟨_, _, _, rfl, rfl⟩))
        · exact .inr (.inr (.inl ⟨_, _, _, _, rfl, rfl, h1⟩))
  rcases hcs with h1 | ⟨r, c, h1, h2⟩ | ⟨r, c, r', c', h1, h2, h3⟩ | ⟨r, c, c', h1, h2⟩
  ·
    subst h1
    rw [show mulP none o' m.zs m'.zs = none from rfl]
    refine tr_rseq ?_
    refine sq_q (qt_move rfl) rfl ?_
    refine sq_q (qt_not rfl) rfl ?_
    refine sq_q (qt_move rfl) rfl ?_
    refine sq_gF rfl rfl rfl rfl ?_
    refine sq_gF rfl rfl rfl rfl ?_
    refine sq_q (qt_pick rfl rfl) rfl ?_
    refine sq_q (qt_move rfl) rfl ?_
    refine sq_gF rfl rfl rfl rfl ?_
    refine sq_gF rfl rfl rfl rfl ?_
    refine sq_gF rfl rfl rfl rfl ?_
    refine sq_gF rfl rfl rfl rfl ?_
    refine sq_q (qt_pick rfl rfl) rfl ?_
    refine sq_end ?_
    refine tr_ifT rfl ?_
    refine tr_rseq ?_
    refine sq_q (qt_assign rfl) rfl ?_
    refine sq_q (qt_assign rfl) rfl ?_
    refine sq_end ?_
    refine tr_ret ?_
    repeat with_reducible first | refine tr_skip ?_ | refine tr_exit ?_ | refine tr_then ?_ | refine tr_inX ?_ | refine tr_thenX ?_ | refine tr_inN ?_ | refine tr_inR ?_ | refine tr_thenR ?_
    exact tr_done ⟨[], (none, 0)⟩ (fun a w s t => results_2 rfl (resv_tmp s rfl) (resv_tmp s rfl)) (fun w _ _ _ => optF_none _ _)
  ·
    subst h1
    subst h2
    rw [show mulP (some (r, c)) none m.zs m'.zs = none from rfl]
    refine tr_rseq ?_
    refine sq_q (qt_move rfl) rfl ?_
    refine sq_q (qt_not rfl) rfl ?_
    refine sq_q (qt_move rfl) rfl ?_
    refine sq_gT rfl rfl ?_
    refine sq_q (qt_move rfl) rfl ?_
    refine sq_gT rfl rfl ?_
    refine sq_q (qt_not rfl) rfl ?_
    refine sq_q (qt_pick rfl rfl) rfl ?_
    refine sq_q (qt_move rfl) rfl ?_
    refine sq_gF rfl rfl rfl rfl ?_
    refine sq_gF rfl rfl rfl rfl ?_
    refine sq_gF rfl rfl rfl rfl ?_
    refine sq_gF rfl rfl rfl rfl ?_
    refine sq_q (qt_pick rfl rfl) rfl ?_
    refine sq_end ?_
    refine tr_ifT rfl ?_
    refine tr_rseq ?_
    refine sq_q (qt_assign rfl) rfl ?_
    refine sq_q (qt_assign rfl) rfl ?_
    refine sq_end ?_
    refine tr_ret ?_
    repeat with_reducible first | refine tr_skip ?_ | refine tr_exit ?_ | refine tr_then ?_ | refine tr_inX ?_ | refine tr_thenX ?_ | refine tr_inN ?_ | refine tr_inR ?_ | refine tr_thenR ?_
    exact tr_done ⟨[], (none, 0)⟩ (fun a w s t => results_2 rfl (resv_tmp s rfl) (resv_tmp s rfl)) (fun w _ _ _ => optF_none _ _)
  ·
    subst h1
    subst h2
    rw [show mulP (some (r, c)) (some (r', c')) m.zs m'.zs = none from if_neg h3]
    obtain ⟨g1', g2', g3', g4', g5', g6'⟩ := mt_shp ho'.symm
    refine tr_rseq ?_
    refine sq_q (qt_move rfl) rfl ?_
    refine sq_q (qt_not rfl) rfl ?_
    refine sq_q (qt_move rfl) rfl ?_
    refine sq_gT rfl rfl ?_
    refine sq_q (qt_move rfl) rfl ?_
    refine sq_gT rfl rfl ?_
    refine sq_q (qt_not rfl) rfl ?_
    refine sq_q (qt_pick rfl rfl) rfl ?_
    refine sq_q (qt_move rfl) rfl ?_
    refine sq_gT rfl rfl ?_
    refine sq_q (qt_move rfl) rfl ?_
    refine sq_gT rfl rfl ?_
    refine sq_q (qt_len rfl) rfl ?_
    refine sq_gT rfl rfl ?_
    refine sq_q (qt_move rfl) rfl ?_
    refine sq_gT rfl rfl ?_
    refine sq_q (qt_bin rfl rfl (bT bin_neq (by simp only [Option.getD_some]; omega))) rfl ?_
    refine sq_q (qt_pick rfl rfl) rfl ?_
    refine sq_end ?_
    refine tr_ifT rfl ?_
    refine tr_rseq ?_
    refine sq_q (qt_assign rfl) rfl ?_
    refine sq_q (qt_assign rfl) rfl ?_
    refine sq_end ?_
    refine tr_ret ?_
    repeat with_reducible first | refine tr_skip ?_ | refine tr_exit ?_ | refine tr_then ?_ | refine tr_inX ?_ | refine tr_thenX ?_ | refine tr_inN ?_ | refine tr_inR ?_ | refine tr_thenR ?_
    exact tr_done ⟨[], (none, 0)⟩ (fun a w s t => results_2 rfl (resv_tmp s rfl) (resv_tmp s rfl)) (fun w _ _ _ => optF_none _ _)
  ·
    subst h1
    subst h2
    rw [show mulP (some (r, c)) (some (c, c')) m.zs m'.zs = some (grid (mmul c (ent m.zs) (ent m'.zs)) r c') from if_pos rfl]
    obtain ⟨g1, g2, g3, g4, g5, g6⟩ := mt_shp ho.symm
    obtain ⟨g1', g2', g3', g4', g5', g6'⟩ := mt_shp ho'.symm
    refine tr_rseq ?_
    refine sq_q (qt_move rfl) rfl ?_
    refine sq_q (qt_not rfl) rfl ?_
    refine sq_q (qt_move rfl) rfl ?_
    refine sq_gT rfl rfl ?_
    refine sq_q (qt_move rfl) rfl ?_
    refine sq_gT rfl rfl ?_
    refine sq_q (qt_not rfl) rfl ?_
    refine sq_q (qt_pick rfl rfl) rfl ?_
    refine sq_q (qt_move rfl) rfl ?_
    refine sq_gT rfl rfl ?_
    refine sq_q (qt_move rfl) rfl ?_
    refine sq_gT rfl rfl ?_
    refine sq_q (qt_len rfl) rfl ?_
    refine sq_gT rfl rfl ?_
    refine sq_q (qt_move rfl) rfl ?_
    refine sq_gT rfl rfl ?_
    refine sq_q (qt_bin rfl rfl (bF bin_neq (by simp only [Option.getD_some]; omega))) rfl ?_
    refine sq_q (qt_pick rfl rfl) rfl ?_
    refine sq_end ?_
    refine tr_ifF rfl ?_
    refine tr_skip ?_
    repeat with_reducible first | refine tr_skip ?_ | refine tr_exit ?_ | refine tr_then ?_ | refine tr_inX ?_ | refine tr_thenX ?_ | refine tr_inN ?_ | refine tr_inR ?_ | refine tr_thenR ?_
    refine tr_have (fun w t => t.r.2.2.1) fun (hz9 : m9.zs = grid (tr (ent m'.zs)) c' c) => ?_
    obtain ⟨k1, k6⟩ := mt_lens hz9
    refine tr_have (p := ∃ r9 o9, m9.v = .slice (some ⟨r9, o9, none⟩) m9.rs.length m9.p.2) (fun w t => by obtain ⟨r9, o9, e9, _⟩ := t.r.2.1.at_ (show 0 < m9.rs.length by omega); exact ⟨r9, o9, e9⟩) fun ⟨r9, o9, ev9⟩ => ?_
    subst g1
    subst k1
    refine tr_rseq ?_
    refine sq_q (qt_move rfl) rfl ?_
    refine sq_q (qt_len rfl) rfl ?_
    refine sq_q (qt_move rfl) rfl ?_
    refine sq_q (qt_len rfl) rfl ?_
    refine sq_callA (fun x : Nat × List Wr => .slice (some ⟨x.1, 0, none⟩) m.rs.length m.rs.length) (fun x => mown x.1 x.2) (fun x => x.2.map (·.2) = List.replicate m.rs.length (List.replicate m9.rs.length z0)) rfl rfl rfl (fun w t => zero_ret m.rs.length m9.rs.length w _ (by omega) (by omega)) fun x hqs => ?_
    refine sq_q (qt_assign rfl) rfl ?_
    refine sq_end ?_
    obtain ⟨ob, qs⟩ := x
    refine tr_own (mown ob qs) (List.append_nil _) ?_
    obtain ⟨ro, oo, evm, hat⟩ := hm.at_ (show 0 < m.rs.length by omega)
    refine tr_seq ?_
    refine tr_rseq ?_
    refine sq_q (qt_move rfl) rfl ?_
    refine sq_q (qt_len rfl) rfl ?_
    refine sq_q (qt_move rfl) rfl ?_
    refine sq_end ?_
    refine tr_block ?_
    refine tr_loop2 (fun (i : Nat) (qs : List Wr) => i ≤ m.rs.length ∧ MG (fun a b => if a < i then mmul c (ent m.zs) (ent m'.zs) a b else 0) m.rs.length m9.rs.length qs ∧ allz Zd.can qs) (fun i qs => [(0, m.v), (9, m9.v), (11, .slice (some ⟨ob, 0, none⟩) m.rs.length m.rs.length), (43, .int .i64 (m.rs.length : Int)), (44, .int .i64 (i : Int))])
      (fun i qs => mown ob qs) (fun i qs w => allz (fun z => z.ok (B + B' + 16) w) qs ∧ m9.ok B' w) (fun i qs => m.rs.length - i) 0 qs ⟨Nat.zero_le _, (MG.of_zero hqs).congr (fun a b _ _ => by rw [if_neg (by omega)]), allz.of_zero hqs z0_can⟩ ⟨rfl, rfl, rfl, rfl, rfl, trivial⟩ rfl (fun w h => ⟨allz.of_zero hqs (z0_ok (B + B' + 16) w), h.2.1⟩) ?_
    clear hqs qs
    rintro i qs ⟨hle, hG, hcan⟩
    refine tr_rseq ?_
    refine sq_q (qt_bin rfl rfl bin_lss) rfl ?_
    refine sq_end ?_
    refine tr_seq ?_
    refine tr_if rfl (fun hc => ?_) (fun hc => ?_)
    ·
      have hlt : i < m.rs.length := by have := of_decide_eq_true hc; omega
      refine tr_sub [(0, .slice (some ⟨ro, oo, none⟩) m.rs.length m.p.2), (9, .slice (some ⟨r9, o9, none⟩) m9.rs.length m9.p.2), (11, .slice (some ⟨ob, 0, none⟩) m.rs.length m.rs.length), (43, .int .i64 (m.rs.length : Int)), (44, .int .i64 (i : Int))] ⟨congrArg some evm, congrArg some ev9, rfl, rfl, rfl, trivial⟩ ?_
      refine tr_skip ?_
      repeat with_reducible first | refine tr_skip ?_ | refine tr_exit ?_ | refine tr_then ?_ | refine tr_inX ?_ | refine tr_thenX ?_ | refine tr_inN ?_ | refine tr_inR ?_ | refine tr_thenR ?_
      refine tr_seq ?_
      refine tr_block ?_
      refine tr_rseq ?_
      refine sq_q (qt_move rfl) rfl ?_
      refine sq_q (qt_assign rfl) rfl ?_
      refine sq_end ?_
      refine tr_rseq ?_
      refine sq_q (qt_move rfl) rfl ?_
      refine sq_q (qt_len rfl) rfl ?_
      refine sq_q (qt_move rfl) rfl ?_
      refine sq_end ?_
      refine tr_block ?_
      have hG0 : MG (fun a b => if a < i ∨ (a = i ∧ b < 0) then mmul c (ent m.zs) (ent m'.zs) a b else 0) m.rs.length m9.rs.length qs := hG.congr fun a b _ _ => by
        by_cases h : a < i
        · rw [if_pos h, if_pos (.inl h)]
        · rw [if_neg h, if_neg (by omega)]
      refine tr_loop2 (fun (j : Nat) (qs : List Wr) => j ≤ m9.rs.length ∧ MG (fun a b => if a < i ∨ (a = i ∧ b < j) then mmul c (ent m.zs) (ent m'.zs) a b else 0) m.rs.length m9.rs.length qs ∧ allz Zd.can qs) (fun j qs => [(0, .slice (some ⟨ro, oo, none⟩) m.rs.length m.p.2), (9, .slice (some ⟨r9, o9, none⟩) m9.rs.length m9.p.2), (11, .slice (some ⟨ob, 0, none⟩) m.rs.length m.rs.length), (12, .int .i64 (i : Int)), (43, .int .i64 (m.rs.length : Int)), (44, .int .i64 (i : Int)), (48, .int .i64 (m9.rs.length : Int)), (49, .int .i64 (j : Int))])
        (fun j qs => mown ob qs) (fun j qs w => allz (fun z => z.ok (B + B' + 16) w) qs ∧ m9.ok B' w) (fun j qs => m9.rs.length - j) 0 qs ⟨Nat.zero_le _, hG0, hcan⟩ ⟨rfl, rfl, rfl, rfl, rfl, rfl, rfl, rfl, trivial⟩ rfl (fun w h => h) ?_
      clear hG0 hG hcan qs
      rintro j qs ⟨hjc, hG, hcan⟩
      refine tr_rseq ?_
      refine sq_q (qt_bin rfl rfl bin_lss) rfl ?_
      refine sq_end ?_
      refine tr_seq ?_
      refine tr_if rfl (fun hc => ?_) (fun hc => ?_)
      ·
        have hlt2 : j < m9.rs.length := by have := of_decide_eq_true hc; omega
        have hml : m.rs[i].l.length = c := g6 _ (List.getElem_mem hlt)
        have hml9 : m9.rs[j].l.length = c := k6 _ (List.getElem_mem hlt2)
        obtain ⟨q, hq, hql⟩ := hG.get hlt
        refine tr_skip ?_
        repeat with_reducible first | refine tr_skip ?_ | refine tr_exit ?_ | refine tr_then ?_ | refine tr_inX ?_ | refine tr_thenX ?_ | refine tr_inN ?_ | refine tr_inR ?_ | refine tr_thenR ?_
        refine tr_seq ?_
        refine tr_block ?_
        refine tr_rseq ?_
        refine sq_q (qt_move rfl) rfl ?_
        refine sq_q (qt_assign rfl) rfl ?_
        refine sq_end ?_
        refine tr_draw 14 [] [] [0, 1, 4, 5, 7, 8, 9, 10, 11, 12, 13, 36, 43, 44, 45, 48, 49, 50, 55, 56, 65] (by kernel_rfl) ?_
        refine dx_q rfl (qt_move rfl) rfl ?_
        refine dx_q rfl (qt_move rfl) rfl ?_
        refine dx_q rfl (qt_index (i := i) rfl rfl hlt) rfl ?_
        refine dx_q rfl (qt_load rfl (fun w t => t.o1 0 rfl (mout_get hq))) rfl ?_
        refine dx_q rfl (qt_move rfl) rfl ?_
        refine dx_q rfl (qt_move rfl) rfl ?_
        refine dx_q rfl (qt_move rfl) rfl ?_
        refine dx_q rfl (qt_index (i := i) rfl rfl hlt) rfl ?_
        refine dx_q rfl (qt_load rfl (fun w t => t.a1 (hat i hlt))) rfl ?_
        refine dx_q rfl (qt_move rfl) rfl ?_
        refine dx_q rfl (qt_move rfl) rfl ?_
        refine dx_q rfl (qt_index (i := j) rfl rfl hlt2) rfl ?_
        refine dx_q rfl (qt_load rfl (fun w t => t.r.2.row_at ev9 hlt2)) rfl ?_
        refine dx_call (iv (mmul c (ent m.zs) (ent m'.zs) i j)) (fun p w => Lz (mmul c (ent m.zs) (ent m'.zs) i j).natAbs p w ∧ nl (mmul c (ent m.zs) (ent m'.zs) i j).natAbs ≤ B + B' + 16) rfl rfl rfl (fun w t => by
          have h := fun S' => dot_ret m.rs[i] m9.rs[j] (fun k => ent m.zs i k * ent m'.zs k j) B B' w S' (t.rw (hm.2.2 _ (List.getElem_mem hlt))) (t.r.2.2.2 _ (List.getElem_mem hlt2)) (by omega) (by omega) (by omega) hB (fun k hk hk' => by rw [mt_ent_grid hz9 hlt2 hk', ← mt_ent hlt hk]; rfl)
          rw [hml] at h
          exact (h _).imp fun p w h => ⟨h.1, by have h2 := h.2; exact Nat.le_trans h2 (by omega)⟩) ?_
        refine dx_nil ?_
        repeat (first | refine es_val rfl ?_ rfl | refine es_skip rfl ?_)
        refine es_res rfl (fun x => ?_) rfl
        repeat (first | refine es_val rfl ?_ rfl | refine es_skip rfl ?_)
        refine es_nil rfl ?_
        refine tx_q (qt_index (i := j) rfl rfl (by omega)) rfl rfl rfl ?_
        refine tx_store (i + 1) rfl rfl (mown_at hq) rfl (show 0 + j * 2 + 2 ≤ (zcs q.2).length by rw [zcs_length, hql]; omega) rfl rfl rfl ?_
        refine tx_end ?_
        repeat with_reducible first | refine tr_skip ?_ | refine tr_exit ?_ | refine tr_then ?_ | refine tr_inX ?_ | refine tr_thenX ?_ | refine tr_inN ?_ | refine tr_inR ?_ | refine tr_thenR ?_
        refine tr_region ?_
        refine sq_q (qt_bin rfl rfl (bin_addI (by omega) (by omega))) rfl ?_
        refine sq_q (qt_move rfl) rfl ?_
        refine sq_nil ?_
        repeat with_reducible first | refine tr_skip ?_ | refine tr_exit ?_ | refine tr_then ?_ | refine tr_inX ?_ | refine tr_thenX ?_ | refine tr_inN ?_ | refine tr_inR ?_ | refine tr_thenR ?_
        refine tr_own (mown ob (qs.set i (q.1, q.2.set j (zd (mmul c (ent m.zs) (ent m'.zs) i j) x)))) (mown_wr (zd (mmul c (ent m.zs) (ent m'.zs) i j) x) hq (by omega)) ?_
        refine tr_round2 (j + 1) (qs.set i (q.1, q.2.set j (zd (mmul c (ent m.zs) (ent m'.zs) i j) x))) ⟨by omega, (hG.set hq (zd (mmul c (ent m.zs) (ent m'.zs) i j) x) (mmul c (ent m.zs) (ent m'.zs) i j) (zd_z _ _)).congr (fun a b _ _ => ?_), hcan.set hq (zd_can _ _)⟩ (by omega) ⟨rfl, rfl, rfl, rfl, rfl, rfl, rfl, rfl, trivial⟩ rfl (fun w h => ⟨h.1.1.set hq (zd_ok h.2.1 h.2.2), h.1.2⟩)
        unfold gset
        dsimp only
        split
        · rename_i h; rw [if_pos (by omega), h.1, h.2]
        · rename_i h
          by_cases h' : a < i ∨ (a = i ∧ b < j)
          · rw [if_pos h', if_pos (by omega)]
          · rw [if_neg h', if_neg (by omega)]
      ·
        have hje : j = m9.rs.length := by have := of_decide_eq_false hc; omega
        refine tr_exit ?_
        repeat with_reducible first | refine tr_skip ?_ | refine tr_exit ?_ | refine tr_then ?_ | refine tr_inX ?_ | refine tr_thenX ?_ | refine tr_inN ?_ | refine tr_inR ?_ | refine tr_thenR ?_
        refine tr_region ?_
        refine sq_q (qt_bin rfl rfl (bin_addI (by omega) (by omega))) rfl ?_
        refine sq_q (qt_move rfl) rfl ?_
        refine sq_nil ?_
        repeat with_reducible first | refine tr_skip ?_ | refine tr_exit ?_ | refine tr_then ?_ | refine tr_inX ?_ | refine tr_thenX ?_ | refine tr_inN ?_ | refine tr_inR ?_ | refine tr_thenR ?_
        refine tr_round2 (i + 1) qs ⟨by omega, hG.congr (fun a b ha hb => ?_), hcan⟩ (by omega) ⟨congrArg some evm.symm, congrArg some ev9.symm, rfl, rfl, rfl, trivial⟩ rfl (fun w h => h)
        by_cases h : a < i ∨ (a = i ∧ b < j)
        · rw [if_pos h, if_pos (by omega)]
        · rw [if_neg h, if_neg (by omega)]
    ·
      have hik : i = m.rs.length := by have := of_decide_eq_false hc; omega
      refine tr_exit ?_
      repeat with_reducible first | refine tr_skip ?_ | refine tr_exit ?_ | refine tr_then ?_ | refine tr_inX ?_ | refine tr_thenX ?_ | refine tr_inN ?_ | refine tr_inR ?_ | refine tr_thenR ?_
      refine tr_rseq ?_
      refine sq_q (qt_move rfl) rfl ?_
      refine sq_q (qt_assign rfl) rfl ?_
      refine sq_q (qt_assign rfl) rfl ?_
      refine sq_end ?_
      refine tr_ret ?_
      repeat with_reducible first | refine tr_skip ?_ | refine tr_exit ?_ | refine tr_then ?_ | refine tr_inX ?_ | refine tr_thenX ?_ | refine tr_inN ?_ | refine tr_inR ?_ | refine tr_thenR ?_
      refine tr_done (mmt ob qs) (fun a w s t => results_2 rfl (resv_tmp s (by rw [mmt_v, hG.1]; rfl)) (resv_tmp s rfl)) (fun w h ho _ => ⟨mmt_ok ho h.1, ?_, mmt_can hcan⟩)
      rw [mmt_zs, hG.zs]
      show grid _ m.rs.length m9.rs.length = grid (mmul c (ent m.zs) (ent m'.zs)) m.rs.length m9.rs.length
      unfold grid
      refine List.map_congr_left fun a ha => List.map_congr_left fun b hb => ?_
      have ha := List.mem_range.1 ha
      exact if_pos (by omega)
end Go.Qk
end
section
set_option linter.unusedVariables false
set_option linter.unusedSimpArgs false
namespace Go.Qk
theorem cset_at (g : Mf) (c : Nat) (u : Nat → Int) (a : Nat) : cset g c u a c = u a := by simp [cset]
theorem cset_ne (g : Mf) {c b : Nat} (u : Nat → Int) (a : Nat) (h : b ≠ c) : cset g c u a b = g a b := by simp [cset, h]
theorem sumN_cut {k m : Nat} {f : Nat → Int} (h : ∀ j, k ≤ j → j < k + m → f j = 0) : sumN (k + m) f = sumN k f := by
  induction m with
  | zero => rfl
  | succ m ih =>
    rw [show k + (m + 1) = (k + m) + 1 by omega, sumN, ih fun j h1 h2 => h j h1 (by omega), h (k + m) (by omega) (by omega)]
    omega
theorem lap_congr {n : Nat} {g g' : Mf} (h : ∀ a b, a < n → b < n → g a b = g' a b) : lap n g = lap n g' := (lap_alt n).congr g g' h
def rset (g : Mf) (r : Nat) (u : Nat → Int) : Mf := fun a b => if a = r then u b else g a b
theorem lap_ralt {n : Nat} {g : Mf} {r s : Nat} (hr : r < n) (hs : s < n) (hrs : r ≠ s) (h : ∀ b, b < n → g r b = g s b) : lap n g = 0 := by
  rw [← lap_tr]
  exact (lap_alt n).alt' hr hs hrs (tr g) h
theorem lap_rswap {n : Nat} {g : Mf} {r s : Nat} (hr : r < n) (hs : s < n) (hrs : r ≠ s) : lap n (fun a b => g (if a = r then s else if a = s then r else a) b) = -lap n g := by
  rw [← lap_tr n g, ← (lap_alt n).swap (tr g) hr hs hrs, ← lap_tr]
  rfl
/-- without row k and column j -/
def dl (g : Mf) (k j : Nat) : Mf := fun a b => g (sk k a) (sk j b)
def rtop (g : Mf) (k : Nat) : Mf := fun a b => g (if a = 0 then k else sk k (a - 1)) b
theorem lap_rtop {n : Nat} (g : Mf) : ∀ k, k < n + 1 → lap (n + 1) (rtop g k) = sg k * lap (n + 1) g := by
  intro k
  induction k with
  | zero =>
    intro _
    rw [show sg 0 = 1 from rfl, Int.one_mul]
    refine lap_congr fun a b _ _ => ?_
    unfold rtop sk
    split
    · rename_i h; rw [h]
    · rw [if_neg (by omega), show a - 1 + 1 = a by omega]
  | succ k ih =>
    intro hk
    have h := lap_rswap (g := rtop g k) (n := n + 1) (r := 0) (s := k + 1) (by omega) hk (by omega)
    rw [ih (by omega)] at h
    rw [sg_succ, Int.neg_mul, ← h]
    refine lap_congr fun a b _ _ => ?_
    unfold rtop
    congr 1
    unfold sk
    by_cases h0 : a = 0
    · subst h0; simp
    · by_cases h1 : a = k + 1
      · subst h1; simp
      · simp only [h0, h1, if_false]
        (repeat' split) <;> omega
/-- expansion along any row -/
theorem lap_row {n : Nat} (g : Mf) {k : Nat} (hk : k < n + 1) : lap (n + 1) g = sumN (n + 1) fun j => sg (k + j) * g k j * lap n (dl g k j) := by
  have h := lap_rtop g k hk
  have h2 : lap (n + 1) (rtop g k) = sumN (n + 1) fun j => sg j * g k j * lap n (dl g k j) := by
    rw [lap]
    refine sumN_congr fun j _ => ?_
    rfl
  have h3 : lap (n + 1) g = sg k * lap (n + 1) (rtop g k) := by rw [h, ← Int.mul_assoc, sg_sq, Int.one_mul]
  rw [h3, h2, ← sumN_mul]
  refine sumN_congr fun j _ => ?_
  rw [sg_add]
  simp only [Int.mul_assoc]
/-- an expansion with another row's numbers -/
theorem lap_row_ne {n : Nat} (g : Mf) {k i : Nat} (hk : k < n + 1) (hi : i < n + 1) (hik : i ≠ k) : (sumN (n + 1) fun j => sg (k + j) * g i j * lap n (dl g k j)) = 0 := by
  have h := lap_row (rset g k (g i)) hk
  have h0 : lap (n + 1) (rset g k (g i)) = 0 := lap_ralt hk hi (Ne.symm hik) fun b _ => by unfold rset; rw [if_pos rfl, if_neg hik]
  rw [h0] at h
  rw [h]
  refine sumN_congr fun j _ => ?_
  have e : dl (rset g k (g i)) k j = dl g k j := by funext a b; unfold dl rset; rw [if_neg (sk_ne k a)]
  rw [e]
  unfold rset
  rw [if_pos rfl]
theorem lap_block : ∀ (k m : Nat) (g : Mf), (∀ a b, a < k → k ≤ b → b < k + m → g a b = 0) → lap (k + m) g = lap k g * lap m fun a b => g (k + a) (k + b) := by
  intro k
  induction k with
  | zero =>
    intro m g _
    rw [show lap 0 g = 1 from rfl, Int.one_mul, Nat.zero_add]
    exact lap_congr fun a b _ _ => by rw [Nat.zero_add, Nat.zero_add]
  | succ k ih =>
    intro m g h
    rw [show k + 1 + m = (k + m) + 1 by omega, lap, show k + m + 1 = (k + 1) + m by omega, sumN_cut (k := k + 1) fun j h1 h2 => by rw [h 0 j (by omega) h1 h2]; simp]
    rw [lap, ← sumN_mul_right]
    refine sumN_congr fun j hj => ?_
    rw [ih m (mnr g j) fun a b ha hb hb' => by
      unfold mnr sk
      rw [if_neg (by omega)]
      exact h _ _ (by omega) (by omega) (by omega)]
    have e : lap m (fun a b => mnr g j (k + a) (k + b)) = lap m fun a b => g (k + 1 + a) (k + 1 + b) := by
      refine lap_congr fun a b _ _ => ?_
      unfold mnr sk
      rw [if_neg (by omega), show k + a + 1 = k + 1 + a by omega, show k + b + 1 = k + 1 + b by omega]
    rw [e]
    simp only [Int.mul_assoc]
/-- a column with multiples of columns ahead of it added -/
theorem lap_comb {n : Nat} (g : Mf) {c m : Nat} (hc : c < n) (hm : m ≤ c) (x : Int) (d : Nat → Int) : lap n (cset g c fun a => x * g a c + sumN m fun l => d l * g a l) = x * lap n g := by
  have hA := lap_alt n
  have h1 := hA.lin g c (fun a => x * g a c) (fun a => sumN m fun l => d l * g a l) 1 hc
  simp only [Int.one_mul] at h1
  rw [h1, hA.smul g hc x fun a => g a c, cset_same, hA.sum g hc m d fun l a => g a l, sumN_zero]
  · omega
  · intro l hl
    rw [hA.alt' hc (show l < n by omega) (by omega) (cset g c fun a => g a l) (fun a _ => by unfold cset; rw [if_pos rfl, if_neg (by omega)])]
    simp
/-- the corner of A with one more row and column -/
def brd (A : Mf) (k i j : Nat) : Mf := fun a b => A (if a < k then a else i) (if b < k then b else j)
def bm (A : Mf) (k i j : Nat) : Int := lap (k + 1) (brd A k i j)
theorem bm_low {A : Mf} {k i j : Nat} (h : i < k) : bm A k i j = 0 := by
  refine lap_ralt (r := i) (s := k) (by omega) (by omega) (by omega) fun b _ => ?_
  unfold brd
  rw [if_pos h, if_neg (Nat.lt_irrefl k)]
theorem bm_comb (A : Mf) (k j : Nat) : ∃ d : Nat → Int, ∀ i, bm A k i j = lap k A * A i j + sumN k fun l => d l * A i l := by
  refine ⟨fun l => sg (k + l) * lap k (dl (brd A k 0 j) k l), fun i => ?_⟩
  unfold bm
  rw [lap_row (brd A k i j) (k := k) (by omega), sumN]
  have e : ∀ l, lap k (dl (brd A k i j) k l) = lap k (dl (brd A k 0 j) k l) := fun l => lap_congr fun a b ha hb => by
    unfold dl brd sk
    rw [if_pos ha, if_pos ha, if_pos ha]
  have e2 : lap k (dl (brd A k i j) k k) = lap k A := lap_congr fun a b ha hb => by
    unfold dl brd sk
    rw [if_pos ha, if_pos ha, if_pos hb, if_pos hb]
  have e3 : brd A k i j k k = A i j := by unfold brd; rw [if_neg (Nat.lt_irrefl k), if_neg (Nat.lt_irrefl k)]
  rw [e2, e3, show sg (k + k) = 1 by rw [sg_add, sg_sq], Int.one_mul, Int.add_comm, Int.mul_comm (A i j)]
  congr 1
  refine sumN_congr fun l hl => ?_
  rw [e l]
  have e4 : brd A k i j k l = A i l := by unfold brd; rw [if_neg (Nat.lt_irrefl k), if_pos hl]
  rw [e4]
  grind
theorem lap_two (g : Mf) : lap 2 g = g 0 0 * g 1 1 - g 0 1 * g 1 0 := by
  simp [lap, sumN, mnr, sk, sg]
  grind
/-- the step of the elimination -/
theorem bm_step (A : Mf) (k i j : Nat) (hP : lap k A ≠ 0) : lap k A * bm A (k + 1) i j = bm A k k k * bm A k i j - bm A k i k * bm A k k j := by
  obtain ⟨d1, h1⟩ := bm_comb A k k
  obtain ⟨d2, h2⟩ := bm_comb A k j
  obtain ⟨M, hM⟩ : ∃ M, M = brd A (k + 1) i j := ⟨_, rfl⟩
  have hbm : bm A (k + 1) i j = lap (k + 2) M := by rw [hM]; rfl
  have hMl : ∀ a l, l < k + 1 → M a l = A (if a < k + 1 then a else i) l := fun a l hl => by rw [hM]; unfold brd; rw [if_pos hl]
  have hMr : ∀ a, M a (k + 1) = A (if a < k + 1 then a else i) j := fun a => by rw [hM]; unfold brd; rw [if_neg (Nat.lt_irrefl _)]
  have c1 := lap_comb (n := k + 2) M (c := k) (m := k) (by omega) (Nat.le_refl k) (lap k A) d1
  obtain ⟨M1, hM1⟩ : ∃ M1, M1 = cset M k fun a => lap k A * M a k + sumN k fun l => d1 l * M a l := ⟨_, rfl⟩
  rw [← hM1] at c1
  have c2 := lap_comb (n := k + 2) M1 (c := k + 1) (m := k) (by omega) (by omega) (lap k A) d2
  obtain ⟨M2, hM2⟩ : ∃ M2, M2 = cset M1 (k + 1) fun a => lap k A * M1 a (k + 1) + sumN k fun l => d2 l * M1 a l := ⟨_, rfl⟩
  rw [← hM2] at c2
  have v1 : ∀ a, M2 a k = bm A k (if a < k + 1 then a else i) k := fun a => by
    rw [hM2, cset_ne _ _ _ (by omega), hM1, cset_at, hMl a k (by omega), h1]
    congr 1
    exact sumN_congr fun l hl => by rw [hMl a l (by omega)]
  have v2 : ∀ a, M2 a (k + 1) = bm A k (if a < k + 1 then a else i) j := fun a => by
    rw [hM2, cset_at, hM1, cset_ne _ _ _ (by omega), hMr a, h2]
    congr 1
    exact sumN_congr fun l hl => by rw [cset_ne _ _ _ (by omega), hMl a l (by omega)]
  have v0 : ∀ a l, a < k → l < k → M2 a l = A a l := fun a l ha hl => by
    rw [hM2, cset_ne _ _ _ (by omega), hM1, cset_ne _ _ _ (by omega), hMl a l (by omega), if_pos (by omega)]
  have hb := lap_block k 2 M2 fun a b ha hb hb' => by
    rcases (show b = k ∨ b = k + 1 by omega) with e | e
    · rw [e, v1, if_pos (by omega)]; exact bm_low ha
    · rw [e, v2, if_pos (by omega)]; exact bm_low ha
  rw [lap_two, lap_congr v0] at hb
  simp only [Nat.add_zero, v1, v2] at hb
  rw [if_pos (by omega), if_neg (by omega)] at hb
  rw [c2, c1, ← hbm] at hb
  have := Int.eq_of_mul_eq_mul_left hP hb
  rw [this]
  grind
theorem piv_spec (g : Mf) (k : Nat) : ∀ m p, p ≤ piv g k m p ∧ piv g k m p ≤ p + m ∧ (∀ i, p ≤ i → i < piv g k m p → g i k = 0) ∧ (piv g k m p < p + m → g (piv g k m p) k ≠ 0) := by
  intro m
  induction m with
  | zero => intro p; exact ⟨Nat.le_refl _, Nat.le_refl _, fun i h1 h2 => by have : piv g k 0 p = p := rfl; omega, fun h => by have : piv g k 0 p = p := rfl; omega⟩
  | succ m ih =>
    intro p
    unfold piv
    split
    · rename_i h0
      obtain ⟨h1, h2, h3, h4⟩ := ih (p + 1)
      refine ⟨by omega, by omega, fun i hi hi' => ?_, fun h => h4 (by omega)⟩
      by_cases e : i = p
      · rw [e]; exact h0
      · exact h3 i (by omega) hi'
    · rename_i h0
      exact ⟨Nat.le_refl _, by omega, fun i h1 h2 => by omega, fun _ => h0⟩
theorem bar_lap (n : Nat) : ∀ (m k : Nat) (g : Mf) (prev : Int) (neg : Bool) (A : Mf), m + k = n → prev = lap k A → prev ≠ 0 → (∀ i j, k ≤ i → i < n → k ≤ j → j < n → g i j = bm A k i j) → bar n m k g prev neg = (if neg = true then -lap n A else lap n A) := by
  intro m
  induction m with
  | zero =>
    intro k g prev neg A hk hp _ _
    have : k = n := by omega
    rw [bar, hp, this]
  | succ m ih =>
    intro k g prev neg A hk hp h0 hg
    have hkn : k < n := by omega
    obtain ⟨p1, p2, p3, p4⟩ := piv_spec g k (n - k) k
    generalize hpe : piv g k (n - k) k = p at *
    unfold bar
    rw [hpe]

    have step : ∀ (g' : Mf) (A' : Mf) (neg' : Bool), prev = lap k A' → (∀ i j, k ≤ i → i < n → k ≤ j → j < n → g' i j = bm A' k i j) → g' k k ≠ 0 → bar n m (k + 1) (elim g' k prev) (g' k k) neg' = (if neg' = true then -lap n A' else lap n A') := by
      intro g' A' neg' hp' hg' hne
      refine ih (k + 1) _ _ neg' A' (by omega) ?_ hne fun i j hi hin hj hjn => ?_
      · rw [hg' k k (Nat.le_refl _) hkn (Nat.le_refl _) hkn]
        refine lap_congr fun a b ha hb => ?_
        unfold brd
        congr 1
        · split <;> omega
        · split <;> omega
      · have hP : lap k A' ≠ 0 := by rw [← hp']; exact h0
        have hs := bm_step A' k i j hP
        unfold elim elm
        rw [if_pos ⟨by omega, by omega⟩, hg' k k (Nat.le_refl _) hkn (Nat.le_refl _) hkn, hg' i j (by omega) hin (by omega) hjn, hg' i k (by omega) hin (Nat.le_refl _) hkn, hg' k j (Nat.le_refl _) hkn (by omega) hjn, ← hs, hp']
        exact Int.mul_ediv_cancel_left _ hP
    by_cases hpn : p = n
    · rw [if_pos hpn]
      obtain ⟨d, hd⟩ := bm_comb A k k
      have h1 := lap_comb (n := n) A hkn (Nat.le_refl k) (lap k A) d
      have h2 : lap n (cset A k fun a => lap k A * A a k + sumN k fun l => d l * A a l) = 0 := by
        rw [← (lap_alt n).zero A hkn]
        refine lap_congr fun a b ha _ => ?_
        unfold cset
        split
        · show (lap k A * A a k + sumN k fun l => d l * A a l) = 0
          rw [← hd a]
          by_cases hak : a < k
          · exact bm_low hak
          · rw [← hg a k (by omega) ha (Nat.le_refl _) hkn]
            exact p3 a (by omega) (by omega)
        · rfl
      rw [h2] at h1
      have h3 : lap n A = 0 := by
        rcases Int.mul_eq_zero.1 h1.symm with h | h
        · rw [← hp] at h; exact absurd h h0
        · exact h
      rw [h3]
      split <;> rfl
    · rw [if_neg hpn]
      have hne : g p k ≠ 0 := p4 (by omega)
      by_cases hpk : p = k
      · rw [if_pos hpk]
        exact step g A neg hp hg (by rw [hpk] at hne; exact hne)
      · rw [if_neg hpk]
        have hs := lap_rswap (n := n) (g := A) (r := p) (s := k) (by omega) hkn hpk
        rw [step (swp g p k) (fun a b => A (if a = p then k else if a = k then p else a) b) (!neg) ?_ ?_ ?_]
        · rw [hs]
          cases neg <;> simp
        · rw [hp]
          exact lap_congr fun a b ha _ => by rw [if_neg (by omega), if_neg (by omega)]
        · intro i j hi hin hj hjn
          unfold swp
          rw [hg _ j (by split <;> (try split) <;> omega) (by split <;> (try split) <;> omega) hj hjn]
          refine lap_congr fun a b ha hb => ?_
          unfold brd
          congr 1
          by_cases hak : a < k
          · simp only [if_pos hak]
            rw [if_neg (by omega), if_neg (by omega)]
          · simp only [if_neg hak]
        · unfold swp
          rw [if_neg (Ne.symm hpk), if_pos rfl]
          exact hne
/-- the elimination answers the determinant -/
theorem bdet_lap (n : Nat) (g : Mf) : bdet n g = lap n g := by
  have h := bar_lap n n 0 g 1 false g (by omega) rfl (by decide) fun i j _ _ _ _ => by simp [bm, lap, sumN, brd, sg]
  unfold bdet
  rw [h]
  rfl
end Go.Qk
end
section
set_option linter.unusedVariables false
namespace Go.Qk
open Go Go.Proofs Go.RowKit
theorem ent_grid {f : Nat → Nat → Int} {r c i j : Nat} (hi : i < r) (hj : j < c) : ent (grid f r c) i j = f i j := by
  unfold ent
  simp [grid, List.getD, hi, hj]
theorem grid_length (a : Mf) (r c : Nat) : (grid a r c).length = r := by simp [grid]
theorem detO_grid {n : Nat} (hn : 1 ≤ n) (hn16 : n ≤ 16) (a : Mf) : detO (grid a n n) = some (lap n a) := by
  unfold detO
  rw [shp_grid a hn hn16 hn hn16, if_pos (by simp [sqb]), grid_length, bdet_lap]
  exact congrArg some (lap_congr fun i j hi hj => ent_grid hi hj)
section
variable {m m' : Mt} {n B B' : Nat} {a b : Mf} {w : World} {S : Nat → Prop}
theorem optF_lens (h : optF B (some (grid a n n)) m w) (hn16 : n ≤ 16) : m.rs.length = n ∧ m.rs.length ≤ 35184372088832 ∧ ∀ r ∈ m.rs, r.l.length ≤ 35184372088832 := by
  obtain ⟨h1, h2⟩ := mt_lens (show m.zs = grid a n n from h.2.1)
  exact ⟨h1, by omega, fun r hr => by have := h2 r hr; omega⟩
theorem det_g (h : optF B (some (grid a n n)) m w) (hn : 1 ≤ n) (hn16 : n ≤ 16) (hB : B ≤ 8388607) (hB1 : 1 ≤ B) :
    Ret Try.prog 25 [m.v] w S (optZV (some (lap n a))) (optZF (some (lap n a))) := by
  obtain ⟨_, a1, a2⟩ := optF_lens h hn16
  have g := det_ret m B w S h.1 hB hB1 a1 a2
  rw [show m.zs = grid a n n from h.2.1, detO_grid hn hn16] at g
  exact g
end
end Go.Qk
end
section
set_option linter.unusedVariables false
namespace Go.Qk
open Go Go.Proofs Go.RowKit
def wo (n : Nat) (i : Int) : List Nat := (List.range n).filter fun k => decide ((k : Int) ≠ i)
theorem wo_ne {k : Nat} {i : Int} (h : (k : Int) ≠ i) : wo (k + 1) i = wo k i ++ [k] := by
  unfold wo
  rw [List.range_succ, List.filter_append]
  simp [h]
theorem wo_eq {k : Nat} {i : Int} (h : (k : Int) = i) : wo (k + 1) i = wo k i := by
  unfold wo
  rw [List.range_succ, List.filter_append]
  simp [h]
theorem wo_low {j : Nat} : ∀ {m : Nat}, m ≤ j → wo m (j : Int) = (List.range m).map (sk j)
  | 0, _ => rfl
  | m + 1, h => by
    rw [wo_ne (by omega), wo_low (by omega), List.range_succ, List.map_append]
    simp [sk, show m < j by omega]
theorem wo_high {j : Nat} : ∀ d, wo (j + 1 + d) (j : Int) = (List.range (j + d)).map (sk j)
  | 0 => by rw [Nat.add_zero, wo_eq rfl, wo_low (Nat.le_refl _), Nat.add_zero]
  | d + 1 => by
    rw [show j + 1 + (d + 1) = (j + 1 + d) + 1 by omega, wo_ne (by omega), wo_high d, show j + (d + 1) = (j + d) + 1 by omega, List.range_succ, List.map_append]
    simp [sk, show ¬ j + d < j by omega]
    omega
theorem wo_at {k j : Nat} (h : j < k + 1) : wo (k + 1) (j : Int) = (List.range k).map (sk j) := by
  have := wo_high (j := j) (k - j)
  rwa [show j + 1 + (k - j) = k + 1 by omega, show j + (k - j) = k by omega] at this
section
variable {P : Program} {J : World → Prop} {lk : Nat → Option Value} {ty : TypeId}
end
section
variable {P : Program} {n : Nat} {w0 : World} {X : List Nat} {S : Nat → Prop} {E : Env} {own : Own} {R : World → Prop}
end
end Go.Qk
end
section
set_option linter.unusedVariables false
namespace Go.Qk
open Go Go.Proofs Go.RowKit
/-- an entry of the adjugate: the minor without row j and column i, with its sign -/
def adjG (n : Nat) (g : Mf) (i j : Nat) : Int := sg (i + j) * lap (n - 1) (dl g j i)
theorem wo_oth (n i : Nat) : wo n (i : Int) = oth n i := by
  unfold wo oth
  refine List.filter_congr fun k _ => ?_
  by_cases h : k = i
  · subst h; simp
  · have : ¬ ((k : Int) = (i : Int)) := by omega
    simp [h, this]
theorem othI_at {k j : Nat} (h : j < k + 1) : othI (k + 1) j = (List.range k).map fun b => ((sk j b : Nat) : Int) := by
  unfold othI
  rw [← wo_oth, wo_at h, List.map_map]
  rfl
theorem sk_mono (j b : Nat) : sk j b < sk j (b + 1) := by unfold sk; (repeat' split) <;> omega
theorem asc_othI {k j : Nat} (h : j < k + 1) (hk : 1 ≤ k) : ascB ((k + 1 : Nat) : Int) (othI (k + 1) j) = true := by
  rw [othI_at h, ascB_all]
  · exact decide_eq_true (by simp; omega)
  · intro i hi
    have hi : i < k := by simpa using hi
    unfold ascAt
    have e : ∀ a, a < k → ((List.range k).map fun b => ((sk j b : Nat) : Int)).getD a 0 = ((sk j a : Nat) : Int) := fun a ha => by simp [List.getD, ha]
    rw [e i hi]
    have h1 := sk_lt (j := j) hi
    rw [decide_eq_true (show (0 : Int) ≤ ((sk j i : Nat) : Int) by omega), decide_eq_true (show ((sk j i : Nat) : Int) < ((k + 1 : Nat) : Int) by omega), Bool.true_and, Bool.true_and]
    by_cases h0 : i = 0
    · simp [h0]
    · rw [e (i - 1) (by omega), decide_eq_true (show ((sk j (i - 1) : Nat) : Int) < ((sk j i : Nat) : Int) by
        have := sk_mono j (i - 1)
        rw [show i - 1 + 1 = i by omega] at this
        omega), Bool.or_true]
theorem minor_oth {L : List (List Int)} {k i j : Nat} (hs : shp L = some (k + 1, k + 1)) (hi : i < k + 1) (hj : j < k + 1) (hk : 1 ≤ k) : minorO L (othI (k + 1) j) (othI (k + 1) i) = some (lap k (dl (ent L) j i)) := by
  unfold minorO
  rw [hs]
  have hl : ∀ a, a < k + 1 → (othI (k + 1) a).length = k := fun a ha => by rw [othI_at ha]; simp
  show (if _ then _ else _) = _
  rw [if_pos ⟨by rw [hl i hi, hl j hj], asc_othI hj hk, asc_othI hi hk⟩, hl i hi, hl j hj, bdet_lap]
  congr 1
  refine lap_congr fun a b ha hb => ?_
  rw [ent_grid ha hb]
  unfold sel dl
  rw [othI_at hi, othI_at hj]
  simp [List.getD, ha, hb]
theorem sqb_shp {L : List (List Int)} (h : sqb (shp L) = true) : ∃ k, L.length = k + 1 ∧ k + 1 ≤ 16 ∧ shp L = some (k + 1, k + 1) := by
  cases hs : shp L with
  | none => rw [hs] at h; simp [sqb] at h
  | some rc =>
    obtain ⟨r, c⟩ := rc
    rw [hs] at h
    have hrc : r = c := by simp [sqb] at h; omega
    subst hrc
    obtain ⟨h1, h2, h3, _⟩ := shp_inv hs
    exact ⟨r - 1, by omega, by omega, by rw [show r - 1 + 1 = r by omega]⟩
theorem adjE_lap {L : List (List Int)} {k i j : Nat} (hs : shp L = some (k + 1, k + 1)) (hi : i < k + 1) (hj : j < k + 1) (hk : 1 ≤ k) : adjE L (k + 1) i j = adjG (k + 1) (ent L) i j := by
  unfold adjE adjG
  rw [minor_oth hs hi hj hk]
  unfold sg
  simp only [Option.getD_some, Nat.add_sub_cancel]
  split <;> omega
theorem adjO_lap {L : List (List Int)} (h : sqb (shp L) = true) : adjO L = some (grid (adjG L.length (ent L)) L.length L.length) := by
  obtain ⟨k, hl, _, hs⟩ := sqb_shp h
  unfold adjO
  rw [if_pos h, hl]
  by_cases hk : k = 0
  · subst hk
    rw [if_pos rfl]
    unfold identO
    rw [if_pos (by decide)]
    rfl
  · rw [if_neg (by omega)]
    congr 1
    unfold grid
    exact List.map_congr_left fun a ha => List.map_congr_left fun b hb => adjE_lap hs (List.mem_range.1 ha) (List.mem_range.1 hb) (by omega)
end Go.Qk
end
section
set_option linter.unusedVariables false
namespace Go.Qk
open Go Go.Proofs Go.RowKit
theorem sqb_same (r : Nat) : sqb (some (r, r)) = true := decide_eq_true rfl
end Go.Qk
end
section
set_option linter.unusedVariables false
namespace Go.Qk
open Go Go.Proofs Go.RowKit
theorem rmul_iz {c : Int} {p : Sv} {z : Zd} {B : Nat} {w : World} {S : Nat → Prop} (h : Lz c.natAbs p w) (h' : z.ok B w) (hB : nl c.natAbs + B ≤ 35184372088832) : Ret Try.prog 56 [iv c p, z.v] w S (iv (c * z.z)) (Lz (c * z.z).natAbs) := by
  have g := rmul_zd (S := S) (zd_ok h (Nat.le_refl _)) h' hB
  rwa [zd_z] at g
/-- Cramer: a matrix times its adjugate -/
theorem mul_adj (n : Nat) (g : Mf) {i j : Nat} (hi : i < n) (hj : j < n) : mmul n g (adjG n g) i j = if i = j then lap n g else 0 := by
  obtain ⟨k, rfl⟩ : ∃ k, n = k + 1 := ⟨n - 1, by omega⟩
  have e : mmul (k + 1) g (adjG (k + 1) g) i j = sumN (k + 1) fun c => sg (j + c) * g i c * lap k (dl g j c) := by
    unfold mmul
    refine sumN_congr fun c _ => ?_
    unfold adjG
    rw [Nat.add_sub_cancel, Nat.add_comm c j]
    grind
  rw [e]
  split
  · rename_i h
    subst h
    exact (lap_row g hi).symm
  · rename_i h
    exact lap_row_ne g hj hi h
end Go.Qk
end
section
set_option linter.unusedVariables false
namespace Go.Qk
open Go Go.Proofs Go.RowKit
set_option maxRecDepth 100000
set_option maxHeartbeats 4000000
theorem product_ret (m m' : Mt) (B B' : Nat) (w0 : World) (S : Nat → Prop) (hm : m.ok B w0) (hm' : m'.ok B' w0) (hB : B + B' ≤ 35184372088700) (hl : m.rs.length ≤ 35184372088832) (hr : ∀ r ∈ m.rs, r.l.length ≤ 35184372088832) (hl' : m'.rs.length ≤ 35184372088832) (hr' : ∀ r ∈ m'.rs, r.l.length ≤ 35184372088832) :
    Ret Try.prog 36 [m.v, m'.v] w0 S Mt.v (optF (B + B' + 16) (mulO m.zs m'.zs)) := by
  refine ret_of Try.func36 rfl Try.ntmps36 rfl ?_
  refine tr_rseq ?_
  refine sq_q (qt_assign rfl) rfl ?_
  refine sq_end ?_
  refine tr_rseq ?_
  refine sq_q (qt_move rfl) rfl ?_
  refine sq_q (qt_move rfl) rfl ?_
  refine sq_call (optV (mulO m.zs m'.zs)) (optF (B + B' + 16) (mulO m.zs m'.zs)) rfl rfl rfl (fun w t => rmmul_ret m m' B B' w _ (t.mt hm) (t.mt hm') hB hl hr hl' hr') fun x => ?_
  refine sq_q (qt_move rfl) rfl ?_
  refine sq_q (qt_extract rfl rfl) rfl ?_
  refine sq_q (qt_extract rfl rfl) rfl ?_
  refine sq_q (qt_assign rfl) rfl ?_
  refine sq_q (qt_assign rfl) rfl ?_
  refine sq_end ?_
  refine tr_rseq ?_
  refine sq_q (qt_move rfl) rfl ?_
  refine sq_q (qt_assign rfl) rfl ?_
  refine sq_end ?_
  refine tr_ret ?_
  repeat with_reducible first | refine tr_skip ?_ | refine tr_exit ?_ | refine tr_then ?_ | refine tr_inX ?_ | refine tr_thenX ?_ | refine tr_inN ?_ | refine tr_inR ?_ | refine tr_thenR ?_
  exact tr_done x (fun a w s t => results_1 rfl (resv_tmp s rfl)) (fun w h _ _ => h.2)
theorem rtimes_ret (c : Int) (p : Sv) (m : Mt) (B cc : Nat) (w0 : World) (S : Nat → Prop) (hc0 : Lz c.natAbs p w0) (hm : m.ok B w0) (hB : nl c.natAbs + B ≤ 35184372088832) (hl : m.rs.length ≤ 65536) (hcc : ∀ q ∈ m.rs, q.l.length = cc) (hc1 : 1 ≤ cc ∨ m.rs.length = 0) (hc16 : cc ≤ 65536) :
    Ret Try.prog 37 [iv c p, m.v] w0 S Mt.v (fun x w => x.ok (nl c.natAbs + B) w ∧ x.zs = grid (fun a b => c * ent m.zs a b) m.rs.length cc ∧ x.can) := by
  obtain ⟨r, hr⟩ : ∃ r, r = m.rs.length := ⟨_, rfl⟩
  rw [← hr]
  refine ret_of Try.func37 rfl Try.ntmps37 rfl ?_
  refine tr_rseq ?_
  refine sq_box rfl rfl fun r2 => ?_
  refine sq_q (qt_assign rfl) rfl ?_
  refine sq_end ?_
  refine tr_rseq ?_
  refine sq_q (qt_move rfl) rfl ?_
  refine sq_callK (fun x : Sk × Nat × List Wr => .slice (some ⟨x.2.1, 0, none⟩) r r) (fun x => mownS x.1 x.2.1 x.2.2) (fun x => MG (ent m.zs) r cc x.2.2 ∧ allz Zd.can x.2.2) (fun x w => allz (fun z => z.ok B w) x.2.2) rfl rfl rfl (fun w t => by
    rw [hr]
    exact copy_ret m B cc w _ (t.mt hm) (by omega) (by omega) hcc hc1 hc16) fun x hx => ?_
  refine sq_q (qt_assign rfl) rfl ?_
  refine sq_end ?_
  obtain ⟨σ, o, qs⟩ := x
  obtain ⟨hG, hcan⟩ := hx
  dsimp only at hG hcan
  refine tr_perm (zblk r2 (zd c p) :: mownS σ o qs) (List.perm_append_comm (l₁ := mownS σ o qs) (l₂ := [zblk r2 (zd c p)])) ?_
  refine tr_seq ?_
  refine tr_rseq ?_
  refine sq_q (qt_move rfl) rfl ?_
  refine sq_q (qt_len rfl) rfl ?_
  refine sq_q (qt_move rfl) rfl ?_
  refine sq_end ?_
  refine tr_block ?_
  refine tr_loop2 (fun (i : Nat) (qs : List Wr) => i ≤ r ∧ MG (fun a b => if a < i then c * ent m.zs a b else ent m.zs a b) r cc qs ∧ allz Zd.can qs) (fun i qs => [(2, .pointer (some ⟨r2, 0, none⟩)), (5, .slice (some ⟨o, 0, none⟩) r r), (11, .int .i64 (r : Int)), (12, .int .i64 (i : Int))])
    (fun i qs => zblk r2 (zd c p) :: mownS σ o qs) (fun i qs w => alli (fun a b z => z.ok (if a < i then nl c.natAbs + B else B) w) qs) (fun i qs => r - i) 0 qs ⟨Nat.zero_le _, hG.congr (fun a b _ _ => by rw [if_neg (by omega)]), hcan⟩ ⟨rfl, rfl, rfl, rfl, trivial⟩ rfl (fun w h a q hq b z hz => by dsimp only; rw [if_neg (by omega)]; exact h.2 q (List.mem_of_getElem? hq) z (List.mem_of_getElem? hz)) ?_
  clear hG hcan qs
  rintro i qs ⟨hle, hG, hcan⟩
  refine tr_rseq ?_
  refine sq_q (qt_bin rfl rfl bin_lss) rfl ?_
  refine sq_end ?_
  refine tr_seq ?_
  refine tr_if rfl (fun hc => ?_) (fun hc => ?_)
  ·
    have hlt : i < r := by have := of_decide_eq_true hc; omega
    have hml : i < m.rs.length := by omega
    have hce := hcc _ (List.getElem_mem hml)
    obtain ⟨q, hq, hql⟩ := hG.get hlt
    refine tr_skip ?_
    repeat with_reducible first | refine tr_skip ?_ | refine tr_exit ?_ | refine tr_then ?_ | refine tr_inX ?_ | refine tr_thenX ?_ | refine tr_inN ?_ | refine tr_inR ?_ | refine tr_thenR ?_
    refine tr_seq ?_
    refine tr_block ?_
    refine tr_rseq ?_
    refine sq_q (qt_move rfl) rfl ?_
    refine sq_q (qt_assign rfl) rfl ?_
    refine sq_end ?_
    refine tr_rseq ?_
    refine sq_q (qt_move rfl) rfl ?_
    refine sq_q (qt_move rfl) rfl ?_
    refine sq_q (qt_index (i := i) rfl rfl hlt) rfl ?_
    refine sq_q (qt_load (v := .slice (some ⟨q.1, 0, none⟩) q.2.length (q.2.length + (σ q.1).length / 2)) rfl (fun w t => t.o1 1 rfl (moutS_get hq))) rfl ?_
    refine sq_q (qt_len rfl) rfl ?_
    refine sq_q (qt_move rfl) rfl ?_
    refine sq_end ?_
    refine tr_block ?_
    have hG0 : MG (fun a b => if a < i ∨ (a = i ∧ b < 0) then c * ent m.zs a b else ent m.zs a b) r cc qs := hG.congr fun a b _ _ => by
      by_cases h : a < i
      · rw [if_pos h, if_pos (.inl h)]
      · rw [if_neg h, if_neg (by omega)]
    refine tr_loop2 (fun (j : Nat) (qs : List Wr) => j ≤ cc ∧ MG (fun a b => if a < i ∨ (a = i ∧ b < j) then c * ent m.zs a b else ent m.zs a b) r cc qs ∧ allz Zd.can qs) (fun j qs => [(2, .pointer (some ⟨r2, 0, none⟩)), (5, .slice (some ⟨o, 0, none⟩) r r), (6, .int .i64 (i : Int)), (11, .int .i64 (r : Int)), (12, .int .i64 (i : Int)), (19, .int .i64 (cc : Int)), (20, .int .i64 (j : Int))])
      (fun j qs => zblk r2 (zd c p) :: mownS σ o qs) (fun j qs w => alli (fun a b z => z.ok (if a < i ∨ (a = i ∧ b < j) then nl c.natAbs + B else B) w) qs) (fun j qs => cc - j) 0 qs ⟨Nat.zero_le _, hG0, hcan⟩ ⟨rfl, rfl, rfl, rfl, rfl, congrArg (fun z => some (Value.int .i64 ((z : Nat) : Int))) hql, rfl, trivial⟩ rfl (fun w h => h.mono fun a b z hz => by
      by_cases h' : a < i
      · rw [if_pos h'] at hz; rw [if_pos (.inl h')]; exact hz
      · rw [if_neg h'] at hz; rw [if_neg (by omega)]; exact hz) ?_
    clear hG0 hG hcan hq hql q qs
    rintro j qs ⟨hjc, hG, hcan⟩
    refine tr_rseq ?_
    refine sq_q (qt_bin rfl rfl bin_lss) rfl ?_
    refine sq_end ?_
    refine tr_seq ?_
    refine tr_if rfl (fun hc => ?_) (fun hc => ?_)
    ·
      have hlt2 : j < cc := by have := of_decide_eq_true hc; omega
      obtain ⟨q, hq, hql⟩ := hG.get hlt
      obtain ⟨z, hz⟩ : ∃ z, q.2[j]? = some z := ⟨_, List.getElem?_eq_getElem (by omega)⟩
      have hzz := (hG.2 i q hq).2 j z hz
      dsimp only at hzz
      rw [if_neg (by omega)] at hzz
      refine tr_have (fun w t => (by have h := nl_zd (t.r i q hq j z hz); rw [if_neg (by omega)] at h; exact h : nl z.z.natAbs ≤ B)) fun hzb => ?_
      have hXb := nl_imul c z.z
      refine tr_skip ?_
      repeat with_reducible first | refine tr_skip ?_ | refine tr_exit ?_ | refine tr_then ?_ | refine tr_inX ?_ | refine tr_thenX ?_ | refine tr_inN ?_ | refine tr_inR ?_ | refine tr_thenR ?_
      refine tr_seq ?_
      refine tr_block ?_
      refine tr_rseq ?_
      refine sq_q (qt_move rfl) rfl ?_
      refine sq_q (qt_assign rfl) rfl ?_
      refine sq_end ?_
      refine tr_sb [15] ?_
      refine sb_q 0 rfl (by kernel_rfl) (qt_move rfl) rfl ?_
      refine sb_q 1 rfl (by kernel_rfl) (qt_move rfl) rfl ?_
      refine sb_q 2 rfl (by kernel_rfl) (qt_index (i := i) rfl rfl hlt) rfl ?_
      refine sb_q 3 rfl (by kernel_rfl) (qt_load (v := .slice (some ⟨q.1, 0, none⟩) q.2.length (q.2.length + (σ q.1).length / 2)) rfl (fun w t => t.o1 1 rfl (moutS_get hq))) rfl ?_
      refine sb_q 4 rfl (by kernel_rfl) (qt_move rfl) rfl ?_
      refine sb_q 5 rfl (by kernel_rfl) (qt_load2 rfl (fun w t => t.atO 0 rfl rfl) (fun w t => t.atO 0 rfl rfl)) rfl ?_
      refine sb_q 6 rfl (by kernel_rfl) (qt_move rfl) rfl ?_
      refine sb_q 7 rfl (by kernel_rfl) (qt_move rfl) rfl ?_
      refine sb_q 8 rfl (by kernel_rfl) (qt_index (i := i) rfl rfl hlt) rfl ?_
      refine sb_q 9 rfl (by kernel_rfl) (qt_load (v := .slice (some ⟨q.1, 0, none⟩) q.2.length (q.2.length + (σ q.1).length / 2)) rfl (fun w t => t.o1 1 rfl (moutS_get hq))) rfl ?_
      refine sb_q 10 rfl (by kernel_rfl) (qt_move rfl) rfl ?_
      refine sb_q 11 rfl (by kernel_rfl) (qt_index (i := j) rfl rfl (by omega)) rfl ?_
      refine sb_q 12 rfl (by kernel_rfl) (qt_load2 rfl (fun w t => t.mzS0 (i + 2) (mownS_at (o := o) hq) hz) (fun w t => t.mzS1 (i + 2) (mownS_at (o := o) hq) hz)) rfl ?_
      refine sb_one 13 (by kernel_rfl) ?_
      refine so2_call (iv (c * z.z)) (Lz (c * z.z).natAbs) rfl rfl rfl rfl (fun w t => rmul_iz (t.lz hc0) (by have h := t.r i q hq j z hz; dsimp only at h; rw [if_neg (by omega)] at h; exact h) hB) fun x => ?_
      refine sb_q 14 rfl (by kernel_rfl) (qt_index (i := j) rfl rfl (by omega)) rfl ?_
      refine sb_one 15 (by kernel_rfl) ?_
      refine so2_store (i + 2) rfl rfl rfl rfl (mownS_at (o := o) hq) rfl (show 0 + j * 2 + 2 ≤ (zcs q.2 ++ σ q.1).length by rw [List.length_append, zcs_length]; omega) rfl rfl ?_
      refine sb_end (by kernel_rfl) ?_
      refine tr_own (zblk r2 (zd c p) :: mownS σ o (qs.set i (q.1, q.2.set j (zd (c * z.z) x)))) (by rw [← mownS_wr (zd (c * z.z) x) hq (by omega)]; rfl) ?_
      repeat with_reducible first | refine tr_skip ?_ | refine tr_exit ?_ | refine tr_then ?_ | refine tr_inX ?_ | refine tr_thenX ?_ | refine tr_inN ?_ | refine tr_inR ?_ | refine tr_thenR ?_
      refine tr_region ?_
      refine sq_q (qt_bin rfl rfl (bin_addI (by omega) (by omega))) rfl ?_
      refine sq_q (qt_move rfl) rfl ?_
      refine sq_nil ?_
      repeat with_reducible first | refine tr_skip ?_ | refine tr_exit ?_ | refine tr_then ?_ | refine tr_inX ?_ | refine tr_thenX ?_ | refine tr_inN ?_ | refine tr_inR ?_ | refine tr_thenR ?_
      refine tr_round2 (j + 1) (qs.set i (q.1, q.2.set j (zd (c * z.z) x))) ⟨by omega, (hG.set hq (zd (c * z.z) x) (c * z.z) (zd_z _ _)).congr (fun a b _ _ => ?_), hcan.set hq (zd_can _ _)⟩ (by omega) ⟨rfl, rfl, rfl, rfl, rfl, rfl, rfl, trivial⟩ rfl (fun w h => h.1.set hq (zd_ok h.2 (by rw [if_pos (by omega)]; omega)) (fun a b u hab hu => ?_))
      · unfold gset
        dsimp only
        split
        · rename_i h; rw [if_pos (by omega), h.1, h.2, hzz]
        · rename_i h
          by_cases h' : a < i ∨ (a = i ∧ b < j)
          · rw [if_pos h', if_pos (by omega)]
          · rw [if_neg h', if_neg (by omega)]
      · by_cases h' : a < i ∨ (a = i ∧ b < j)
        · rw [if_pos h'] at hu; rw [if_pos (by omega)]; exact hu
        · rw [if_neg h'] at hu; rw [if_neg (by omega)]; exact hu
    ·
      have hje : j = cc := by have := of_decide_eq_false hc; omega
      refine tr_exit ?_
      repeat with_reducible first | refine tr_skip ?_ | refine tr_exit ?_ | refine tr_then ?_ | refine tr_inX ?_ | refine tr_thenX ?_ | refine tr_inN ?_ | refine tr_inR ?_ | refine tr_thenR ?_
      refine tr_region ?_
      refine sq_q (qt_bin rfl rfl (bin_addI (by omega) (by omega))) rfl ?_
      refine sq_q (qt_move rfl) rfl ?_
      refine sq_nil ?_
      repeat with_reducible first | refine tr_skip ?_ | refine tr_exit ?_ | refine tr_then ?_ | refine tr_inX ?_ | refine tr_thenX ?_ | refine tr_inN ?_ | refine tr_inR ?_ | refine tr_thenR ?_
      refine tr_round2 (i + 1) qs ⟨by omega, hG.congr (fun a b ha hb => ?_), hcan⟩ (by omega) ⟨rfl, rfl, rfl, rfl, trivial⟩ rfl (fun w h => h.mono fun a b u hu => ?_)
      · by_cases h : a < i ∨ (a = i ∧ b < j)
        · rw [if_pos h, if_pos (by omega)]
        · rw [if_neg h, if_neg (by omega)]
      · by_cases h' : a < i ∨ (a = i ∧ b < j)
        · rw [if_pos h'] at hu; rw [if_pos (by omega)]; exact hu
        · rw [if_neg h'] at hu
          split
          · exact hu.mono (by omega)
          · exact hu
  ·
    have hik : i = r := by have := of_decide_eq_false hc; omega
    refine tr_exit ?_
    repeat with_reducible first | refine tr_skip ?_ | refine tr_exit ?_ | refine tr_then ?_ | refine tr_inX ?_ | refine tr_thenX ?_ | refine tr_inN ?_ | refine tr_inR ?_ | refine tr_thenR ?_
    refine tr_rseq ?_
    refine sq_q (qt_move rfl) rfl ?_
    refine sq_q (qt_assign rfl) rfl ?_
    refine sq_end ?_
    refine tr_ret ?_
    repeat with_reducible first | refine tr_skip ?_ | refine tr_exit ?_ | refine tr_then ?_ | refine tr_inX ?_ | refine tr_thenX ?_ | refine tr_inN ?_ | refine tr_inR ?_ | refine tr_thenR ?_
    refine tr_done (mmtS σ o qs) (fun a w s t => results_1 rfl (resv_tmp s (by rw [mmtS_v, hG.1]; rfl))) (fun w h ho _ => ⟨mmtS_ok (fun q hq => ho q (List.mem_cons_of_mem _ hq)) (fun q hq z hz => ?_), ?_, mmtS_can hcan⟩)
    · obtain ⟨a, ha⟩ := List.getElem?_of_mem hq
      obtain ⟨b, hb⟩ := List.getElem?_of_mem hz
      have h1 := h a q ha b z hb
      dsimp only at h1
      split at h1
      · exact h1
      · exact h1.mono (by omega)
    · rw [mmtS_zs, hG.zs]
      unfold grid
      refine List.map_congr_left fun a ha => List.map_congr_left fun b hb => ?_
      have ha := List.mem_range.1 ha
      exact if_pos (by omega)
end Go.Qk
end
section
set_option linter.unusedVariables false
namespace Go.Qk
open Go Go.Proofs Go.RowKit
def dia (d : Int) : Mf := fun i j => if i = j then d else 0
theorem grid_eq {f g : Mf} {r c : Nat} (h : ∀ a b, a < r → b < c → f a b = g a b) : grid f r c = grid g r c := by
  unfold grid
  exact List.map_congr_left fun a ha => List.map_congr_left fun b hb => h a b (List.mem_range.1 ha) (List.mem_range.1 hb)
section
variable {m m' : Mt} {B B' n : Nat} {w : World} {S : Nat → Prop} {f g : Mf}
theorem optG_lens (h : optF B (some (grid f n n)) m w) (hn : n ≤ 16) : m.rs.length ≤ 35184372088832 ∧ (∀ r ∈ m.rs, r.l.length ≤ 35184372088832) ∧ m.rs.length = n ∧ ∀ r ∈ m.rs, r.l.length = n := by
  obtain ⟨a, b⟩ := mt_lens h.2.1
  exact ⟨by omega, fun r hr => by have := b r hr; omega, a, b⟩
theorem product_g {e : Mf} (h : optF B (some (grid f n n)) m w) (h' : optF B' (some (grid g n n)) m' w) (hn : 1 ≤ n) (hn16 : n ≤ 16) (hB : B + B' ≤ 35184372088700) (he : ∀ a b, a < n → b < n → mmul n f g a b = e a b) :
    Ret Try.prog 36 [m.v, m'.v] w S Mt.v (optF (B + B' + 16) (some (grid e n n))) := by
  obtain ⟨a1, a2, _, _⟩ := optG_lens h hn16
  obtain ⟨b1, b2, _, _⟩ := optG_lens h' hn16
  have hh := product_ret m m' B B' w S h.1 h'.1 hB a1 a2 b1 b2
  have e1 : m.zs = grid f n n := h.2.1
  have e2 : m'.zs = grid g n n := h'.2.1
  have e3 : mulO m.zs m'.zs = some (grid e n n) := by
    rw [e1, e2]
    unfold mulO
    rw [shp_grid f hn hn16 hn hn16, shp_grid g hn hn16 hn hn16]
    show (if n = n then _ else _) = _
    rw [if_pos rfl]
    congr 1
    refine grid_eq fun a b ha hb => ?_
    rw [← he a b ha hb]
    unfold mmul
    exact sumN_congr fun k hk => by rw [ent_grid ha hk, ent_grid hk hb]
  rw [e3] at hh
  exact hh
theorem adjugate_g (h : optF B (some (grid f n n)) m w) (hn : 1 ≤ n) (hn16 : n ≤ 16) (hB : B ≤ 8388607) (hB1 : 1 ≤ B) :
    Ret Try.prog 33 [m.v] w S (optV (some (grid (adjG n f) n n))) (optF 549755813887 (some (grid (adjG n f) n n))) := by
  obtain ⟨a1, a2, _, _⟩ := optG_lens h hn16
  have hh := adjugate_ret m B w S h.1 hB hB1 a1 a2
  have e1 : m.zs = grid f n n := h.2.1
  have e2 : sqb (shp (grid f n n)) = true := by rw [shp_grid f hn hn16 hn hn16]; exact sqb_same n
  rw [e1, adjO_lap e2] at hh
  have hl : (grid f n n).length = n := by simp [grid]
  rw [hl] at hh
  have e3 : grid (adjG n (ent (grid f n n))) n n = grid (adjG n f) n n := grid_eq fun a b ha hb => by
    unfold adjG
    congr 1
    refine lap_congr fun i j hi hj => ?_
    unfold dl
    exact ent_grid (by have := sk_lt (j := b) hi; omega) (by have := sk_lt (j := a) hj; omega)
  rw [e3] at hh
  exact hh
theorem ident_g (hn : 1 ≤ n) (hn16 : n ≤ 16) (w : World) : Ret Try.prog 21 [.int .i64 (n : Int)] w S (optV (some (grid ident n n))) (optF 1 (some (grid ident n n))) := by
  have hh := ridentity_ret (n : Int) w S
  have e : identO (n : Int) = some (grid ident n n) := by
    unfold identO
    rw [if_pos (by omega)]
    rfl
  rw [e] at hh
  exact hh
theorem times_g {d : Int} {p : Sv} (hd : Lz d.natAbs p w) (h : optF 1 (some (grid ident n n)) m w) (hn : 1 ≤ n) (hn16 : n ≤ 16) (hB : nl d.natAbs ≤ 549755813887) :
    Ret Try.prog 37 [iv d p, m.v] w S Mt.v (optF (nl d.natAbs + 1) (some (grid (dia d) n n))) := by
  obtain ⟨_, _, a1, a2⟩ := optG_lens h hn16
  refine (rtimes_ret d p m 1 n w S hd h.1 (by omega) (by omega) a2 (.inl hn) (by omega)).imp fun x w' h' => ⟨h'.1, ?_, h'.2.2⟩
  rw [h'.2.1, a1]
  refine grid_eq fun a b ha hb => ?_
  have e1 : m.zs = grid ident n n := h.2.1
  rw [e1, ent_grid ha hb]
  unfold ident dia
  split <;> simp
end
end Go.Qk
end
section
set_option linter.unusedVariables false
namespace Go.Qk
open Go Go.Proofs Go.RowKit
set_option maxRecDepth 100000
set_option maxHeartbeats 4000000
theorem matrixCramer_ret (gx : Gd) (w0 : World) (S : Nat → Prop) (hx : gx.ok w0) :
    Ret Try.prog 8 [gx.v] w0 S (fun _ : Unit => .bool true) (fun _ _ => True) := by
  obtain ⟨n, hn⟩ : ∃ n, n = 1 + gx.r % 5 := ⟨_, rfl⟩
  have hn1 : 1 ≤ n := by omega
  have hn16 : n ≤ 16 := by have := Nat.mod_lt gx.r (show 0 < 5 by omega); omega
  obtain ⟨a, ha⟩ : ∃ a : Mf, a = gx.sq.e 5 := ⟨_, rfl⟩
  have hA : gx.sq.zs 5 = grid a n n := by rw [ha, hn]; rfl
  clear ha hn
  obtain ⟨d, hd⟩ : ∃ d, d = lap n a := ⟨_, rfl⟩
  refine ret_of Try.func8 rfl Try.ntmps8 rfl ?_
  refine tr_rseq ?_
  refine sq_box rfl rfl fun r1 => ?_
  refine sq_q (qt_assign rfl) rfl ?_
  refine sq_end ?_
  refine tr_rseq ?_
  refine sq_q (qt_load_agg (vs := [.int .u8 (gx.r : Int), .int .u8 (gx.c : Int), .slice gx.p.1 gx.l.length gx.p.2]) rfl rfl (fun w t j v hv => by rw [Nat.zero_add]; exact t.atO 0 rfl hv)) rfl ?_
  refine sq_call Mt.v (optF 2 (some (grid a n n))) rfl rfl rfl (fun w t => (gsquare_ret gx 5 w _ (t.gd hx) (by omega) (by omega)).imp fun m w h => by rw [hA] at h; exact h) fun mA => ?_
  refine sq_q (qt_assign rfl) rfl ?_
  refine sq_end ?_
  refine tr_r (fun w => optF 2 (some (grid a n n)) mA w) (fun w h => h.2) ?_
  refine tr_have (fun w t => (optG_lens t.r hn16).2.2.1) fun hlA => ?_
  refine tr_rseq ?_
  refine sq_q (qt_move rfl) rfl ?_
  refine sq_call (optV (some (grid (adjG n a) n n))) (optF 549755813887 (some (grid (adjG n a) n n))) rfl rfl rfl (fun w t => adjugate_g t.r hn1 hn16 (by omega) (by omega)) fun mB => ?_
  refine sq_q (qt_move rfl) rfl ?_
  refine sq_q (qt_extract rfl rfl) rfl ?_
  refine sq_q (qt_extract rfl rfl) rfl ?_
  refine sq_q (qt_assign rfl) rfl ?_
  refine sq_q (qt_assign rfl) rfl ?_
  refine sq_end ?_
  refine tr_rseq ?_
  refine sq_q (qt_move rfl) rfl ?_
  refine sq_call (optZV (some d)) (optZF (some d)) rfl rfl rfl (fun w t => by rw [hd]; exact det_g t.r.1 hn1 hn16 (by omega) (by omega)) fun p8 => ?_
  refine sq_q (qt_move rfl) rfl ?_
  refine sq_q (qt_extract rfl rfl) rfl ?_
  refine sq_q (qt_extract rfl rfl) rfl ?_
  refine sq_alloc rfl fun r6 => ?_
  refine sq_store 0 rfl rfl rfl rfl (Nat.le_refl 2) rfl rfl ?_
  refine sq_q (qt_assign rfl) rfl ?_
  refine sq_end ?_
  refine tr_own [zblk r6 (zd d p8), (r1, .cells gx.v.cells 31 (0, 0))] rfl ?_
  refine tr_rseq ?_
  refine sq_q (qt_move rfl) rfl ?_
  refine sq_q (qt_len rfl) rfl ?_
  refine sq_call (optV (some (grid ident n n))) (optF 1 (some (grid ident n n))) rfl rfl rfl (fun w t => by rw [hlA]; exact ident_g hn1 hn16 w) fun m1 => ?_
  refine sq_q (qt_move rfl) rfl ?_
  refine sq_q (qt_extract rfl rfl) rfl ?_
  refine sq_q (qt_extract rfl rfl) rfl ?_
  refine sq_q (qt_assign rfl) rfl ?_
  refine sq_q (qt_assign rfl) rfl ?_
  refine sq_end ?_
  clear hx
  ·
    refine tr_rsb [] ?_
    refine sb_q 0 rfl (by kernel_rfl) (qt_move rfl) rfl ?_
    refine sb_q 1 rfl (by kernel_rfl) (qt_move rfl) rfl ?_
    refine sb_qG 2 rfl rfl rfl (by kernel_rfl) (qt_move rfl) rfl ?_
    refine sb_q 3 rfl (by kernel_rfl) (qt_pick rfl rfl) rfl ?_
    refine sb_q 4 rfl (by kernel_rfl) (qt_move rfl) rfl ?_
    refine sb_qG 5 rfl rfl rfl (by kernel_rfl) (qt_move rfl) rfl ?_
    refine sb_qG 6 rfl rfl rfl (by kernel_rfl) (qt_move rfl) rfl ?_
    refine sb_qG 8 rfl rfl rfl (by kernel_rfl) (qt_load2 rfl (fun w t => t.atO 0 rfl rfl) (fun w t => t.atO 0 rfl rfl)) rfl ?_
    refine sb_qG 9 rfl rfl rfl (by kernel_rfl) (qt_move rfl) rfl ?_
    refine sb_one 7 (by kernel_rfl) ?_
    refine so2_callG Mt.v (optF (2 + 549755813887 + 16) (some (grid (dia d) n n))) rfl rfl rfl rfl rfl rfl (fun w t => product_g t.r.1.1.1 t.r.1.1.2 hn1 hn16 (by omega) (fun i j hi hj => by rw [hd]; exact mul_adj n a hi hj)) fun m2 => ?_
    refine sb_one 10 (by kernel_rfl) ?_
    refine so2_callG Mt.v (optF (nl d.natAbs + 1) (some (grid (dia d) n n))) rfl rfl rfl rfl rfl rfl (fun w t => times_g t.r.1.1.2.1 t.r.1.2 hn1 hn16 t.r.1.1.2.2) fun m3 => ?_
    refine sb_one 11 (by kernel_rfl) ?_
    refine so2_callG (val := fun _ : Unit => .bool true) (F := fun _ _ => True) rfl rfl rfl rfl rfl rfl (fun w t => by
      have hb := t.r.1.1.1.2.2
      simp only [Option.getD_some] at hb
      exact same_opt t.r.1.2 t.r.2 (by omega) (by omega) (grid_lens _ _ _ (by omega) (by omega)).1 (grid_lens _ _ _ (by omega) (by omega)).2) fun _ => ?_
    refine sb_q 12 rfl (by kernel_rfl) (qt_pick rfl rfl) rfl ?_
    refine sb_q 13 rfl (by kernel_rfl) (qt_move rfl) rfl ?_
    refine sb_one 14 (by kernel_rfl) ?_
    refine so2_callG (val := fun _ : Unit => .bool true) (F := fun _ _ => True) rfl rfl rfl rfl rfl rfl (fun w t => awake_ret w _) fun _ => ?_
    refine sb_q 15 rfl (by kernel_rfl) (qt_pick rfl rfl) rfl ?_
    refine sb_q 16 rfl (by kernel_rfl) (qt_assign rfl) rfl ?_
    refine sb_endk (by kernel_rfl) ?_
    refine tr_ret ?_
    repeat with_reducible first | refine tr_skip ?_ | refine tr_exit ?_ | refine tr_then ?_ | refine tr_inX ?_ | refine tr_thenX ?_ | refine tr_inN ?_ | refine tr_inR ?_ | refine tr_thenR ?_
    exact tr_done () (fun a w s t => results_1 rfl (resv_tmp s rfl)) (fun _ _ _ _ => trivial)
end Go.Qk
end
