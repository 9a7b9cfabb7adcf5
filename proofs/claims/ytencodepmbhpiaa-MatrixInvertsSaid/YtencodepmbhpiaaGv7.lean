/- Lemmas and contracts of functions that the law reaches. -/
import Derived.Test.YtencodepmbhpiaaGv6
set_option linter.unusedVariables false
set_option linter.unusedSimpArgs false
section
set_option linter.unusedVariables false
set_option linter.unusedSimpArgs false
namespace Go.Qk
theorem cset_at (g : Mf) (c : Nat) (u : Nat → Int) (a : Nat) : cset g c u a c = u a := by simp [cset]
theorem cset_ne (g : Mf) {c b : Nat} (u : Nat → Int) (a : Nat) (h : b ≠ c) : cset g c u a b = g a b := by simp [cset, h]
theorem sumN_cut {k m : Nat} {f : Nat → Int} (h : ∀ j, k ≤ j → j < k + m → f j = 0) : sumN (k + m) f = sumN k f := by
  induction m with
  | zero => rfl
  | succ m ih =>
    rw [show k + (m + 1) = (k + m) + 1 by omega, sumN, ih fun j h1 h2 => h j h1 (by omega), h (k + m) (by omega) (by omega)]
    omega
theorem lap_congr {n : Nat} {g g' : Mf} (h : ∀ a b, a < n → b < n → g a b = g' a b) : lap n g = lap n g' := (lap_alt n).congr g g' h
def rset (g : Mf) (r : Nat) (u : Nat → Int) : Mf := fun a b => if a = r then u b else g a b
theorem lap_ralt {n : Nat} {g : Mf} {r s : Nat} (hr : r < n) (hs : s < n) (hrs : r ≠ s) (h : ∀ b, b < n → g r b = g s b) : lap n g = 0 := by
  rw [← lap_tr]
  exact (lap_alt n).alt' hr hs hrs (tr g) h
theorem lap_rswap {n : Nat} {g : Mf} {r s : Nat} (hr : r < n) (hs : s < n) (hrs : r ≠ s) : lap n (fun a b => g (if a = r then s else if a = s then r else a) b) = -lap n g := by
  rw [← lap_tr n g, ← (lap_alt n).swap (tr g) hr hs hrs, ← lap_tr]
  rfl
/-- without row k and column j -/
def dl (g : Mf) (k j : Nat) : Mf := fun a b => g (sk k a) (sk j b)
def rtop (g : Mf) (k : Nat) : Mf := fun a b => g (if a = 0 then k else sk k (a - 1)) b
theorem lap_rtop {n : Nat} (g : Mf) : ∀ k, k < n + 1 → lap (n + 1) (rtop g k) = sg k * lap (n + 1) g := by
  intro k
  induction k with
  | zero =>
    intro _
    rw [show sg 0 = 1 from rfl, Int.one_mul]
    refine lap_congr fun a b _ _ => ?_
    unfold rtop sk
    split
    · rename_i h; rw [h]
    · rw [if_neg (by omega), show a - 1 + 1 = a by omega]
  | succ k ih =>
    intro hk
    have h := lap_rswap (g := rtop g k) (n := n + 1) (r := 0) (s := k + 1) (by omega) hk (by omega)
    rw [ih (by omega)] at h
    rw [sg_succ, Int.neg_mul, ← h]
    refine lap_congr fun a b _ _ => ?_
    unfold rtop
    congr 1
    unfold sk
    by_cases h0 : a = 0
    · subst h0; simp
    · by_cases h1 : a = k + 1
      · subst h1; simp
      · simp only [h0, h1, if_false]
        (repeat' split) <;> omega
/-- expansion along any row -/
theorem lap_row {n : Nat} (g : Mf) {k : Nat} (hk : k < n + 1) : lap (n + 1) g = sumN (n + 1) fun j => sg (k + j) * g k j * lap n (dl g k j) := by
  have h := lap_rtop g k hk
  have h2 : lap (n + 1) (rtop g k) = sumN (n + 1) fun j => sg j * g k j * lap n (dl g k j) := by
    rw [lap]
    refine sumN_congr fun j _ => ?_
    rfl
  have h3 : lap (n + 1) g = sg k * lap (n + 1) (rtop g k) := by rw [h, ← Int.mul_assoc, sg_sq, Int.one_mul]
  rw [h3, h2, ← sumN_mul]
  refine sumN_congr fun j _ => ?_
  rw [sg_add]
  simp only [Int.mul_assoc]
/-- an expansion with another row's numbers -/
theorem lap_row_ne {n : Nat} (g : Mf) {k i : Nat} (hk : k < n + 1) (hi : i < n + 1) (hik : i ≠ k) : (sumN (n + 1) fun j => sg (k + j) * g i j * lap n (dl g k j)) = 0 := by
  have h := lap_row (rset g k (g i)) hk
  have h0 : lap (n + 1) (rset g k (g i)) = 0 := lap_ralt hk hi (Ne.symm hik) fun b _ => by unfold rset; rw [if_pos rfl, if_neg hik]
  rw [h0] at h
  rw [h]
  refine sumN_congr fun j _ => ?_
  have e : dl (rset g k (g i)) k j = dl g k j := by funext a b; unfold dl rset; rw [if_neg (sk_ne k a)]
  rw [e]
  unfold rset
  rw [if_pos rfl]
theorem lap_block : ∀ (k m : Nat) (g : Mf), (∀ a b, a < k → k ≤ b → b < k + m → g a b = 0) → lap (k + m) g = lap k g * lap m fun a b => g (k + a) (k + b) := by
  intro k
  induction k with
  | zero =>
    intro m g _
    rw [show lap 0 g = 1 from rfl, Int.one_mul, Nat.zero_add]
    exact lap_congr fun a b _ _ => by rw [Nat.zero_add, Nat.zero_add]
  | succ k ih =>
    intro m g h
    rw [show k + 1 + m = (k + m) + 1 by omega, lap, show k + m + 1 = (k + 1) + m by omega, sumN_cut (k := k + 1) fun j h1 h2 => by rw [h 0 j (by omega) h1 h2]; simp]
    rw [lap, ← sumN_mul_right]
    refine sumN_congr fun j hj => ?_
    rw [ih m (mnr g j) fun a b ha hb hb' => by
      unfold mnr sk
      rw [if_neg (by omega)]
      exact h _ _ (by omega) (by omega) (by omega)]
    have e : lap m (fun a b => mnr g j (k + a) (k + b)) = lap m fun a b => g (k + 1 + a) (k + 1 + b) := by
      refine lap_congr fun a b _ _ => ?_
      unfold mnr sk
      rw [if_neg (by omega), show k + a + 1 = k + 1 + a by omega, show k + b + 1 = k + 1 + b by omega]
    rw [e]
    simp only [Int.mul_assoc]
/-- a column with multiples of columns ahead of it added -/
theorem lap_comb {n : Nat} (g : Mf) {c m : Nat} (hc : c < n) (hm : m ≤ c) (x : Int) (d : Nat → Int) : lap n (cset g c fun a => x * g a c + sumN m fun l => d l * g a l) = x * lap n g := by
  have hA := lap_alt n
  have h1 := hA.lin g c (fun a => x * g a c) (fun a => sumN m fun l => d l * g a l) 1 hc
  simp only [Int.one_mul] at h1
  rw [h1, hA.smul g hc x fun a => g a c, cset_same, hA.sum g hc m d fun l a => g a l, sumN_zero]
  · omega
  · intro l hl
    rw [hA.alt' hc (show l < n by omega) (by omega) (cset g c fun a => g a l) (fun a _ => by unfold cset; rw [if_pos rfl, if_neg (by omega)])]
    simp
/-- the corner of A with one more row and column -/
def brd (A : Mf) (k i j : Nat) : Mf := fun a b => A (if a < k then a else i) (if b < k then b else j)
def bm (A : Mf) (k i j : Nat) : Int := lap (k + 1) (brd A k i j)
theorem bm_low {A : Mf} {k i j : Nat} (h : i < k) : bm A k i j = 0 := by
  refine lap_ralt (r := i) (s := k) (by omega) (by omega) (by omega) fun b _ => ?_
  unfold brd
  rw [if_pos h, if_neg (Nat.lt_irrefl k)]
theorem bm_comb (A : Mf) (k j : Nat) : ∃ d : Nat → Int, ∀ i, bm A k i j = lap k A * A i j + sumN k fun l => d l * A i l := by
  refine ⟨fun l => sg (k + l) * lap k (dl (brd A k 0 j) k l), fun i => ?_⟩
  unfold bm
  rw [lap_row (brd A k i j) (k := k) (by omega), sumN]
  have e : ∀ l, lap k (dl (brd A k i j) k l) = lap k (dl (brd A k 0 j) k l) := fun l => lap_congr fun a b ha hb => by
    unfold dl brd sk
    rw [if_pos ha, if_pos ha, if_pos ha]
  have e2 : lap k (dl (brd A k i j) k k) = lap k A := lap_congr fun a b ha hb => by
    unfold dl brd sk
    rw [if_pos ha, if_pos ha, if_pos hb, if_pos hb]
  have e3 : brd A k i j k k = A i j := by unfold brd; rw [if_neg (Nat.lt_irrefl k), if_neg (Nat.lt_irrefl k)]
  rw [e2, e3, show sg (k + k) = 1 by rw [sg_add, sg_sq], Int.one_mul, Int.add_comm, Int.mul_comm (A i j)]
  congr 1
  refine sumN_congr fun l hl => ?_
  rw [e l]
  have e4 : brd A k i j k l = A i l := by unfold brd; rw [if_neg (Nat.lt_irrefl k), if_pos hl]
  rw [e4]
  grind
theorem lap_two (g : Mf) : lap 2 g = g 0 0 * g 1 1 - g 0 1 * g 1 0 := by
  simp [lap, sumN, mnr, sk, sg]
  grind
/-- the step of the elimination -/
theorem bm_step (A : Mf) (k i j : Nat) (hP : lap k A ≠ 0) : lap k A * bm A (k + 1) i j = bm A k k k * bm A k i j - bm A k i k * bm A k k j := by
  obtain ⟨d1, h1⟩ := bm_comb A k k
  obtain ⟨d2, h2⟩ := bm_comb A k j
  obtain ⟨M, hM⟩ : ∃ M, M = brd A (k + 1) i j := ⟨_, rfl⟩
  have hbm : bm A (k + 1) i j = lap (k + 2) M := by rw [hM]; rfl
  have hMl : ∀ a l, l < k + 1 → M a l = A (if a < k + 1 then a else i) l := fun a l hl => by rw [hM]; unfold brd; rw [if_pos hl]
  have hMr : ∀ a, M a (k + 1) = A (if a < k + 1 then a else i) j := fun a => by rw [hM]; unfold brd; rw [if_neg (Nat.lt_irrefl _)]
  have c1 := lap_comb (n := k + 2) M (c := k) (m := k) (by omega) (Nat.le_refl k) (lap k A) d1
  obtain ⟨M1, hM1⟩ : ∃ M1, M1 = cset M k fun a => lap k A * M a k + sumN k fun l => d1 l * M a l := ⟨_, rfl⟩
  rw [← hM1] at c1
  have c2 := lap_comb (n := k + 2) M1 (c := k + 1) (m := k) (by omega) (by omega) (lap k A) d2
  obtain ⟨M2, hM2⟩ : ∃ M2, M2 = cset M1 (k + 1) fun a => lap k A * M1 a (k + 1) + sumN k fun l => d2 l * M1 a l := ⟨_, rfl⟩
  rw [← hM2] at c2
  have v1 : ∀ a, M2 a k = bm A k (if a < k + 1 then a else i) k := fun a => by
    rw [hM2, cset_ne _ _ _ (by omega), hM1, cset_at, hMl a k (by omega), h1]
    congr 1
    exact sumN_congr fun l hl => by rw [hMl a l (by omega)]
  have v2 : ∀ a, M2 a (k + 1) = bm A k (if a < k + 1 then a else i) j := fun a => by
    rw [hM2, cset_at, hM1, cset_ne _ _ _ (by omega), hMr a, h2]
    congr 1
    exact sumN_congr fun l hl => by rw [cset_ne _ _ _ (by omega), hMl a l (by omega)]
  have v0 : ∀ a l, a < k → l < k → M2 a l = A a l := fun a l ha hl => by
    rw [hM2, cset_ne _ _ _ (by omega), hM1, cset_ne _ _ _ (by omega), hMl a l (by omega), if_pos (by omega)]
  have hb := lap_block k 2 M2 fun a b ha hb hb' => by
    rcases (show b = k ∨ b = k + 1 by omega) with e | e
    · rw [e, v1, if_pos (by omega)]; exact bm_low ha
    · rw [e, v2, if_pos (by omega)]; exact bm_low ha
  rw [lap_two, lap_congr v0] at hb
  simp only [Nat.add_zero, v1, v2] at hb
  rw [if_pos (by omega), if_neg (by omega)] at hb
  rw [c2, c1, ← hbm] at hb
  have := Int.eq_of_mul_eq_mul_left hP hb
  rw [this]
  grind
theorem piv_spec (g : Mf) (k : Nat) : ∀ m p, p ≤ piv g k m p ∧ piv g k m p ≤ p + m ∧ (∀ i, p ≤ i → i < piv g k m p → g i k = 0) ∧ (piv g k m p < p + m → g (piv g k m p) k ≠ 0) := by
  intro m
  induction m with
  | zero => intro p; exact ⟨Nat.le_refl _, Nat.le_refl _, fun i h1 h2 => by have : piv g k 0 p = p := rfl; omega, fun h => by have : piv g k 0 p = p := rfl; omega⟩
  | succ m ih =>
    intro p
    unfold piv
    split
    · rename_i h0
      obtain ⟨h1, h2, h3, h4⟩ := ih (p + 1)
      refine ⟨by omega, by omega, fun i hi hi' => ?_, fun h => h4 (by omega)⟩
      by_cases e : i = p
      · rw [e]; exact h0
      · exact h3 i (by omega) hi'
    · rename_i h0
      exact ⟨Nat.le_refl _, by omega, fun i h1 h2 => by omega, fun _ => h0⟩
theorem bar_lap (n : Nat) : ∀ (m k : Nat) (g : Mf) (prev : Int) (neg : Bool) (A : Mf), m + k = n → prev = lap k A → prev ≠ 0 → (∀ i j, k ≤ i → i < n → k ≤ j → j < n → g i j = bm A k i j) → bar n m k g prev neg = (if neg = true then -lap n A else lap n A) := by
  intro m
  induction m with
  | zero =>
    intro k g prev neg A hk hp _ _
    have : k = n := by omega
    rw [bar, hp, this]
  | succ m ih =>
    intro k g prev neg A hk hp h0 hg
    have hkn : k < n := by omega
    obtain ⟨p1, p2, p3, p4⟩ := piv_spec g k (n - k) k
    generalize hpe : piv g k (n - k) k = p at *
    unfold bar
    rw [hpe]

    have step : ∀ (g' : Mf) (A' : Mf) (neg' : Bool), prev = lap k A' → (∀ i j, k ≤ i → i < n → k ≤ j → j < n → g' i j = bm A' k i j) → g' k k ≠ 0 → bar n m (k + 1) (elim g' k prev) (g' k k) neg' = (if neg' = true then -lap n A' else lap n A') := by
      intro g' A' neg' hp' hg' hne
      refine ih (k + 1) _ _ neg' A' (by omega) ?_ hne fun i j hi hin hj hjn => ?_
      · rw [hg' k k (Nat.le_refl _) hkn (Nat.le_refl _) hkn]
        refine lap_congr fun a b ha hb => ?_
        unfold brd
        congr 1
        · split <;> omega
        · split <;> omega
      · have hP : lap k A' ≠ 0 := by rw [← hp']; exact h0
        have hs := bm_step A' k i j hP
        unfold elim elm
        rw [if_pos ⟨by omega, by omega⟩, hg' k k (Nat.le_refl _) hkn (Nat.le_refl _) hkn, hg' i j (by omega) hin (by omega) hjn, hg' i k (by omega) hin (Nat.le_refl _) hkn, hg' k j (Nat.le_refl _) hkn (by omega) hjn, ← hs, hp']
        exact Int.mul_ediv_cancel_left _ hP
    by_cases hpn : p = n
    · rw [if_pos hpn]
      obtain ⟨d, hd⟩ := bm_comb A k k
      have h1 := lap_comb (n := n) A hkn (Nat.le_refl k) (lap k A) d
      have h2 : lap n (cset A k fun a => lap k A * A a k + sumN k fun l => d l * A a l) = 0 := by
        rw [← (lap_alt n).zero A hkn]
        refine lap_congr fun a b ha _ => ?_
        unfold cset
        split
        · show (lap k A * A a k + sumN k fun l => d l * A a l) = 0
          rw [← hd a]
          by_cases hak : a < k
          · exact bm_low hak
          · rw [← hg a k (by omega) ha (Nat.le_refl _) hkn]
            exact p3 a (by omega) (by omega)
        · rfl
      rw [h2] at h1
      have h3 : lap n A = 0 := by
        rcases Int.mul_eq_zero.1 h1.symm with h | h
        · rw [← hp] at h; exact absurd h h0
        · exact h
      rw [h3]
      split <;> rfl
    · rw [if_neg hpn]
      have hne : g p k ≠ 0 := p4 (by omega)
      by_cases hpk : p = k
      · rw [if_pos hpk]
        exact step g A neg hp hg (by rw [hpk] at hne; exact hne)
      · rw [if_neg hpk]
        have hs := lap_rswap (n := n) (g := A) (r := p) (s := k) (by omega) hkn hpk
        rw [step (swp g p k) (fun a b => A (if a = p then k else if a = k then p else a) b) (!neg) ?_ ?_ ?_]
        · rw [hs]
          cases neg <;> simp
        · rw [hp]
          exact lap_congr fun a b ha _ => by rw [if_neg (by omega), if_neg (by omega)]
        · intro i j hi hin hj hjn
          unfold swp
          rw [hg _ j (by split <;> (try split) <;> omega) (by split <;> (try split) <;> omega) hj hjn]
          refine lap_congr fun a b ha hb => ?_
          unfold brd
          congr 1
          by_cases hak : a < k
          · simp only [if_pos hak]
            rw [if_neg (by omega), if_neg (by omega)]
          · simp only [if_neg hak]
        · unfold swp
          rw [if_neg (Ne.symm hpk), if_pos rfl]
          exact hne
/-- the elimination answers the determinant -/
theorem bdet_lap (n : Nat) (g : Mf) : bdet n g = lap n g := by
  have h := bar_lap n n 0 g 1 false g (by omega) rfl (by decide) fun i j _ _ _ _ => by simp [bm, lap, sumN, brd, sg]
  unfold bdet
  rw [h]
  rfl
end Go.Qk
end
section
set_option linter.unusedVariables false
namespace Go.Qk
open Go Go.Proofs Go.RowKit
theorem ent_grid {f : Nat → Nat → Int} {r c i j : Nat} (hi : i < r) (hj : j < c) : ent (grid f r c) i j = f i j := by
  unfold ent
  simp [grid, List.getD, hi, hj]
section
variable {m m' : Mt} {n B B' : Nat} {a b : Mf} {w : World} {S : Nat → Prop}
end
end Go.Qk
end
section
set_option linter.unusedVariables false
namespace Go.Qk
open Go Go.Proofs Go.RowKit
theorem in8_getD {l : List Int} (h : ∀ a ∈ l, -128 ≤ a ∧ a < 128) (i : Nat) : -128 ≤ l.getD i 0 ∧ l.getD i 0 < 128 := by
  rw [List.getD_eq_getElem?_getD]
  cases hq : l[i]? with
  | none => simp
  | some a => exact h a (List.mem_of_getElem? hq)
end Go.Qk
end
section
set_option linter.unusedVariables false
namespace Go.Qk
open Go Go.Proofs Go.RowKit
def wo (n : Nat) (i : Int) : List Nat := (List.range n).filter fun k => decide ((k : Int) ≠ i)
theorem wo_ne {k : Nat} {i : Int} (h : (k : Int) ≠ i) : wo (k + 1) i = wo k i ++ [k] := by
  unfold wo
  rw [List.range_succ, List.filter_append]
  simp [h]
theorem wo_eq {k : Nat} {i : Int} (h : (k : Int) = i) : wo (k + 1) i = wo k i := by
  unfold wo
  rw [List.range_succ, List.filter_append]
  simp [h]
theorem wo_length (n : Nat) (i : Int) : (wo n i).length ≤ n := by
  have := List.length_filter_le (fun (k : Nat) => decide ((k : Int) ≠ i)) (List.range n)
  rwa [List.length_range] at this
theorem wo_low {j : Nat} : ∀ {m : Nat}, m ≤ j → wo m (j : Int) = (List.range m).map (sk j)
  | 0, _ => rfl
  | m + 1, h => by
    rw [wo_ne (by omega), wo_low (by omega), List.range_succ, List.map_append]
    simp [sk, show m < j by omega]
theorem wo_high {j : Nat} : ∀ d, wo (j + 1 + d) (j : Int) = (List.range (j + d)).map (sk j)
  | 0 => by rw [Nat.add_zero, wo_eq rfl, wo_low (Nat.le_refl _), Nat.add_zero]
  | d + 1 => by
    rw [show j + 1 + (d + 1) = (j + 1 + d) + 1 by omega, wo_ne (by omega), wo_high d, show j + (d + 1) = (j + d) + 1 by omega, List.range_succ, List.map_append]
    simp [sk, show ¬ j + d < j by omega]
    omega
theorem wo_at {k j : Nat} (h : j < k + 1) : wo (k + 1) (j : Int) = (List.range k).map (sk j) := by
  have := wo_high (j := j) (k - j)
  rwa [show j + 1 + (k - j) = k + 1 by omega, show j + (k - j) = k by omega] at this
theorem Rd.left {A : Option Addr} {xs ys : List Value} {w : World} (h : Rd A (xs ++ ys) w) : Rd A xs w := fun i v hv => h i v (by rw [List.getElem?_append_left (List.getElem?_eq_some_iff.1 hv).1]; exact hv)
section
variable {P : Program} {J : World → Prop} {lk : Nat → Option Value} {ty : TypeId}
end
theorem rneg_iv {a : Int} {p : Sv} {w : World} {S : Nat → Prop} (h : Lz a.natAbs p w) (hB : nl a.natAbs ≤ 35184372088832) : Ret Try.prog 73 [iv a p] w S (iv (-a)) (Lz (-a).natAbs) := by
  have g := rneg_ret (decide (a < 0)) (limbsOf a.natAbs) p w S h (lim_limbsOf _) hB
  have e : sgn (decide (a < 0)) (val (limbsOf a.natAbs)) = a := zd_z a p
  rw [e, val_limbsOf] at g
  rw [Int.natAbs_neg]
  exact g
theorem sg_nl (j : Nat) (x : Int) : nl (sg j * x).natAbs = nl x.natAbs := by
  unfold sg
  split <;> simp
section
variable {P : Program} {n : Nat} {w0 : World} {X : List Nat} {S : Nat → Prop} {E : Env} {own : Own} {R : World → Prop}
theorem tr_retireG {e : TypeId} {sz k : Nat} {xs : List Value} {p : Gr} {f : Act → World → Prop} (hok : grOk sz k xs p) (h : Tr n w0 [] S E own (fun w => R w ∧ Rd (grP p).1 xs w) f) : Tr n w0 [] S E (grO e xs p ++ own) R f := by
  match p, hok with
  | none, ⟨h1, h2⟩ =>
    intro a w s t
    subst h2
    exact h a w s (t.mono fun w hR => ⟨hR, Rd.nil _ _⟩)
  | some (g, c, sl), _ =>
    refine tr_retire ?_
    intro a w s t
    exact h a w s (t.mono fun w hR => ⟨hR.1, (Rd.own hR.2).left⟩)
end
/-- a matrix of fresh rows, whose integers may stand in older memory -/
def Mt.fr (m : Mt) (w : World) : Prop := Rd m.p.1 (m.rs.map Rw.v) w ∧ m.rs.length ≤ m.p.2 ∧ ∀ r ∈ m.rs, Rd r.p.1 (zcs r.l) w ∧ r.l.length ≤ r.p.2
theorem Mt.fr.ok {m : Mt} {B : Nat} {w0 w : World} {S : Nat → Prop} {own : Own} {R : World → Prop} (h : m.fr w) (ha : m.al fun z => z.ok B w0) (t : SS w0 [] S own R w) : m.ok B w :=
  ⟨h.1, h.2.1, fun r hr => ⟨(h.2.2 r hr).1, (h.2.2 r hr).2, fun z hz => t.zd (ha r hr z hz)⟩⟩
end Go.Qk
end
section
set_option linter.unusedVariables false
namespace Go.Qk
open Go Go.Proofs Go.RowKit
set_option maxRecDepth 100000
set_option maxHeartbeats 4000000
theorem without_ret (n : Nat) (i : Int) (w0 : World) (S : Nat → Prop) (hn : n ≤ 65536) :
    Ret Try.prog 72 [.int .i64 (n : Int), .int .i64 i] w0 S (fun p : Sv => .slice p.1 (wo n i).length p.2) (fun p w => Rd p.1 (ints (wo n i)) w ∧ (wo n i).length ≤ p.2) := by
  refine ret_of Try.func72 rfl Try.ntmps72 rfl ?_
  refine tr_rseq ?_
  refine sq_q (qt_assign rfl) rfl ?_
  refine sq_end ?_
  refine tr_rseq ?_
  refine sq_q (qt_assign rfl) rfl ?_
  refine sq_end ?_
  refine tr_seq ?_
  refine tr_rseq ?_
  refine sq_q (qt_assign rfl) rfl ?_
  refine sq_end ?_
  refine tr_block ?_
  refine tr_loop2 (fun (k : Nat) (p : Gr) => k ≤ n ∧ grOk 1 (wo k i).length (ints (wo k i)) p) (fun k p => [(0, .int .i64 (n : Int)), (1, .int .i64 i), (5, grV (wo k i).length p), (6, .int .i64 (k : Int))]) (fun k p => grO 3 (ints (wo k i)) p) (fun _ _ _ => True) (fun k _ => n - k) 0 none ⟨Nat.zero_le _, rfl, rfl⟩ ⟨rfl, rfl, rfl, rfl, trivial⟩ rfl (fun _ _ => trivial) ?_
  rintro k p ⟨hk, hok⟩
  refine tr_seq ?_
  refine tr_rseq ?_
  refine sq_q (qt_move rfl) rfl ?_
  refine sq_q (qt_move rfl) rfl ?_
  refine sq_q (qt_bin rfl rfl bin_lss) rfl ?_
  refine sq_end ?_
  refine tr_if rfl (fun hc => ?_) (fun hc => ?_)
  ·
    have hlt : k < n := by have := of_decide_eq_true hc; omega
    have hol : (wo k i).length ≤ k := wo_length k i
    refine tr_skip ?_
    repeat with_reducible first | refine tr_skip ?_ | refine tr_exit ?_ | refine tr_then ?_ | refine tr_inX ?_ | refine tr_thenX ?_ | refine tr_inN ?_ | refine tr_inR ?_ | refine tr_thenR ?_
    refine tr_seq ?_
    refine tr_block ?_
    refine tr_rseq ?_
    refine sq_q (qt_move rfl) rfl ?_
    refine sq_q (qt_move rfl) rfl ?_
    refine sq_q (qt_bin rfl rfl bin_neq) rfl ?_
    refine sq_end ?_
    refine tr_if rfl (fun hc => ?_) (fun hc => ?_)
    ·
      have hne : (k : Int) ≠ i := of_decide_eq_true hc
      refine tr_region ?_
      refine sq_q (qt_move rfl) rfl ?_
      refine sq_q (qt_move rfl) rfl ?_
      refine sq_lit (vs := [(0, .int .i64 (k : Int))]) (cells := [.int .i64 (k : Int)]) rfl rfl rfl (by simp [Instr.fill, Value.cells, show Array.range 1 = #[0] from by decide]) rfl fun r17 => ?_
      refine sq_own ((r17, .cells [Value.int .i64 (k : Int)].toArray 3 (0, 0)) :: (grO 3 (ints (wo k i)) p ++ [])) (by rw [List.append_nil]) ?_
      refine sq_grow (p := p) (k := (wo k i).length) (m := 1) (xs := ints (wo k i)) (news := [.int .i64 (k : Int)]) (own' := []) rfl rfl hok rfl (by omega) (by omega) (by omega) rfl rfl rfl rfl fun p' hok' => ?_
      rw [List.append_nil]
      refine sq_q (qt_assign rfl) rfl ?_
      refine sq_nil ?_
      repeat with_reducible first | refine tr_skip ?_ | refine tr_exit ?_ | refine tr_then ?_ | refine tr_inX ?_ | refine tr_thenX ?_ | refine tr_inN ?_ | refine tr_inR ?_ | refine tr_thenR ?_
      refine tr_region ?_
      refine sq_q (qt_move rfl) rfl ?_
      refine sq_q (qt_bin rfl rfl (bin_addI (by omega) (by omega))) rfl ?_
      refine sq_q (qt_assign rfl) rfl ?_
      refine sq_nil ?_
      repeat with_reducible first | refine tr_skip ?_ | refine tr_exit ?_ | refine tr_then ?_ | refine tr_inX ?_ | refine tr_thenX ?_ | refine tr_inN ?_ | refine tr_inR ?_ | refine tr_thenR ?_
      have e : wo (k + 1) i = wo k i ++ [k] := wo_ne hne
      have e2 : ints (wo k i) ++ [Value.int .i64 (k : Int)] = ints (wo (k + 1) i) := by rw [e]; simp [ints]
      have e3 : (wo k i).length + 1 = (wo (k + 1) i).length := by rw [e]; simp
      rw [e2, e3] at hok'
      refine tr_round2 (k + 1) p' ⟨by omega, hok'⟩ (by omega) ⟨rfl, rfl, by rw [← e3]; rfl, rfl, trivial⟩ (by rw [← e2]) (fun _ h => h)
    ·
      have heq : (k : Int) = i := by have := of_decide_eq_false hc; omega
      refine tr_skip ?_
      repeat with_reducible first | refine tr_skip ?_ | refine tr_exit ?_ | refine tr_then ?_ | refine tr_inX ?_ | refine tr_thenX ?_ | refine tr_inN ?_ | refine tr_inR ?_ | refine tr_thenR ?_
      refine tr_region ?_
      refine sq_q (qt_move rfl) rfl ?_
      refine sq_q (qt_bin rfl rfl (bin_addI (by omega) (by omega))) rfl ?_
      refine sq_q (qt_assign rfl) rfl ?_
      refine sq_nil ?_
      repeat with_reducible first | refine tr_skip ?_ | refine tr_exit ?_ | refine tr_then ?_ | refine tr_inX ?_ | refine tr_thenX ?_ | refine tr_inN ?_ | refine tr_inR ?_ | refine tr_thenR ?_
      have e : wo (k + 1) i = wo k i := wo_eq heq
      refine tr_round2 (k + 1) p ⟨by omega, by rw [e]; exact hok⟩ (by omega) ⟨rfl, rfl, by rw [e]; rfl, rfl, trivial⟩ (by rw [e]) (fun _ h => h)
  ·
    have hkn : k = n := by have := of_decide_eq_false hc; omega
    subst hkn
    refine tr_exit ?_
    repeat with_reducible first | refine tr_skip ?_ | refine tr_exit ?_ | refine tr_then ?_ | refine tr_inX ?_ | refine tr_thenX ?_ | refine tr_inN ?_ | refine tr_inR ?_ | refine tr_thenR ?_
    refine tr_rseq ?_
    refine sq_q (qt_move rfl) rfl ?_
    refine sq_q (qt_assign rfl) rfl ?_
    refine sq_end ?_
    refine tr_ret ?_
    repeat with_reducible first | refine tr_skip ?_ | refine tr_exit ?_ | refine tr_then ?_ | refine tr_inX ?_ | refine tr_thenX ?_ | refine tr_inN ?_ | refine tr_inR ?_ | refine tr_thenR ?_
    exact tr_done (grP p) (fun a w s t => results_1 rfl (resv_tmp s (by rw [← grP_v hok]; rfl))) (fun w _ ho _ => grP_rd hok ho)
theorem select_ret (m : Mt) (rs cs : List Nat) (p q : Sv) (B : Nat) (w0 : World) (S : Nat → Prop) (K : Zd → Prop) (hm : m.ok B w0) (hK : m.al K) (hp : Rd p.1 (ints rs) w0) (hq : Rd q.1 (ints cs) w0) (hrs : ∀ a ∈ rs, a < m.rs.length) (hcs : ∀ r ∈ m.rs, ∀ b ∈ cs, b < r.l.length) (hrl : rs.length ≤ 65536) (hcl : cs.length ≤ 65536) :
    Ret Try.prog 71 [m.v, .slice p.1 rs.length p.2, .slice q.1 cs.length q.2] w0 S Mt.v (fun x w => x.fr w ∧ x.al K ∧ x.zs = rs.map fun a => cs.map fun b => ent m.zs a b) := by
  refine ret_of Try.func71 rfl Try.ntmps71 rfl ?_
  refine tr_rseq ?_
  refine sq_q (qt_assign rfl) rfl ?_
  refine sq_end ?_
  refine tr_rseq ?_
  refine sq_q (qt_assign rfl) rfl ?_
  refine sq_end ?_
  refine tr_seq ?_
  refine tr_rseq ?_
  refine sq_q (qt_move rfl) rfl ?_
  refine sq_q (qt_len rfl) rfl ?_
  refine sq_q (qt_move rfl) rfl ?_
  refine sq_end ?_
  refine tr_block ?_
  refine tr_loop2 (fun (done : List Rw) (g : Gr) => done.length ≤ rs.length ∧ done.map Rw.zs = ((rs.take done.length).map fun a => cs.map fun b => ent m.zs a b) ∧ (∀ r ∈ done, ∀ z ∈ r.l, K z) ∧ grOk 1 done.length (done.map Rw.v) g) (fun done g => [(0, m.v), (2, .slice q.1 cs.length q.2), (7, grV done.length g), (13, .slice p.1 rs.length p.2), (14, .int .i64 (rs.length : Int)), (15, .int .i64 (done.length : Int))]) (fun done g => grO 44 (done.map Rw.v) g) (fun done g w => ∀ r ∈ done, Rd r.p.1 (zcs r.l) w ∧ r.l.length ≤ r.p.2) (fun done g => rs.length - done.length) [] none ⟨Nat.zero_le _, rfl, by simp, rfl, rfl⟩ ⟨rfl, rfl, rfl, rfl, rfl, rfl, trivial⟩ rfl (fun _ _ => by simp) ?_
  rintro done g ⟨hle, hzs, hcan, hok⟩
  refine tr_rseq ?_
  refine sq_q (qt_bin rfl rfl bin_lss) rfl ?_
  refine sq_end ?_
  refine tr_seq ?_
  refine tr_if rfl (fun hc => ?_) (fun hc => ?_)
  ·
    have hlt : done.length < rs.length := by have := of_decide_eq_true hc; omega
    obtain ⟨a, ha⟩ : ∃ a, a = rs[done.length] := ⟨_, rfl⟩
    have ham : a < m.rs.length := hrs a (by rw [ha]; exact List.getElem_mem hlt)
    have hga : (ints rs)[done.length]? = some (.int .i64 (a : Int)) := by simp [ints, hlt, ha]
    obtain ⟨rp, op, ep, hatp⟩ := hp.at_ hga
    obtain ⟨ro, oo, evm, hat⟩ := hm.at_ (show 0 < m.rs.length by omega)
    refine tr_sub [(0, .slice (some ⟨ro, oo, none⟩) m.rs.length m.p.2), (2, .slice q.1 cs.length q.2), (7, grV done.length g), (13, .slice (some ⟨rp, op, none⟩) rs.length p.2), (14, .int .i64 (rs.length : Int)), (15, .int .i64 (done.length : Int))] ⟨congrArg some evm, rfl, rfl, by show some (Value.slice p.1 rs.length p.2) = _; rw [ep], rfl, rfl, trivial⟩ ?_
    refine tr_skip ?_
    repeat with_reducible first | refine tr_skip ?_ | refine tr_exit ?_ | refine tr_then ?_ | refine tr_inX ?_ | refine tr_thenX ?_ | refine tr_inN ?_ | refine tr_inR ?_ | refine tr_thenR ?_
    refine tr_seq ?_
    refine tr_block ?_
    refine tr_rseq ?_
    refine sq_q (qt_index (i := done.length) rfl rfl hlt) rfl ?_
    refine sq_q (qt_load rfl (fun w t => t.a1 hatp)) rfl ?_
    refine sq_q (qt_assign rfl) rfl ?_
    refine sq_end ?_
    refine tr_rseq ?_
    refine sq_q (qt_assign rfl) rfl ?_
    refine sq_end ?_
    refine tr_seq ?_
    refine tr_rseq ?_
    refine sq_q (qt_move rfl) rfl ?_
    refine sq_q (qt_len rfl) rfl ?_
    refine sq_q (qt_move rfl) rfl ?_
    refine sq_end ?_
    refine tr_block ?_
    refine tr_own (grO 35 (zcs []) none ++ grO 44 (done.map Rw.v) g) rfl ?_
    refine tr_loop2 (fun (zs : List Zd) (h : Gr) => zs.length ≤ cs.length ∧ zs.map Zd.z = ((cs.take zs.length).map fun b => ent m.zs a b) ∧ (∀ z ∈ zs, K z) ∧ grOk 2 zs.length (zcs zs) h) (fun zs h => [(0, .slice (some ⟨ro, oo, none⟩) m.rs.length m.p.2), (2, .slice q.1 cs.length q.2), (7, grV done.length g), (9, .int .i64 (a : Int)), (10, grV zs.length h), (13, .slice (some ⟨rp, op, none⟩) rs.length p.2), (14, .int .i64 (rs.length : Int)), (15, .int .i64 (done.length : Int)), (19, .slice q.1 cs.length q.2), (20, .int .i64 (cs.length : Int)), (21, .int .i64 (zs.length : Int))]) (fun zs h => grO 35 (zcs zs) h ++ grO 44 (done.map Rw.v) g) (fun zs h w => ∀ r ∈ done, Rd r.p.1 (zcs r.l) w ∧ r.l.length ≤ r.p.2) (fun zs h => cs.length - zs.length) [] none ⟨Nat.zero_le _, rfl, by simp, rfl, rfl⟩ ⟨rfl, rfl, rfl, rfl, rfl, rfl, rfl, rfl, rfl, rfl, rfl, trivial⟩ rfl (fun _ h => h) ?_
    rintro zs h ⟨hle2, hzs2, hcan2, hok2⟩
    refine tr_rseq ?_
    refine sq_q (qt_bin rfl rfl bin_lss) rfl ?_
    refine sq_end ?_
    refine tr_seq ?_
    refine tr_if rfl (fun hc => ?_) (fun hc => ?_)
    ·
      have hlt2 : zs.length < cs.length := by have := of_decide_eq_true hc; omega
      obtain ⟨b, hb⟩ : ∃ b, b = cs[zs.length] := ⟨_, rfl⟩
      have hbm : b < m.rs[a].l.length := hcs _ (List.getElem_mem ham) b (by rw [hb]; exact List.getElem_mem hlt2)
      have hgb : (ints cs)[zs.length]? = some (.int .i64 (b : Int)) := by simp [ints, hlt2, hb]
      obtain ⟨rq, oq, eq, hatq⟩ := hq.at_ hgb
      obtain ⟨rr, orr, evr, hatr⟩ := (hm.2.2 _ (List.getElem_mem ham)).at_ (show 0 < m.rs[a].l.length by omega)
      have hrw := hat a ham
      rw [evr] at hrw
      obtain ⟨hz0, hz1⟩ := hatr b hbm
      have hzc := hK _ (List.getElem_mem ham) _ (List.getElem_mem hbm)
      have hze : m.rs[a].l[b].z = ent m.zs a b := (mt_ent ham hbm).symm
      obtain ⟨z, hzz⟩ : ∃ z, z = m.rs[a].l[b] := ⟨_, rfl⟩
      rw [← hzz] at hz0 hz1 hzc hze
      refine tr_sub [(0, .slice (some ⟨ro, oo, none⟩) m.rs.length m.p.2), (2, .slice q.1 cs.length q.2), (7, grV done.length g), (9, .int .i64 (a : Int)), (10, grV zs.length h), (13, .slice (some ⟨rp, op, none⟩) rs.length p.2), (14, .int .i64 (rs.length : Int)), (15, .int .i64 (done.length : Int)), (19, .slice (some ⟨rq, oq, none⟩) cs.length q.2), (20, .int .i64 (cs.length : Int)), (21, .int .i64 (zs.length : Int))] ⟨rfl, rfl, rfl, rfl, rfl, rfl, rfl, rfl, by show some (Value.slice q.1 cs.length q.2) = _; rw [eq], rfl, rfl, trivial⟩ ?_
      refine tr_skip ?_
      repeat with_reducible first | refine tr_skip ?_ | refine tr_exit ?_ | refine tr_then ?_ | refine tr_inX ?_ | refine tr_thenX ?_ | refine tr_inN ?_ | refine tr_inR ?_ | refine tr_thenR ?_
      refine tr_seq ?_
      refine tr_block ?_
      refine tr_rseq ?_
      refine sq_q (qt_index (i := zs.length) rfl rfl hlt2) rfl ?_
      refine sq_q (qt_load rfl (fun w t => t.a1 hatq)) rfl ?_
      refine sq_q (qt_assign rfl) rfl ?_
      refine sq_end ?_
      refine tr_region ?_
      refine sq_q (qt_move rfl) rfl ?_
      refine sq_q (qt_move rfl) rfl ?_
      refine sq_q (qt_move rfl) rfl ?_
      refine sq_q (qt_index (i := a) rfl rfl ham) rfl ?_
      refine sq_q (qt_load rfl (fun w t => t.a1 hrw)) rfl ?_
      refine sq_q (qt_move rfl) rfl ?_
      refine sq_q (qt_index (i := b) rfl rfl hbm) rfl ?_
      refine sq_q (qt_load2 rfl (fun w t => t.atA hz0) (fun w t => t.atA hz1)) rfl ?_
      refine sq_lit (vs := [(0, .agg #[.bool z.n, slv z.xs z.p])]) (cells := zcs [z]) rfl rfl rfl (by simp [Instr.fill, Value.cells, zcs, Zd.cs, show Array.range 2 = #[0, 1] from by decide]) rfl fun r33 => ?_
      refine sq_grow (p := h) (k := zs.length) (m := 1) (xs := zcs zs) (news := zcs [z]) (own' := grO 44 (done.map Rw.v) g) rfl rfl hok2 rfl (by omega) (by omega) (by omega) rfl rfl rfl rfl fun h' hok' => ?_
      refine sq_q (qt_assign rfl) rfl ?_
      refine sq_nil ?_
      repeat with_reducible first | refine tr_skip ?_ | refine tr_exit ?_ | refine tr_then ?_ | refine tr_inX ?_ | refine tr_thenX ?_ | refine tr_inN ?_ | refine tr_inR ?_ | refine tr_thenR ?_
      refine tr_region ?_
      refine sq_q (qt_bin rfl rfl (bin_addI (by omega) (by omega))) rfl ?_
      refine sq_q (qt_move rfl) rfl ?_
      refine sq_nil ?_
      repeat with_reducible first | refine tr_skip ?_ | refine tr_exit ?_ | refine tr_then ?_ | refine tr_inX ?_ | refine tr_thenX ?_ | refine tr_inN ?_ | refine tr_inR ?_ | refine tr_thenR ?_
      have e3 : (zs ++ [z]).length = zs.length + 1 := by simp
      refine tr_round2 (zs ++ [z]) h' ⟨by omega, ?_, ?_, ?_⟩ (by omega) ⟨rfl, rfl, rfl, rfl, by rw [e3]; rfl, rfl, rfl, rfl, by rw [eq]; rfl, rfl, by rw [e3]; rfl, trivial⟩ (by rw [zcs_append]) (fun w hh => hh)
      · rw [e3, List.take_succ_eq_append_getElem hlt2, List.map_append, List.map_append, hzs2, ← hb]
        simp [hze]
      · intro z' hz'
        rcases List.mem_append.1 hz' with h1 | h1
        · exact hcan2 z' h1
        · rw [List.mem_singleton.1 h1]; exact hzc
      · rw [e3, zcs_append]; exact hok'
    ·
      have hze : zs.length = cs.length := by have := of_decide_eq_false hc; omega
      refine tr_exit ?_
      repeat with_reducible first | refine tr_skip ?_ | refine tr_exit ?_ | refine tr_then ?_ | refine tr_inX ?_ | refine tr_thenX ?_ | refine tr_inN ?_ | refine tr_inR ?_ | refine tr_thenR ?_
      refine tr_retireG hok2 ?_
      refine tr_sub [(0, .slice (some ⟨ro, oo, none⟩) m.rs.length m.p.2), (2, .slice q.1 cs.length q.2), (7, grV done.length g), (10, Rw.v ⟨zs, grP h⟩), (13, .slice (some ⟨rp, op, none⟩) rs.length p.2), (14, .int .i64 (rs.length : Int)), (15, .int .i64 (done.length : Int))] ⟨rfl, rfl, rfl, congrArg some (grP_v hok2), rfl, rfl, rfl, trivial⟩ ?_
      refine tr_region ?_
      refine sq_q (qt_move rfl) rfl ?_
      refine sq_q (qt_move rfl) rfl ?_
      refine sq_lit (vs := [(0, Rw.v ⟨zs, grP h⟩)]) (cells := [Rw.v ⟨zs, grP h⟩]) rfl rfl rfl (by simp [Instr.fill, Value.cells, Rw.v, show Array.range 1 = #[0] from by decide]) rfl fun r38 => ?_
      refine sq_own ((r38, .cells [Rw.v ⟨zs, grP h⟩].toArray 44 (0, 0)) :: (grO 44 (done.map Rw.v) g ++ [])) (by rw [List.append_nil]) ?_
      refine sq_grow (p := g) (k := done.length) (m := 1) (xs := done.map Rw.v) (news := [Rw.v ⟨zs, grP h⟩]) (own' := []) rfl rfl hok rfl (by omega) (by omega) (by omega) rfl rfl rfl rfl fun g' hok' => ?_
      rw [List.append_nil]
      refine sq_q (qt_assign rfl) rfl ?_
      refine sq_nil ?_
      repeat with_reducible first | refine tr_skip ?_ | refine tr_exit ?_ | refine tr_then ?_ | refine tr_inX ?_ | refine tr_thenX ?_ | refine tr_inN ?_ | refine tr_inR ?_ | refine tr_thenR ?_
      refine tr_region ?_
      refine sq_q (qt_bin rfl rfl (bin_addI (by omega) (by omega))) rfl ?_
      refine sq_q (qt_move rfl) rfl ?_
      refine sq_nil ?_
      repeat with_reducible first | refine tr_skip ?_ | refine tr_exit ?_ | refine tr_then ?_ | refine tr_inX ?_ | refine tr_thenX ?_ | refine tr_inN ?_ | refine tr_inR ?_ | refine tr_thenR ?_
      have e3 : (done ++ [Rw.mk zs (grP h)]).length = done.length + 1 := by simp
      refine tr_have (p := zs.length ≤ (grP h).2) (fun w t => by
        match h, hok2 with
        | none, h3 => rw [h3.1]; exact Nat.zero_le _
        | some (g0, c0, sl0), h3 => exact h3.1) fun hcap => ?_
      refine tr_round2 (done ++ [⟨zs, grP h⟩]) g' ⟨by omega, ?_, ?_, ?_⟩ (by omega) ⟨congrArg some evm.symm, rfl, by rw [e3]; rfl, by rw [ep]; rfl, rfl, by rw [e3]; rfl, trivial⟩ (by rw [List.map_append]; rfl) (fun w hh r hr => ?_)
      · rw [e3, List.take_succ_eq_append_getElem hlt, List.map_append, List.map_append, hzs, ← ha]
        congr 1
        show [zs.map Zd.z] = _
        rw [hzs2, hze, List.take_length]
        rfl
      · intro r hr
        rcases List.mem_append.1 hr with h1 | h1
        · exact hcan r h1
        · rw [List.mem_singleton.1 h1]; exact hcan2
      · rw [e3, List.map_append]; exact hok'
      · rcases List.mem_append.1 hr with h1 | h1
        · exact hh.1 _ h1
        · rw [List.mem_singleton.1 h1]; exact ⟨hh.2, hcap⟩
  ·
    have hlr : done.length = rs.length := by have := of_decide_eq_false hc; omega
    refine tr_exit ?_
    repeat with_reducible first | refine tr_skip ?_ | refine tr_exit ?_ | refine tr_then ?_ | refine tr_inX ?_ | refine tr_thenX ?_ | refine tr_inN ?_ | refine tr_inR ?_ | refine tr_thenR ?_
    refine tr_rseq ?_
    refine sq_q (qt_move rfl) rfl ?_
    refine sq_q (qt_assign rfl) rfl ?_
    refine sq_end ?_
    refine tr_ret ?_
    repeat with_reducible first | refine tr_skip ?_ | refine tr_exit ?_ | refine tr_then ?_ | refine tr_inX ?_ | refine tr_thenX ?_ | refine tr_inN ?_ | refine tr_inR ?_ | refine tr_thenR ?_
    refine tr_done ⟨done, grP g⟩ (fun a w s t => results_1 rfl (resv_tmp s (by show some (grV done.length g) = some (Mt.v ⟨done, grP g⟩); rw [grP_v hok]; rfl))) (fun w h ho _ => ⟨⟨(grP_rd hok ho).1, (grP_rd hok ho).2, h⟩, hcan, ?_⟩)
    show done.map Rw.zs = _
    rw [hzs, hlr, List.take_length]
end Go.Qk
end
section
set_option linter.unusedVariables false
namespace Go.Qk
open Go Go.Proofs Go.RowKit
def rsqV (o : Option (Nat × Nat)) : Value := .tuple #[.int .i64 (((if sqb o = true then (o.getD (0, 0)).1 else 0 : Nat)) : Int), .bool (sqb o)]
end Go.Qk
end
section
set_option linter.unusedVariables false
namespace Go.Qk
open Go Go.Proofs Go.RowKit
set_option maxRecDepth 100000
set_option maxHeartbeats 4000000
theorem rsquare_ret (m : Mt) (B : Nat) (w0 : World) (S : Nat → Prop) (hm : m.ok B w0) (hlen : m.rs.length ≤ 35184372088832) (hrow : ∀ r ∈ m.rs, r.l.length ≤ 35184372088832) :
    Ret Try.prog 35 [m.v] w0 S (fun _ : Unit => rsqV (shp m.zs)) (fun _ _ => True) := by
  obtain ⟨o, ho⟩ : ∃ o, o = shp m.zs := ⟨_, rfl⟩
  rw [← ho]
  refine ret_of Try.func35 rfl Try.ntmps35 rfl ?_
  refine tr_rseq ?_
  refine sq_q (qt_assign rfl) rfl ?_
  refine sq_q (qt_assign rfl) rfl ?_
  refine sq_end ?_
  refine tr_rseq ?_
  refine sq_q (qt_move rfl) rfl ?_
  refine sq_call (val := fun _ : Unit => shpV o) (F := fun _ _ => True) rfl rfl rfl (fun w t => by rw [ho]; exact rshape_ret m B w _ (t.mt hm) hlen hrow) fun _ => ?_
  refine sq_q (qt_move rfl) rfl ?_
  refine sq_q (qt_extract rfl rfl) rfl ?_
  refine sq_q (qt_extract rfl rfl) rfl ?_
  refine sq_q (qt_extract rfl rfl) rfl ?_
  refine sq_q (qt_assign rfl) rfl ?_
  refine sq_q (qt_assign rfl) rfl ?_
  refine sq_q (qt_assign rfl) rfl ?_
  refine sq_end ?_
  refine tr_seq ?_
  clear ho
  have hcs : o = none ∨ (∃ r c, o = some (r, c) ∧ r ≠ c) ∨ (∃ r, o = some (r, r)) := by
    cases o with
    | none => exact .inl rfl
    | some x =>
      obtain ⟨r, c⟩ := x
      by_cases h : r = c
      · subst h; exact .inr (.inr ⟨_, rfl⟩)
      · exact .inr (.inl ⟨_, _, rfl, h⟩)
  rcases hcs with rfl | ⟨r, c, rfl, hne⟩ | ⟨r, rfl⟩
  ·
    refine tr_rseq ?_
    refine sq_q (qt_move rfl) rfl ?_
    refine sq_q (qt_not rfl) rfl ?_
    refine sq_q (qt_move rfl) rfl ?_
    refine sq_gF rfl rfl rfl rfl ?_
    refine sq_gF rfl rfl rfl rfl ?_
    refine sq_gF rfl rfl rfl rfl ?_
    refine sq_q (qt_pick rfl rfl) rfl ?_
    refine sq_end ?_
    refine tr_ifT rfl ?_
    refine tr_rseq ?_
    refine sq_q (qt_assign rfl) rfl ?_
    refine sq_q (qt_assign rfl) rfl ?_
    refine sq_end ?_
    refine tr_ret ?_
    repeat with_reducible first | refine tr_skip ?_ | refine tr_exit ?_ | refine tr_then ?_ | refine tr_inX ?_ | refine tr_thenX ?_ | refine tr_inN ?_ | refine tr_inR ?_ | refine tr_thenR ?_
    exact tr_done () (fun a w s t => results_2 rfl (resv_tmp s rfl) (resv_tmp s rfl)) (fun w _ _ _ => trivial)
  ·
    have hsb : sqb (some (r, c)) = false := by unfold sqb; exact decide_eq_false (by dsimp only; omega)
    refine tr_rseq ?_
    refine sq_q (qt_move rfl) rfl ?_
    refine sq_q (qt_not rfl) rfl ?_
    refine sq_q (qt_move rfl) rfl ?_
    refine sq_gT rfl rfl ?_
    refine sq_q (qt_move rfl) rfl ?_
    refine sq_gT rfl rfl ?_
    refine sq_q (qt_move rfl) rfl ?_
    refine sq_gT rfl rfl ?_
    refine sq_q (qt_bin rfl rfl (bT bin_neq (by simp only [Option.getD_some]; omega))) rfl ?_
    refine sq_q (qt_pick rfl rfl) rfl ?_
    refine sq_end ?_
    refine tr_ifT rfl ?_
    refine tr_rseq ?_
    refine sq_q (qt_assign rfl) rfl ?_
    refine sq_q (qt_assign rfl) rfl ?_
    refine sq_end ?_
    refine tr_ret ?_
    repeat with_reducible first | refine tr_skip ?_ | refine tr_exit ?_ | refine tr_then ?_ | refine tr_inX ?_ | refine tr_thenX ?_ | refine tr_inN ?_ | refine tr_inR ?_ | refine tr_thenR ?_
    exact tr_done () (fun a w s t => results_2 rfl (resv_tmp s (by rw [hsb]; rfl)) (resv_tmp s (by rw [hsb]; rfl))) (fun w _ _ _ => trivial)
  ·
    have hsb : sqb (some (r, r)) = true := by unfold sqb; exact decide_eq_true rfl
    refine tr_rseq ?_
    refine sq_q (qt_move rfl) rfl ?_
    refine sq_q (qt_not rfl) rfl ?_
    refine sq_q (qt_move rfl) rfl ?_
    refine sq_gT rfl rfl ?_
    refine sq_q (qt_move rfl) rfl ?_
    refine sq_gT rfl rfl ?_
    refine sq_q (qt_move rfl) rfl ?_
    refine sq_gT rfl rfl ?_
    refine sq_q (qt_bin rfl rfl (bF bin_neq (by simp))) rfl ?_
    refine sq_q (qt_pick rfl rfl) rfl ?_
    refine sq_end ?_
    refine tr_ifF rfl ?_
    refine tr_skip ?_
    repeat with_reducible first | refine tr_skip ?_ | refine tr_exit ?_ | refine tr_then ?_ | refine tr_inX ?_ | refine tr_thenX ?_ | refine tr_inN ?_ | refine tr_inR ?_ | refine tr_thenR ?_
    refine tr_rseq ?_
    refine sq_q (qt_move rfl) rfl ?_
    refine sq_q (qt_assign rfl) rfl ?_
    refine sq_q (qt_assign rfl) rfl ?_
    refine sq_end ?_
    refine tr_ret ?_
    repeat with_reducible first | refine tr_skip ?_ | refine tr_exit ?_ | refine tr_then ?_ | refine tr_inX ?_ | refine tr_thenX ?_ | refine tr_inN ?_ | refine tr_inR ?_ | refine tr_thenR ?_
    exact tr_done () (fun a w s t => results_2 rfl (resv_tmp s (by rw [hsb]; rfl)) (resv_tmp s (by rw [hsb]; rfl))) (fun w _ _ _ => trivial)
theorem rdet_ret (m : Mt) (B : Nat) (w0 : World) (S : Nat → Prop) (hm : m.ok B w0) (hB : B ≤ 8388607) (hB1 : 1 ≤ B) (hlen : m.rs.length ≤ 35184372088832) (hrow : ∀ r ∈ m.rs, r.l.length ≤ 35184372088832) :
    Ret Try.prog 27 [m.v] w0 S (optZV (detO m.zs)) (optZF (detO m.zs)) := by
  refine ret_of Try.func27 rfl Try.ntmps27 rfl ?_
  refine tr_rseq ?_
  refine sq_alloc rfl fun r2 => ?_
  refine sq_q (qt_assign rfl) rfl ?_
  refine sq_end ?_
  refine tr_seq ?_
  refine tr_rseq ?_
  refine sq_q (qt_move rfl) rfl ?_
  refine sq_call (val := fun _ : Unit => rsqV (shp m.zs)) (F := fun _ _ => True) rfl rfl rfl (fun w t => rsquare_ret m B w _ (t.mt hm) hlen hrow) fun _ => ?_
  refine sq_q (qt_move rfl) rfl ?_
  refine sq_q (qt_extract rfl rfl) rfl ?_
  refine sq_q (qt_extract rfl rfl) rfl ?_
  refine sq_q (qt_assign rfl) rfl ?_
  refine sq_q (qt_assign rfl) rfl ?_
  refine sq_end ?_
  refine tr_rseq ?_
  refine sq_q (qt_move rfl) rfl ?_
  refine sq_q (qt_not rfl) rfl ?_
  refine sq_end ?_
  refine tr_if rfl (fun hc => ?_) (fun hc => ?_)
  ·
    have hs : sqb (shp m.zs) = false := by simpa using hc
    have e : detO m.zs = none := by unfold detO; rw [if_neg (by rw [hs]; decide)]
    rw [e]
    refine tr_rseq ?_
    refine sq_q (qt_build rfl built0) rfl ?_
    refine sq_store 0 rfl rfl rfl rfl (by first | (simp [u32s, Value.cells]; done) | (simp [u32s, Value.cells]; omega) | exact Nat.le_refl 2) rfl rfl ?_
    refine sq_q (qt_assign rfl) rfl ?_
    refine sq_end ?_
    refine tr_ret ?_
    repeat with_reducible first | refine tr_skip ?_ | refine tr_exit ?_ | refine tr_then ?_ | refine tr_inX ?_ | refine tr_thenX ?_ | refine tr_inN ?_ | refine tr_inR ?_ | refine tr_thenR ?_
    exact tr_done (none, 0) (fun a w s t => results_2 rfl (by show ResV _ _ _ _ (iv 0 (none, 0)); rw [iv_zero]; exact resv_cell 0 s t rfl rfl rfl) (resv_tmp s rfl)) (fun w _ _ _ => optZF_none)
  ·
    have hs : sqb (shp m.zs) = true := by simpa using hc
    have e : detO m.zs = some (bdet m.rs.length (ent m.zs)) := by unfold detO; rw [if_pos hs, m.zs_len]
    rw [e]
    obtain ⟨h1, h2, h3⟩ := sqr_rows hs
    refine tr_skip ?_
    repeat with_reducible first | refine tr_skip ?_ | refine tr_exit ?_ | refine tr_then ?_ | refine tr_inX ?_ | refine tr_thenX ?_ | refine tr_inN ?_ | refine tr_inR ?_ | refine tr_thenR ?_
    refine tr_rseq ?_
    refine sq_q (qt_move rfl) rfl ?_
    refine sq_call (iv (bdet m.rs.length (ent m.zs))) (optZF (some (bdet m.rs.length (ent m.zs)))) rfl rfl rfl (fun w t => rdeterminant_ret m B m.rs.length w _ (t.mt hm) hB hB1 rfl h2 h3) fun x => ?_
    refine sq_store 0 rfl rfl rfl rfl (by first | (simp [u32s, Value.cells]; done) | (simp [u32s, Value.cells]; omega) | exact Nat.le_refl 2) rfl rfl ?_
    refine sq_q (qt_assign rfl) rfl ?_
    refine sq_end ?_
    refine tr_ret ?_
    repeat with_reducible first | refine tr_skip ?_ | refine tr_exit ?_ | refine tr_then ?_ | refine tr_inX ?_ | refine tr_thenX ?_ | refine tr_inN ?_ | refine tr_inR ?_ | refine tr_thenR ?_
    exact tr_done x (fun a w s t => results_2 rfl (resv_cell 0 s t rfl rfl rfl) (resv_tmp s rfl)) (fun w h _ _ => h.2)
end Go.Qk
end
section
set_option linter.unusedVariables false
namespace Go.Qk
open Go Go.Proofs Go.RowKit
theorem gd_lens {gx : Gd} {m : Mt} {k : Nat} (h : m.zs = gx.zs k) (h1 : 1 ≤ k) (hk : k ≤ 16) : m.rs.length ≤ 35184372088832 ∧ ∀ r ∈ m.rs, r.l.length ≤ 35184372088832 := by
  obtain ⟨a, b⟩ := gx.lens k (n := 16) h1 hk (by omega)
  obtain ⟨c, d⟩ := lens_of h 16 a b
  exact ⟨by omega, fun r hr => by have := d r hr; omega⟩
section
variable {P : Program} {t : TypeId}
end
end Go.Qk
end
section
set_option linter.unusedVariables false
namespace Go.Qk
open Go Go.Proofs Go.RowKit
/-- an entry of the adjugate: the minor without row j and column i, with its sign -/
def adjG (n : Nat) (g : Mf) (i j : Nat) : Int := sg (i + j) * lap (n - 1) (dl g j i)
theorem wo_oth (n i : Nat) : wo n (i : Int) = oth n i := by
  unfold wo oth
  refine List.filter_congr fun k _ => ?_
  by_cases h : k = i
  · subst h; simp
  · have : ¬ ((k : Int) = (i : Int)) := by omega
    simp [h, this]
theorem othI_at {k j : Nat} (h : j < k + 1) : othI (k + 1) j = (List.range k).map fun b => ((sk j b : Nat) : Int) := by
  unfold othI
  rw [← wo_oth, wo_at h, List.map_map]
  rfl
theorem sk_mono (j b : Nat) : sk j b < sk j (b + 1) := by unfold sk; (repeat' split) <;> omega
theorem asc_othI {k j : Nat} (h : j < k + 1) (hk : 1 ≤ k) : ascB ((k + 1 : Nat) : Int) (othI (k + 1) j) = true := by
  rw [othI_at h, ascB_all]
  · exact decide_eq_true (by simp; omega)
  · intro i hi
    have hi : i < k := by simpa using hi
    unfold ascAt
    have e : ∀ a, a < k → ((List.range k).map fun b => ((sk j b : Nat) : Int)).getD a 0 = ((sk j a : Nat) : Int) := fun a ha => by simp [List.getD, ha]
    rw [e i hi]
    have h1 := sk_lt (j := j) hi
    rw [decide_eq_true (show (0 : Int) ≤ ((sk j i : Nat) : Int) by omega), decide_eq_true (show ((sk j i : Nat) : Int) < ((k + 1 : Nat) : Int) by omega), Bool.true_and, Bool.true_and]
    by_cases h0 : i = 0
    · simp [h0]
    · rw [e (i - 1) (by omega), decide_eq_true (show ((sk j (i - 1) : Nat) : Int) < ((sk j i : Nat) : Int) by
        have := sk_mono j (i - 1)
        rw [show i - 1 + 1 = i by omega] at this
        omega), Bool.or_true]
theorem minor_oth {L : List (List Int)} {k i j : Nat} (hs : shp L = some (k + 1, k + 1)) (hi : i < k + 1) (hj : j < k + 1) (hk : 1 ≤ k) : minorO L (othI (k + 1) j) (othI (k + 1) i) = some (lap k (dl (ent L) j i)) := by
  unfold minorO
  rw [hs]
  have hl : ∀ a, a < k + 1 → (othI (k + 1) a).length = k := fun a ha => by rw [othI_at ha]; simp
  show (if _ then _ else _) = _
  rw [if_pos ⟨by rw [hl i hi, hl j hj], asc_othI hj hk, asc_othI hi hk⟩, hl i hi, hl j hj, bdet_lap]
  congr 1
  refine lap_congr fun a b ha hb => ?_
  rw [ent_grid ha hb]
  unfold sel dl
  rw [othI_at hi, othI_at hj]
  simp [List.getD, ha, hb]
theorem sqb_shp {L : List (List Int)} (h : sqb (shp L) = true) : ∃ k, L.length = k + 1 ∧ k + 1 ≤ 16 ∧ shp L = some (k + 1, k + 1) := by
  cases hs : shp L with
  | none => rw [hs] at h; simp [sqb] at h
  | some rc =>
    obtain ⟨r, c⟩ := rc
    rw [hs] at h
    have hrc : r = c := by simp [sqb] at h; omega
    subst hrc
    obtain ⟨h1, h2, h3, _⟩ := shp_inv hs
    exact ⟨r - 1, by omega, by omega, by rw [show r - 1 + 1 = r by omega]⟩
theorem adjE_lap {L : List (List Int)} {k i j : Nat} (hs : shp L = some (k + 1, k + 1)) (hi : i < k + 1) (hj : j < k + 1) (hk : 1 ≤ k) : adjE L (k + 1) i j = adjG (k + 1) (ent L) i j := by
  unfold adjE adjG
  rw [minor_oth hs hi hj hk]
  unfold sg
  simp only [Option.getD_some, Nat.add_sub_cancel]
  split <;> omega
theorem adjO_lap {L : List (List Int)} (h : sqb (shp L) = true) : adjO L = some (grid (adjG L.length (ent L)) L.length L.length) := by
  obtain ⟨k, hl, _, hs⟩ := sqb_shp h
  unfold adjO
  rw [if_pos h, hl]
  by_cases hk : k = 0
  · subst hk
    rw [if_pos rfl]
    unfold identO
    rw [if_pos (by decide)]
    rfl
  · rw [if_neg (by omega)]
    congr 1
    unfold grid
    exact List.map_congr_left fun a ha => List.map_congr_left fun b hb => adjE_lap hs (List.mem_range.1 ha) (List.mem_range.1 hb) (by omega)
/-- the rows and columns that the reference picks -/
theorem pick_grid (L : List (List Int)) {k i j : Nat} (hi : i < k + 1) (hj : j < k + 1) : ((wo (k + 1) (j : Int)).map fun a => (wo (k + 1) (i : Int)).map fun b => ent L a b) = grid (fun a b => dl (ent L) j i a b) k k := by
  rw [wo_at hi, wo_at hj, List.map_map]
  unfold grid
  refine List.map_congr_left fun a _ => ?_
  show (List.map _ (List.map _ _)) = _
  rw [List.map_map]
  rfl
end Go.Qk
end
section
set_option linter.unusedVariables false
namespace Go.Qk
open Go Go.Proofs Go.RowKit
set_option maxRecDepth 100000
set_option maxHeartbeats 4000000
theorem radjugate_ret (m : Mt) (B : Nat) (w0 : World) (S : Nat → Prop) (hm : m.ok B w0) (hB : B ≤ 8388607) (hB1 : 1 ≤ B) (hlen : m.rs.length ≤ 35184372088832) (hrow : ∀ r ∈ m.rs, r.l.length ≤ 35184372088832) :
    Ret Try.prog 34 [m.v] w0 S (optV (adjO m.zs)) (optF 549755813887 (adjO m.zs)) := by
  obtain ⟨n, hn⟩ : ∃ n : Nat, n = (if sqb (shp m.zs) = true then ((shp m.zs).getD (0, 0)).1 else 0) := ⟨_, rfl⟩
  obtain ⟨sq, hsq⟩ : ∃ sq, sq = sqb (shp m.zs) := ⟨_, rfl⟩
  refine ret_of Try.func34 rfl Try.ntmps34 rfl ?_
  refine tr_rseq ?_
  refine sq_q (qt_assign rfl) rfl ?_
  refine sq_q (qt_assign rfl) rfl ?_
  refine sq_end ?_
  refine tr_rseq ?_
  refine sq_q (qt_move rfl) rfl ?_
  refine sq_call (val := fun _ : Unit => .tuple #[.int .i64 (n : Int), .bool sq]) (F := fun _ _ => True) rfl rfl rfl (fun w t => by rw [hn, hsq]; exact rsquare_ret m B w _ (t.mt hm) hlen hrow) fun _ => ?_
  refine sq_q (qt_move rfl) rfl ?_
  refine sq_q (qt_extract rfl rfl) rfl ?_
  refine sq_q (qt_extract rfl rfl) rfl ?_
  refine sq_q (qt_assign rfl) rfl ?_
  refine sq_q (qt_assign rfl) rfl ?_
  refine sq_end ?_
  refine tr_seq ?_
  refine tr_rseq ?_
  refine sq_q (qt_move rfl) rfl ?_
  refine sq_q (qt_not rfl) rfl ?_
  refine sq_end ?_
  refine tr_if rfl (fun hc => ?_) (fun hc => ?_)
  ·
    have hs : sqb (shp m.zs) = false := by rw [← hsq]; simpa using hc
    have e : adjO m.zs = none := by unfold adjO; rw [if_neg (by rw [hs]; decide)]
    rw [e]
    refine tr_rseq ?_
    refine sq_q (qt_assign rfl) rfl ?_
    refine sq_q (qt_assign rfl) rfl ?_
    refine sq_end ?_
    refine tr_ret ?_
    repeat with_reducible first | refine tr_skip ?_ | refine tr_exit ?_ | refine tr_then ?_ | refine tr_inX ?_ | refine tr_thenX ?_ | refine tr_inN ?_ | refine tr_inR ?_ | refine tr_thenR ?_
    exact tr_done ⟨[], (none, 0)⟩ (fun a w s t => results_2 rfl (resv_tmp s rfl) (resv_tmp s rfl)) (fun w _ _ _ => optF_none _ _)
  ·
    have hs : sqb (shp m.zs) = true := by rw [← hsq]; simpa using hc
    obtain ⟨h1, h2, h3⟩ := sqr_rows hs
    obtain ⟨k, hk1, hk2, hk3⟩ := sqb_shp hs
    rw [m.zs_len] at hk1
    have hnk : n = k + 1 := by rw [hn, if_pos hs, hk3]; rfl
    rw [adjO_lap hs, m.zs_len, hk1]
    rw [hnk]
    clear hn hnk n
    obtain ⟨G, hG0⟩ : ∃ G, G = adjG (k + 1) (ent m.zs) := ⟨_, rfl⟩
    rw [← hG0]
    refine tr_skip ?_
    repeat with_reducible first | refine tr_skip ?_ | refine tr_exit ?_ | refine tr_then ?_ | refine tr_inX ?_ | refine tr_thenX ?_ | refine tr_inN ?_ | refine tr_inR ?_ | refine tr_thenR ?_
    refine tr_rseq ?_
    refine sq_q (qt_move rfl) rfl ?_
    refine sq_q (qt_move rfl) rfl ?_
    refine sq_call (fun x : Nat × List Wr => .slice (some ⟨x.1, 0, none⟩) (k + 1) (k + 1)) (fun x w' => Fresh w0.heap.size (mown x.1 x.2) w' ∧ x.2.map (·.2) = List.replicate (k + 1) (List.replicate (k + 1) z0)) rfl rfl rfl (fun w t => zero_call t (k + 1) (k + 1) (by omega) (by omega)) fun x => ?_
    refine sq_q (qt_assign rfl) rfl ?_
    refine sq_end ?_
    obtain ⟨ob, qs⟩ := x
    refine tr_have (fun w t => t.r.2.2) fun hqs => ?_
    refine tr_adopt0 (mown ob qs) (fun w h => h.2.1) ?_
    refine tr_seq ?_
    refine tr_rseq ?_
    refine sq_q (qt_move rfl) rfl ?_
    refine sq_q (qt_len rfl) rfl ?_
    refine sq_q (qt_move rfl) rfl ?_
    refine sq_end ?_
    refine tr_block ?_
    refine tr_loop2 (fun (i : Nat) (qs : List Wr) => i ≤ k + 1 ∧ MG (fun a b => if a < i then G a b else 0) (k + 1) (k + 1) qs ∧ allz Zd.can qs) (fun i qs => [(0, m.v), (4, .int .i64 ((k + 1 : Nat) : Int)), (6, .slice (some ⟨ob, 0, none⟩) (k + 1) (k + 1)), (21, .int .i64 ((k + 1 : Nat) : Int)), (22, .int .i64 (i : Int))])
      (fun i qs => mown ob qs) (fun i qs w => allz (fun z => z.ok 549755813887 w) qs) (fun i qs => k + 1 - i) 0 qs ⟨Nat.zero_le _, (MG.of_zero hqs).congr (fun a b _ _ => by rw [if_neg (by omega)]), allz.of_zero hqs z0_can⟩ ⟨rfl, rfl, rfl, rfl, rfl, trivial⟩ rfl (fun w _ => allz.of_zero hqs (z0_ok _ w)) ?_
    clear hqs qs
    rintro i qs ⟨hle, hG, hcan⟩
    refine tr_rseq ?_
    refine sq_q (qt_bin rfl rfl bin_lss) rfl ?_
    refine sq_end ?_
    refine tr_seq ?_
    refine tr_if rfl (fun hc => ?_) (fun hc => ?_)
    ·
      have hlt : i < k + 1 := by have := of_decide_eq_true hc; omega
      refine tr_skip ?_
      repeat with_reducible first | refine tr_skip ?_ | refine tr_exit ?_ | refine tr_then ?_ | refine tr_inX ?_ | refine tr_thenX ?_ | refine tr_inN ?_ | refine tr_inR ?_ | refine tr_thenR ?_
      refine tr_seq ?_
      refine tr_block ?_
      refine tr_rseq ?_
      refine sq_q (qt_move rfl) rfl ?_
      refine sq_q (qt_assign rfl) rfl ?_
      refine sq_end ?_
      refine tr_rseq ?_
      refine sq_q (qt_move rfl) rfl ?_
      refine sq_q (qt_len rfl) rfl ?_
      refine sq_q (qt_move rfl) rfl ?_
      refine sq_end ?_
      refine tr_block ?_
      have hG1 : MG (fun a b => if a < i ∨ (a = i ∧ b < 0) then G a b else 0) (k + 1) (k + 1) qs := hG.congr fun a b _ _ => by
        by_cases h : a < i
        · rw [if_pos h, if_pos (.inl h)]
        · rw [if_neg h, if_neg (by omega)]
      refine tr_loop2 (fun (j : Nat) (qs : List Wr) => j ≤ k + 1 ∧ MG (fun a b => if a < i ∨ (a = i ∧ b < j) then G a b else 0) (k + 1) (k + 1) qs ∧ allz Zd.can qs) (fun j qs => [(0, m.v), (4, .int .i64 ((k + 1 : Nat) : Int)), (6, .slice (some ⟨ob, 0, none⟩) (k + 1) (k + 1)), (7, .int .i64 (i : Int)), (21, .int .i64 ((k + 1 : Nat) : Int)), (22, .int .i64 (i : Int)), (26, .int .i64 ((k + 1 : Nat) : Int)), (27, .int .i64 (j : Int))])
        (fun j qs => mown ob qs) (fun j qs w => allz (fun z => z.ok 549755813887 w) qs) (fun j qs => k + 1 - j) 0 qs ⟨Nat.zero_le _, hG1, hcan⟩ ⟨rfl, rfl, rfl, rfl, rfl, rfl, rfl, rfl, trivial⟩ rfl (fun w h => h) ?_
      clear hG1 hG hcan qs
      rintro j qs ⟨hjc, hG, hcan⟩
      refine tr_rseq ?_
      refine sq_q (qt_bin rfl rfl bin_lss) rfl ?_
      refine sq_end ?_
      refine tr_seq ?_
      refine tr_if rfl (fun hc => ?_) (fun hc => ?_)
      ·
        have hlt2 : j < k + 1 := by have := of_decide_eq_true hc; omega
        obtain ⟨q, hq, hql⟩ := hG.get hlt
        obtain ⟨X, hX⟩ : ∃ X, X = lap k (dl (ent m.zs) j i) := ⟨_, rfl⟩
        refine tr_skip ?_
        repeat with_reducible first | refine tr_skip ?_ | refine tr_exit ?_ | refine tr_then ?_ | refine tr_inX ?_ | refine tr_thenX ?_ | refine tr_inN ?_ | refine tr_inR ?_ | refine tr_thenR ?_
        refine tr_seq ?_
        refine tr_block ?_
        refine tr_rseq ?_
        refine sq_q (qt_move rfl) rfl ?_
        refine sq_q (qt_assign rfl) rfl ?_
        refine sq_end ?_
        refine tr_rseq ?_
        refine sq_q (qt_move rfl) rfl ?_
        refine sq_q (qt_move rfl) rfl ?_
        refine sq_q (qt_move rfl) rfl ?_
        refine sq_call (fun p : Sv => .slice p.1 (wo (k + 1) (j : Int)).length p.2) (fun p w => Rd p.1 (ints (wo (k + 1) (j : Int))) w ∧ (wo (k + 1) (j : Int)).length ≤ p.2) rfl rfl rfl (fun w t => without_ret (k + 1) (j : Int) w _ (by omega)) fun p33 => ?_
        refine sq_q (qt_move rfl) rfl ?_
        refine sq_q (qt_move rfl) rfl ?_
        refine sq_call (fun p : Sv => .slice p.1 (wo (k + 1) (i : Int)).length p.2) (fun p w => Rd p.1 (ints (wo (k + 1) (i : Int))) w ∧ (wo (k + 1) (i : Int)).length ≤ p.2) rfl rfl rfl (fun w t => without_ret (k + 1) (i : Int) w _ (by omega)) fun p36 => ?_
        refine sq_call Mt.v (fun x w => x.fr w ∧ x.al (fun z => z.ok B w0) ∧ x.zs = grid (fun a b => dl (ent m.zs) j i a b) k k) rfl rfl rfl (fun w t => by
          have wl : ∀ a : Nat, a < k + 1 → ∀ b ∈ wo (k + 1) (a : Int), b < k + 1 := fun a ha b hb => by rw [wo_at ha] at hb; obtain ⟨c, hc, rfl⟩ := List.mem_map.1 hb; exact sk_lt (List.mem_range.1 hc)
          have h := fun S' => select_ret m (wo (k + 1) (j : Int)) (wo (k + 1) (i : Int)) p33 p36 B w S' (fun z => z.ok B w0) (t.mt hm) (fun r hr z hz => (hm.2.2 r hr).2.2 z hz) t.r.1.2.1 t.r.2.1 (fun a ha => by rw [hk1]; exact wl j hlt2 a ha) (fun r hr b hb => by rw [h3 r hr, hk1]; exact wl i hlt b hb) (by have := wo_length (k + 1) (j : Int); omega) (by have := wo_length (k + 1) (i : Int); omega)
          rw [pick_grid _ hlt hlt2] at h
          exact h _) fun x => ?_
        refine sq_have (fun w t => t.r.2.2.2) fun hgz => ?_
        refine sq_call (iv X) (fun p w => Lz X.natAbs p w ∧ nl X.natAbs ≤ 549755813887) rfl rfl rfl (fun w t => by
          have h := fun S' => rdeterminant_ret x B k w S' (t.r.2.1.ok t.r.2.2.1 t) hB hB1 (grid_rows hgz).1 (by omega) (grid_rows hgz).2
          rw [bdet_lap, hgz, show lap k (ent (grid (fun a b => dl (ent m.zs) j i a b) k k)) = X by rw [hX]; exact lap_congr fun a b ha hb => ent_grid ha hb] at h
          exact h _) fun x9 => ?_
        refine sq_alloc rfl fun r9 => ?_
        refine sq_store 0 rfl rfl rfl rfl (Nat.le_refl 2) rfl rfl ?_
        refine sq_end ?_
        refine tr_own (zblk r9 (zd X x9) :: mown ob qs) rfl ?_
        refine tr_have (fun w t => t.r.2.2) fun hXb => ?_
        refine tr_r (fun w => allz (fun z => z.ok 549755813887 w) qs ∧ Lz X.natAbs x9 w) (fun w h => ⟨h.1.1.1.1, h.2.1⟩) ?_
        obtain ⟨Y, hY⟩ : ∃ Y, Y = G i j := ⟨_, rfl⟩
        have hYX : Y = sg (i + j) * X := by rw [hY, hG0, hX]; rfl
        have hYb : nl Y.natAbs ≤ 549755813887 := by rw [hYX, sg_nl]; exact hXb
        refine tr_cut (ι := Sv) (fun _ => True) (fun _ => [(0, m.v), (4, .int .i64 ((k + 1 : Nat) : Int)), (6, .slice (some ⟨ob, 0, none⟩) (k + 1) (k + 1)), (7, .int .i64 (i : Int)), (8, .int .i64 (j : Int)), (9, .pointer (some ⟨r9, 0, none⟩)), (21, .int .i64 ((k + 1 : Nat) : Int)), (22, .int .i64 (i : Int)), (26, .int .i64 ((k + 1 : Nat) : Int)), (27, .int .i64 (j : Int))]) (fun y => zblk r9 (zd Y y) :: mown ob qs) (fun y w => allz (fun z => z.ok 549755813887 w) qs ∧ Lz Y.natAbs y w) ?_ (fun y _ => ?_)
        ·
          refine tr_rseq ?_
          refine sq_q (qt_move rfl) rfl ?_
          refine sq_q (qt_move rfl) rfl ?_
          refine sq_q (qt_bin rfl rfl (bin_addI (by omega) (by omega))) rfl ?_
          refine sq_q (qt_bin rfl rfl (bin_rem (by decide) (by omega))) rfl ?_
          refine sq_q (qt_bin rfl rfl bin_eql) rfl ?_
          refine sq_end ?_
          refine tr_if rfl (fun hc => ?_) (fun hc => ?_)
          ·
            have hodd : (i + j) % 2 = 1 := by have h := of_decide_eq_true hc; omega
            have e : Y = -X := by rw [hYX]; unfold sg; rw [if_pos hodd]; omega
            refine tr_region ?_
            refine sq_q (qt_load2 rfl (fun w t => t.atO 0 rfl rfl) (fun w t => t.atO 0 rfl rfl)) rfl ?_
            refine sq_call (iv Y) (Lz Y.natAbs) rfl rfl rfl (fun w t => by rw [e]; exact rneg_iv t.r.2 (by omega)) fun y => ?_
            refine sq_store 0 rfl rfl rfl rfl (Nat.le_refl 2) rfl rfl ?_
            refine sq_nil ?_
            repeat with_reducible first | refine tr_skip ?_ | refine tr_exit ?_ | refine tr_then ?_ | refine tr_inX ?_ | refine tr_thenX ?_ | refine tr_inN ?_ | refine tr_inR ?_ | refine tr_thenR ?_
            exact tr_mid y trivial ⟨rfl, rfl, rfl, rfl, rfl, rfl, rfl, rfl, rfl, rfl, trivial⟩ rfl (fun w h => ⟨h.1.1, h.2⟩)
          ·
            have hodd : ¬ (i + j) % 2 = 1 := by have h := of_decide_eq_false hc; omega
            have e : Y = X := by rw [hYX]; unfold sg; rw [if_neg hodd]; omega
            refine tr_skip ?_
            repeat with_reducible first | refine tr_skip ?_ | refine tr_exit ?_ | refine tr_then ?_ | refine tr_inX ?_ | refine tr_thenX ?_ | refine tr_inN ?_ | refine tr_inR ?_ | refine tr_thenR ?_
            rw [← e]
            exact tr_mid x9 trivial ⟨rfl, rfl, rfl, rfl, rfl, rfl, rfl, rfl, rfl, rfl, trivial⟩ rfl (fun w h => h)
        ·
          refine tr_sb [7] ?_
          refine sb_q 0 rfl (by kernel_rfl) (qt_move rfl) rfl ?_
          refine sb_q 1 rfl (by kernel_rfl) (qt_move rfl) rfl ?_
          refine sb_q 2 rfl (by kernel_rfl) (qt_index (i := i) rfl rfl hlt) rfl ?_
          refine sb_q 3 rfl (by kernel_rfl) (qt_load rfl (fun w t => t.o1 1 rfl (mout_get hq))) rfl ?_
          refine sb_q 4 rfl (by kernel_rfl) (qt_move rfl) rfl ?_
          refine sb_q 5 rfl (by kernel_rfl) (qt_load2 rfl (fun w t => t.atO 0 rfl rfl) (fun w t => t.atO 0 rfl rfl)) rfl ?_
          refine sb_q 6 rfl (by kernel_rfl) (qt_index (i := j) rfl rfl (by omega)) rfl ?_
          refine sb_one 7 (by kernel_rfl) ?_
          refine so2_store (i + 2) rfl rfl rfl rfl (mown_at (o := ob) hq) rfl (show 0 + j * 2 + 2 ≤ (zcs q.2).length by rw [zcs_length, hql]; omega) rfl rfl ?_
          refine sb_end (by kernel_rfl) ?_
          refine tr_own (zblk r9 (zd Y y) :: mown ob (qs.set i (q.1, q.2.set j (zd Y y)))) (by rw [← mown_wr (zd Y y) hq (by omega)]; rfl) ?_
          refine tr_drop (mown ob (qs.set i (q.1, q.2.set j (zd Y y)))) (List.sublist_cons_self ..) ?_
          repeat with_reducible first | refine tr_skip ?_ | refine tr_exit ?_ | refine tr_then ?_ | refine tr_inX ?_ | refine tr_thenX ?_ | refine tr_inN ?_ | refine tr_inR ?_ | refine tr_thenR ?_
          refine tr_region ?_
          refine sq_q (qt_bin rfl rfl (bin_addI (by omega) (by omega))) rfl ?_
          refine sq_q (qt_move rfl) rfl ?_
          refine sq_nil ?_
          repeat with_reducible first | refine tr_skip ?_ | refine tr_exit ?_ | refine tr_then ?_ | refine tr_inX ?_ | refine tr_thenX ?_ | refine tr_inN ?_ | refine tr_inR ?_ | refine tr_thenR ?_
          refine tr_round2 (j + 1) (qs.set i (q.1, q.2.set j (zd Y y))) ⟨by omega, (hG.set hq (zd Y y) Y (zd_z _ _)).congr (fun a b _ _ => ?_), hcan.set hq (zd_can _ _)⟩ (by omega) ⟨rfl, rfl, rfl, rfl, rfl, rfl, rfl, rfl, trivial⟩ rfl (fun w h => h.1.set hq (zd_ok h.2 hYb))
          unfold gset
          dsimp only
          split
          · rename_i h; rw [if_pos (by omega), h.1, h.2, hY]
          · rename_i h
            by_cases h' : a < i ∨ (a = i ∧ b < j)
            · rw [if_pos h', if_pos (by omega)]
            · rw [if_neg h', if_neg (by omega)]
      ·
        have hje : j = k + 1 := by have := of_decide_eq_false hc; omega
        refine tr_exit ?_
        repeat with_reducible first | refine tr_skip ?_ | refine tr_exit ?_ | refine tr_then ?_ | refine tr_inX ?_ | refine tr_thenX ?_ | refine tr_inN ?_ | refine tr_inR ?_ | refine tr_thenR ?_
        refine tr_region ?_
        refine sq_q (qt_bin rfl rfl (bin_addI (by omega) (by omega))) rfl ?_
        refine sq_q (qt_move rfl) rfl ?_
        refine sq_nil ?_
        repeat with_reducible first | refine tr_skip ?_ | refine tr_exit ?_ | refine tr_then ?_ | refine tr_inX ?_ | refine tr_thenX ?_ | refine tr_inN ?_ | refine tr_inR ?_ | refine tr_thenR ?_
        refine tr_round2 (i + 1) qs ⟨by omega, hG.congr (fun a b ha hb => ?_), hcan⟩ (by omega) ⟨rfl, rfl, rfl, rfl, rfl, trivial⟩ rfl (fun w h => h)
        by_cases h : a < i ∨ (a = i ∧ b < j)
        · rw [if_pos h, if_pos (by omega)]
        · rw [if_neg h, if_neg (by omega)]
    ·
      have hik : i = k + 1 := by have := of_decide_eq_false hc; omega
      refine tr_exit ?_
      repeat with_reducible first | refine tr_skip ?_ | refine tr_exit ?_ | refine tr_then ?_ | refine tr_inX ?_ | refine tr_thenX ?_ | refine tr_inN ?_ | refine tr_inR ?_ | refine tr_thenR ?_
      refine tr_rseq ?_
      refine sq_q (qt_move rfl) rfl ?_
      refine sq_q (qt_assign rfl) rfl ?_
      refine sq_q (qt_assign rfl) rfl ?_
      refine sq_end ?_
      refine tr_ret ?_
      repeat with_reducible first | refine tr_skip ?_ | refine tr_exit ?_ | refine tr_then ?_ | refine tr_inX ?_ | refine tr_thenX ?_ | refine tr_inN ?_ | refine tr_inR ?_ | refine tr_thenR ?_
      refine tr_done (mmt ob qs) (fun a w s t => results_2 rfl (resv_tmp s (by rw [mmt_v, hG.1]; rfl)) (resv_tmp s rfl)) (fun w h ho _ => ⟨mmt_ok ho h, ?_, mmt_can hcan⟩)
      rw [mmt_zs, hG.zs]
      show grid _ (k + 1) (k + 1) = grid G (k + 1) (k + 1)
      unfold grid
      refine List.map_congr_left fun a ha => List.map_congr_left fun b hb => ?_
      have ha := List.mem_range.1 ha
      exact if_pos (by omega)
end Go.Qk
end
section
set_option linter.unusedVariables false
namespace Go.Qk
open Go Go.Proofs Go.RowKit
theorem sqb_same (r : Nat) : sqb (some (r, r)) = true := decide_eq_true rfl
end Go.Qk
end
section
set_option linter.unusedVariables false
namespace Go.Qk
open Go Go.Proofs Go.RowKit
theorem rmul_iz {c : Int} {p : Sv} {z : Zd} {B : Nat} {w : World} {S : Nat → Prop} (h : Lz c.natAbs p w) (h' : z.ok B w) (hB : nl c.natAbs + B ≤ 35184372088832) : Ret Try.prog 56 [iv c p, z.v] w S (iv (c * z.z)) (Lz (c * z.z).natAbs) := by
  have g := rmul_zd (S := S) (zd_ok h (Nat.le_refl _)) h' hB
  rwa [zd_z] at g
/-- Cramer: a matrix times its adjugate -/
theorem mul_adj (n : Nat) (g : Mf) {i j : Nat} (hi : i < n) (hj : j < n) : mmul n g (adjG n g) i j = if i = j then lap n g else 0 := by
  obtain ⟨k, rfl⟩ : ∃ k, n = k + 1 := ⟨n - 1, by omega⟩
  have e : mmul (k + 1) g (adjG (k + 1) g) i j = sumN (k + 1) fun c => sg (j + c) * g i c * lap k (dl g j c) := by
    unfold mmul
    refine sumN_congr fun c _ => ?_
    unfold adjG
    rw [Nat.add_sub_cancel, Nat.add_comm c j]
    grind
  rw [e]
  split
  · rename_i h
    subst h
    exact (lap_row g hi).symm
  · rename_i h
    exact lap_row_ne g hj hi h
theorem dl_tr (g : Mf) (i j : Nat) : dl (tr g) i j = tr (dl g j i) := rfl
theorem adj_tr (n : Nat) (g : Mf) (i j : Nat) : adjG n (tr g) i j = adjG n g j i := by
  unfold adjG
  rw [dl_tr, lap_tr, Nat.add_comm]
theorem adj_mul (n : Nat) (g : Mf) {i j : Nat} (hi : i < n) (hj : j < n) : mmul n (adjG n g) g i j = if i = j then lap n g else 0 := by
  have h := mul_adj n (tr g) hj hi
  rw [lap_tr] at h
  rw [show (if i = j then lap n g else 0) = if j = i then lap n g else 0 by by_cases h : i = j <;> simp [h, Ne.symm, eq_comm]]
  rw [← h]
  unfold mmul
  refine sumN_congr fun c _ => ?_
  rw [adj_tr]
  show adjG n g i c * g c j = g c j * adjG n g i c
  exact Int.mul_comm _ _
end Go.Qk
end
section
set_option linter.unusedVariables false
namespace Go.Qk
open Go Go.Proofs Go.RowKit
set_option maxRecDepth 100000
set_option maxHeartbeats 4000000
theorem product_ret (m m' : Mt) (B B' : Nat) (w0 : World) (S : Nat → Prop) (hm : m.ok B w0) (hm' : m'.ok B' w0) (hB : B + B' ≤ 35184372088700) (hl : m.rs.length ≤ 35184372088832) (hr : ∀ r ∈ m.rs, r.l.length ≤ 35184372088832) (hl' : m'.rs.length ≤ 35184372088832) (hr' : ∀ r ∈ m'.rs, r.l.length ≤ 35184372088832) :
    Ret Try.prog 36 [m.v, m'.v] w0 S Mt.v (optF (B + B' + 16) (mulO m.zs m'.zs)) := by
  refine ret_of Try.func36 rfl Try.ntmps36 rfl ?_
  refine tr_rseq ?_
  refine sq_q (qt_assign rfl) rfl ?_
  refine sq_end ?_
  refine tr_rseq ?_
  refine sq_q (qt_move rfl) rfl ?_
  refine sq_q (qt_move rfl) rfl ?_
  refine sq_call (optV (mulO m.zs m'.zs)) (optF (B + B' + 16) (mulO m.zs m'.zs)) rfl rfl rfl (fun w t => rmmul_ret m m' B B' w _ (t.mt hm) (t.mt hm') hB hl hr hl' hr') fun x => ?_
  refine sq_q (qt_move rfl) rfl ?_
  refine sq_q (qt_extract rfl rfl) rfl ?_
  refine sq_q (qt_extract rfl rfl) rfl ?_
  refine sq_q (qt_assign rfl) rfl ?_
  refine sq_q (qt_assign rfl) rfl ?_
  refine sq_end ?_
  refine tr_rseq ?_
  refine sq_q (qt_move rfl) rfl ?_
  refine sq_q (qt_assign rfl) rfl ?_
  refine sq_end ?_
  refine tr_ret ?_
  repeat with_reducible first | refine tr_skip ?_ | refine tr_exit ?_ | refine tr_then ?_ | refine tr_inX ?_ | refine tr_thenX ?_ | refine tr_inN ?_ | refine tr_inR ?_ | refine tr_thenR ?_
  exact tr_done x (fun a w s t => results_1 rfl (resv_tmp s rfl)) (fun w h _ _ => h.2)
theorem rtimes_ret (c : Int) (p : Sv) (m : Mt) (B cc : Nat) (w0 : World) (S : Nat → Prop) (hc0 : Lz c.natAbs p w0) (hm : m.ok B w0) (hB : nl c.natAbs + B ≤ 35184372088832) (hl : m.rs.length ≤ 65536) (hcc : ∀ q ∈ m.rs, q.l.length = cc) (hc1 : 1 ≤ cc ∨ m.rs.length = 0) (hc16 : cc ≤ 65536) :
    Ret Try.prog 37 [iv c p, m.v] w0 S Mt.v (fun x w => x.ok (nl c.natAbs + B) w ∧ x.zs = grid (fun a b => c * ent m.zs a b) m.rs.length cc ∧ x.can) := by
  obtain ⟨r, hr⟩ : ∃ r, r = m.rs.length := ⟨_, rfl⟩
  rw [← hr]
  refine ret_of Try.func37 rfl Try.ntmps37 rfl ?_
  refine tr_rseq ?_
  refine sq_box rfl rfl fun r2 => ?_
  refine sq_q (qt_assign rfl) rfl ?_
  refine sq_end ?_
  refine tr_rseq ?_
  refine sq_q (qt_move rfl) rfl ?_
  refine sq_callK (fun x : Sk × Nat × List Wr => .slice (some ⟨x.2.1, 0, none⟩) r r) (fun x => mownS x.1 x.2.1 x.2.2) (fun x => MG (ent m.zs) r cc x.2.2 ∧ allz Zd.can x.2.2) (fun x w => allz (fun z => z.ok B w) x.2.2) rfl rfl rfl (fun w t => by
    rw [hr]
    exact copy_ret m B cc w _ (t.mt hm) (by omega) (by omega) hcc hc1 hc16) fun x hx => ?_
  refine sq_q (qt_assign rfl) rfl ?_
  refine sq_end ?_
  obtain ⟨σ, o, qs⟩ := x
  obtain ⟨hG, hcan⟩ := hx
  dsimp only at hG hcan
  refine tr_perm (zblk r2 (zd c p) :: mownS σ o qs) (List.perm_append_comm (l₁ := mownS σ o qs) (l₂ := [zblk r2 (zd c p)])) ?_
  refine tr_seq ?_
  refine tr_rseq ?_
  refine sq_q (qt_move rfl) rfl ?_
  refine sq_q (qt_len rfl) rfl ?_
  refine sq_q (qt_move rfl) rfl ?_
  refine sq_end ?_
  refine tr_block ?_
  refine tr_loop2 (fun (i : Nat) (qs : List Wr) => i ≤ r ∧ MG (fun a b => if a < i then c * ent m.zs a b else ent m.zs a b) r cc qs ∧ allz Zd.can qs) (fun i qs => [(2, .pointer (some ⟨r2, 0, none⟩)), (5, .slice (some ⟨o, 0, none⟩) r r), (11, .int .i64 (r : Int)), (12, .int .i64 (i : Int))])
    (fun i qs => zblk r2 (zd c p) :: mownS σ o qs) (fun i qs w => alli (fun a b z => z.ok (if a < i then nl c.natAbs + B else B) w) qs) (fun i qs => r - i) 0 qs ⟨Nat.zero_le _, hG.congr (fun a b _ _ => by rw [if_neg (by omega)]), hcan⟩ ⟨rfl, rfl, rfl, rfl, trivial⟩ rfl (fun w h a q hq b z hz => by dsimp only; rw [if_neg (by omega)]; exact h.2 q (List.mem_of_getElem? hq) z (List.mem_of_getElem? hz)) ?_
  clear hG hcan qs
  rintro i qs ⟨hle, hG, hcan⟩
  refine tr_rseq ?_
  refine sq_q (qt_bin rfl rfl bin_lss) rfl ?_
  refine sq_end ?_
  refine tr_seq ?_
  refine tr_if rfl (fun hc => ?_) (fun hc => ?_)
  ·
    have hlt : i < r := by have := of_decide_eq_true hc; omega
    have hml : i < m.rs.length := by omega
    have hce := hcc _ (List.getElem_mem hml)
    obtain ⟨q, hq, hql⟩ := hG.get hlt
    refine tr_skip ?_
    repeat with_reducible first | refine tr_skip ?_ | refine tr_exit ?_ | refine tr_then ?_ | refine tr_inX ?_ | refine tr_thenX ?_ | refine tr_inN ?_ | refine tr_inR ?_ | refine tr_thenR ?_
    refine tr_seq ?_
    refine tr_block ?_
    refine tr_rseq ?_
    refine sq_q (qt_move rfl) rfl ?_
    refine sq_q (qt_assign rfl) rfl ?_
    refine sq_end ?_
    refine tr_rseq ?_
    refine sq_q (qt_move rfl) rfl ?_
    refine sq_q (qt_move rfl) rfl ?_
    refine sq_q (qt_index (i := i) rfl rfl hlt) rfl ?_
    refine sq_q (qt_load (v := .slice (some ⟨q.1, 0, none⟩) q.2.length (q.2.length + (σ q.1).length / 2)) rfl (fun w t => t.o1 1 rfl (moutS_get hq))) rfl ?_
    refine sq_q (qt_len rfl) rfl ?_
    refine sq_q (qt_move rfl) rfl ?_
    refine sq_end ?_
    refine tr_block ?_
    have hG0 : MG (fun a b => if a < i ∨ (a = i ∧ b < 0) then c * ent m.zs a b else ent m.zs a b) r cc qs := hG.congr fun a b _ _ => by
      by_cases h : a < i
      · rw [if_pos h, if_pos (.inl h)]
      · rw [if_neg h, if_neg (by omega)]
    refine tr_loop2 (fun (j : Nat) (qs : List Wr) => j ≤ cc ∧ MG (fun a b => if a < i ∨ (a = i ∧ b < j) then c * ent m.zs a b else ent m.zs a b) r cc qs ∧ allz Zd.can qs) (fun j qs => [(2, .pointer (some ⟨r2, 0, none⟩)), (5, .slice (some ⟨o, 0, none⟩) r r), (6, .int .i64 (i : Int)), (11, .int .i64 (r : Int)), (12, .int .i64 (i : Int)), (19, .int .i64 (cc : Int)), (20, .int .i64 (j : Int))])
      (fun j qs => zblk r2 (zd c p) :: mownS σ o qs) (fun j qs w => alli (fun a b z => z.ok (if a < i ∨ (a = i ∧ b < j) then nl c.natAbs + B else B) w) qs) (fun j qs => cc - j) 0 qs ⟨Nat.zero_le _, hG0, hcan⟩ ⟨rfl, rfl, rfl, rfl, rfl, congrArg (fun z => some (Value.int .i64 ((z : Nat) : Int))) hql, rfl, trivial⟩ rfl (fun w h => h.mono fun a b z hz => by
      by_cases h' : a < i
      · rw [if_pos h'] at hz; rw [if_pos (.inl h')]; exact hz
      · rw [if_neg h'] at hz; rw [if_neg (by omega)]; exact hz) ?_
    clear hG0 hG hcan hq hql q qs
    rintro j qs ⟨hjc, hG, hcan⟩
    refine tr_rseq ?_
    refine sq_q (qt_bin rfl rfl bin_lss) rfl ?_
    refine sq_end ?_
    refine tr_seq ?_
    refine tr_if rfl (fun hc => ?_) (fun hc => ?_)
    ·
      have hlt2 : j < cc := by have := of_decide_eq_true hc; omega
      obtain ⟨q, hq, hql⟩ := hG.get hlt
      obtain ⟨z, hz⟩ : ∃ z, q.2[j]? = some z := ⟨_, List.getElem?_eq_getElem (by omega)⟩
      have hzz := (hG.2 i q hq).2 j z hz
      dsimp only at hzz
      rw [if_neg (by omega)] at hzz
      refine tr_have (fun w t => (by have h := nl_zd (t.r i q hq j z hz); rw [if_neg (by omega)] at h; exact h : nl z.z.natAbs ≤ B)) fun hzb => ?_
      have hXb := nl_imul c z.z
      refine tr_skip ?_
      repeat with_reducible first | refine tr_skip ?_ | refine tr_exit ?_ | refine tr_then ?_ | refine tr_inX ?_ | refine tr_thenX ?_ | refine tr_inN ?_ | refine tr_inR ?_ | refine tr_thenR ?_
      refine tr_seq ?_
      refine tr_block ?_
      refine tr_rseq ?_
      refine sq_q (qt_move rfl) rfl ?_
      refine sq_q (qt_assign rfl) rfl ?_
      refine sq_end ?_
      refine tr_sb [15] ?_
      refine sb_q 0 rfl (by kernel_rfl) (qt_move rfl) rfl ?_
      refine sb_q 1 rfl (by kernel_rfl) (qt_move rfl) rfl ?_
      refine sb_q 2 rfl (by kernel_rfl) (qt_index (i := i) rfl rfl hlt) rfl ?_
      refine sb_q 3 rfl (by kernel_rfl) (qt_load (v := .slice (some ⟨q.1, 0, none⟩) q.2.length (q.2.length + (σ q.1).length / 2)) rfl (fun w t => t.o1 1 rfl (moutS_get hq))) rfl ?_
      refine sb_q 4 rfl (by kernel_rfl) (qt_move rfl) rfl ?_
      refine sb_q 5 rfl (by kernel_rfl) (qt_load2 rfl (fun w t => t.atO 0 rfl rfl) (fun w t => t.atO 0 rfl rfl)) rfl ?_
      refine sb_q 6 rfl (by kernel_rfl) (qt_move rfl) rfl ?_
      refine sb_q 7 rfl (by kernel_rfl) (qt_move rfl) rfl ?_
      refine sb_q 8 rfl (by kernel_rfl) (qt_index (i := i) rfl rfl hlt) rfl ?_
      refine sb_q 9 rfl (by kernel_rfl) (qt_load (v := .slice (some ⟨q.1, 0, none⟩) q.2.length (q.2.length + (σ q.1).length / 2)) rfl (fun w t => t.o1 1 rfl (moutS_get hq))) rfl ?_
      refine sb_q 10 rfl (by kernel_rfl) (qt_move rfl) rfl ?_
      refine sb_q 11 rfl (by kernel_rfl) (qt_index (i := j) rfl rfl (by omega)) rfl ?_
      refine sb_q 12 rfl (by kernel_rfl) (qt_load2 rfl (fun w t => t.mzS0 (i + 2) (mownS_at (o := o) hq) hz) (fun w t => t.mzS1 (i + 2) (mownS_at (o := o) hq) hz)) rfl ?_
      refine sb_one 13 (by kernel_rfl) ?_
      refine so2_call (iv (c * z.z)) (Lz (c * z.z).natAbs) rfl rfl rfl rfl (fun w t => rmul_iz (t.lz hc0) (by have h := t.r i q hq j z hz; dsimp only at h; rw [if_neg (by omega)] at h; exact h) hB) fun x => ?_
      refine sb_q 14 rfl (by kernel_rfl) (qt_index (i := j) rfl rfl (by omega)) rfl ?_
      refine sb_one 15 (by kernel_rfl) ?_
      refine so2_store (i + 2) rfl rfl rfl rfl (mownS_at (o := o) hq) rfl (show 0 + j * 2 + 2 ≤ (zcs q.2 ++ σ q.1).length by rw [List.length_append, zcs_length]; omega) rfl rfl ?_
      refine sb_end (by kernel_rfl) ?_
      refine tr_own (zblk r2 (zd c p) :: mownS σ o (qs.set i (q.1, q.2.set j (zd (c * z.z) x)))) (by rw [← mownS_wr (zd (c * z.z) x) hq (by omega)]; rfl) ?_
      repeat with_reducible first | refine tr_skip ?_ | refine tr_exit ?_ | refine tr_then ?_ | refine tr_inX ?_ | refine tr_thenX ?_ | refine tr_inN ?_ | refine tr_inR ?_ | refine tr_thenR ?_
      refine tr_region ?_
      refine sq_q (qt_bin rfl rfl (bin_addI (by omega) (by omega))) rfl ?_
      refine sq_q (qt_move rfl) rfl ?_
      refine sq_nil ?_
      repeat with_reducible first | refine tr_skip ?_ | refine tr_exit ?_ | refine tr_then ?_ | refine tr_inX ?_ | refine tr_thenX ?_ | refine tr_inN ?_ | refine tr_inR ?_ | refine tr_thenR ?_
      refine tr_round2 (j + 1) (qs.set i (q.1, q.2.set j (zd (c * z.z) x))) ⟨by omega, (hG.set hq (zd (c * z.z) x) (c * z.z) (zd_z _ _)).congr (fun a b _ _ => ?_), hcan.set hq (zd_can _ _)⟩ (by omega) ⟨rfl, rfl, rfl, rfl, rfl, rfl, rfl, trivial⟩ rfl (fun w h => h.1.set hq (zd_ok h.2 (by rw [if_pos (by omega)]; omega)) (fun a b u hab hu => ?_))
      · unfold gset
        dsimp only
        split
        · rename_i h; rw [if_pos (by omega), h.1, h.2, hzz]
        · rename_i h
          by_cases h' : a < i ∨ (a = i ∧ b < j)
          · rw [if_pos h', if_pos (by omega)]
          · rw [if_neg h', if_neg (by omega)]
      · by_cases h' : a < i ∨ (a = i ∧ b < j)
        · rw [if_pos h'] at hu; rw [if_pos (by omega)]; exact hu
        · rw [if_neg h'] at hu; rw [if_neg (by omega)]; exact hu
    ·
      have hje : j = cc := by have := of_decide_eq_false hc; omega
      refine tr_exit ?_
      repeat with_reducible first | refine tr_skip ?_ | refine tr_exit ?_ | refine tr_then ?_ | refine tr_inX ?_ | refine tr_thenX ?_ | refine tr_inN ?_ | refine tr_inR ?_ | refine tr_thenR ?_
      refine tr_region ?_
      refine sq_q (qt_bin rfl rfl (bin_addI (by omega) (by omega))) rfl ?_
      refine sq_q (qt_move rfl) rfl ?_
      refine sq_nil ?_
      repeat with_reducible first | refine tr_skip ?_ | refine tr_exit ?_ | refine tr_then ?_ | refine tr_inX ?_ | refine tr_thenX ?_ | refine tr_inN ?_ | refine tr_inR ?_ | refine tr_thenR ?_
      refine tr_round2 (i + 1) qs ⟨by omega, hG.congr (fun a b ha hb => ?_), hcan⟩ (by omega) ⟨rfl, rfl, rfl, rfl, trivial⟩ rfl (fun w h => h.mono fun a b u hu => ?_)
      · by_cases h : a < i ∨ (a = i ∧ b < j)
        · rw [if_pos h, if_pos (by omega)]
        · rw [if_neg h, if_neg (by omega)]
      · by_cases h' : a < i ∨ (a = i ∧ b < j)
        · rw [if_pos h'] at hu; rw [if_pos (by omega)]; exact hu
        · rw [if_neg h'] at hu
          split
          · exact hu.mono (by omega)
          · exact hu
  ·
    have hik : i = r := by have := of_decide_eq_false hc; omega
    refine tr_exit ?_
    repeat with_reducible first | refine tr_skip ?_ | refine tr_exit ?_ | refine tr_then ?_ | refine tr_inX ?_ | refine tr_thenX ?_ | refine tr_inN ?_ | refine tr_inR ?_ | refine tr_thenR ?_
    refine tr_rseq ?_
    refine sq_q (qt_move rfl) rfl ?_
    refine sq_q (qt_assign rfl) rfl ?_
    refine sq_end ?_
    refine tr_ret ?_
    repeat with_reducible first | refine tr_skip ?_ | refine tr_exit ?_ | refine tr_then ?_ | refine tr_inX ?_ | refine tr_thenX ?_ | refine tr_inN ?_ | refine tr_inR ?_ | refine tr_thenR ?_
    refine tr_done (mmtS σ o qs) (fun a w s t => results_1 rfl (resv_tmp s (by rw [mmtS_v, hG.1]; rfl))) (fun w h ho _ => ⟨mmtS_ok (fun q hq => ho q (List.mem_cons_of_mem _ hq)) (fun q hq z hz => ?_), ?_, mmtS_can hcan⟩)
    · obtain ⟨a, ha⟩ := List.getElem?_of_mem hq
      obtain ⟨b, hb⟩ := List.getElem?_of_mem hz
      have h1 := h a q ha b z hb
      dsimp only at h1
      split at h1
      · exact h1
      · exact h1.mono (by omega)
    · rw [mmtS_zs, hG.zs]
      unfold grid
      refine List.map_congr_left fun a ha => List.map_congr_left fun b hb => ?_
      have ha := List.mem_range.1 ha
      exact if_pos (by omega)
end Go.Qk
end
section
set_option linter.unusedVariables false
namespace Go.Qk
open Go Go.Proofs Go.RowKit
theorem grid_eq {f g : Mf} {r c : Nat} (h : ∀ a b, a < r → b < c → f a b = g a b) : grid f r c = grid g r c := by
  unfold grid
  exact List.map_congr_left fun a ha => List.map_congr_left fun b hb => h a b (List.mem_range.1 ha) (List.mem_range.1 hb)
section
variable {m m' : Mt} {B B' n : Nat} {w : World} {S : Nat → Prop} {f g : Mf}
theorem optG_lens (h : optF B (some (grid f n n)) m w) (hn : n ≤ 16) : m.rs.length ≤ 35184372088832 ∧ (∀ r ∈ m.rs, r.l.length ≤ 35184372088832) ∧ m.rs.length = n ∧ ∀ r ∈ m.rs, r.l.length = n := by
  obtain ⟨a, b⟩ := mt_lens h.2.1
  exact ⟨by omega, fun r hr => by have := b r hr; omega, a, b⟩
theorem product_g {e : Mf} (h : optF B (some (grid f n n)) m w) (h' : optF B' (some (grid g n n)) m' w) (hn : 1 ≤ n) (hn16 : n ≤ 16) (hB : B + B' ≤ 35184372088700) (he : ∀ a b, a < n → b < n → mmul n f g a b = e a b) :
    Ret Try.prog 36 [m.v, m'.v] w S Mt.v (optF (B + B' + 16) (some (grid e n n))) := by
  obtain ⟨a1, a2, _, _⟩ := optG_lens h hn16
  obtain ⟨b1, b2, _, _⟩ := optG_lens h' hn16
  have hh := product_ret m m' B B' w S h.1 h'.1 hB a1 a2 b1 b2
  have e1 : m.zs = grid f n n := h.2.1
  have e2 : m'.zs = grid g n n := h'.2.1
  have e3 : mulO m.zs m'.zs = some (grid e n n) := by
    rw [e1, e2]
    unfold mulO
    rw [shp_grid f hn hn16 hn hn16, shp_grid g hn hn16 hn hn16]
    show (if n = n then _ else _) = _
    rw [if_pos rfl]
    congr 1
    refine grid_eq fun a b ha hb => ?_
    rw [← he a b ha hb]
    unfold mmul
    exact sumN_congr fun k hk => by rw [ent_grid ha hk, ent_grid hk hb]
  rw [e3] at hh
  exact hh
theorem ident_g (hn : 1 ≤ n) (hn16 : n ≤ 16) (w : World) : Ret Try.prog 21 [.int .i64 (n : Int)] w S (optV (some (grid ident n n))) (optF 1 (some (grid ident n n))) := by
  have hh := ridentity_ret (n : Int) w S
  have e : identO (n : Int) = some (grid ident n n) := by
    unfold identO
    rw [if_pos (by omega)]
    rfl
  rw [e] at hh
  exact hh
end
end Go.Qk
end
section
set_option linter.unusedVariables false
namespace Go.Qk
open Go Go.Proofs Go.RowKit
abbrev Wi := Nat × List Int
def ihdr (q : Wi) : Value := .slice (some ⟨q.1, 0, none⟩) q.2.length q.2.length
def irow (q : Wi) : Nat × Obj := (q.1, .cells (i64s q.2).toArray 2 (0, 0))
def iout (o : Nat) (qs : List Wi) (k : Nat) : Nat × Obj := (o, .cells (qs.map ihdr ++ List.replicate k (Value.slice none 0 0)).toArray 71 (0, 0))
def iown (o : Nat) (qs : List Wi) : Own := iout o qs 0 :: qs.map irow
def IG (g : Mf) (r c : Nat) (qs : List Wi) : Prop := qs.length = r ∧ ∀ a q, qs[a]? = some q → q.2.length = c ∧ ∀ b z, q.2[b]? = some z → z = g a b
section
variable {o : Nat} {qs : List Wi} {g g' : Mf} {r c : Nat}
theorem i8s_len (l : List Int) : (i8s l).length = l.length := by simp [i8s]
theorem i64s_len (l : List Int) : (i64s l).length = l.length := by simp [i64s]
theorem iout_get {i k : Nat} {q : Wi} (h : qs[i]? = some q) : (qs.map ihdr ++ List.replicate k (Value.slice none 0 0))[i]? = some (ihdr q) := by
  have hl : i < qs.length := (List.getElem?_eq_some_iff.1 h).1
  rw [List.getElem?_append_left (by simpa using hl), List.getElem?_map, h]
  rfl
theorem iout_next (k : Nat) (q : Wi) : (o, Obj.cells (wr (qs.map ihdr ++ List.replicate (k + 1) (Value.slice none 0 0)) (0 + qs.length * 1) [ihdr q]).toArray 71 (0, 0)) = iout o (qs ++ [q]) k := by
  have h := next_set (qs.map ihdr) k (Value.slice none 0 0) (ihdr q)
  rw [List.length_map] at h
  unfold iout
  rw [Nat.zero_add, Nat.mul_one, List.map_append]
  show (o, Obj.cells ((qs.map ihdr ++ List.replicate (k + 1) (Value.slice none 0 0)).set qs.length (ihdr q)).toArray _ _) = _
  rw [h]
  rfl
theorem iown_at {i : Nat} {q : Wi} (h : qs[i]? = some q) : ownAt (iown o qs) (i + 1) = some (irow q) := ownAt_map irow qs i q h
theorem iown_wr {i j : Nat} {q : Wi} (v : Int) (h : qs[i]? = some q) : ownSet (iown o qs) (i + 1) (.cells (wr (i64s q.2) (0 + j * 1) [.int .i64 v]).toArray 2 (0, 0)) = iown o (qs.set i (q.1, q.2.set j v)) := by
  have e0 : wr (i64s q.2) (0 + j * 1) [.int .i64 v] = i64s (q.2.set j v) := by
    rw [Nat.zero_add, Nat.mul_one]
    show (i64s q.2).set j (.int .i64 v) = _
    exact i64s_set _ _ _
  rw [e0]
  show iout o qs 0 :: ownSet (qs.map irow) i _ = _
  rw [ownSet_map irow qs i q (q.1, q.2.set j v) _ h rfl]
  have e : (qs.set i (q.1, q.2.set j v)).map ihdr = qs.map ihdr := by
    rw [List.map_set, show ihdr (q.1, q.2.set j v) = ihdr q by unfold ihdr; rw [List.length_set]]
    refine List.ext_getElem? fun k => ?_
    rw [List.getElem?_set]
    split
    · rename_i hk
      subst hk
      rw [List.getElem?_map, h]
      split
      · rfl
      · rename_i hlt
        rw [List.getElem?_eq_none (by simpa using hlt)] at h
        simp at h
    · rfl
  unfold iown iout
  rw [e]
theorem IG.get (h : IG g r c qs) {i : Nat} (hi : i < r) : ∃ q, qs[i]? = some q ∧ q.2.length = c := by
  have hl : i < qs.length := by rw [h.1]; exact hi
  exact ⟨qs[i], List.getElem?_eq_getElem hl, (h.2 i _ (List.getElem?_eq_getElem hl)).1⟩
theorem IG.congr (h : IG g r c qs) (he : ∀ a b, a < r → b < c → g a b = g' a b) : IG g' r c qs := by
  refine ⟨h.1, fun a q hq => ⟨(h.2 a q hq).1, fun b z hz => ?_⟩⟩
  have ha : a < r := by have := (List.getElem?_eq_some_iff.1 hq).1; have := h.1; omega
  have hb : b < c := by have := (List.getElem?_eq_some_iff.1 hz).1; have := (h.2 a q hq).1; omega
  rw [← he a b ha hb]
  exact (h.2 a q hq).2 b z hz
theorem IG.set (h : IG g r c qs) {i j : Nat} {q : Wi} (hq : qs[i]? = some q) (v : Int) : IG (gset g i j v) r c (qs.set i (q.1, q.2.set j v)) := by
  refine ⟨by rw [List.length_set]; exact h.1, fun a p hp => ?_⟩
  rw [List.getElem?_set] at hp
  split at hp
  · rename_i ha
    subst ha
    split at hp
    · injection hp with hp
      subst hp
      refine ⟨by rw [List.length_set]; exact (h.2 i q hq).1, fun b y hy => ?_⟩
      dsimp only at hy
      rw [List.getElem?_set] at hy
      unfold gset
      split at hy
      · rename_i hb
        split at hy
        · injection hy with hy
          rw [if_pos ⟨rfl, hb.symm⟩, ← hy]
        · simp at hy
      · rename_i hb
        rw [if_neg (fun e => hb e.2.symm)]
        exact (h.2 i q hq).2 b y hy
    · simp at hp
  · rename_i ha
    refine ⟨(h.2 a p hp).1, fun b y hy => ?_⟩
    unfold gset
    rw [if_neg (fun e => ha e.1.symm)]
    exact (h.2 a p hp).2 b y hy
theorem IG.zs (h : IG g r c qs) : qs.map (·.2) = grid g r c := by
  unfold grid
  refine List.ext_getElem (by simp [h.1]) fun a h1 h2 => ?_
  have ha : a < qs.length := by simpa using h1
  obtain ⟨e1, e2⟩ := h.2 a _ (List.getElem?_eq_getElem ha)
  simp only [List.getElem_map, List.getElem_range]
  refine List.ext_getElem (by simp [e1]) fun b h3 h4 => ?_
  simp only [List.getElem_map, List.getElem_range]
  exact e2 b _ (List.getElem?_eq_getElem h3)
end
def ird (q : Wi) : Xr := ⟨q.2, (some ⟨q.1, 0, none⟩, q.2.length)⟩
def imt (o : Nat) (qs : List Wi) : Xm := ⟨qs.map ird, (some ⟨o, 0, none⟩, qs.length)⟩
theorem imt_v (o : Nat) (qs : List Wi) : (imt o qs).v = .slice (some ⟨o, 0, none⟩) qs.length qs.length := by simp [imt, Xm.v]
theorem imt_zs (o : Nat) (qs : List Wi) : (imt o qs).zs = qs.map (·.2) := by simp [imt, Xm.zs, ird, Function.comp_def]
theorem imt_ok {o : Nat} {qs : List Wi} {w : World} (h : ∀ p ∈ iown o qs, w.heap[p.1]? = some p.2) (hz : ∀ q ∈ qs, ∀ z ∈ q.2, In64 z) : (imt o qs).ok w := by
  refine ⟨?_, by simp [imt], ?_⟩
  · have := Rd.own (h (iout o qs 0) (List.mem_cons_self ..))
    rw [List.replicate_zero, List.append_nil] at this
    have e : (qs.map ird).map Xr.v = qs.map ihdr := by rw [List.map_map]; rfl
    show Rd _ ((qs.map ird).map Xr.v) w
    rw [e]
    exact this
  · intro r hr
    simp only [imt, List.mem_map] at hr
    obtain ⟨q, hq, rfl⟩ := hr
    exact ⟨Rd.own (h (irow q) (List.mem_cons_of_mem _ (List.mem_map.2 ⟨q, hq, rfl⟩))), Nat.le_refl _, hz q hq⟩
/-- a number of the tape, below n -/
def bel (x : Int) (n : Nat) : Nat := ((x % 256) % (n : Int)).toNat
theorem bel_lt {x : Int} {n : Nat} (hn : 1 ≤ n) : bel x n < n := by
  unfold bel
  have h1 := Int.emod_nonneg (x % 256) (b := (n : Int)) (by omega)
  have h2 := Int.emod_lt_of_pos (x % 256) (b := (n : Int)) (by omega)
  omega
theorem bel_eq {x : Int} {n : Nat} (hn : 1 ≤ n) : (x % 256) % (n : Int) = ((bel x n : Nat) : Int) := by
  unfold bel
  have h1 := Int.emod_nonneg (x % 256) (b := (n : Int)) (by omega)
  omega
/-- an elementary operation on the columns of a row -/
def rowop (i j : Nat) (c : Int) (f : Nat → Int) : Nat → Int :=
  if i = j then (if c < 0 then fun b => if b = i then -f b else f b else f)
  else if c = 0 then fun b => if b = i then f j else if b = j then f i else f b
  else fun b => if b = i then f i + c * f j else f b
theorem lap_rowop {n i j : Nat} {c : Int} (g : Mf) (hi : i < n) (hj : j < n) : lap n (fun a => rowop i j c (g a)) = lap n g ∨ lap n (fun a => rowop i j c (g a)) = -lap n g := by
  unfold rowop
  by_cases hij : i = j
  · simp only [if_pos hij]
    by_cases hc : c < 0
    · simp only [if_pos hc]
      right
      have h := (lap_alt n).smul g hi (-1) fun a => g a i
      rw [cset_same] at h
      rw [show (fun a b => if b = i then -g a b else g a b) = cset g i (fun a => -1 * g a i) by
        funext a b
        unfold cset
        by_cases hb : b = i
        · subst hb; simp
        · simp [hb], h]
      omega
    · simp only [if_neg hc]
      exact .inl trivial
  · simp only [if_neg hij]
    by_cases hc : c = 0
    · simp only [if_pos hc]
      right
      have h := (lap_alt n).swap g hi hj hij
      rw [csw_eq g hij] at h
      rw [← h]
      congr 1
      funext a b
      unfold cset
      by_cases hb : b = i
      · subst hb; simp [hij]
      · by_cases hb' : b = j
        · subst hb'; simp [hb]
        · simp [hb, hb']
    · simp only [if_neg hc]
      left
      have h := (lap_alt n).addc g hi hj hij c
      exact h
theorem rowop_bound {i j n : Nat} {c : Int} {f : Nat → Int} {B : Nat} (hi : i < n) (hj : j < n) (hc : -2 ≤ c ∧ c ≤ 2) (hf : ∀ b, b < n → (f b).natAbs ≤ B) {b : Nat} (hb : b < n) : (rowop i j c f b).natAbs ≤ 3 * B := by
  have h1 := hf i hi
  have h2 := hf j hj
  have h3 := hf b hb
  unfold rowop
  split
  · split
    · dsimp only
      split <;> omega
    · omega
  · split
    · dsimp only
      (repeat' split) <;> omega
    · dsimp only
      split
      · have h4 : (c * f j).natAbs ≤ 2 * B := by
          rw [Int.natAbs_mul]
          exact Nat.mul_le_mul (by omega) h2
        omega
      · omega
section
variable {P : Program} {t : TypeId} {J : World → Prop} {lk : Nat → Option Value} {ty : TypeId}
theorem bin_remS {k : IntKind} {a b : Int} (hb : b ≠ 0) : Bin P .rem t (.int k a) (.int k b) (.int k (a.tmod b)) := fun w => by
  simp [binOp, Op.intDiv, hb]
theorem qt_negI {x : Operand} {xt : TypeId} {a : Int} (h : ev lk x = some (.int .i64 a)) (h0 : -9223372036854775808 ≤ -a) (h1 : -a < 9223372036854775808) : Qt P J lk (.unOp .neg xt x) ty (.int .i64 (-a)) := by
  have g := qt_neg (P := P) (J := J) (ty := ty) (xt := xt) h
  rwa [show (0 : Int) - a = -a by omega, w64 h0 h1] at g
end
theorem SS.rdx {w0 w : World} {X : List Nat} {S : Nat → Prop} {own : Own} {R : World → Prop} (t : SS w0 X S own R w) {A : Option Addr} {vs : List Value} (h : Rd A vs w0) (hA : 0 < vs.length → ∀ r o, A = some ⟨r, o, none⟩ → r ∉ X) : Rd A vs w := by
  intro i v hv
  obtain ⟨r, o, e, ha⟩ := h i v hv
  have hl : 0 < vs.length := by have := (List.getElem?_eq_some_iff.1 hv).1; omega
  exact ⟨r, o, e, t.at_ ha (hA hl r o e)⟩
theorem i64s_at {l : List Int} {b : Nat} {z : Int} (h : l[b]? = some z) : (i64s l)[b]? = some (.int .i64 z) := by simp [i64s, h]
theorem rowop_row {i j rr : Nat} {c : Int} {g : Mf} {f : Nat → Int} (hf : ∀ b, f b = rowop i j c (g rr) b) (a b : Nat) : (if a = rr then f b else if a < rr then rowop i j c (g a) b else g a b) = if a < rr + 1 then rowop i j c (g a) b else g a b := by
  by_cases h : a = rr
  · subst h
    rw [if_pos rfl, if_pos (by omega), hf]
  · rw [if_neg h]
    by_cases h' : a < rr
    · rw [if_pos h', if_pos (by omega)]
    · rw [if_neg h', if_neg (by omega)]
theorem gset_row {i rr : Nat} {v : Int} {F g : Mf} (a b : Nat) : gset (fun a b => if a < rr then F a b else g a b) rr i v a b = if a = rr then (if b = i then v else g rr b) else if a < rr then F a b else g a b := by
  unfold gset
  by_cases h : a = rr
  · rw [if_pos h, h]
    dsimp only
    rw [if_neg (Nat.lt_irrefl _)]
    by_cases h' : b = i
    · rw [if_pos ⟨rfl, h'⟩, if_pos h']
    · rw [if_neg (fun e => h' e.2), if_neg h']
  · rw [if_neg h, if_neg (fun e => h e.1)]
theorem gset_row2 {i j rr : Nat} {v u : Int} {F g : Mf} (hij : i ≠ j) (a b : Nat) : gset (gset (fun a b => if a < rr then F a b else g a b) rr i v) rr j u a b = if a = rr then (if b = i then v else if b = j then u else g rr b) else if a < rr then F a b else g a b := by
  have h1 := gset_row (i := i) (rr := rr) (v := v) (F := F) (g := g) a b
  rw [show gset (gset (fun a b => if a < rr then F a b else g a b) rr i v) rr j u a b = if a = rr ∧ b = j then u else gset (fun a b => if a < rr then F a b else g a b) rr i v a b from rfl, h1]
  by_cases h : a = rr
  · rw [if_pos h, if_pos h]
    by_cases h' : b = i
    · rw [if_neg (fun e => hij (h'.symm.trans e.2)), if_pos h', if_pos h']
    · rw [if_neg h', if_neg h']
      by_cases h2 : b = j
      · rw [if_pos ⟨h, h2⟩, if_pos h2]
      · rw [if_neg (fun e => h2 e.2), if_neg h2]
  · rw [if_neg h, if_neg h, if_neg (fun e => h e.1)]
theorem pow3 {k : Nat} (h : k ≤ 12) : 3 ^ k ≤ 531441 := Nat.le_trans (Nat.pow_le_pow_right (by decide) h) (by decide)
end Go.Qk
end
section
set_option linter.unusedVariables false
namespace Go.Qk
open Go Go.Proofs Go.RowKit
set_option maxRecDepth 100000
set_option maxHeartbeats 4000000
theorem below_ret (l : List Int) (A : Option Addr) (c k r n : Nat) (w : World) (hL : Rd A (i8s l) w) (hA : 0 < l.length → ∀ r' o, A = some ⟨r', o, none⟩ → r' ≠ r) (hl : l.length ≤ 281474976710656) (hk : k ≤ l.length) (hin : ∀ a ∈ l, -128 ≤ a ∧ a < 128) (ho : w.heap[r]? = some (tapeO A l c k)) (hn : 1 ≤ n) (hn2 : n ≤ 65536) :
    RetU Try.prog 83 [.pointer (some ⟨r, 0, none⟩), .int .i64 (n : Int)] w r (fun _ : Unit => .int .i64 ((bel (l.getD k 0) n : Nat) : Int)) (fun _ => tapeO A l c (min (k + 1) l.length)) (fun _ => True) := by
  refine retU_of none_ Try.func83 rfl Try.ntmps83 rfl ho ?_
  refine tr_rseq ?_
  refine sq_q (qt_assign rfl) rfl ?_
  refine sq_end ?_
  refine tr_rseq ?_
  refine sq_q (qt_move rfl) rfl ?_
  refine sq_callU 0 (fun _ : Unit => .int .i64 (l.getD k 0)) (fun _ => tapeO A l c (min (k + 1) l.length)) (fun _ => True) rfl rfl rfl rfl (fun w' t => next_ret l A c k r w' (t.rdx hL (fun h0 r' o e => by rw [i8s_len] at h0; simpa using hA h0 r' o e)) hA hl hk hin (t.has _ (ownAt_mem (i := 0) rfl))) fun _ _ => ?_
  refine sq_q (qt_conv Try.underlying2 Try.underlying5 rfl) rfl ?_
  refine sq_q (qt_toI (a := (l.getD k 0) % 256) (by show some (Value.int .u8 (IntKind.u8.wrap (l.getD k 0))) = _; rw [wu8]) (by omega) (by omega)) rfl ?_
  refine sq_q (qt_move rfl) rfl ?_
  refine sq_q (qt_bin rfl rfl (bin_rem (by omega) (by omega))) rfl ?_
  refine sq_q (qt_assign rfl) rfl ?_
  refine sq_end ?_
  refine tr_ret ?_
  repeat with_reducible first | refine tr_skip ?_ | refine tr_exit ?_ | refine tr_then ?_ | refine tr_inX ?_ | refine tr_thenX ?_ | refine tr_inN ?_ | refine tr_inR ?_ | refine tr_thenR ?_
  exact tr_doneU () 0 trivial (fun a w s t => results_1 rfl (resv_tmp s (congrArg (fun z => some (Value.int .i64 z)) (bel_eq hn)))) rfl
end Go.Qk
end
section
set_option linter.unusedVariables false
namespace Go.Qk
open Go Go.Proofs Go.RowKit
set_option maxRecDepth 100000
set_option maxHeartbeats 4000000
theorem unimodular_ret (l : List Int) (p : Sv) (n : Nat) (w0 : World) (S : Nat → Prop) (hL : Rd p.1 (i8s l) w0) (hll : l.length ≤ 281474976710656) (hin : ∀ a ∈ l, -128 ≤ a ∧ a < 128) (hn1 : 1 ≤ n) (hn16 : n ≤ 16) :
    Ret Try.prog 39 [.slice p.1 l.length p.2, .int .i64 (n : Int)] w0 S Xm.v (fun m w => m.ok w ∧ ∃ u : Mf, m.zs = grid u n n ∧ (lap n u = 1 ∨ lap n u = -1) ∧ ∀ a b, a < n → b < n → (u a b).natAbs ≤ 531441) := by
  refine ret_of Try.func39 rfl Try.ntmps39 rfl ?_
  refine tr_rseq ?_
  refine sq_q (qt_assign rfl) rfl ?_
  refine sq_end ?_
  refine tr_rseq ?_
  refine sq_q (qt_move rfl) rfl ?_
  refine sq_make (c := n) rfl rfl (by omega) (by omega) rfl fun r14 => ?_
  refine sq_q (qt_assign rfl) rfl ?_
  refine sq_end ?_
  refine tr_seq ?_
  refine tr_rseq ?_
  refine sq_q (qt_move rfl) rfl ?_
  refine sq_q (qt_len rfl) rfl ?_
  refine sq_q (qt_move rfl) rfl ?_
  refine sq_end ?_
  refine tr_block ?_
  refine tr_loop (fun done : List Wi => done.length ≤ n ∧ ∀ a q, done[a]? = some q → q.2 = (List.replicate n (0 : Int)).set a 1) (fun done => [(0, .slice p.1 l.length p.2), (1, .int .i64 (n : Int)), (5, .slice (some ⟨r14, 0, none⟩) n n), (16, .int .i64 (n : Int)), (17, .int .i64 (done.length : Int))])
    (fun done => iout r14 done (n - done.length) :: done.map irow) (fun _ _ => True) (fun done => n - done.length) [] ⟨Nat.zero_le _, fun a q h => by simp at h⟩ ⟨rfl, rfl, rfl, rfl, rfl, trivial⟩ (by rw [made_s]; rfl) (fun _ _ => trivial) ?_
  rintro done ⟨hle, hd⟩
  refine tr_rseq ?_
  refine sq_q (qt_bin rfl rfl bin_lss) rfl ?_
  refine sq_end ?_
  refine tr_seq ?_
  refine tr_if rfl (fun hc => ?_) (fun hc => ?_)
  ·
    have hlt : done.length < n := by have := of_decide_eq_true hc; omega
    obtain ⟨k, hk⟩ : ∃ k, n - done.length = k + 1 := ⟨n - done.length - 1, by omega⟩
    refine tr_skip ?_
    repeat with_reducible first | refine tr_skip ?_ | refine tr_exit ?_ | refine tr_then ?_ | refine tr_inX ?_ | refine tr_thenX ?_ | refine tr_inN ?_ | refine tr_inR ?_ | refine tr_thenR ?_
    refine tr_seq ?_
    refine tr_block ?_
    refine tr_rseq ?_
    refine sq_q (qt_move rfl) rfl ?_
    refine sq_q (qt_assign rfl) rfl ?_
    refine sq_end ?_
    refine tr_rseq ?_
    refine sq_q (qt_move rfl) rfl ?_
    refine sq_q (qt_move rfl) rfl ?_
    refine sq_q (qt_move rfl) rfl ?_
    refine sq_make (c := n) rfl rfl (by omega) (by omega) rfl fun r23 => ?_
    refine sq_q (qt_index (i := done.length) rfl rfl hlt) rfl ?_
    refine sq_store 1 rfl rfl rfl rfl (by simp [Value.cells]; omega) rfl rfl ?_
    refine sq_end ?_
    obtain ⟨q, hq⟩ : ∃ q : Wi, q = (r23, List.replicate n (0 : Int)) := ⟨_, rfl⟩
    have hqh : ihdr q = .slice (some ⟨r23, 0, none⟩) n n := by rw [hq]; simp [ihdr]
    refine tr_own ((r23, .cells (i64s (List.replicate n 0)).toArray 2 (0, 0)) :: iout r14 (done ++ [q]) k :: done.map irow) (by rw [← iout_next k q, hqh, ← made_i64, ← hk]; rfl) ?_
    have hget : ((done ++ [q]).map ihdr ++ List.replicate k (Value.slice none 0 0))[done.length]? = some (.slice (some ⟨r23, 0, none⟩) n n) := by
      rw [← hqh]
      exact iout_get (by simp)
    refine tr_region ?_
    refine sq_q (qt_move rfl) rfl ?_
    refine sq_q (qt_move rfl) rfl ?_
    refine sq_q (qt_index (i := done.length) rfl rfl hlt) rfl ?_
    refine sq_q (qt_load rfl (fun w t => t.o1 1 rfl hget)) rfl ?_
    refine sq_q (qt_move rfl) rfl ?_
    refine sq_q (qt_index (i := done.length) rfl rfl hlt) rfl ?_
    refine sq_store 0 rfl rfl rfl rfl (show 0 + done.length * 1 + 1 ≤ (i64s (List.replicate n 0)).length by rw [i64s_len]; simp; omega) rfl rfl ?_
    refine sq_nil ?_
    repeat with_reducible first | refine tr_skip ?_ | refine tr_exit ?_ | refine tr_then ?_ | refine tr_inX ?_ | refine tr_thenX ?_ | refine tr_inN ?_ | refine tr_inR ?_ | refine tr_thenR ?_
    refine tr_region ?_
    refine sq_q (qt_bin rfl rfl (bin_addI (by omega) (by omega))) rfl ?_
    refine sq_q (qt_move rfl) rfl ?_
    refine sq_nil ?_
    repeat with_reducible first | refine tr_skip ?_ | refine tr_exit ?_ | refine tr_then ?_ | refine tr_inX ?_ | refine tr_thenX ?_ | refine tr_inN ?_ | refine tr_inR ?_ | refine tr_thenR ?_
    obtain ⟨q', hq'⟩ : ∃ q' : Wi, q' = (r23, (List.replicate n (0 : Int)).set done.length 1) := ⟨_, rfl⟩
    have e1 : ihdr q' = ihdr q := by rw [hq, hq']; simp [ihdr]
    have e2 : iout r14 (done ++ [q]) k = iout r14 (done ++ [q']) k := by unfold iout; rw [List.map_append, List.map_append, List.map_singleton, List.map_singleton, e1]
    have e3 : (r23, Obj.cells (wr (i64s (List.replicate n 0)) (0 + done.length * 1) [.int .i64 1]).toArray 2 (0, 0)) = irow q' := by
      rw [hq', Nat.zero_add, Nat.mul_one]
      show (r23, Obj.cells ((i64s (List.replicate n 0)).set done.length (.int .i64 1)).toArray _ _) = _
      rw [i64s_set]
      rfl
    refine tr_perm (iout r14 (done ++ [q']) k :: (done ++ [q']).map irow) ?_ ?_
    · show ((r23, Obj.cells (wr (i64s (List.replicate n 0)) (0 + done.length * 1) [.int .i64 1]).toArray 2 (0, 0)) :: iout r14 (done ++ [q]) k :: done.map irow).Perm _
      rw [e2, e3, List.map_append, List.map_singleton]
      exact (List.Perm.swap _ _ _).trans (List.Perm.cons _ (List.perm_append_comm (l₁ := [irow q']) (l₂ := done.map irow)))
    refine tr_round (done ++ [q']) ⟨by simp; omega, fun a u hu => ?_⟩ (by simp; omega) ⟨rfl, rfl, rfl, rfl, by rw [List.length_append]; rfl, trivial⟩ (by rw [List.length_append, List.length_singleton, show n - (done.length + 1) = k by omega]) (fun _ _ => trivial)
    rw [List.getElem?_append] at hu
    split at hu
    · exact hd a u hu
    · rw [List.getElem?_singleton] at hu
      split at hu
      · injection hu with hu
        rw [← hu, hq', show a = done.length by omega]
      · simp at hu
  ·
    have hdn : done.length = n := by have := of_decide_eq_false hc; omega
    refine tr_exit ?_
    repeat with_reducible first | refine tr_skip ?_ | refine tr_exit ?_ | refine tr_then ?_ | refine tr_inX ?_ | refine tr_thenX ?_ | refine tr_inN ?_ | refine tr_inR ?_ | refine tr_thenR ?_
    refine tr_rseq ?_
    refine sq_q (qt_move rfl) rfl ?_
    refine sq_q (qt_build rfl (builtTape _ _ _)) rfl ?_
    refine sq_box rfl rfl fun r34 => ?_
    refine sq_q (qt_assign rfl) rfl ?_
    refine sq_end ?_
    refine tr_own ((r34, tapeO p.1 l p.2 0) :: iown r14 done) (by rw [hdn, Nat.sub_self]; rfl) ?_
    have hG0 : IG idm n n done := ⟨hdn, fun a q hq => by
      rw [hd a q hq]
      refine ⟨by simp, fun b z hz => ?_⟩
      rw [List.getElem?_set] at hz
      unfold idm
      split at hz
      · rename_i h
        split at hz
        · injection hz with hz; rw [if_pos h, ← hz]
        · simp at hz
      · rename_i h
        rw [if_neg h]
        have := List.eq_of_mem_replicate (List.mem_of_getElem? hz)
        exact this⟩
    refine tr_seq ?_
    refine tr_rseq ?_
    refine sq_q (qt_assign rfl) rfl ?_
    refine sq_end ?_
    refine tr_block ?_
    refine tr_loop3 (fun (kk pos : Nat) (qs : List Wi) => kk ≤ 12 ∧ pos ≤ l.length ∧ ∃ g : Mf, IG g n n qs ∧ (lap n g = 1 ∨ lap n g = -1) ∧ ∀ a b, a < n → b < n → (g a b).natAbs ≤ 3 ^ kk)
      (fun kk pos qs => [(1, .int .i64 (n : Int)), (5, .slice (some ⟨r14, 0, none⟩) n n), (7, .pointer (some ⟨r34, 0, none⟩)), (8, .int .i64 (kk : Int))]) (fun kk pos qs => (r34, tapeO p.1 l p.2 pos) :: iown r14 qs) (fun _ _ _ _ => True) (fun kk _ _ => 12 - kk) 0 0 done ⟨by omega, Nat.zero_le _, idm, hG0, .inl (lap_id n), fun a b _ _ => by unfold idm; split <;> simp⟩ ⟨rfl, rfl, rfl, rfl, trivial⟩ rfl (fun _ _ => trivial) ?_
    clear hG0 hd hle hdn hc done
    rintro kk pos qs ⟨hkk, hpos, g, hG, hlap, hbnd⟩
    refine tr_seq ?_
    rcases (by omega : kk = 12 ∨ kk < 12) with hk12 | hk12
    ·
      refine tr_rsb [] ?_
      refine sb_q 0 rfl (by kernel_rfl) (qt_move rfl) rfl ?_
      refine sb_q 1 rfl (by kernel_rfl) (qt_bin rfl rfl (bF bin_lss (by omega))) rfl ?_
      refine sb_q 2 rfl (by kernel_rfl) (qt_move rfl) rfl ?_
      refine sb_gF 3 rfl rfl rfl rfl (by kernel_rfl) rfl ?_
      refine sb_gF 4 rfl rfl rfl rfl (by kernel_rfl) rfl ?_
      refine sb_gF 5 rfl rfl rfl rfl (by kernel_rfl) rfl ?_
      refine sb_gF 6 rfl rfl rfl rfl (by kernel_rfl) rfl ?_
      refine sb_gF 7 rfl rfl rfl rfl (by kernel_rfl) rfl ?_
      refine sb_gF 8 rfl rfl rfl rfl (by kernel_rfl) rfl ?_
      refine sb_gF 9 rfl rfl rfl rfl (by kernel_rfl) rfl ?_
      refine sb_gF 10 rfl rfl rfl rfl (by kernel_rfl) rfl ?_
      refine sb_gF 11 rfl rfl rfl rfl (by kernel_rfl) rfl ?_
      refine sb_gF 12 rfl rfl rfl rfl (by kernel_rfl) rfl ?_
      refine sb_q 13 rfl (by kernel_rfl) (qt_pick rfl rfl) rfl ?_
      refine sb_endk (by kernel_rfl) ?_
      refine tr_ifF rfl ?_
      refine tr_exit ?_
      repeat with_reducible first | refine tr_skip ?_ | refine tr_exit ?_ | refine tr_then ?_ | refine tr_inX ?_ | refine tr_thenX ?_ | refine tr_inN ?_ | refine tr_inR ?_ | refine tr_thenR ?_
      refine tr_rseq ?_
      refine sq_q (qt_move rfl) rfl ?_
      refine sq_q (qt_assign rfl) rfl ?_
      refine sq_end ?_
      refine tr_ret ?_
      repeat with_reducible first | refine tr_skip ?_ | refine tr_exit ?_ | refine tr_then ?_ | refine tr_inX ?_ | refine tr_thenX ?_ | refine tr_inN ?_ | refine tr_inR ?_ | refine tr_thenR ?_
      refine tr_done (imt r14 qs) (fun a w s t => results_1 rfl (resv_tmp s (by rw [imt_v, hG.1]; rfl))) (fun w h ho _ => ⟨imt_ok (fun q hq => ho q (List.mem_cons_of_mem _ hq)) (fun q hq z hz => ?_), g, by rw [imt_zs, hG.zs], hlap, fun a b ha hb => Nat.le_trans (hbnd a b ha hb) (pow3 hkk)⟩)
      obtain ⟨a, ha⟩ := List.getElem?_of_mem hq
      obtain ⟨b, hb⟩ := List.getElem?_of_mem hz
      have hz' := (hG.2 a q ha).2 b z hb
      have h1 := hbnd a b (by have := (List.getElem?_eq_some_iff.1 ha).1; have := hG.1; omega) (by have := (List.getElem?_eq_some_iff.1 hb).1; have := (hG.2 a q ha).1; omega)
      have h2 := pow3 hkk
      unfold In64
      omega
    ·
      refine tr_rsb [] ?_
      refine sb_q 0 rfl (by kernel_rfl) (qt_move rfl) rfl ?_
      refine sb_q 1 rfl (by kernel_rfl) (qt_bin rfl rfl (bT bin_lss (by omega))) rfl ?_
      refine sb_q 2 rfl (by kernel_rfl) (qt_move rfl) rfl ?_
      refine sb_qG 3 rfl rfl rfl (by kernel_rfl) (qt_move rfl) rfl ?_
      refine sb_qG 4 rfl rfl rfl (by kernel_rfl) (qt_nilCheck rfl) rfl ?_
      refine sb_qG 5 rfl rfl rfl (by kernel_rfl) (qt_fieldAddr rfl) rfl ?_
      refine sb_qG 6 rfl rfl rfl (by kernel_rfl) (qt_load rfl (fun w t => t.atO 0 rfl rfl)) rfl ?_
      refine sb_qG 7 rfl rfl rfl (by kernel_rfl) (qt_move rfl) rfl ?_
      refine sb_qG 8 rfl rfl rfl (by kernel_rfl) (qt_nilCheck rfl) rfl ?_
      refine sb_qG 9 rfl rfl rfl (by kernel_rfl) (qt_fieldAddr rfl) rfl ?_
      refine sb_qG 10 rfl rfl rfl (by kernel_rfl) (qt_load rfl (fun w t => t.atO 0 rfl rfl)) rfl ?_
      refine sb_qG 11 rfl rfl rfl (by kernel_rfl) (qt_len rfl) rfl ?_
      refine sb_qG 12 rfl rfl rfl (by kernel_rfl) (qt_bin rfl rfl bin_lss) rfl ?_
      refine sb_q 13 rfl (by kernel_rfl) (qt_pick rfl rfl) rfl ?_
      refine sb_endk (by kernel_rfl) ?_
      refine tr_if rfl (fun hc => ?_) (fun hc => ?_)
      ·
        have hB : 3 ^ kk ≤ 177147 := Nat.le_trans (Nat.pow_le_pow_right (by decide) (show kk ≤ 11 by omega)) (by decide)
        have hA : ∀ (w : World) (r' : Nat), 0 < l.length → ∀ r'' o, p.1 = some ⟨r'', o, none⟩ → w0.heap.size ≤ r' → r'' ≠ r' := fun w r' h0 r'' o e hr => by
          obtain ⟨r3, o3, e', ha⟩ := hL.at_ (i8s_get h0)
          rw [e] at e'
          injection e' with e'
          injection e' with e1 _ _
          have h1 := ha.lt
          omega
        obtain ⟨i, hi⟩ : ∃ i, i = bel (l.getD pos 0) n := ⟨_, rfl⟩
        have hin1 : i < n := by rw [hi]; exact bel_lt hn1
        obtain ⟨j, hj⟩ : ∃ j, j = bel (l.getD (min (pos + 1) l.length) 0) n := ⟨_, rfl⟩
        have hjn1 : j < n := by rw [hj]; exact bel_lt hn1
        obtain ⟨v, hv⟩ : ∃ v, v = l.getD (min (min (pos + 1) l.length + 1) l.length) 0 := ⟨_, rfl⟩
        have hv8 := in8_getD hin (min (min (pos + 1) l.length + 1) l.length)
        rw [← hv] at hv8
        refine tr_skip ?_
        repeat with_reducible first | refine tr_skip ?_ | refine tr_exit ?_ | refine tr_then ?_ | refine tr_inX ?_ | refine tr_thenX ?_ | refine tr_inN ?_ | refine tr_inR ?_ | refine tr_thenR ?_
        refine tr_seq ?_
        refine tr_block ?_
        refine tr_rseq ?_
        refine sq_q (qt_move rfl) rfl ?_
        refine sq_q (qt_move rfl) rfl ?_
        refine sq_callU 0 (fun _ : Unit => .int .i64 (i : Int)) (fun _ => tapeO p.1 l p.2 (min (pos + 1) l.length)) (fun _ => True) rfl rfl rfl rfl (fun w t => by rw [hi]; exact below_ret l p.1 p.2 pos r34 n w (t.rd hL) (fun h0 r'' o e => hA w r34 h0 r'' o e ((t.lt _ (ownAt_mem (i := 0) rfl)).2.resolve_left (by simp))) hll hpos hin (t.has _ (ownAt_mem (i := 0) rfl)) hn1 (by omega)) fun _ _ => ?_
        refine sq_q (qt_move rfl) rfl ?_
        refine sq_q (qt_move rfl) rfl ?_
        refine sq_callU 0 (fun _ : Unit => .int .i64 (j : Int)) (fun _ => tapeO p.1 l p.2 (min (min (pos + 1) l.length + 1) l.length)) (fun _ => True) rfl rfl rfl rfl (fun w t => by rw [hj]; exact below_ret l p.1 p.2 (min (pos + 1) l.length) r34 n w (t.rd hL) (fun h0 r'' o e => hA w r34 h0 r'' o e ((t.lt _ (ownAt_mem (i := 0) rfl)).2.resolve_left (by simp))) hll (by omega) hin (t.has _ (ownAt_mem (i := 0) rfl)) hn1 (by omega)) fun _ _ => ?_
        refine sq_q (qt_assign rfl) rfl ?_
        refine sq_q (qt_assign rfl) rfl ?_
        refine sq_end ?_
        refine tr_rseq ?_
        refine sq_q (qt_move rfl) rfl ?_
        refine sq_callU 0 (fun _ : Unit => .int .i64 v) (fun _ => tapeO p.1 l p.2 (min (min (min (pos + 1) l.length + 1) l.length + 1) l.length)) (fun _ => True) rfl rfl rfl rfl (fun w t => by rw [hv]; exact next_ret l p.1 p.2 (min (min (pos + 1) l.length + 1) l.length) r34 w (t.rd hL) (fun h0 r'' o e => hA w r34 h0 r'' o e ((t.lt _ (ownAt_mem (i := 0) rfl)).2.resolve_left (by simp))) hll (by omega) hin (t.has _ (ownAt_mem (i := 0) rfl))) fun _ _ => ?_
        refine sq_q (qt_bin rfl rfl (bin_remS (by decide))) rfl ?_
        refine sq_q (qt_assign rfl) rfl ?_
        refine sq_end ?_
        obtain ⟨c, hcv⟩ : ∃ c, c = v.tmod 3 := ⟨_, rfl⟩
        have hc2 : -2 ≤ c ∧ c ≤ 2 := by rw [hcv]; have h1 := Int.tmod_lt_of_pos v (b := 3) (by decide); have h2 := Int.lt_tmod_of_pos v (b := 3) (by decide); omega
        rw [← hcv]
        obtain ⟨pos', hp'⟩ : ∃ q, q = min (min (min (pos + 1) l.length + 1) l.length + 1) l.length := ⟨_, rfl⟩
        rw [← hp']
        have hpl : pos' ≤ l.length := by omega
        clear hi hj hv hcv hp' hA
        refine tr_rseq ?_
        refine sq_q (qt_move rfl) rfl ?_
        refine sq_q (qt_len rfl) rfl ?_
        refine sq_q (qt_move rfl) rfl ?_
        refine sq_end ?_
        refine tr_block ?_
        refine tr_loop2 (fun (rr : Nat) (qs : List Wi) => rr ≤ n ∧ IG (fun a b => if a < rr then rowop i j c (g a) b else g a b) n n qs) (fun rr qs => [(1, .int .i64 (n : Int)), (5, .slice (some ⟨r14, 0, none⟩) n n), (7, .pointer (some ⟨r34, 0, none⟩)), (8, .int .i64 (kk : Int)), (9, .int .i64 (i : Int)), (10, .int .i64 (j : Int)), (11, .int .i64 c), (61, .int .i64 (n : Int)), (62, .int .i64 (rr : Int))]) (fun rr qs => (r34, tapeO p.1 l p.2 pos') :: iown r14 qs) (fun _ _ _ => True) (fun rr _ => n - rr) 0 qs ⟨Nat.zero_le _, hG.congr (fun a b _ _ => by rw [if_neg (by omega)])⟩ ⟨rfl, rfl, rfl, rfl, rfl, rfl, rfl, rfl, rfl, trivial⟩ rfl (fun _ _ => trivial) ?_
        clear hG qs
        rintro rr qs ⟨hrn, hG⟩
        refine tr_rseq ?_
        refine sq_q (qt_bin rfl rfl bin_lss) rfl ?_
        refine sq_end ?_
        refine tr_seq ?_
        refine tr_if rfl (fun hc => ?_) (fun hc => ?_)
        ·
          have hlr : rr < n := by have := of_decide_eq_true hc; omega
          obtain ⟨q, hq, hql⟩ := hG.get hlr
          obtain ⟨zi, hzi⟩ : ∃ z, q.2[i]? = some z := ⟨_, List.getElem?_eq_getElem (by omega)⟩
          obtain ⟨zj, hzj⟩ : ∃ z, q.2[j]? = some z := ⟨_, List.getElem?_eq_getElem (by omega)⟩
          have ei : zi = g rr i := by have h := (hG.2 rr q hq).2 i zi hzi; dsimp only at h; rw [if_neg (by omega)] at h; exact h
          have ej : zj = g rr j := by have h := (hG.2 rr q hq).2 j zj hzj; dsimp only at h; rw [if_neg (by omega)] at h; exact h
          have bi := hbnd rr i hlr hin1
          have bj := hbnd rr j hlr hjn1
          rw [← ei] at bi
          rw [← ej] at bj
          have ecg : ∀ (f : Nat → Int), (∀ b, f b = rowop i j c (g rr) b) → ∀ qs', IG (fun a b => if a = rr then f b else if a < rr then rowop i j c (g a) b else g a b) n n qs' → IG (fun a b => if a < rr + 1 then rowop i j c (g a) b else g a b) n n qs' := fun f hf qs' h => h.congr fun a b _ _ => rowop_row hf a b
          refine tr_skip ?_
          repeat with_reducible first | refine tr_skip ?_ | refine tr_exit ?_ | refine tr_then ?_ | refine tr_inX ?_ | refine tr_thenX ?_ | refine tr_inN ?_ | refine tr_inR ?_ | refine tr_thenR ?_
          refine tr_seq ?_
          refine tr_block ?_
          refine tr_rseq ?_
          refine sq_q (qt_move rfl) rfl ?_
          refine sq_q (qt_assign rfl) rfl ?_
          refine sq_end ?_
          refine tr_block ?_
          rcases (by omega : (i = j ∧ c < 0) ∨ (i = j ∧ ¬ c < 0) ∨ i ≠ j) with ⟨hij, hcn⟩ | ⟨hij, hcn⟩ | hij
          ·
            refine tr_rseq ?_
            refine sq_q (qt_move rfl) rfl ?_
            refine sq_q (qt_move rfl) rfl ?_
            refine sq_q (qt_bin rfl rfl (bT bin_eql (by omega))) rfl ?_
            refine sq_q (qt_move rfl) rfl ?_
            refine sq_gT rfl rfl ?_
            refine sq_q (qt_move rfl) rfl ?_
            refine sq_gT rfl rfl ?_
            refine sq_q (qt_bin rfl rfl (bT bin_lss (by omega))) rfl ?_
            refine sq_q (qt_pick rfl rfl) rfl ?_
            refine sq_q (qt_assign rfl) rfl ?_
            refine sq_end ?_
            refine tr_ifT rfl ?_
            refine tr_sb [14] ?_
            refine sb_q 0 rfl (by kernel_rfl) (qt_move rfl) rfl ?_
            refine sb_q 1 rfl (by kernel_rfl) (qt_move rfl) rfl ?_
            refine sb_q 2 rfl (by kernel_rfl) (qt_index (i := rr) rfl rfl hlr) rfl ?_
            refine sb_q 3 rfl (by kernel_rfl) (qt_load (v := .slice (some ⟨q.1, 0, none⟩) q.2.length q.2.length) rfl (fun w t => t.o1 1 rfl (iout_get hq))) rfl ?_
            refine sb_q 4 rfl (by kernel_rfl) (qt_move rfl) rfl ?_
            refine sb_q 5 rfl (by kernel_rfl) (qt_move rfl) rfl ?_
            refine sb_q 6 rfl (by kernel_rfl) (qt_move rfl) rfl ?_
            refine sb_q 7 rfl (by kernel_rfl) (qt_index (i := rr) rfl rfl hlr) rfl ?_
            refine sb_q 8 rfl (by kernel_rfl) (qt_load (v := .slice (some ⟨q.1, 0, none⟩) q.2.length q.2.length) rfl (fun w t => t.o1 1 rfl (iout_get hq))) rfl ?_
            refine sb_q 9 rfl (by kernel_rfl) (qt_move rfl) rfl ?_
            refine sb_q 10 rfl (by kernel_rfl) (qt_index (i := i) rfl rfl (by omega)) rfl ?_
            refine sb_q 11 rfl (by kernel_rfl) (qt_load (v := .int .i64 zi) rfl (fun w t => t.o1 (rr + 2) (iown_at (o := r14) hq) (i64s_at hzi))) rfl ?_
            refine sb_q 12 rfl (by kernel_rfl) (qt_negI rfl (by omega) (by omega)) rfl ?_
            refine sb_q 13 rfl (by kernel_rfl) (qt_index (i := i) rfl rfl (by omega)) rfl ?_
            refine sb_one 14 (by kernel_rfl) ?_
            refine so2_store (rr + 2) rfl rfl rfl rfl (iown_at (o := r14) hq) rfl (show 0 + i * 1 + 1 ≤ (i64s q.2).length by rw [i64s_len]; omega) rfl rfl ?_
            refine sb_end (by kernel_rfl) ?_
            refine tr_own ((r34, tapeO p.1 l p.2 pos') :: iown r14 (qs.set rr (q.1, q.2.set i (-zi)))) (by rw [← iown_wr (-zi) hq]; rfl) ?_
            have hG2 := ecg (fun b => if b = i then -zi else g rr b) (fun b => by
              unfold rowop
              rw [if_pos hij, if_pos hcn, ei]
              by_cases h : b = i
              · rw [if_pos h, if_pos h, h]
              · rw [if_neg h, if_neg h]) _ ((hG.set hq (-zi)).congr fun a b _ _ => gset_row a b)
            repeat with_reducible first | refine tr_skip ?_ | refine tr_exit ?_ | refine tr_then ?_ | refine tr_inX ?_ | refine tr_thenX ?_ | refine tr_inN ?_ | refine tr_inR ?_ | refine tr_thenR ?_
            refine tr_region ?_
            refine sq_q (qt_bin rfl rfl (bin_addI (by omega) (by omega))) rfl ?_
            refine sq_q (qt_move rfl) rfl ?_
            refine sq_nil ?_
            repeat with_reducible first | refine tr_skip ?_ | refine tr_exit ?_ | refine tr_then ?_ | refine tr_inX ?_ | refine tr_thenX ?_ | refine tr_inN ?_ | refine tr_inR ?_ | refine tr_thenR ?_
            exact tr_round2 (rr + 1) _ ⟨by omega, hG2⟩ (by omega) ⟨rfl, rfl, rfl, rfl, rfl, rfl, rfl, rfl, rfl, trivial⟩ rfl (fun _ h => h)
          ·
            refine tr_rseq ?_
            refine sq_q (qt_move rfl) rfl ?_
            refine sq_q (qt_move rfl) rfl ?_
            refine sq_q (qt_bin rfl rfl (bT bin_eql (by omega))) rfl ?_
            refine sq_q (qt_move rfl) rfl ?_
            refine sq_gT rfl rfl ?_
            refine sq_q (qt_move rfl) rfl ?_
            refine sq_gT rfl rfl ?_
            refine sq_q (qt_bin rfl rfl (bF bin_lss (by omega))) rfl ?_
            refine sq_q (qt_pick rfl rfl) rfl ?_
            refine sq_q (qt_assign rfl) rfl ?_
            refine sq_end ?_
            refine tr_ifF rfl ?_
            ·
              refine tr_rseq ?_
              refine sq_q (qt_move rfl) rfl ?_
              refine sq_q (qt_move rfl) rfl ?_
              first | (refine sq_q (qt_bin rfl rfl (bF bin_neq (by omega))) rfl ?_; done) | refine sq_q (qt_bin rfl rfl (bT bin_neq (by omega))) rfl ?_ | refine sq_q (qt_bin rfl rfl (bF bin_neq (by omega))) rfl ?_
              refine sq_q (qt_move rfl) rfl ?_
              refine sq_gF rfl rfl rfl rfl ?_
              refine sq_gF rfl rfl rfl rfl ?_
              refine sq_q (qt_pick rfl rfl) rfl ?_
              refine sq_q (qt_assign rfl) rfl ?_
              refine sq_end ?_
              refine tr_ifF rfl ?_
              ·
                refine tr_rseq ?_
                refine sq_q (qt_move rfl) rfl ?_
                refine sq_q (qt_move rfl) rfl ?_
                first | refine sq_q (qt_bin rfl rfl (bF bin_neq (by omega))) rfl ?_ | refine sq_q (qt_bin rfl rfl (bT bin_neq (by omega))) rfl ?_
                refine sq_q (qt_assign rfl) rfl ?_
                refine sq_end ?_
                refine tr_ifF rfl ?_
                refine tr_skip ?_
                repeat with_reducible first | refine tr_skip ?_ | refine tr_exit ?_ | refine tr_then ?_ | refine tr_inX ?_ | refine tr_thenX ?_ | refine tr_inN ?_ | refine tr_inR ?_ | refine tr_thenR ?_
                refine tr_region ?_
                refine sq_q (qt_bin rfl rfl (bin_addI (by omega) (by omega))) rfl ?_
                refine sq_q (qt_move rfl) rfl ?_
                refine sq_nil ?_
                repeat with_reducible first | refine tr_skip ?_ | refine tr_exit ?_ | refine tr_then ?_ | refine tr_inX ?_ | refine tr_thenX ?_ | refine tr_inN ?_ | refine tr_inR ?_ | refine tr_thenR ?_
                exact tr_round2 (rr + 1) qs ⟨by omega, hG.congr fun a b _ _ => by
                  by_cases h : a = rr
                  · subst h
                    rw [if_neg (by omega), if_pos (by omega)]
                    unfold rowop
                    rw [if_pos hij, if_neg hcn]
                  · by_cases h' : a < rr
                    · rw [if_pos h', if_pos (by omega)]
                    · rw [if_neg h', if_neg (by omega)]⟩ (by omega) ⟨rfl, rfl, rfl, rfl, rfl, rfl, rfl, rfl, rfl, trivial⟩ rfl (fun _ h => h)
          ·
            refine tr_rseq ?_
            refine sq_q (qt_move rfl) rfl ?_
            refine sq_q (qt_move rfl) rfl ?_
            refine sq_q (qt_bin rfl rfl (bF bin_eql (by omega))) rfl ?_
            refine sq_q (qt_move rfl) rfl ?_
            refine sq_gF rfl rfl rfl rfl ?_
            refine sq_gF rfl rfl rfl rfl ?_
            refine sq_q (qt_pick rfl rfl) rfl ?_
            refine sq_q (qt_assign rfl) rfl ?_
            refine sq_end ?_
            refine tr_ifF rfl ?_
            rcases (by omega : c = 0 ∨ c ≠ 0) with hc0 | hc0
            ·
              refine tr_rseq ?_
              refine sq_q (qt_move rfl) rfl ?_
              refine sq_q (qt_move rfl) rfl ?_
              first | (refine sq_q (qt_bin rfl rfl (bF bin_neq (by omega))) rfl ?_; done) | refine sq_q (qt_bin rfl rfl (bT bin_neq (by omega))) rfl ?_ | refine sq_q (qt_bin rfl rfl (bF bin_neq (by omega))) rfl ?_
              refine sq_q (qt_move rfl) rfl ?_
              refine sq_gT rfl rfl ?_
              refine sq_q (qt_move rfl) rfl ?_
              refine sq_gT rfl rfl ?_
              refine sq_q (qt_bin rfl rfl (bT bin_eql (by omega))) rfl ?_
              refine sq_q (qt_pick rfl rfl) rfl ?_
              refine sq_q (qt_assign rfl) rfl ?_
              refine sq_end ?_
              refine tr_ifT rfl ?_
              refine tr_sb [25, 27] ?_
              refine sb_q 0 rfl (by kernel_rfl) (qt_move rfl) rfl ?_
              refine sb_q 1 rfl (by kernel_rfl) (qt_move rfl) rfl ?_
              refine sb_q 2 rfl (by kernel_rfl) (qt_index (i := rr) rfl rfl hlr) rfl ?_
              refine sb_q 3 rfl (by kernel_rfl) (qt_load (v := .slice (some ⟨q.1, 0, none⟩) q.2.length q.2.length) rfl (fun w t => t.o1 1 rfl (iout_get hq))) rfl ?_
              refine sb_q 4 rfl (by kernel_rfl) (qt_move rfl) rfl ?_
              refine sb_q 5 rfl (by kernel_rfl) (qt_move rfl) rfl ?_
              refine sb_q 6 rfl (by kernel_rfl) (qt_move rfl) rfl ?_
              refine sb_q 7 rfl (by kernel_rfl) (qt_index (i := rr) rfl rfl hlr) rfl ?_
              refine sb_q 8 rfl (by kernel_rfl) (qt_load (v := .slice (some ⟨q.1, 0, none⟩) q.2.length q.2.length) rfl (fun w t => t.o1 1 rfl (iout_get hq))) rfl ?_
              refine sb_p 9 rfl (by kernel_rfl) (qt_move rfl) rfl ?_
              refine sb_q 10 rfl (by kernel_rfl) (qt_move rfl) rfl ?_
              refine sb_q 11 rfl (by kernel_rfl) (qt_move rfl) rfl ?_
              refine sb_q 12 rfl (by kernel_rfl) (qt_index (i := rr) rfl rfl hlr) rfl ?_
              refine sb_q 13 rfl (by kernel_rfl) (qt_load (v := .slice (some ⟨q.1, 0, none⟩) q.2.length q.2.length) rfl (fun w t => t.o1 1 rfl (iout_get hq))) rfl ?_
              refine sb_q 14 rfl (by kernel_rfl) (qt_move rfl) rfl ?_
              refine sb_q 15 rfl (by kernel_rfl) (qt_index (i := j) rfl rfl (by omega)) rfl ?_
              refine sb_q 16 rfl (by kernel_rfl) (qt_load (v := .int .i64 zj) rfl (fun w t => t.o1 (rr + 2) (iown_at (o := r14) hq) (i64s_at hzj))) rfl ?_
              refine sb_q 17 rfl (by kernel_rfl) (qt_move rfl) rfl ?_
              refine sb_q 18 rfl (by kernel_rfl) (qt_move rfl) rfl ?_
              refine sb_q 19 rfl (by kernel_rfl) (qt_index (i := rr) rfl rfl hlr) rfl ?_
              refine sb_q 20 rfl (by kernel_rfl) (qt_load (v := .slice (some ⟨q.1, 0, none⟩) q.2.length q.2.length) rfl (fun w t => t.o1 1 rfl (iout_get hq))) rfl ?_
              refine sb_q 21 rfl (by kernel_rfl) (qt_move rfl) rfl ?_
              refine sb_q 22 rfl (by kernel_rfl) (qt_index (i := i) rfl rfl (by omega)) rfl ?_
              refine sb_q 23 rfl (by kernel_rfl) (qt_load (v := .int .i64 zi) rfl (fun w t => t.o1 (rr + 2) (iown_at (o := r14) hq) (i64s_at hzi))) rfl ?_
              refine sb_q 24 rfl (by kernel_rfl) (qt_index (i := i) rfl rfl (by omega)) rfl ?_
              refine sb_one 25 (by kernel_rfl) ?_
              refine so2_store (rr + 2) rfl rfl rfl rfl (iown_at (o := r14) hq) rfl (show 0 + i * 1 + 1 ≤ (i64s q.2).length by rw [i64s_len]; omega) rfl rfl ?_
              refine sb_own ((r34, tapeO p.1 l p.2 pos') :: iown r14 (qs.set rr (q.1, q.2.set i zj))) (by rw [← iown_wr zj hq]; rfl) ?_
              have hq2 : (qs.set rr (q.1, q.2.set i zj))[rr]? = some (q.1, q.2.set i zj) := List.getElem?_set_self (by have := (List.getElem?_eq_some_iff.1 hq).1; omega)
              refine sb_q 26 rfl (by kernel_rfl) (qt_index (i := j) rfl rfl (by omega)) rfl ?_
              refine sb_one 27 (by kernel_rfl) ?_
              refine so2_store (rr + 2) rfl rfl rfl rfl (iown_at (o := r14) (q := (q.1, q.2.set i zj)) hq2) rfl (show 0 + j * 1 + 1 ≤ (i64s (q.2.set i zj)).length by rw [i64s_len, List.length_set]; omega) rfl rfl ?_
              refine sb_end (by kernel_rfl) ?_
              refine tr_own ((r34, tapeO p.1 l p.2 pos') :: iown r14 ((qs.set rr (q.1, q.2.set i zj)).set rr (q.1, (q.2.set i zj).set j zi))) (by rw [← iown_wr zi hq2]; rfl) ?_
              have hG2 := ecg (fun b => if b = i then zj else if b = j then zi else g rr b) (fun b => by unfold rowop; rw [if_neg hij, if_pos hc0, ei, ej]) _ (((hG.set hq zj).set hq2 zi).congr fun a b _ _ => gset_row2 hij a b)
              repeat with_reducible first | refine tr_skip ?_ | refine tr_exit ?_ | refine tr_then ?_ | refine tr_inX ?_ | refine tr_thenX ?_ | refine tr_inN ?_ | refine tr_inR ?_ | refine tr_thenR ?_
              refine tr_region ?_
              refine sq_q (qt_bin rfl rfl (bin_addI (by omega) (by omega))) rfl ?_
              refine sq_q (qt_move rfl) rfl ?_
              refine sq_nil ?_
              repeat with_reducible first | refine tr_skip ?_ | refine tr_exit ?_ | refine tr_then ?_ | refine tr_inX ?_ | refine tr_thenX ?_ | refine tr_inN ?_ | refine tr_inR ?_ | refine tr_thenR ?_
              exact tr_round2 (rr + 1) _ ⟨by omega, hG2⟩ (by omega) ⟨rfl, rfl, rfl, rfl, rfl, rfl, rfl, rfl, rfl, trivial⟩ rfl (fun _ h => h)
            ·
              refine tr_rseq ?_
              refine sq_q (qt_move rfl) rfl ?_
              refine sq_q (qt_move rfl) rfl ?_
              refine sq_q (qt_bin rfl rfl (bT bin_neq (by omega))) rfl ?_
              refine sq_q (qt_move rfl) rfl ?_
              refine sq_gT rfl rfl ?_
              refine sq_q (qt_move rfl) rfl ?_
              refine sq_gT rfl rfl ?_
              refine sq_q (qt_bin rfl rfl (bF bin_eql (by omega))) rfl ?_
              refine sq_q (qt_pick rfl rfl) rfl ?_
              refine sq_q (qt_assign rfl) rfl ?_
              refine sq_end ?_
              refine tr_ifF rfl ?_
              ·
                refine tr_rseq ?_
                refine sq_q (qt_move rfl) rfl ?_
                refine sq_q (qt_move rfl) rfl ?_
                first | refine sq_q (qt_bin rfl rfl (bF bin_neq (by omega))) rfl ?_ | refine sq_q (qt_bin rfl rfl (bT bin_neq (by omega))) rfl ?_
                refine sq_q (qt_assign rfl) rfl ?_
                refine sq_end ?_
                refine tr_ifT rfl ?_
                refine tr_sb [18] ?_
                refine sb_q 0 rfl (by kernel_rfl) (qt_move rfl) rfl ?_
                refine sb_q 1 rfl (by kernel_rfl) (qt_move rfl) rfl ?_
                refine sb_q 2 rfl (by kernel_rfl) (qt_index (i := rr) rfl rfl hlr) rfl ?_
                refine sb_q 3 rfl (by kernel_rfl) (qt_load (v := .slice (some ⟨q.1, 0, none⟩) q.2.length q.2.length) rfl (fun w t => t.o1 1 rfl (iout_get hq))) rfl ?_
                refine sb_q 4 rfl (by kernel_rfl) (qt_move rfl) rfl ?_
                refine sb_q 5 rfl (by kernel_rfl) (qt_index (i := i) rfl rfl (by omega)) rfl ?_
                refine sb_q 6 rfl (by kernel_rfl) (qt_load (v := .int .i64 zi) rfl (fun w t => t.o1 (rr + 2) (iown_at (o := r14) hq) (i64s_at hzi))) rfl ?_
                refine sb_q 7 rfl (by kernel_rfl) (qt_move rfl) rfl ?_
                refine sb_q 8 rfl (by kernel_rfl) (qt_move rfl) rfl ?_
                refine sb_q 9 rfl (by kernel_rfl) (qt_move rfl) rfl ?_
                refine sb_q 10 rfl (by kernel_rfl) (qt_index (i := rr) rfl rfl hlr) rfl ?_
                refine sb_q 11 rfl (by kernel_rfl) (qt_load (v := .slice (some ⟨q.1, 0, none⟩) q.2.length q.2.length) rfl (fun w t => t.o1 1 rfl (iout_get hq))) rfl ?_
                refine sb_q 12 rfl (by kernel_rfl) (qt_move rfl) rfl ?_
                refine sb_q 13 rfl (by kernel_rfl) (qt_index (i := j) rfl rfl (by omega)) rfl ?_
                refine sb_q 14 rfl (by kernel_rfl) (qt_load (v := .int .i64 zj) rfl (fun w t => t.o1 (rr + 2) (iown_at (o := r14) hq) (i64s_at hzj))) rfl ?_
                have hm1 : (c * zj).natAbs ≤ 354294 := by rw [Int.natAbs_mul]; exact Nat.le_trans (Nat.mul_le_mul (show c.natAbs ≤ 2 by omega) (Nat.le_trans bj hB)) (by decide)
                refine sb_q 15 rfl (by kernel_rfl) (qt_bin rfl rfl (bin_mulI (by omega) (by omega))) rfl ?_
                refine sb_q 16 rfl (by kernel_rfl) (qt_bin rfl rfl (bin_addI (by omega) (by omega))) rfl ?_
                refine sb_q 17 rfl (by kernel_rfl) (qt_index (i := i) rfl rfl (by omega)) rfl ?_
                refine sb_one 18 (by kernel_rfl) ?_
                refine so2_store (rr + 2) rfl rfl rfl rfl (iown_at (o := r14) hq) rfl (show 0 + i * 1 + 1 ≤ (i64s q.2).length by rw [i64s_len]; omega) rfl rfl ?_
                refine sb_end (by kernel_rfl) ?_
                refine tr_own ((r34, tapeO p.1 l p.2 pos') :: iown r14 (qs.set rr (q.1, q.2.set i (zi + c * zj)))) (by rw [← iown_wr (zi + c * zj) hq]; rfl) ?_
                have hG2 := ecg (fun b => if b = i then zi + c * zj else g rr b) (fun b => by unfold rowop; rw [if_neg hij, if_neg hc0, ei, ej]) _ ((hG.set hq (zi + c * zj)).congr fun a b _ _ => gset_row a b)
                repeat with_reducible first | refine tr_skip ?_ | refine tr_exit ?_ | refine tr_then ?_ | refine tr_inX ?_ | refine tr_thenX ?_ | refine tr_inN ?_ | refine tr_inR ?_ | refine tr_thenR ?_
                refine tr_region ?_
                refine sq_q (qt_bin rfl rfl (bin_addI (by omega) (by omega))) rfl ?_
                refine sq_q (qt_move rfl) rfl ?_
                refine sq_nil ?_
                repeat with_reducible first | refine tr_skip ?_ | refine tr_exit ?_ | refine tr_then ?_ | refine tr_inX ?_ | refine tr_thenX ?_ | refine tr_inN ?_ | refine tr_inR ?_ | refine tr_thenR ?_
                exact tr_round2 (rr + 1) _ ⟨by omega, hG2⟩ (by omega) ⟨rfl, rfl, rfl, rfl, rfl, rfl, rfl, rfl, rfl, trivial⟩ rfl (fun _ h => h)
        ·
          have hre : rr = n := by have := of_decide_eq_false hc; omega
          refine tr_exit ?_
          repeat with_reducible first | refine tr_skip ?_ | refine tr_exit ?_ | refine tr_then ?_ | refine tr_inX ?_ | refine tr_thenX ?_ | refine tr_inN ?_ | refine tr_inR ?_ | refine tr_thenR ?_
          refine tr_region ?_
          refine sq_q (qt_move rfl) rfl ?_
          refine sq_q (qt_bin rfl rfl (bin_addI (by omega) (by omega))) rfl ?_
          refine sq_q (qt_assign rfl) rfl ?_
          refine sq_nil ?_
          repeat with_reducible first | refine tr_skip ?_ | refine tr_exit ?_ | refine tr_then ?_ | refine tr_inX ?_ | refine tr_thenX ?_ | refine tr_inN ?_ | refine tr_inR ?_ | refine tr_thenR ?_
          refine tr_round3 (kk + 1) pos' qs ⟨by omega, hpl, fun a => rowop i j c (g a), hG.congr (fun a b ha _ => by rw [if_pos (by omega)]), ?_, fun a b ha hb => ?_⟩ (by omega) ⟨rfl, rfl, rfl, rfl, trivial⟩ rfl (fun _ h => h)
          · rcases lap_rowop (c := c) g hin1 hjn1 with h | h <;> rw [h] <;> omega
          · rw [Nat.pow_succ, Nat.mul_comm]
            exact rowop_bound hin1 hjn1 hc2 (fun b hb => hbnd a b ha hb) hb
      ·
        refine tr_exit ?_
        repeat with_reducible first | refine tr_skip ?_ | refine tr_exit ?_ | refine tr_then ?_ | refine tr_inX ?_ | refine tr_thenX ?_ | refine tr_inN ?_ | refine tr_inR ?_ | refine tr_thenR ?_
        refine tr_rseq ?_
        refine sq_q (qt_move rfl) rfl ?_
        refine sq_q (qt_assign rfl) rfl ?_
        refine sq_end ?_
        refine tr_ret ?_
        repeat with_reducible first | refine tr_skip ?_ | refine tr_exit ?_ | refine tr_then ?_ | refine tr_inX ?_ | refine tr_thenX ?_ | refine tr_inN ?_ | refine tr_inR ?_ | refine tr_thenR ?_
        refine tr_done (imt r14 qs) (fun a w s t => results_1 rfl (resv_tmp s (by rw [imt_v, hG.1]; rfl))) (fun w h ho _ => ⟨imt_ok (fun q hq => ho q (List.mem_cons_of_mem _ hq)) (fun q hq z hz => ?_), g, by rw [imt_zs, hG.zs], hlap, fun a b ha hb => Nat.le_trans (hbnd a b ha hb) (pow3 hkk)⟩)
        obtain ⟨a, ha⟩ := List.getElem?_of_mem hq
        obtain ⟨b, hb⟩ := List.getElem?_of_mem hz
        have hz' := (hG.2 a q ha).2 b z hb
        have h1 := hbnd a b (by have := (List.getElem?_eq_some_iff.1 ha).1; have := hG.1; omega) (by have := (List.getElem?_eq_some_iff.1 hb).1; have := (hG.2 a q ha).1; omega)
        have h2 := pow3 hkk
        unfold In64
        omega
end Go.Qk
end
section
set_option linter.unusedVariables false
namespace Go.Qk
open Go Go.Proofs Go.RowKit
theorem invO_some (L : List (List Int)) : (invO L).isSome = (sqb (shp L) && decide (bdet L.length (ent L) = 1 ∨ bdet L.length (ent L) = -1)) := by
  unfold invO
  cases h : sqb (shp L) with
  | false => rfl
  | true =>
    rw [if_pos rfl, Bool.true_and]
    by_cases h1 : bdet L.length (ent L) = 1 ∨ bdet L.length (ent L) = -1
    · rw [if_pos h1, decide_eq_true h1]; rfl
    · rw [if_neg h1, decide_eq_false h1]; rfl
theorem invO_none {L : List (List Int)} (h : (invO L).isSome = false) : invO L = none := by
  cases hh : invO L with
  | none => rfl
  | some v => rw [hh] at h; exact Bool.noConfusion h
theorem invO_lens (L : List (List Int)) : ((invO L).getD []).length ≤ 35184372088832 ∧ ∀ q ∈ (invO L).getD [], q.length ≤ 35184372088832 := by
  cases h : (invO L).isSome with
  | false =>
    rw [invO_none h]
    exact none_lens
  | true =>
    rw [invO_some, Bool.and_eq_true] at h
    obtain ⟨k, h1, h2, _⟩ := sqb_shp h.1
    have e : invO L = some (grid (invE L (bdet L.length (ent L))) L.length L.length) := by unfold invO; rw [if_pos h.1, if_pos (of_decide_eq_true h.2)]
    rw [e]
    exact grid_lens _ _ _ (by omega) (by omega)
section
variable {a b : Int} {p q : Sv} {w : World} {S : Nat → Prop}
theorem rabs_iz (h : Lz a.natAbs p w) (hB : nl a.natAbs ≤ 35184372088832) : Ret Try.prog 116 [iv a p] w S (iv (a.natAbs : Int)) (Lz a.natAbs) := by
  have h := rabs_ret (decide (a < 0)) (limbsOf a.natAbs) p w S h (lim_limbsOf _) hB
  rwa [val_limbsOf] at h
theorem rcmp_ii (h : Lz a.natAbs p w) (h' : Lz b.natAbs q w) (hB : nl a.natAbs ≤ 35184372088832) (hB' : nl b.natAbs ≤ 35184372088832) : Ret Try.prog 106 [iv a p, iv b q] w S (fun _ : Unit => .int .i64 (cmpZ a b)) (fun _ _ => True) := by
  have g := rcmp_zd (S := S) (zd_ok h (Nat.le_refl _)) (zd_ok h' (Nat.le_refl _)) hB hB'
  rwa [zd_z, zd_z] at g
end
theorem cmp_one {d : Int} : decide (cmpZ (d.natAbs : Int) 1 = 0) = decide (d = 1 ∨ d = -1) := by
  refine decide_eq_decide.2 ?_
  rw [← Decidable.not_iff_not]
  rw [show (¬ cmpZ (d.natAbs : Int) 1 = 0) ↔ cmpZ (d.natAbs : Int) 1 ≠ 0 from Iff.rfl, cmpZ_ne]
  omega
end Go.Qk
end
section
set_option linter.unusedVariables false
namespace Go.Qk
open Go Go.Proofs Go.RowKit
set_option maxRecDepth 100000
set_option maxHeartbeats 4000000
theorem runimod_ret (m : Mt) (B : Nat) (w0 : World) (S : Nat → Prop) (hm : m.ok B w0) (hB : B ≤ 8388607) (hB1 : 1 ≤ B) (hlen : m.rs.length ≤ 35184372088832) (hrow : ∀ r ∈ m.rs, r.l.length ≤ 35184372088832) :
    Ret Try.prog 88 [m.v] w0 S (fun _ : Unit => .bool (invO m.zs).isSome) (fun _ _ => True) := by
  obtain ⟨d, hd⟩ : ∃ d, d = (detO m.zs).getD 0 := ⟨_, rfl⟩
  obtain ⟨o, ho⟩ : ∃ o, o = (detO m.zs).isSome := ⟨_, rfl⟩
  have hes : o = sqb (shp m.zs) := by
    rw [ho]
    unfold detO
    cases h : sqb (shp m.zs) <;> rfl
  have hed : o = true → d = bdet m.zs.length (ent m.zs) := fun h => by
    rw [hd]
    unfold detO
    rw [if_pos (by rw [← hes]; exact h)]
    rfl
  rw [invO_some, ← hes]
  refine ret_of Try.func88 rfl Try.ntmps88 rfl ?_
  refine tr_rseq ?_
  refine sq_q (qt_assign rfl) rfl ?_
  refine sq_end ?_
  refine tr_rseq ?_
  refine sq_q (qt_move rfl) rfl ?_
  refine sq_call (fun p => .tuple #[iv d p, .bool o]) (fun p w => Lz d.natAbs p w ∧ nl d.natAbs ≤ 549755813887) rfl rfl rfl (fun w t => by rw [hd, ho]; exact rdet_ret m B w _ (t.mt hm) hB hB1 hlen hrow) fun p8 => ?_
  refine sq_q (qt_move rfl) rfl ?_
  refine sq_q (qt_extract rfl rfl) rfl ?_
  refine sq_q (qt_extract rfl rfl) rfl ?_
  refine sq_alloc rfl fun r3 => ?_
  refine sq_store 0 rfl rfl rfl rfl (Nat.le_refl 2) rfl rfl ?_
  refine sq_q (qt_assign rfl) rfl ?_
  refine sq_end ?_
  refine tr_own [zblk r3 (zd d p8)] rfl ?_
  cases o
  ·
    refine tr_rseq ?_
    refine sq_q (qt_move rfl) rfl ?_
    refine sq_q (qt_move rfl) rfl ?_
    refine sq_gF rfl rfl rfl rfl ?_
    refine sq_gF rfl rfl rfl rfl ?_
    refine sq_gF rfl rfl rfl rfl ?_
    refine sq_gF rfl rfl rfl rfl ?_
    refine sq_gF rfl rfl rfl rfl ?_
    refine sq_q (qt_pick rfl rfl) rfl ?_
    refine sq_q (qt_assign rfl) rfl ?_
    refine sq_end ?_
    refine tr_ret ?_
    repeat with_reducible first | refine tr_skip ?_ | refine tr_exit ?_ | refine tr_then ?_ | refine tr_inX ?_ | refine tr_thenX ?_ | refine tr_inN ?_ | refine tr_inR ?_ | refine tr_thenR ?_
    exact tr_done () (fun a w s t => results_1 rfl (resv_tmp s rfl)) (fun _ _ _ _ => trivial)
  ·
    rw [← hed rfl]
    refine tr_rseq ?_
    refine sq_q (qt_move rfl) rfl ?_
    refine sq_q (qt_move rfl) rfl ?_
    refine sq_gT rfl rfl ?_
    refine sq_q (qt_load2 rfl (fun w t => t.atO 0 rfl rfl) (fun w t => t.atO 0 rfl rfl)) rfl ?_
    refine sq_gT rfl rfl ?_
    refine sq_call (iv (d.natAbs : Int)) (Lz d.natAbs) rfl rfl rfl (fun w t => rabs_iz t.r.2.1 (by have := t.r.2.2; omega)) fun p13 => ?_
    refine sq_gT rfl rfl ?_
    refine sq_call (iv 1) (Lz (1 : Int).natAbs) rfl rfl rfl (fun w t => rsmall_ret 1 w _ (by decide) (by decide)) fun p14 => ?_
    refine sq_gT rfl rfl ?_
    refine sq_call (val := fun _ : Unit => .int .i64 (cmpZ (d.natAbs : Int) 1)) (F := fun _ _ => True) rfl rfl rfl (fun w t => rcmp_ii (by rw [Int.natAbs_natCast]; exact t.r.1.2) t.r.2 (by rw [Int.natAbs_natCast]; have := t.r.1.1.2.2; omega) (by have := nl_64 (a := 1) (by decide); omega)) fun _ => ?_
    refine sq_gT rfl rfl ?_
    refine sq_q (qt_bin rfl rfl bin_eql) rfl ?_
    refine sq_q (qt_pick rfl rfl) rfl ?_
    refine sq_q (qt_assign rfl) rfl ?_
    refine sq_end ?_
    refine tr_ret ?_
    repeat with_reducible first | refine tr_skip ?_ | refine tr_exit ?_ | refine tr_then ?_ | refine tr_inX ?_ | refine tr_thenX ?_ | refine tr_inN ?_ | refine tr_inR ?_ | refine tr_thenR ?_
    exact tr_done () (fun a w s t => results_1 rfl (resv_tmp s (by rw [Bool.true_and, ← cmp_one]; rfl))) (fun _ _ _ _ => trivial)
theorem rinverse_ret (m : Mt) (B : Nat) (w0 : World) (S : Nat → Prop) (hm : m.ok B w0) (hB : B ≤ 8388607) (hB1 : 1 ≤ B) (hlen : m.rs.length ≤ 35184372088832) (hrow : ∀ r ∈ m.rs, r.l.length ≤ 35184372088832) :
    Ret Try.prog 41 [m.v] w0 S (optV (invO m.zs)) (optF 549755813889 (invO m.zs)) := by
  refine ret_of Try.func41 rfl Try.ntmps41 rfl ?_
  refine tr_rseq ?_
  refine sq_q (qt_assign rfl) rfl ?_
  refine sq_q (qt_assign rfl) rfl ?_
  refine sq_end ?_
  refine tr_seq ?_
  refine tr_rseq ?_
  refine sq_q (qt_move rfl) rfl ?_
  refine sq_call (val := fun _ : Unit => .bool (invO m.zs).isSome) (F := fun _ _ => True) rfl rfl rfl (fun w t => runimod_ret m B w _ (t.mt hm) hB hB1 hlen hrow) fun _ => ?_
  refine sq_q (qt_not rfl) rfl ?_
  refine sq_end ?_
  refine tr_if rfl (fun hc => ?_) (fun hc => ?_)
  ·
    rw [invO_none (by simpa using hc)]
    refine tr_rseq ?_
    refine sq_q (qt_assign rfl) rfl ?_
    refine sq_q (qt_assign rfl) rfl ?_
    refine sq_end ?_
    refine tr_ret ?_
    repeat with_reducible first | refine tr_skip ?_ | refine tr_exit ?_ | refine tr_then ?_ | refine tr_inX ?_ | refine tr_thenX ?_ | refine tr_inN ?_ | refine tr_inR ?_ | refine tr_thenR ?_
    exact tr_done ⟨[], (none, 0)⟩ (fun a w s t => results_2 rfl (resv_tmp s rfl) (resv_tmp s rfl)) (fun w _ _ _ => optF_none _ _)
  ·
    have hs0 : (invO m.zs).isSome = true := by simpa using hc
    have hs1 := hs0
    rw [invO_some, Bool.and_eq_true] at hs1
    obtain ⟨hsq, hdd⟩ := hs1
    have hdd := of_decide_eq_true hdd
    have hO : invO m.zs = some (grid (invE m.zs (bdet m.zs.length (ent m.zs))) m.zs.length m.zs.length) := by unfold invO; rw [if_pos hsq, if_pos hdd]
    obtain ⟨g2, hg2⟩ := adjO_rows hsq
    obtain ⟨h1, h2, h3⟩ := sqr_rows hsq
    obtain ⟨D, hD⟩ : ∃ D, D = bdet m.rs.length (ent m.zs) := ⟨_, rfl⟩
    rw [hO]
    rw [m.zs_len] at hg2 hdd ⊢
    rw [← hD] at hdd ⊢
    have hnl : nl D.natAbs ≤ 2 := nl_64 (by rcases hdd with h | h <;> rw [h] <;> decide)
    have heE : ∀ a b, a < m.rs.length → b < m.rs.length → D * g2 a b = invE m.zs D a b := fun a b ha hb => by
      unfold invE
      rw [hg2, Option.getD_some, ent_grid ha hb, Int.mul_comm]
    refine tr_skip ?_
    repeat with_reducible first | refine tr_skip ?_ | refine tr_exit ?_ | refine tr_then ?_ | refine tr_inX ?_ | refine tr_thenX ?_ | refine tr_inN ?_ | refine tr_inR ?_ | refine tr_thenR ?_
    refine tr_rseq ?_
    refine sq_q (qt_move rfl) rfl ?_
    refine sq_call (optV (some (grid g2 m.rs.length m.rs.length))) (optF 549755813887 (some (grid g2 m.rs.length m.rs.length))) rfl rfl rfl (fun w t => by rw [← hg2]; exact radjugate_ret m B w _ (t.mt hm) hB hB1 hlen hrow) fun mB => ?_
    refine sq_q (qt_move rfl) rfl ?_
    refine sq_q (qt_extract rfl rfl) rfl ?_
    refine sq_q (qt_extract rfl rfl) rfl ?_
    refine sq_q (qt_assign rfl) rfl ?_
    refine sq_q (qt_assign rfl) rfl ?_
    refine sq_end ?_
    refine tr_rseq ?_
    refine sq_q (qt_move rfl) rfl ?_
    refine sq_call (iv D) (fun p w => Lz D.natAbs p w ∧ nl D.natAbs ≤ 549755813887) rfl rfl rfl (fun w t => by rw [hD]; exact rdeterminant_ret m B m.rs.length w _ (t.mt hm) hB hB1 rfl h2 h3) fun p15 => ?_
    refine sq_q (qt_move rfl) rfl ?_
    refine sq_call Mt.v (optF 549755813889 (some (grid (invE m.zs D) m.rs.length m.rs.length))) rfl rfl rfl (fun w t => by
      have hb := t.r.1.2
      obtain ⟨_, _, a1, a2⟩ := optG_lens hb h2
      refine (rtimes_ret D p15 mB 549755813887 m.rs.length w _ t.r.2.1 hb.1 (by omega) (by omega) a2 (.inl h1) (by omega)).imp fun x w' h' => ⟨h'.1.mono (by omega), ?_, h'.2.2⟩
      rw [h'.2.1, a1]
      refine grid_eq fun a b ha hb' => ?_
      have e1 : mB.zs = grid g2 m.rs.length m.rs.length := hb.2.1
      rw [e1, ent_grid ha hb', heE a b ha hb']) fun m3 => ?_
    refine sq_q (qt_assign rfl) rfl ?_
    refine sq_q (qt_assign rfl) rfl ?_
    refine sq_end ?_
    refine tr_ret ?_
    repeat with_reducible first | refine tr_skip ?_ | refine tr_exit ?_ | refine tr_then ?_ | refine tr_inX ?_ | refine tr_thenX ?_ | refine tr_inN ?_ | refine tr_inR ?_ | refine tr_thenR ?_
    exact tr_done m3 (fun a w s t => results_2 rfl (resv_tmp s rfl) (resv_tmp s rfl)) (fun w h _ _ => h.2)
end Go.Qk
end
section
set_option linter.unusedVariables false
namespace Go.Qk
open Go Go.Proofs Go.RowKit
def invG (n : Nat) (u : Mf) : Mf := fun i j => adjG n u i j * lap n u
theorem sq_unit {d : Int} (h : d = 1 ∨ d = -1) : d * d = 1 := by rcases h with h | h <;> rw [h] <;> rfl
theorem mul_inv {n : Nat} {u : Mf} (h : lap n u = 1 ∨ lap n u = -1) {i j : Nat} (hi : i < n) (hj : j < n) : mmul n u (invG n u) i j = ident i j := by
  have e := mul_adj n u hi hj
  have e2 : mmul n u (invG n u) i j = mmul n u (adjG n u) i j * lap n u := by
    unfold mmul
    rw [← sumN_mul_right]
    exact sumN_congr fun k hk => by unfold invG; rw [Int.mul_assoc]
  rw [e2, e]
  unfold ident
  split
  · exact sq_unit h
  · exact Int.zero_mul _
theorem inv_mul {n : Nat} {u : Mf} (h : lap n u = 1 ∨ lap n u = -1) {i j : Nat} (hi : i < n) (hj : j < n) : mmul n (invG n u) u i j = ident i j := by
  have e := adj_mul n u hi hj
  have e2 : mmul n (invG n u) u i j = mmul n (adjG n u) u i j * lap n u := by
    unfold mmul
    rw [← sumN_mul_right]
    exact sumN_congr fun k hk => by unfold invG; rw [Int.mul_assoc, Int.mul_assoc, Int.mul_comm (lap n u)]
  rw [e2, e]
  unfold ident
  split
  · exact sq_unit h
  · exact Int.zero_mul _
theorem invO_g {n : Nat} {u : Mf} (hn : 1 ≤ n) (hn16 : n ≤ 16) (h : lap n u = 1 ∨ lap n u = -1) : invO (grid u n n) = some (grid (invG n u) n n) := by
  have e2 : sqb (shp (grid u n n)) = true := by rw [shp_grid u hn hn16 hn hn16]; exact sqb_same n
  have hl : (grid u n n).length = n := by simp [grid]
  have ed : bdet (grid u n n).length (ent (grid u n n)) = lap n u := by
    rw [hl, bdet_lap]
    exact lap_congr fun i j hi hj => ent_grid hi hj
  unfold invO
  rw [if_pos e2, ed, if_pos h, hl]
  congr 1
  refine grid_eq fun a b ha hb => ?_
  unfold invE invG
  rw [adjO_lap e2, Option.getD_some, hl, ent_grid ha hb]
  congr 1
  unfold adjG
  congr 1
  refine lap_congr fun i j hi hj => ?_
  unfold dl
  exact ent_grid (by have := sk_lt (j := b) hi; omega) (by have := sk_lt (j := a) hj; omega)
section
variable {m : Mt} {B n : Nat} {w : World} {S : Nat → Prop} {f : Mf}
theorem inverse_g (h : optF B (some (grid f n n)) m w) (hd : lap n f = 1 ∨ lap n f = -1) (hn : 1 ≤ n) (hn16 : n ≤ 16) (hB : B ≤ 8388607) (hB1 : 1 ≤ B) :
    Ret Try.prog 40 [m.v] w S (optV (some (grid (invG n f) n n))) (optF 549755813889 (some (grid (invG n f) n n))) := by
  obtain ⟨a1, a2, _, _⟩ := optG_lens h hn16
  have hh := inverse_ret m B w S h.1 hB hB1 a1 a2
  have e1 : m.zs = grid f n n := h.2.1
  rwa [e1, invO_g hn hn16 hd] at hh
end
theorem keep_g {n : Nat} {u : Mf} (hn : 1 ≤ n) (hn16 : n ≤ 16) : keepO (grid u n n) = some (grid u n n) := by
  unfold keepO
  rw [shp_grid u hn hn16 hn hn16]
  rfl
end Go.Qk
end
section
set_option linter.unusedVariables false
namespace Go.Qk
open Go Go.Proofs Go.RowKit
set_option maxRecDepth 100000
set_option maxHeartbeats 4000000
theorem matrixInverts_ret (l : List Int) (p : Sv) (sz : Int) (gx : Gd) (w0 : World) (S : Nat → Prop) (hL : Rd p.1 (i8s l) w0) (hll : l.length ≤ 281474976710656) (hin : ∀ a ∈ l, -128 ≤ a ∧ a < 128) (hz : 0 ≤ sz ∧ sz < 256) (hx : gx.ok w0) :
    Ret Try.prog 9 [.slice p.1 l.length p.2, .int .u8 sz, gx.v] w0 S (fun _ : Unit => .bool true) (fun _ _ => True) := by
  obtain ⟨n, hn⟩ : ∃ n : Nat, n = (1 + sz % 5).toNat := ⟨_, rfl⟩
  have hni : 1 + sz % 5 = (n : Int) := by omega
  have hn1 : 1 ≤ n := by omega
  have hn16 : n ≤ 16 := by omega
  obtain ⟨v, hv⟩ : ∃ v, v = invO (gx.zs 3) := ⟨_, rfl⟩
  obtain ⟨vl, vq⟩ := invO_lens (gx.zs 3)
  rw [← hv] at vl vq
  refine ret_of Try.func9 rfl Try.ntmps9 rfl ?_
  refine tr_rseq ?_
  refine sq_box rfl rfl fun r5 => ?_
  refine sq_q (qt_assign rfl) rfl ?_
  refine sq_end ?_
  refine tr_rseq ?_
  refine sq_q (qt_move rfl) rfl ?_
  refine sq_q (qt_move rfl) rfl ?_
  refine sq_q (qt_toI rfl (by omega) (by omega)) rfl ?_
  refine sq_q (qt_bin rfl rfl (bin_rem (by decide) (by omega))) rfl ?_
  refine sq_q (qt_bin rfl rfl (bin_addI (by omega) (by omega))) rfl ?_
  rw [hni]
  refine sq_call Xm.v (fun m w => m.ok w ∧ ∃ u : Mf, m.zs = grid u n n ∧ (lap n u = 1 ∨ lap n u = -1) ∧ ∀ a b, a < n → b < n → (u a b).natAbs ≤ 531441) rfl rfl rfl (fun w t => unimodular_ret l p n w _ (t.rd hL) hll hin hn1 hn16) fun mX => ?_
  refine sq_call Mt.v (fun m w => optF 2 (keepO mX.zs) m w ∧ ∃ u : Mf, mX.zs = grid u n n ∧ (lap n u = 1 ∨ lap n u = -1)) rfl rfl rfl (fun w t => by
    obtain ⟨h1, u, h2, h3, _⟩ := t.r.2
    obtain ⟨a1, a2⟩ := xm_lens h2
    exact (of_ret mX w _ h1 (by omega) (fun r hr => by have := a2 r hr; omega)).imp fun m w h => ⟨h, u, h2, h3⟩) fun mA => ?_
  refine sq_q (qt_assign rfl) rfl ?_
  refine sq_end ?_
  refine tr_have (fun w t => t.r.2.2) fun ⟨u, hu, hd⟩ => ?_
  refine tr_r (fun w => optF 2 (some (grid u n n)) mA w) (fun w h => by have := h.2.1; rwa [hu, keep_g hn1 hn16] at this) ?_
  refine tr_have (fun w t => (optG_lens t.r hn16).2.2.1) fun hlA => ?_
  refine tr_rseq ?_
  refine sq_q (qt_move rfl) rfl ?_
  refine sq_call (optV (some (grid (invG n u) n n))) (optF 549755813889 (some (grid (invG n u) n n))) rfl rfl rfl (fun w t => inverse_g t.r hd hn1 hn16 (by omega) (by omega)) fun mB => ?_
  refine sq_q (qt_move rfl) rfl ?_
  refine sq_q (qt_extract rfl rfl) rfl ?_
  refine sq_q (qt_extract rfl rfl) rfl ?_
  refine sq_q (qt_assign rfl) rfl ?_
  refine sq_q (qt_assign rfl) rfl ?_
  refine sq_end ?_
  refine tr_rseq ?_
  refine sq_q (qt_move rfl) rfl ?_
  refine sq_q (qt_len rfl) rfl ?_
  refine sq_call (optV (some (grid ident n n))) (optF 1 (some (grid ident n n))) rfl rfl rfl (fun w t => by rw [hlA]; exact ident_g hn1 hn16 w) fun mI => ?_
  refine sq_q (qt_move rfl) rfl ?_
  refine sq_q (qt_extract rfl rfl) rfl ?_
  refine sq_q (qt_extract rfl rfl) rfl ?_
  refine sq_q (qt_assign rfl) rfl ?_
  refine sq_q (qt_assign rfl) rfl ?_
  refine sq_end ?_
  refine tr_seq ?_
  skip
  ·
    refine tr_rseq ?_
    refine sq_q (qt_move rfl) rfl ?_
    refine sq_q (qt_not rfl) rfl ?_
    refine sq_q (qt_move rfl) rfl ?_
    refine sq_gT rfl rfl ?_
    refine sq_q (qt_move rfl) rfl ?_
    refine sq_gT rfl rfl ?_
    refine sq_q (qt_move rfl) rfl ?_
    refine sq_gT rfl rfl ?_
    refine sq_call Mt.v (optF (2 + 549755813889 + 16) (some (grid ident n n))) rfl rfl rfl (fun w t => product_g t.r.1.1 t.r.1.2 hn1 hn16 (by omega) (fun i j hi hj => mul_inv hd hi hj)) fun m2 => ?_
    refine sq_gT rfl rfl ?_
    refine sq_q (qt_move rfl) rfl ?_
    refine sq_gT rfl rfl ?_
    refine sq_call (val := fun _ : Unit => .bool true) (F := fun _ _ => True) rfl rfl rfl (fun w t => same_opt t.r.2 t.r.1.2 (by omega) (by omega) (grid_lens _ _ _ (by omega) (by omega)).1 (grid_lens _ _ _ (by omega) (by omega)).2) fun _ => ?_
    refine sq_gT rfl rfl ?_
    refine sq_q (qt_not rfl) rfl ?_
    refine sq_q (qt_pick rfl rfl) rfl ?_
    refine sq_q (qt_move rfl) rfl ?_
    refine sq_gT rfl rfl ?_
    refine sq_q (qt_move rfl) rfl ?_
    refine sq_gT rfl rfl ?_
    refine sq_q (qt_move rfl) rfl ?_
    refine sq_gT rfl rfl ?_
    refine sq_call Mt.v (optF (549755813889 + 2 + 16) (some (grid ident n n))) rfl rfl rfl (fun w t => product_g t.r.1.1.1.2 t.r.1.1.1.1 hn1 hn16 (by omega) (fun i j hi hj => inv_mul hd hi hj)) fun m3 => ?_
    refine sq_gT rfl rfl ?_
    refine sq_q (qt_move rfl) rfl ?_
    refine sq_gT rfl rfl ?_
    refine sq_call (val := fun _ : Unit => .bool true) (F := fun _ _ => True) rfl rfl rfl (fun w t => same_opt t.r.2 t.r.1.1.1.2 (by omega) (by omega) (grid_lens _ _ _ (by omega) (by omega)).1 (grid_lens _ _ _ (by omega) (by omega)).2) fun _ => ?_
    refine sq_gT rfl rfl ?_
    refine sq_q (qt_not rfl) rfl ?_
    refine sq_q (qt_pick rfl rfl) rfl ?_
    refine sq_end ?_
    refine tr_if rfl (fun hc => ?_) (fun hc => ?_)
    ·
      refine tr_rseq ?_
      refine sq_q (qt_assign rfl) rfl ?_
      refine sq_end ?_
      refine tr_ret ?_
      repeat with_reducible first | refine tr_skip ?_ | refine tr_exit ?_ | refine tr_then ?_ | refine tr_inX ?_ | refine tr_thenX ?_ | refine tr_inN ?_ | refine tr_inR ?_ | refine tr_thenR ?_
      exact absurd hc (by decide)
    ·
      refine tr_skip ?_
      repeat with_reducible first | refine tr_skip ?_ | refine tr_exit ?_ | refine tr_then ?_ | refine tr_inX ?_ | refine tr_thenX ?_ | refine tr_inN ?_ | refine tr_inR ?_ | refine tr_thenR ?_
      refine tr_rseq ?_
      refine sq_q (qt_load_agg (vs := [.int .u8 (gx.r : Int), .int .u8 (gx.c : Int), .slice gx.p.1 gx.l.length gx.p.2]) rfl rfl (fun w t j v hv => by rw [Nat.zero_add]; exact t.atO 0 rfl hv)) rfl ?_
      refine sq_call Mt.v (fun m w => m.ok 2 w ∧ m.zs = gx.zs 3 ∧ m.can) rfl rfl rfl (fun w t => gmatrix_ret gx 3 w _ (t.gd hx) (by omega) (by omega)) fun m7 => ?_
      refine sq_call (optV v) (optF 549755813889 v) rfl rfl rfl (fun w t => by
        have h := fun S' => inverse_ret m7 2 w S' t.r.2.1 (by omega) (by omega) (gd_lens t.r.2.2.1 (by omega) (by omega)).1 (gd_lens t.r.2.2.1 (by omega) (by omega)).2
        rw [t.r.2.2.1, ← hv] at h
        exact h _) fun m8 => ?_
      refine sq_q (qt_move rfl) rfl ?_
      refine sq_q (qt_extract rfl rfl) rfl ?_
      refine sq_q (qt_extract rfl rfl) rfl ?_
      refine sq_q (qt_assign rfl) rfl ?_
      refine sq_q (qt_assign rfl) rfl ?_
      refine sq_end ?_
      refine tr_rseq ?_
      refine sq_q (qt_load_agg (vs := [.int .u8 (gx.r : Int), .int .u8 (gx.c : Int), .slice gx.p.1 gx.l.length gx.p.2]) rfl rfl (fun w t j v hv => by rw [Nat.zero_add]; exact t.atO 0 rfl hv)) rfl ?_
      refine sq_call Mt.v (fun m w => m.ok 2 w ∧ m.zs = gx.zs 3 ∧ m.can) rfl rfl rfl (fun w t => gmatrix_ret gx 3 w _ (t.gd hx) (by omega) (by omega)) fun m9 => ?_
      refine sq_call (optV v) (optF 549755813889 v) rfl rfl rfl (fun w t => by
        have h := fun S' => rinverse_ret m9 2 w S' t.r.2.1 (by omega) (by omega) (gd_lens t.r.2.2.1 (by omega) (by omega)).1 (gd_lens t.r.2.2.1 (by omega) (by omega)).2
        rw [t.r.2.2.1, ← hv] at h
        exact h _) fun m10 => ?_
      refine sq_q (qt_move rfl) rfl ?_
      refine sq_q (qt_extract rfl rfl) rfl ?_
      refine sq_q (qt_extract rfl rfl) rfl ?_
      refine sq_q (qt_assign rfl) rfl ?_
      refine sq_q (qt_assign rfl) rfl ?_
      refine sq_end ?_
      refine tr_r (fun w => optF 549755813889 v m8 w ∧ optF 549755813889 v m10 w) (fun w h => ⟨h.1.1.2, h.2⟩) ?_
      clear hx
      ·
        refine tr_rseq ?_
        refine sq_q (qt_move rfl) rfl ?_
        refine sq_q (qt_move rfl) rfl ?_
        refine sq_q (qt_binB (r := .bool true) rfl rfl (bin_eqlBr boolT _)) rfl ?_
        refine sq_q (qt_move rfl) rfl ?_
        refine sq_gT rfl rfl ?_
        refine sq_q (qt_move rfl) rfl ?_
        refine sq_gT rfl rfl ?_
        refine sq_q (qt_move rfl) rfl ?_
        refine sq_gT rfl rfl ?_
        refine sq_call (val := fun _ : Unit => .bool true) (F := fun _ _ => True) rfl rfl rfl (fun w t => same_opt t.r.1 t.r.2 (by omega) (by omega) vl vq) fun _ => ?_
        refine sq_q (qt_pick rfl rfl) rfl ?_
        refine sq_q (qt_move rfl) rfl ?_
        refine sq_gT rfl rfl ?_
        refine sq_call (val := fun _ : Unit => .bool true) (F := fun _ _ => True) rfl rfl rfl (fun w t => awake_ret w _) fun _ => ?_
        refine sq_q (qt_pick rfl rfl) rfl ?_
        refine sq_q (qt_assign rfl) rfl ?_
        refine sq_end ?_
        refine tr_ret ?_
        repeat with_reducible first | refine tr_skip ?_ | refine tr_exit ?_ | refine tr_then ?_ | refine tr_inX ?_ | refine tr_thenX ?_ | refine tr_inN ?_ | refine tr_inR ?_ | refine tr_thenR ?_
        exact tr_done () (fun a w s t => results_1 rfl (resv_tmp s rfl)) (fun _ _ _ _ => trivial)
end Go.Qk
end
