/- Lemmas and contracts of functions that the law reaches. -/
import Derived.Test.YtencodepmbhpiaaRows
import Derived.WalkKit
import Derived.ProofKit
import Derived.OpenShut
import Derived.Carry
import Derived.JoinedOf
import Derived.KernelRfl
import Derived.Deep.LoopGhost
import Derived.Orders
import Derived.Laws.BitsLemmas
import Derived.Test.YtencodepmbhpiaaProg
import Derived.Laws.AppendOwn
import Derived.Deep.SlicePairs
import Derived.SizedLaws
import Derived.ChangeSame
import Derived.OrdersHeld
set_option linter.unusedVariables false
set_option linter.unusedSimpArgs false
section
set_option linter.unusedVariables false
namespace Go.Qk
open Go Go.RowKit Go.ChangeShapes Go.WideShapes
section
variable {H : Type} {enc : TypeId × Value → H} {P : Program}
theorem trodAll_keep {W W' : World} (hl : laidOutB P = true) (hg : Below W.heap.size W W') : ∀ {ts : List TypeId} {vs : List Value} {ds : List (DataW H)} {ps : List MemPlace},
    (ts.all fun t => P.readableRec t && decide (t < P.types.size)) = true → DataW.TrodAll enc P W 0 (fun _ => true) true ts vs ds ps → (∀ p ∈ ps, p.block < W.heap.size) → DataW.TrodAll enc P W' 0 (fun b => decide (b < W.heap.size)) true ts vs ds ps
  | [], [], [], ps, _, h, _ => h
  | t :: ts, v :: vs, d :: ds, ps, hts, h, hlt => by
    obtain ⟨p, q, h1, h2, rfl⟩ := h
    simp only [List.all_cons, Bool.and_eq_true, decide_eq_true_eq] at hts
    exact ⟨p, q, Below.trod hl hts.1.1 hts.1.2 h1 hg (fun x hx => hlt x (List.mem_append_left _ hx)), trodAll_keep hl hg (by simpa using hts.2) h2 (fun x hx => hlt x (List.mem_append_right _ hx)), rfl⟩
  | [], _ :: _, _, _, _, h, _ => h.elim
  | [], [], _ :: _, _, _, h, _ => h.elim
  | _ :: _, [], _, _, _, h, _ => h.elim
  | _ :: _, _ :: _, [], _, _, h, _ => h.elim
theorem post_law {f : Func} {s : ChangeSpec} {W W' : World} {args : Array Value} {ds : List (DataW H)} {before : List MemPlace} {tb : TypeId} (hs : s.vars = []) (hl : laidOutB P = true) (hts : (f.params.toList.all fun t => P.readableRec t && decide (t < P.types.size)) = true) (hrt : f.resultTypes = #[tb]) (hb : P.underlying tb = some .bool)
    (hW : DataW.Whole enc P f.params.toList s.vars false W args.toList ds [] before) (hfn : s.fn H ds = { results := [.lit (.bool true)], args := ds }) (hg : Below W.heap.size W W') : s.post enc P f false true false false W args (.bool true) W' := by
  have hlt : ∀ p ∈ before, p.block < W.heap.size := fun p hp => hW.lt p hp
  obtain ⟨p, q, hA, hV, e, hz, hn⟩ := hW
  have hV' := hV
  rw [hs] at hV'
  obtain ⟨_, rfl⟩ := trodVars_none hV'
  rw [List.append_nil] at e
  subst e
  refine ⟨ds, [], before, [], before, [], ⟨before, [], hA, hV, by simp, hz, hn⟩, ?_, ?_, ?_, hg.frame _, fun h => by cases h⟩
  · rw [List.append_nil, hfn, hrt]
    exact trodAll_cons_mk (shut_bool hb _) trodAll_mk0
  · rw [List.append_nil, hfn]
    exact trodAll_keep hl hg hts hA hlt
  · rw [List.append_nil, hfn, hs]
    rfl
end
end Go.Qk
end
section
namespace Go.Qk
open Go Go.Proofs Go.Proofs.Ytencodepmbhpiaa
theorem ws_word : ∀ (w r : List Char), (w.all fun c => !(c == Char.ofNat 32)) = true → wordsSigns (w ++ Char.ofNat 32 :: r) = w :: wordsSigns r := by
  intro w r
  induction w with
  | nil =>
    intro _
    rw [List.nil_append]
    rfl
  | cons c w ih =>
    intro h
    simp only [List.all_cons, Bool.and_eq_true] at h
    have ih := ih h.2
    have hc : c ≠ Char.ofNat 32 := by
      have := h.1
      intro e
      rw [e] at this
      exact absurd this (by decide)
    rw [List.cons_append]
    have key : ∀ l : List Char, wordsSigns (c :: l) = match wordsSigns l with
      | w :: ws => (c :: w) :: ws
      | [] => [[c]] := by
      intro l
      conv => lhs; rw [wordsSigns.eq_def]
      split
      · rename_i e; simp at e
      · rename_i r' e; injection e with e1 e2; exact absurd e1 hc
      · rename_i c' r' _ e; injection e with e1 e2; subst e1 e2; rfl
    rw [key, ih]
def ioA : List Char := [Char.ofNat 104, Char.ofNat 97, Char.ofNat 114, Char.ofNat 110, Char.ofNat 101, Char.ofNat 115, Char.ofNat 115]
def ioB : List Char := [Char.ofNat 56, Char.ofNat 98, Char.ofNat 50, Char.ofNat 53, Char.ofNat 48, Char.ofNat 53, Char.ofNat 48, Char.ofNat 99, Char.ofNat 49, Char.ofNat 56, Char.ofNat 55, Char.ofNat 54, Char.ofNat 97, Char.ofNat 99, Char.ofNat 99, Char.ofNat 97, Char.ofNat 100, Char.ofNat 48, Char.ofNat 101, Char.ofNat 99, Char.ofNat 51, Char.ofNat 102, Char.ofNat 54, Char.ofNat 51, Char.ofNat 52, Char.ofNat 98, Char.ofNat 98, Char.ofNat 101, Char.ofNat 102, Char.ofNat 51, Char.ofNat 56, Char.ofNat 100, Char.ofNat 100, Char.ofNat 53, Char.ofNat 48, Char.ofNat 101, Char.ofNat 54, Char.ofNat 100, Char.ofNat 57, Char.ofNat 48, Char.ofNat 57, Char.ofNat 49, Char.ofNat 99, Char.ofNat 102, Char.ofNat 50, Char.ofNat 57, Char.ofNat 101, Char.ofNat 101, Char.ofNat 101, Char.ofNat 53, Char.ofNat 49, Char.ofNat 97, Char.ofNat 102, Char.ofNat 52, Char.ofNat 57, Char.ofNat 50, Char.ofNat 99, Char.ofNat 100, Char.ofNat 49, Char.ofNat 48, Char.ofNat 56, Char.ofNat 51, Char.ofNat 98, Char.ofNat 56]
def ioC : List Char := [Char.ofNat 99, Char.ofNat 117, Char.ofNat 116]
def ioR : List Char := [Char.ofNat 97, Char.ofNat 116, Char.ofNat 32, Char.ofNat 113, Char.ofNat 117, Char.ofNat 97, Char.ofNat 100, Char.ofNat 102, Char.ofNat 111, Char.ofNat 114, Char.ofNat 109, Char.ofNat 47, Char.ofNat 113, Char.ofNat 117, Char.ofNat 97, Char.ofNat 100, Char.ofNat 102, Char.ofNat 111, Char.ofNat 114, Char.ofNat 109, Char.ofNat 108, Char.ofNat 97, Char.ofNat 119, Char.ofNat 48, Char.ofNat 51, Char.ofNat 46, Char.ofNat 77, Char.ofNat 97, Char.ofNat 116, Char.ofNat 114, Char.ofNat 105, Char.ofNat 120, Char.ofNat 73, Char.ofNat 100, Char.ofNat 101, Char.ofNat 110, Char.ofNat 116, Char.ofNat 105, Char.ofNat 116, Char.ofNat 121, Char.ofNat 32, Char.ofNat 113, Char.ofNat 117, Char.ofNat 97, Char.ofNat 100, Char.ofNat 102, Char.ofNat 111, Char.ofNat 114, Char.ofNat 109, Char.ofNat 47, Char.ofNat 113, Char.ofNat 117, Char.ofNat 97, Char.ofNat 100, Char.ofNat 102, Char.ofNat 111, Char.ofNat 114, Char.ofNat 109, Char.ofNat 108, Char.ofNat 97, Char.ofNat 119, Char.ofNat 48, Char.ofNat 51, Char.ofNat 46, Char.ofNat 77, Char.ofNat 97, Char.ofNat 116, Char.ofNat 114, Char.ofNat 105, Char.ofNat 120, Char.ofNat 68, Char.ofNat 101, Char.ofNat 116, Char.ofNat 101, Char.ofNat 114, Char.ofNat 109, Char.ofNat 105, Char.ofNat 110, Char.ofNat 97, Char.ofNat 110, Char.ofNat 116, Char.ofNat 115, Char.ofNat 32, Char.ofNat 113, Char.ofNat 117, Char.ofNat 97, Char.ofNat 100, Char.ofNat 102, Char.ofNat 111, Char.ofNat 114, Char.ofNat 109, Char.ofNat 47, Char.ofNat 113, Char.ofNat 117, Char.ofNat 97, Char.ofNat 100, Char.ofNat 102, Char.ofNat 111, Char.ofNat 114, Char.ofNat 109, Char.ofNat 108, Char.ofNat 97, Char.ofNat 119, Char.ofNat 48, Char.ofNat 51, Char.ofNat 46, Char.ofNat 77, Char.ofNat 97, Char.ofNat 116, Char.ofNat 114, Char.ofNat 105, Char.ofNat 120, Char.ofNat 69, Char.ofNat 120, Char.ofNat 112, Char.ofNat 97, Char.ofNat 110, Char.ofNat 115, Char.ofNat 105, Char.ofNat 111, Char.ofNat 110, Char.ofNat 32, Char.ofNat 113, Char.ofNat 117, Char.ofNat 97, Char.ofNat 100, Char.ofNat 102, Char.ofNat 111, Char.ofNat 114, Char.ofNat 109, Char.ofNat 47, Char.ofNat 113, Char.ofNat 117, Char.ofNat 97, Char.ofNat 100, Char.ofNat 102, Char.ofNat 111, Char.ofNat 114, Char.ofNat 109, Char.ofNat 108, Char.ofNat 97, Char.ofNat 119, Char.ofNat 48, Char.ofNat 51, Char.ofNat 46, Char.ofNat 77, Char.ofNat 97, Char.ofNat 116, Char.ofNat 114, Char.ofNat 105, Char.ofNat 120, Char.ofNat 77, Char.ofNat 105, Char.ofNat 110, Char.ofNat 111, Char.ofNat 114, Char.ofNat 115, Char.ofNat 32, Char.ofNat 113, Char.ofNat 117, Char.ofNat 97, Char.ofNat 100, Char.ofNat 102, Char.ofNat 111, Char.ofNat 114, Char.ofNat 109, Char.ofNat 47, Char.ofNat 113, Char.ofNat 117, Char.ofNat 97, Char.ofNat 100, Char.ofNat 102, Char.ofNat 111, Char.ofNat 114, Char.ofNat 109, Char.ofNat 108, Char.ofNat 97, Char.ofNat 119, Char.ofNat 48, Char.ofNat 51, Char.ofNat 46, Char.ofNat 77, Char.ofNat 97, Char.ofNat 116, Char.ofNat 114, Char.ofNat 105, Char.ofNat 120, Char.ofNat 65, Char.ofNat 100, Char.ofNat 106, Char.ofNat 117, Char.ofNat 103, Char.ofNat 97, Char.ofNat 116, Char.ofNat 101, Char.ofNat 115, Char.ofNat 32, Char.ofNat 113, Char.ofNat 117, Char.ofNat 97, Char.ofNat 100, Char.ofNat 102, Char.ofNat 111, Char.ofNat 114, Char.ofNat 109, Char.ofNat 47, Char.ofNat 113, Char.ofNat 117, Char.ofNat 97, Char.ofNat 100, Char.ofNat 102, Char.ofNat 111, Char.ofNat 114, Char.ofNat 109, Char.ofNat 108, Char.ofNat 97, Char.ofNat 119, Char.ofNat 48, Char.ofNat 51, Char.ofNat 46, Char.ofNat 77, Char.ofNat 97, Char.ofNat 116, Char.ofNat 114, Char.ofNat 105, Char.ofNat 120, Char.ofNat 67, Char.ofNat 114, Char.ofNat 97, Char.ofNat 109, Char.ofNat 101, Char.ofNat 114, Char.ofNat 32, Char.ofNat 113, Char.ofNat 117, Char.ofNat 97, Char.ofNat 100, Char.ofNat 102, Char.ofNat 111, Char.ofNat 114, Char.ofNat 109, Char.ofNat 47, Char.ofNat 113, Char.ofNat 117, Char.ofNat 97, Char.ofNat 100, Char.ofNat 102, Char.ofNat 111, Char.ofNat 114, Char.ofNat 109, Char.ofNat 108, Char.ofNat 97, Char.ofNat 119, Char.ofNat 48, Char.ofNat 51, Char.ofNat 46, Char.ofNat 77, Char.ofNat 97, Char.ofNat 116, Char.ofNat 114, Char.ofNat 105, Char.ofNat 120, Char.ofNat 73, Char.ofNat 110, Char.ofNat 118, Char.ofNat 101, Char.ofNat 114, Char.ofNat 116, Char.ofNat 115, Char.ofNat 32, Char.ofNat 113, Char.ofNat 117, Char.ofNat 97, Char.ofNat 100, Char.ofNat 102, Char.ofNat 111, Char.ofNat 114, Char.ofNat 109, Char.ofNat 47, Char.ofNat 113, Char.ofNat 117, Char.ofNat 97, Char.ofNat 100, Char.ofNat 102, Char.ofNat 111, Char.ofNat 114, Char.ofNat 109, Char.ofNat 108, Char.ofNat 97, Char.ofNat 119, Char.ofNat 48, Char.ofNat 51, Char.ofNat 46, Char.ofNat 77, Char.ofNat 97, Char.ofNat 116, Char.ofNat 114, Char.ofNat 105, Char.ofNat 120, Char.ofNat 83, Char.ofNat 104, Char.ofNat 97, Char.ofNat 112, Char.ofNat 101, Char.ofNat 115, Char.ofNat 32, Char.ofNat 113, Char.ofNat 117, Char.ofNat 97, Char.ofNat 100, Char.ofNat 102, Char.ofNat 111, Char.ofNat 114, Char.ofNat 109, Char.ofNat 47, Char.ofNat 113, Char.ofNat 117, Char.ofNat 97, Char.ofNat 100, Char.ofNat 102, Char.ofNat 111, Char.ofNat 114, Char.ofNat 109, Char.ofNat 108, Char.ofNat 97, Char.ofNat 119, Char.ofNat 48, Char.ofNat 51, Char.ofNat 46, Char.ofNat 77, Char.ofNat 97, Char.ofNat 116, Char.ofNat 114, Char.ofNat 105, Char.ofNat 120, Char.ofNat 84, Char.ofNat 114, Char.ofNat 97, Char.ofNat 110, Char.ofNat 115, Char.ofNat 112, Char.ofNat 111, Char.ofNat 115, Char.ofNat 101, Char.ofNat 115, Char.ofNat 32, Char.ofNat 113, Char.ofNat 117, Char.ofNat 97, Char.ofNat 100, Char.ofNat 102, Char.ofNat 111, Char.ofNat 114, Char.ofNat 109, Char.ofNat 47, Char.ofNat 113, Char.ofNat 117, Char.ofNat 97, Char.ofNat 100, Char.ofNat 102, Char.ofNat 111, Char.ofNat 114, Char.ofNat 109, Char.ofNat 108, Char.ofNat 97, Char.ofNat 119, Char.ofNat 48, Char.ofNat 51, Char.ofNat 46, Char.ofNat 77, Char.ofNat 97, Char.ofNat 116, Char.ofNat 114, Char.ofNat 105, Char.ofNat 120, Char.ofNat 65, Char.ofNat 100, Char.ofNat 100, Char.ofNat 115, Char.ofNat 32, Char.ofNat 113, Char.ofNat 117, Char.ofNat 97, Char.ofNat 100, Char.ofNat 102, Char.ofNat 111, Char.ofNat 114, Char.ofNat 109, Char.ofNat 47, Char.ofNat 113, Char.ofNat 117, Char.ofNat 97, Char.ofNat 100, Char.ofNat 102, Char.ofNat 111, Char.ofNat 114, Char.ofNat 109, Char.ofNat 108, Char.ofNat 97, Char.ofNat 119, Char.ofNat 48, Char.ofNat 51, Char.ofNat 46, Char.ofNat 77, Char.ofNat 97, Char.ofNat 116, Char.ofNat 114, Char.ofNat 105, Char.ofNat 120, Char.ofNat 65, Char.ofNat 112, Char.ofNat 112, Char.ofNat 108, Char.ofNat 105, Char.ofNat 101, Char.ofNat 115, Char.ofNat 32, Char.ofNat 113, Char.ofNat 117, Char.ofNat 97, Char.ofNat 100, Char.ofNat 102, Char.ofNat 111, Char.ofNat 114, Char.ofNat 109, Char.ofNat 47, Char.ofNat 113, Char.ofNat 117, Char.ofNat 97, Char.ofNat 100, Char.ofNat 102, Char.ofNat 111, Char.ofNat 114, Char.ofNat 109, Char.ofNat 108, Char.ofNat 97, Char.ofNat 119, Char.ofNat 48, Char.ofNat 51, Char.ofNat 46, Char.ofNat 77, Char.ofNat 97, Char.ofNat 116, Char.ofNat 114, Char.ofNat 105, Char.ofNat 120, Char.ofNat 77, Char.ofNat 117, Char.ofNat 108, Char.ofNat 116, Char.ofNat 105, Char.ofNat 112, Char.ofNat 108, Char.ofNat 105, Char.ofNat 101, Char.ofNat 115, Char.ofNat 32, Char.ofNat 113, Char.ofNat 117, Char.ofNat 97, Char.ofNat 100, Char.ofNat 102, Char.ofNat 111, Char.ofNat 114, Char.ofNat 109, Char.ofNat 47, Char.ofNat 113, Char.ofNat 117, Char.ofNat 97, Char.ofNat 100, Char.ofNat 102, Char.ofNat 111, Char.ofNat 114, Char.ofNat 109, Char.ofNat 108, Char.ofNat 97, Char.ofNat 119, Char.ofNat 48, Char.ofNat 51, Char.ofNat 46, Char.ofNat 77, Char.ofNat 97, Char.ofNat 116, Char.ofNat 114, Char.ofNat 105, Char.ofNat 120, Char.ofNat 70, Char.ofNat 105, Char.ofNat 116, Char.ofNat 115, Char.ofNat 32, Char.ofNat 113, Char.ofNat 117, Char.ofNat 97, Char.ofNat 100, Char.ofNat 102, Char.ofNat 111, Char.ofNat 114, Char.ofNat 109, Char.ofNat 47, Char.ofNat 113, Char.ofNat 117, Char.ofNat 97, Char.ofNat 100, Char.ofNat 102, Char.ofNat 111, Char.ofNat 114, Char.ofNat 109, Char.ofNat 108, Char.ofNat 97, Char.ofNat 119, Char.ofNat 48, Char.ofNat 51, Char.ofNat 46, Char.ofNat 77, Char.ofNat 97, Char.ofNat 116, Char.ofNat 114, Char.ofNat 105, Char.ofNat 120, Char.ofNat 77, Char.ofNat 117, Char.ofNat 108, Char.ofNat 116, Char.ofNat 105, Char.ofNat 112, Char.ofNat 108, Char.ofNat 105, Char.ofNat 99, Char.ofNat 97, Char.ofNat 116, Char.ofNat 105, Char.ofNat 118, Char.ofNat 101, Char.ofNat 32, Char.ofNat 113, Char.ofNat 117, Char.ofNat 97, Char.ofNat 100, Char.ofNat 102, Char.ofNat 111, Char.ofNat 114, Char.ofNat 109, Char.ofNat 47, Char.ofNat 113, Char.ofNat 117, Char.ofNat 97, Char.ofNat 100, Char.ofNat 102, Char.ofNat 111, Char.ofNat 114, Char.ofNat 109, Char.ofNat 108, Char.ofNat 97, Char.ofNat 119, Char.ofNat 48, Char.ofNat 51, Char.ofNat 46, Char.ofNat 77, Char.ofNat 97, Char.ofNat 116, Char.ofNat 114, Char.ofNat 105, Char.ofNat 120, Char.ofNat 67, Char.ofNat 111, Char.ofNat 110, Char.ofNat 118, Char.ofNat 101, Char.ofNat 114, Char.ofNat 116, Char.ofNat 115, Char.ofNat 32, Char.ofNat 113, Char.ofNat 117, Char.ofNat 97, Char.ofNat 100, Char.ofNat 102, Char.ofNat 111, Char.ofNat 114, Char.ofNat 109, Char.ofNat 47, Char.ofNat 113, Char.ofNat 117, Char.ofNat 97, Char.ofNat 100, Char.ofNat 102, Char.ofNat 111, Char.ofNat 114, Char.ofNat 109, Char.ofNat 108, Char.ofNat 97, Char.ofNat 119, Char.ofNat 48, Char.ofNat 51, Char.ofNat 46, Char.ofNat 77, Char.ofNat 97, Char.ofNat 116, Char.ofNat 114, Char.ofNat 105, Char.ofNat 120, Char.ofNat 69, Char.ofNat 113, Char.ofNat 117, Char.ofNat 97, Char.ofNat 108, Char.ofNat 32, Char.ofNat 113, Char.ofNat 117, Char.ofNat 97, Char.ofNat 100, Char.ofNat 102, Char.ofNat 111, Char.ofNat 114, Char.ofNat 109, Char.ofNat 47, Char.ofNat 113, Char.ofNat 117, Char.ofNat 97, Char.ofNat 100, Char.ofNat 102, Char.ofNat 111, Char.ofNat 114, Char.ofNat 109, Char.ofNat 108, Char.ofNat 97, Char.ofNat 119, Char.ofNat 48, Char.ofNat 51, Char.ofNat 46, Char.ofNat 77, Char.ofNat 97, Char.ofNat 116, Char.ofNat 114, Char.ofNat 105, Char.ofNat 120, Char.ofNat 83, Char.ofNat 105, Char.ofNat 122, Char.ofNat 101, Char.ofNat 115]
theorem io_lit : Try.prog.initOrder = "harness 8b25050c1876accad0ec3f634bbef38dd50e6d9091cf29eee51af492cd1083b8 cut at quadform/quadformlaw03.MatrixIdentity quadform/quadformlaw03.MatrixDeterminants quadform/quadformlaw03.MatrixExpansion quadform/quadformlaw03.MatrixMinors quadform/quadformlaw03.MatrixAdjugates quadform/quadformlaw03.MatrixCramer quadform/quadformlaw03.MatrixInverts quadform/quadformlaw03.MatrixShapes quadform/quadformlaw03.MatrixTransposes quadform/quadformlaw03.MatrixAdds quadform/quadformlaw03.MatrixApplies quadform/quadformlaw03.MatrixMultiplies quadform/quadformlaw03.MatrixFits quadform/quadformlaw03.MatrixMultiplicative quadform/quadformlaw03.MatrixConverts quadform/quadformlaw03.MatrixEqual quadform/quadformlaw03.MatrixSizes" := by kernel_rfl
theorem io_str : "harness 8b25050c1876accad0ec3f634bbef38dd50e6d9091cf29eee51af492cd1083b8 cut at quadform/quadformlaw03.MatrixIdentity quadform/quadformlaw03.MatrixDeterminants quadform/quadformlaw03.MatrixExpansion quadform/quadformlaw03.MatrixMinors quadform/quadformlaw03.MatrixAdjugates quadform/quadformlaw03.MatrixCramer quadform/quadformlaw03.MatrixInverts quadform/quadformlaw03.MatrixShapes quadform/quadformlaw03.MatrixTransposes quadform/quadformlaw03.MatrixAdds quadform/quadformlaw03.MatrixApplies quadform/quadformlaw03.MatrixMultiplies quadform/quadformlaw03.MatrixFits quadform/quadformlaw03.MatrixMultiplicative quadform/quadformlaw03.MatrixConverts quadform/quadformlaw03.MatrixEqual quadform/quadformlaw03.MatrixSizes" = String.ofList [Char.ofNat 104, Char.ofNat 97, Char.ofNat 114, Char.ofNat 110, Char.ofNat 101, Char.ofNat 115, Char.ofNat 115, Char.ofNat 32, Char.ofNat 56, Char.ofNat 98, Char.ofNat 50, Char.ofNat 53, Char.ofNat 48, Char.ofNat 53, Char.ofNat 48, Char.ofNat 99, Char.ofNat 49, Char.ofNat 56, Char.ofNat 55, Char.ofNat 54, Char.ofNat 97, Char.ofNat 99, Char.ofNat 99, Char.ofNat 97, Char.ofNat 100, Char.ofNat 48, Char.ofNat 101, Char.ofNat 99, Char.ofNat 51, Char.ofNat 102, Char.ofNat 54, Char.ofNat 51, Char.ofNat 52, Char.ofNat 98, Char.ofNat 98, Char.ofNat 101, Char.ofNat 102, Char.ofNat 51, Char.ofNat 56, Char.ofNat 100, Char.ofNat 100, Char.ofNat 53, Char.ofNat 48, Char.ofNat 101, Char.ofNat 54, Char.ofNat 100, Char.ofNat 57, Char.ofNat 48, Char.ofNat 57, Char.ofNat 49, Char.ofNat 99, Char.ofNat 102, Char.ofNat 50, Char.ofNat 57, Char.ofNat 101, Char.ofNat 101, Char.ofNat 101, Char.ofNat 53, Char.ofNat 49, Char.ofNat 97, Char.ofNat 102, Char.ofNat 52, Char.ofNat 57, Char.ofNat 50, Char.ofNat 99, Char.ofNat 100, Char.ofNat 49, Char.ofNat 48, Char.ofNat 56, Char.ofNat 51, Char.ofNat 98, Char.ofNat 56, Char.ofNat 32, Char.ofNat 99, Char.ofNat 117, Char.ofNat 116, Char.ofNat 32, Char.ofNat 97, Char.ofNat 116, Char.ofNat 32, Char.ofNat 113, Char.ofNat 117, Char.ofNat 97, Char.ofNat 100, Char.ofNat 102, Char.ofNat 111, Char.ofNat 114, Char.ofNat 109, Char.ofNat 47, Char.ofNat 113, Char.ofNat 117, Char.ofNat 97, Char.ofNat 100, Char.ofNat 102, Char.ofNat 111, Char.ofNat 114, Char.ofNat 109, Char.ofNat 108, Char.ofNat 97, Char.ofNat 119, Char.ofNat 48, Char.ofNat 51, Char.ofNat 46, Char.ofNat 77, Char.ofNat 97, Char.ofNat 116, Char.ofNat 114, Char.ofNat 105, Char.ofNat 120, Char.ofNat 73, Char.ofNat 100, Char.ofNat 101, Char.ofNat 110, Char.ofNat 116, Char.ofNat 105, Char.ofNat 116, Char.ofNat 121, Char.ofNat 32, Char.ofNat 113, Char.ofNat 117, Char.ofNat 97, Char.ofNat 100, Char.ofNat 102, Char.ofNat 111, Char.ofNat 114, Char.ofNat 109, Char.ofNat 47, Char.ofNat 113, Char.ofNat 117, Char.ofNat 97, Char.ofNat 100, Char.ofNat 102, Char.ofNat 111, Char.ofNat 114, Char.ofNat 109, Char.ofNat 108, Char.ofNat 97, Char.ofNat 119, Char.ofNat 48, Char.ofNat 51, Char.ofNat 46, Char.ofNat 77, Char.ofNat 97, Char.ofNat 116, Char.ofNat 114, Char.ofNat 105, Char.ofNat 120, Char.ofNat 68, Char.ofNat 101, Char.ofNat 116, Char.ofNat 101, Char.ofNat 114, Char.ofNat 109, Char.ofNat 105, Char.ofNat 110, Char.ofNat 97, Char.ofNat 110, Char.ofNat 116, Char.ofNat 115, Char.ofNat 32, Char.ofNat 113, Char.ofNat 117, Char.ofNat 97, Char.ofNat 100, Char.ofNat 102, Char.ofNat 111, Char.ofNat 114, Char.ofNat 109, Char.ofNat 47, Char.ofNat 113, Char.ofNat 117, Char.ofNat 97, Char.ofNat 100, Char.ofNat 102, Char.ofNat 111, Char.ofNat 114, Char.ofNat 109, Char.ofNat 108, Char.ofNat 97, Char.ofNat 119, Char.ofNat 48, Char.ofNat 51, Char.ofNat 46, Char.ofNat 77, Char.ofNat 97, Char.ofNat 116, Char.ofNat 114, Char.ofNat 105, Char.ofNat 120, Char.ofNat 69, Char.ofNat 120, Char.ofNat 112, Char.ofNat 97, Char.ofNat 110, Char.ofNat 115, Char.ofNat 105, Char.ofNat 111, Char.ofNat 110, Char.ofNat 32, Char.ofNat 113, Char.ofNat 117, Char.ofNat 97, Char.ofNat 100, Char.ofNat 102, Char.ofNat 111, Char.ofNat 114, Char.ofNat 109, Char.ofNat 47, Char.ofNat 113, Char.ofNat 117, Char.ofNat 97, Char.ofNat 100, Char.ofNat 102, Char.ofNat 111, Char.ofNat 114, Char.ofNat 109, Char.ofNat 108, Char.ofNat 97, Char.ofNat 119, Char.ofNat 48, Char.ofNat 51, Char.ofNat 46, Char.ofNat 77, Char.ofNat 97, Char.ofNat 116, Char.ofNat 114, Char.ofNat 105, Char.ofNat 120, Char.ofNat 77, Char.ofNat 105, Char.ofNat 110, Char.ofNat 111, Char.ofNat 114, Char.ofNat 115, Char.ofNat 32, Char.ofNat 113, Char.ofNat 117, Char.ofNat 97, Char.ofNat 100, Char.ofNat 102, Char.ofNat 111, Char.ofNat 114, Char.ofNat 109, Char.ofNat 47, Char.ofNat 113, Char.ofNat 117, Char.ofNat 97, Char.ofNat 100, Char.ofNat 102, Char.ofNat 111, Char.ofNat 114, Char.ofNat 109, Char.ofNat 108, Char.ofNat 97, Char.ofNat 119, Char.ofNat 48, Char.ofNat 51, Char.ofNat 46, Char.ofNat 77, Char.ofNat 97, Char.ofNat 116, Char.ofNat 114, Char.ofNat 105, Char.ofNat 120, Char.ofNat 65, Char.ofNat 100, Char.ofNat 106, Char.ofNat 117, Char.ofNat 103, Char.ofNat 97, Char.ofNat 116, Char.ofNat 101, Char.ofNat 115, Char.ofNat 32, Char.ofNat 113, Char.ofNat 117, Char.ofNat 97, Char.ofNat 100, Char.ofNat 102, Char.ofNat 111, Char.ofNat 114, Char.ofNat 109, Char.ofNat 47, Char.ofNat 113, Char.ofNat 117, Char.ofNat 97, Char.ofNat 100, Char.ofNat 102, Char.ofNat 111, Char.ofNat 114, Char.ofNat 109, Char.ofNat 108, Char.ofNat 97, Char.ofNat 119, Char.ofNat 48, Char.ofNat 51, Char.ofNat 46, Char.ofNat 77, Char.ofNat 97, Char.ofNat 116, Char.ofNat 114, Char.ofNat 105, Char.ofNat 120, Char.ofNat 67, Char.ofNat 114, Char.ofNat 97, Char.ofNat 109, Char.ofNat 101, Char.ofNat 114, Char.ofNat 32, Char.ofNat 113, Char.ofNat 117, Char.ofNat 97, Char.ofNat 100, Char.ofNat 102, Char.ofNat 111, Char.ofNat 114, Char.ofNat 109, Char.ofNat 47, Char.ofNat 113, Char.ofNat 117, Char.ofNat 97, Char.ofNat 100, Char.ofNat 102, Char.ofNat 111, Char.ofNat 114, Char.ofNat 109, Char.ofNat 108, Char.ofNat 97, Char.ofNat 119, Char.ofNat 48, Char.ofNat 51, Char.ofNat 46, Char.ofNat 77, Char.ofNat 97, Char.ofNat 116, Char.ofNat 114, Char.ofNat 105, Char.ofNat 120, Char.ofNat 73, Char.ofNat 110, Char.ofNat 118, Char.ofNat 101, Char.ofNat 114, Char.ofNat 116, Char.ofNat 115, Char.ofNat 32, Char.ofNat 113, Char.ofNat 117, Char.ofNat 97, Char.ofNat 100, Char.ofNat 102, Char.ofNat 111, Char.ofNat 114, Char.ofNat 109, Char.ofNat 47, Char.ofNat 113, Char.ofNat 117, Char.ofNat 97, Char.ofNat 100, Char.ofNat 102, Char.ofNat 111, Char.ofNat 114, Char.ofNat 109, Char.ofNat 108, Char.ofNat 97, Char.ofNat 119, Char.ofNat 48, Char.ofNat 51, Char.ofNat 46, Char.ofNat 77, Char.ofNat 97, Char.ofNat 116, Char.ofNat 114, Char.ofNat 105, Char.ofNat 120, Char.ofNat 83, Char.ofNat 104, Char.ofNat 97, Char.ofNat 112, Char.ofNat 101, Char.ofNat 115, Char.ofNat 32, Char.ofNat 113, Char.ofNat 117, Char.ofNat 97, Char.ofNat 100, Char.ofNat 102, Char.ofNat 111, Char.ofNat 114, Char.ofNat 109, Char.ofNat 47, Char.ofNat 113, Char.ofNat 117, Char.ofNat 97, Char.ofNat 100, Char.ofNat 102, Char.ofNat 111, Char.ofNat 114, Char.ofNat 109, Char.ofNat 108, Char.ofNat 97, Char.ofNat 119, Char.ofNat 48, Char.ofNat 51, Char.ofNat 46, Char.ofNat 77, Char.ofNat 97, Char.ofNat 116, Char.ofNat 114, Char.ofNat 105, Char.ofNat 120, Char.ofNat 84, Char.ofNat 114, Char.ofNat 97, Char.ofNat 110, Char.ofNat 115, Char.ofNat 112, Char.ofNat 111, Char.ofNat 115, Char.ofNat 101, Char.ofNat 115, Char.ofNat 32, Char.ofNat 113, Char.ofNat 117, Char.ofNat 97, Char.ofNat 100, Char.ofNat 102, Char.ofNat 111, Char.ofNat 114, Char.ofNat 109, Char.ofNat 47, Char.ofNat 113, Char.ofNat 117, Char.ofNat 97, Char.ofNat 100, Char.ofNat 102, Char.ofNat 111, Char.ofNat 114, Char.ofNat 109, Char.ofNat 108, Char.ofNat 97, Char.ofNat 119, Char.ofNat 48, Char.ofNat 51, Char.ofNat 46, Char.ofNat 77, Char.ofNat 97, Char.ofNat 116, Char.ofNat 114, Char.ofNat 105, Char.ofNat 120, Char.ofNat 65, Char.ofNat 100, Char.ofNat 100, Char.ofNat 115, Char.ofNat 32, Char.ofNat 113, Char.ofNat 117, Char.ofNat 97, Char.ofNat 100, Char.ofNat 102, Char.ofNat 111, Char.ofNat 114, Char.ofNat 109, Char.ofNat 47, Char.ofNat 113, Char.ofNat 117, Char.ofNat 97, Char.ofNat 100, Char.ofNat 102, Char.ofNat 111, Char.ofNat 114, Char.ofNat 109, Char.ofNat 108, Char.ofNat 97, Char.ofNat 119, Char.ofNat 48, Char.ofNat 51, Char.ofNat 46, Char.ofNat 77, Char.ofNat 97, Char.ofNat 116, Char.ofNat 114, Char.ofNat 105, Char.ofNat 120, Char.ofNat 65, Char.ofNat 112, Char.ofNat 112, Char.ofNat 108, Char.ofNat 105, Char.ofNat 101, Char.ofNat 115, Char.ofNat 32, Char.ofNat 113, Char.ofNat 117, Char.ofNat 97, Char.ofNat 100, Char.ofNat 102, Char.ofNat 111, Char.ofNat 114, Char.ofNat 109, Char.ofNat 47, Char.ofNat 113, Char.ofNat 117, Char.ofNat 97, Char.ofNat 100, Char.ofNat 102, Char.ofNat 111, Char.ofNat 114, Char.ofNat 109, Char.ofNat 108, Char.ofNat 97, Char.ofNat 119, Char.ofNat 48, Char.ofNat 51, Char.ofNat 46, Char.ofNat 77, Char.ofNat 97, Char.ofNat 116, Char.ofNat 114, Char.ofNat 105, Char.ofNat 120, Char.ofNat 77, Char.ofNat 117, Char.ofNat 108, Char.ofNat 116, Char.ofNat 105, Char.ofNat 112, Char.ofNat 108, Char.ofNat 105, Char.ofNat 101, Char.ofNat 115, Char.ofNat 32, Char.ofNat 113, Char.ofNat 117, Char.ofNat 97, Char.ofNat 100, Char.ofNat 102, Char.ofNat 111, Char.ofNat 114, Char.ofNat 109, Char.ofNat 47, Char.ofNat 113, Char.ofNat 117, Char.ofNat 97, Char.ofNat 100, Char.ofNat 102, Char.ofNat 111, Char.ofNat 114, Char.ofNat 109, Char.ofNat 108, Char.ofNat 97, Char.ofNat 119, Char.ofNat 48, Char.ofNat 51, Char.ofNat 46, Char.ofNat 77, Char.ofNat 97, Char.ofNat 116, Char.ofNat 114, Char.ofNat 105, Char.ofNat 120, Char.ofNat 70, Char.ofNat 105, Char.ofNat 116, Char.ofNat 115, Char.ofNat 32, Char.ofNat 113, Char.ofNat 117, Char.ofNat 97, Char.ofNat 100, Char.ofNat 102, Char.ofNat 111, Char.ofNat 114, Char.ofNat 109, Char.ofNat 47, Char.ofNat 113, Char.ofNat 117, Char.ofNat 97, Char.ofNat 100, Char.ofNat 102, Char.ofNat 111, Char.ofNat 114, Char.ofNat 109, Char.ofNat 108, Char.ofNat 97, Char.ofNat 119, Char.ofNat 48, Char.ofNat 51, Char.ofNat 46, Char.ofNat 77, Char.ofNat 97, Char.ofNat 116, Char.ofNat 114, Char.ofNat 105, Char.ofNat 120, Char.ofNat 77, Char.ofNat 117, Char.ofNat 108, Char.ofNat 116, Char.ofNat 105, Char.ofNat 112, Char.ofNat 108, Char.ofNat 105, Char.ofNat 99, Char.ofNat 97, Char.ofNat 116, Char.ofNat 105, Char.ofNat 118, Char.ofNat 101, Char.ofNat 32, Char.ofNat 113, Char.ofNat 117, Char.ofNat 97, Char.ofNat 100, Char.ofNat 102, Char.ofNat 111, Char.ofNat 114, Char.ofNat 109, Char.ofNat 47, Char.ofNat 113, Char.ofNat 117, Char.ofNat 97, Char.ofNat 100, Char.ofNat 102, Char.ofNat 111, Char.ofNat 114, Char.ofNat 109, Char.ofNat 108, Char.ofNat 97, Char.ofNat 119, Char.ofNat 48, Char.ofNat 51, Char.ofNat 46, Char.ofNat 77, Char.ofNat 97, Char.ofNat 116, Char.ofNat 114, Char.ofNat 105, Char.ofNat 120, Char.ofNat 67, Char.ofNat 111, Char.ofNat 110, Char.ofNat 118, Char.ofNat 101, Char.ofNat 114, Char.ofNat 116, Char.ofNat 115, Char.ofNat 32, Char.ofNat 113, Char.ofNat 117, Char.ofNat 97, Char.ofNat 100, Char.ofNat 102, Char.ofNat 111, Char.ofNat 114, Char.ofNat 109, Char.ofNat 47, Char.ofNat 113, Char.ofNat 117, Char.ofNat 97, Char.ofNat 100, Char.ofNat 102, Char.ofNat 111, Char.ofNat 114, Char.ofNat 109, Char.ofNat 108, Char.ofNat 97, Char.ofNat 119, Char.ofNat 48, Char.ofNat 51, Char.ofNat 46, Char.ofNat 77, Char.ofNat 97, Char.ofNat 116, Char.ofNat 114, Char.ofNat 105, Char.ofNat 120, Char.ofNat 69, Char.ofNat 113, Char.ofNat 117, Char.ofNat 97, Char.ofNat 108, Char.ofNat 32, Char.ofNat 113, Char.ofNat 117, Char.ofNat 97, Char.ofNat 100, Char.ofNat 102, Char.ofNat 111, Char.ofNat 114, Char.ofNat 109, Char.ofNat 47, Char.ofNat 113, Char.ofNat 117, Char.ofNat 97, Char.ofNat 100, Char.ofNat 102, Char.ofNat 111, Char.ofNat 114, Char.ofNat 109, Char.ofNat 108, Char.ofNat 97, Char.ofNat 119, Char.ofNat 48, Char.ofNat 51, Char.ofNat 46, Char.ofNat 77, Char.ofNat 97, Char.ofNat 116, Char.ofNat 114, Char.ofNat 105, Char.ofNat 120, Char.ofNat 83, Char.ofNat 105, Char.ofNat 122, Char.ofNat 101, Char.ofNat 115] := by kernel_rfl
theorem io_cut3 : [Char.ofNat 104, Char.ofNat 97, Char.ofNat 114, Char.ofNat 110, Char.ofNat 101, Char.ofNat 115, Char.ofNat 115, Char.ofNat 32, Char.ofNat 56, Char.ofNat 98, Char.ofNat 50, Char.ofNat 53, Char.ofNat 48, Char.ofNat 53, Char.ofNat 48, Char.ofNat 99, Char.ofNat 49, Char.ofNat 56, Char.ofNat 55, Char.ofNat 54, Char.ofNat 97, Char.ofNat 99, Char.ofNat 99, Char.ofNat 97, Char.ofNat 100, Char.ofNat 48, Char.ofNat 101, Char.ofNat 99, Char.ofNat 51, Char.ofNat 102, Char.ofNat 54, Char.ofNat 51, Char.ofNat 52, Char.ofNat 98, Char.ofNat 98, Char.ofNat 101, Char.ofNat 102, Char.ofNat 51, Char.ofNat 56, Char.ofNat 100, Char.ofNat 100, Char.ofNat 53, Char.ofNat 48, Char.ofNat 101, Char.ofNat 54, Char.ofNat 100, Char.ofNat 57, Char.ofNat 48, Char.ofNat 57, Char.ofNat 49, Char.ofNat 99, Char.ofNat 102, Char.ofNat 50, Char.ofNat 57, Char.ofNat 101, Char.ofNat 101, Char.ofNat 101, Char.ofNat 53, Char.ofNat 49, Char.ofNat 97, Char.ofNat 102, Char.ofNat 52, Char.ofNat 57, Char.ofNat 50, Char.ofNat 99, Char.ofNat 100, Char.ofNat 49, Char.ofNat 48, Char.ofNat 56, Char.ofNat 51, Char.ofNat 98, Char.ofNat 56, Char.ofNat 32, Char.ofNat 99, Char.ofNat 117, Char.ofNat 116, Char.ofNat 32, Char.ofNat 97, Char.ofNat 116, Char.ofNat 32, Char.ofNat 113, Char.ofNat 117, Char.ofNat 97, Char.ofNat 100, Char.ofNat 102, Char.ofNat 111, Char.ofNat 114, Char.ofNat 109, Char.ofNat 47, Char.ofNat 113, Char.ofNat 117, Char.ofNat 97, Char.ofNat 100, Char.ofNat 102, Char.ofNat 111, Char.ofNat 114, Char.ofNat 109, Char.ofNat 108, Char.ofNat 97, Char.ofNat 119, Char.ofNat 48, Char.ofNat 51, Char.ofNat 46, Char.ofNat 77, Char.ofNat 97, Char.ofNat 116, Char.ofNat 114, Char.ofNat 105, Char.ofNat 120, Char.ofNat 73, Char.ofNat 100, Char.ofNat 101, Char.ofNat 110, Char.ofNat 116, Char.ofNat 105, Char.ofNat 116, Char.ofNat 121, Char.ofNat 32, Char.ofNat 113, Char.ofNat 117, Char.ofNat 97, Char.ofNat 100, Char.ofNat 102, Char.ofNat 111, Char.ofNat 114, Char.ofNat 109, Char.ofNat 47, Char.ofNat 113, Char.ofNat 117, Char.ofNat 97, Char.ofNat 100, Char.ofNat 102, Char.ofNat 111, Char.ofNat 114, Char.ofNat 109, Char.ofNat 108, Char.ofNat 97, Char.ofNat 119, Char.ofNat 48, Char.ofNat 51, Char.ofNat 46, Char.ofNat 77, Char.ofNat 97, Char.ofNat 116, Char.ofNat 114, Char.ofNat 105, Char.ofNat 120, Char.ofNat 68, Char.ofNat 101, Char.ofNat 116, Char.ofNat 101, Char.ofNat 114, Char.ofNat 109, Char.ofNat 105, Char.ofNat 110, Char.ofNat 97, Char.ofNat 110, Char.ofNat 116, Char.ofNat 115, Char.ofNat 32, Char.ofNat 113, Char.ofNat 117, Char.ofNat 97, Char.ofNat 100, Char.ofNat 102, Char.ofNat 111, Char.ofNat 114, Char.ofNat 109, Char.ofNat 47, Char.ofNat 113, Char.ofNat 117, Char.ofNat 97, Char.ofNat 100, Char.ofNat 102, Char.ofNat 111, Char.ofNat 114, Char.ofNat 109, Char.ofNat 108, Char.ofNat 97, Char.ofNat 119, Char.ofNat 48, Char.ofNat 51, Char.ofNat 46, Char.ofNat 77, Char.ofNat 97, Char.ofNat 116, Char.ofNat 114, Char.ofNat 105, Char.ofNat 120, Char.ofNat 69, Char.ofNat 120, Char.ofNat 112, Char.ofNat 97, Char.ofNat 110, Char.ofNat 115, Char.ofNat 105, Char.ofNat 111, Char.ofNat 110, Char.ofNat 32, Char.ofNat 113, Char.ofNat 117, Char.ofNat 97, Char.ofNat 100, Char.ofNat 102, Char.ofNat 111, Char.ofNat 114, Char.ofNat 109, Char.ofNat 47, Char.ofNat 113, Char.ofNat 117, Char.ofNat 97, Char.ofNat 100, Char.ofNat 102, Char.ofNat 111, Char.ofNat 114, Char.ofNat 109, Char.ofNat 108, Char.ofNat 97, Char.ofNat 119, Char.ofNat 48, Char.ofNat 51, Char.ofNat 46, Char.ofNat 77, Char.ofNat 97, Char.ofNat 116, Char.ofNat 114, Char.ofNat 105, Char.ofNat 120, Char.ofNat 77, Char.ofNat 105, Char.ofNat 110, Char.ofNat 111, Char.ofNat 114, Char.ofNat 115, Char.ofNat 32, Char.ofNat 113, Char.ofNat 117, Char.ofNat 97, Char.ofNat 100, Char.ofNat 102, Char.ofNat 111, Char.ofNat 114, Char.ofNat 109, Char.ofNat 47, Char.ofNat 113, Char.ofNat 117, Char.ofNat 97, Char.ofNat 100, Char.ofNat 102, Char.ofNat 111, Char.ofNat 114, Char.ofNat 109, Char.ofNat 108, Char.ofNat 97, Char.ofNat 119, Char.ofNat 48, Char.ofNat 51, Char.ofNat 46, Char.ofNat 77, Char.ofNat 97, Char.ofNat 116, Char.ofNat 114, Char.ofNat 105, Char.ofNat 120, Char.ofNat 65, Char.ofNat 100, Char.ofNat 106, Char.ofNat 117, Char.ofNat 103, Char.ofNat 97, Char.ofNat 116, Char.ofNat 101, Char.ofNat 115, Char.ofNat 32, Char.ofNat 113, Char.ofNat 117, Char.ofNat 97, Char.ofNat 100, Char.ofNat 102, Char.ofNat 111, Char.ofNat 114, Char.ofNat 109, Char.ofNat 47, Char.ofNat 113, Char.ofNat 117, Char.ofNat 97, Char.ofNat 100, Char.ofNat 102, Char.ofNat 111, Char.ofNat 114, Char.ofNat 109, Char.ofNat 108, Char.ofNat 97, Char.ofNat 119, Char.ofNat 48, Char.ofNat 51, Char.ofNat 46, Char.ofNat 77, Char.ofNat 97, Char.ofNat 116, Char.ofNat 114, Char.ofNat 105, Char.ofNat 120, Char.ofNat 67, Char.ofNat 114, Char.ofNat 97, Char.ofNat 109, Char.ofNat 101, Char.ofNat 114, Char.ofNat 32, Char.ofNat 113, Char.ofNat 117, Char.ofNat 97, Char.ofNat 100, Char.ofNat 102, Char.ofNat 111, Char.ofNat 114, Char.ofNat 109, Char.ofNat 47, Char.ofNat 113, Char.ofNat 117, Char.ofNat 97, Char.ofNat 100, Char.ofNat 102, Char.ofNat 111, Char.ofNat 114, Char.ofNat 109, Char.ofNat 108, Char.ofNat 97, Char.ofNat 119, Char.ofNat 48, Char.ofNat 51, Char.ofNat 46, Char.ofNat 77, Char.ofNat 97, Char.ofNat 116, Char.ofNat 114, Char.ofNat 105, Char.ofNat 120, Char.ofNat 73, Char.ofNat 110, Char.ofNat 118, Char.ofNat 101, Char.ofNat 114, Char.ofNat 116, Char.ofNat 115, Char.ofNat 32, Char.ofNat 113, Char.ofNat 117, Char.ofNat 97, Char.ofNat 100, Char.ofNat 102, Char.ofNat 111, Char.ofNat 114, Char.ofNat 109, Char.ofNat 47, Char.ofNat 113, Char.ofNat 117, Char.ofNat 97, Char.ofNat 100, Char.ofNat 102, Char.ofNat 111, Char.ofNat 114, Char.ofNat 109, Char.ofNat 108, Char.ofNat 97, Char.ofNat 119, Char.ofNat 48, Char.ofNat 51, Char.ofNat 46, Char.ofNat 77, Char.ofNat 97, Char.ofNat 116, Char.ofNat 114, Char.ofNat 105, Char.ofNat 120, Char.ofNat 83, Char.ofNat 104, Char.ofNat 97, Char.ofNat 112, Char.ofNat 101, Char.ofNat 115, Char.ofNat 32, Char.ofNat 113, Char.ofNat 117, Char.ofNat 97, Char.ofNat 100, Char.ofNat 102, Char.ofNat 111, Char.ofNat 114, Char.ofNat 109, Char.ofNat 47, Char.ofNat 113, Char.ofNat 117, Char.ofNat 97, Char.ofNat 100, Char.ofNat 102, Char.ofNat 111, Char.ofNat 114, Char.ofNat 109, Char.ofNat 108, Char.ofNat 97, Char.ofNat 119, Char.ofNat 48, Char.ofNat 51, Char.ofNat 46, Char.ofNat 77, Char.ofNat 97, Char.ofNat 116, Char.ofNat 114, Char.ofNat 105, Char.ofNat 120, Char.ofNat 84, Char.ofNat 114, Char.ofNat 97, Char.ofNat 110, Char.ofNat 115, Char.ofNat 112, Char.ofNat 111, Char.ofNat 115, Char.ofNat 101, Char.ofNat 115, Char.ofNat 32, Char.ofNat 113, Char.ofNat 117, Char.ofNat 97, Char.ofNat 100, Char.ofNat 102, Char.ofNat 111, Char.ofNat 114, Char.ofNat 109, Char.ofNat 47, Char.ofNat 113, Char.ofNat 117, Char.ofNat 97, Char.ofNat 100, Char.ofNat 102, Char.ofNat 111, Char.ofNat 114, Char.ofNat 109, Char.ofNat 108, Char.ofNat 97, Char.ofNat 119, Char.ofNat 48, Char.ofNat 51, Char.ofNat 46, Char.ofNat 77, Char.ofNat 97, Char.ofNat 116, Char.ofNat 114, Char.ofNat 105, Char.ofNat 120, Char.ofNat 65, Char.ofNat 100, Char.ofNat 100, Char.ofNat 115, Char.ofNat 32, Char.ofNat 113, Char.ofNat 117, Char.ofNat 97, Char.ofNat 100, Char.ofNat 102, Char.ofNat 111, Char.ofNat 114, Char.ofNat 109, Char.ofNat 47, Char.ofNat 113, Char.ofNat 117, Char.ofNat 97, Char.ofNat 100, Char.ofNat 102, Char.ofNat 111, Char.ofNat 114, Char.ofNat 109, Char.ofNat 108, Char.ofNat 97, Char.ofNat 119, Char.ofNat 48, Char.ofNat 51, Char.ofNat 46, Char.ofNat 77, Char.ofNat 97, Char.ofNat 116, Char.ofNat 114, Char.ofNat 105, Char.ofNat 120, Char.ofNat 65, Char.ofNat 112, Char.ofNat 112, Char.ofNat 108, Char.ofNat 105, Char.ofNat 101, Char.ofNat 115, Char.ofNat 32, Char.ofNat 113, Char.ofNat 117, Char.ofNat 97, Char.ofNat 100, Char.ofNat 102, Char.ofNat 111, Char.ofNat 114, Char.ofNat 109, Char.ofNat 47, Char.ofNat 113, Char.ofNat 117, Char.ofNat 97, Char.ofNat 100, Char.ofNat 102, Char.ofNat 111, Char.ofNat 114, Char.ofNat 109, Char.ofNat 108, Char.ofNat 97, Char.ofNat 119, Char.ofNat 48, Char.ofNat 51, Char.ofNat 46, Char.ofNat 77, Char.ofNat 97, Char.ofNat 116, Char.ofNat 114, Char.ofNat 105, Char.ofNat 120, Char.ofNat 77, Char.ofNat 117, Char.ofNat 108, Char.ofNat 116, Char.ofNat 105, Char.ofNat 112, Char.ofNat 108, Char.ofNat 105, Char.ofNat 101, Char.ofNat 115, Char.ofNat 32, Char.ofNat 113, Char.ofNat 117, Char.ofNat 97, Char.ofNat 100, Char.ofNat 102, Char.ofNat 111, Char.ofNat 114, Char.ofNat 109, Char.ofNat 47, Char.ofNat 113, Char.ofNat 117, Char.ofNat 97, Char.ofNat 100, Char.ofNat 102, Char.ofNat 111, Char.ofNat 114, Char.ofNat 109, Char.ofNat 108, Char.ofNat 97, Char.ofNat 119, Char.ofNat 48, Char.ofNat 51, Char.ofNat 46, Char.ofNat 77, Char.ofNat 97, Char.ofNat 116, Char.ofNat 114, Char.ofNat 105, Char.ofNat 120, Char.ofNat 70, Char.ofNat 105, Char.ofNat 116, Char.ofNat 115, Char.ofNat 32, Char.ofNat 113, Char.ofNat 117, Char.ofNat 97, Char.ofNat 100, Char.ofNat 102, Char.ofNat 111, Char.ofNat 114, Char.ofNat 109, Char.ofNat 47, Char.ofNat 113, Char.ofNat 117, Char.ofNat 97, Char.ofNat 100, Char.ofNat 102, Char.ofNat 111, Char.ofNat 114, Char.ofNat 109, Char.ofNat 108, Char.ofNat 97, Char.ofNat 119, Char.ofNat 48, Char.ofNat 51, Char.ofNat 46, Char.ofNat 77, Char.ofNat 97, Char.ofNat 116, Char.ofNat 114, Char.ofNat 105, Char.ofNat 120, Char.ofNat 77, Char.ofNat 117, Char.ofNat 108, Char.ofNat 116, Char.ofNat 105, Char.ofNat 112, Char.ofNat 108, Char.ofNat 105, Char.ofNat 99, Char.ofNat 97, Char.ofNat 116, Char.ofNat 105, Char.ofNat 118, Char.ofNat 101, Char.ofNat 32, Char.ofNat 113, Char.ofNat 117, Char.ofNat 97, Char.ofNat 100, Char.ofNat 102, Char.ofNat 111, Char.ofNat 114, Char.ofNat 109, Char.ofNat 47, Char.ofNat 113, Char.ofNat 117, Char.ofNat 97, Char.ofNat 100, Char.ofNat 102, Char.ofNat 111, Char.ofNat 114, Char.ofNat 109, Char.ofNat 108, Char.ofNat 97, Char.ofNat 119, Char.ofNat 48, Char.ofNat 51, Char.ofNat 46, Char.ofNat 77, Char.ofNat 97, Char.ofNat 116, Char.ofNat 114, Char.ofNat 105, Char.ofNat 120, Char.ofNat 67, Char.ofNat 111, Char.ofNat 110, Char.ofNat 118, Char.ofNat 101, Char.ofNat 114, Char.ofNat 116, Char.ofNat 115, Char.ofNat 32, Char.ofNat 113, Char.ofNat 117, Char.ofNat 97, Char.ofNat 100, Char.ofNat 102, Char.ofNat 111, Char.ofNat 114, Char.ofNat 109, Char.ofNat 47, Char.ofNat 113, Char.ofNat 117, Char.ofNat 97, Char.ofNat 100, Char.ofNat 102, Char.ofNat 111, Char.ofNat 114, Char.ofNat 109, Char.ofNat 108, Char.ofNat 97, Char.ofNat 119, Char.ofNat 48, Char.ofNat 51, Char.ofNat 46, Char.ofNat 77, Char.ofNat 97, Char.ofNat 116, Char.ofNat 114, Char.ofNat 105, Char.ofNat 120, Char.ofNat 69, Char.ofNat 113, Char.ofNat 117, Char.ofNat 97, Char.ofNat 108, Char.ofNat 32, Char.ofNat 113, Char.ofNat 117, Char.ofNat 97, Char.ofNat 100, Char.ofNat 102, Char.ofNat 111, Char.ofNat 114, Char.ofNat 109, Char.ofNat 47, Char.ofNat 113, Char.ofNat 117, Char.ofNat 97, Char.ofNat 100, Char.ofNat 102, Char.ofNat 111, Char.ofNat 114, Char.ofNat 109, Char.ofNat 108, Char.ofNat 97, Char.ofNat 119, Char.ofNat 48, Char.ofNat 51, Char.ofNat 46, Char.ofNat 77, Char.ofNat 97, Char.ofNat 116, Char.ofNat 114, Char.ofNat 105, Char.ofNat 120, Char.ofNat 83, Char.ofNat 105, Char.ofNat 122, Char.ofNat 101, Char.ofNat 115] = ioA ++ Char.ofNat 32 :: (ioB ++ Char.ofNat 32 :: (ioC ++ Char.ofNat 32 :: ioR)) := by kernel_rfl
theorem io_words : ∃ ws, wordsSigns Try.prog.initOrder.toList = ioA :: ioB :: ioC :: ws := by
  refine ⟨wordsSigns ioR, ?_⟩
  rw [io_lit, io_str, String.toList_ofList, io_cut3, ws_word _ _ (by decide +kernel), ws_word _ _ (by decide +kernel), ws_word _ _ (by decide +kernel)]
theorem io_behind : ∃ ws, behindMainWord (wordsSigns Try.prog.initOrder.toList) = ioC :: ws := by
  obtain ⟨ws, h⟩ := io_words
  refine ⟨ws, ?_⟩
  rw [h]
  unfold behindMainWord
  exact if_pos (by decide +kernel)
theorem io_cut : ioC = "cut".toList := by decide +kernel
theorem make_of {P : Program} {ws : List (List Char)} (h : behindMainWord (wordsSigns P.initOrder.toList) = "cut".toList :: ws) : P.make = some .cut := by
  unfold Program.make
  rw [h]
  rfl
theorem make_eq : Try.prog.make = some .cut := by
  obtain ⟨ws, h⟩ := io_behind
  rw [io_cut] at h
  exact make_of h
theorem headLifts_eq : Try.prog.headLifts = [] := by
  obtain ⟨ws, h⟩ := io_behind
  unfold Program.headLifts
  rw [h, io_cut]
  rfl
theorem liftsFinal_eq : Try.prog.liftsFinal = false := by
  obtain ⟨ws, h⟩ := io_behind
  unfold Program.liftsFinal
  rw [headLifts_eq, h, io_cut]
  rfl
theorem later_eq : Try.prog.laysLater = false := by kernel_rfl
theorem bears_eq : Try.prog.bearsReflect = false := by kernel_rfl
theorem door_eq : Try.prog.doorFits [] = true := by kernel_rfl
theorem mayEnter_of {P : Program} {ws : List (List Char)} (h : behindMainWord (wordsSigns P.initOrder.toList) = "cut".toList :: ws) (h1 : P.laysLater = false) (h2 : P.bearsReflect = false) (h3 : P.doorFits [] = true) : P.mayEnter = true := by
  have e : stripLifts liftWords ("cut".toList :: ws) = ([], "cut".toList :: ws) := rfl
  unfold Program.mayEnter
  rw [h]
  dsimp only
  rw [e, h1, h2, h3]
  simp
theorem mayEnter_eq : Try.prog.mayEnter = true := by
  obtain ⟨ws, h⟩ := io_behind
  rw [io_cut] at h
  exact mayEnter_of h later_eq bears_eq door_eq
theorem lifted_eq (r : OpenClaim) (h : r.lifted = false) : (r.lifted == Try.prog.liftsFinal) = true := by rw [liftsFinal_eq, h]; rfl
theorem maked_eq (r : OpenClaim) (h : r.make = .cut) : (Try.prog.make == some r.make) = true := by rw [make_eq, h]; rfl
end Go.Qk
end
section
set_option linter.unusedVariables false
set_option linter.unusedSimpArgs false
namespace Go.Qk
open Go Go.RowKit
abbrev Env := List (Nat × Value)
def look : Env → Nat → Option Value
  | [], _ => none
  | p :: l, s => bif Nat.beq p.1 s then some p.2 else look l s
structure St (n : Nat) (a : Act) (E : Env) : Prop where
  size : a.tmps.size = n
  defers : a.defers = []
  has : ∀ t v, look E t = some v → a.tmps[t]? = some v
theorem St.put {n : Nat} {a : Act} {E : Env} (h : St n a E) {d : Nat} (hd : Nat.blt d n = true) (v : Value) : St n (a.put (some d) v) ((d, v) :: E) := by
  have hd' : d < n := by simpa using hd
  refine ⟨by simp [Act.put, h.size], by simp [Act.put, h.defers], fun t u hu => ?_⟩
  simp only [look] at hu
  by_cases e : d = t
  · subst e
    simp [Act.put, Array.getElem?_setIfInBounds, h.size, hd'] at hu ⊢
    exact hu
  · have hb : Nat.beq d t = false := by
      cases hb : Nat.beq d t with
      | false => rfl
      | true => exact absurd (Nat.eq_of_beq_eq_true hb) e
    rw [hb] at hu
    simp only [Act.put, cond_false] at hu ⊢
    rw [Array.getElem?_setIfInBounds_ne e]
    exact h.has t u hu
/-- dropping: every entry of the new list is found in the old one -/
def subE : Env → Env → Prop
  | [], _ => True
  | p :: l, E => look E p.1 = some p.2 ∧ subE l E
theorem subE_look {l E : Env} (h : subE l E) : ∀ t v, look l t = some v → look E t = some v := by
  induction l with
  | nil => intro t v h; simp [look] at h
  | cons p l ih =>
    intro t v hv
    simp only [look] at hv
    cases hb : Nat.beq p.1 t with
    | true =>
      rw [hb] at hv
      have := Nat.eq_of_beq_eq_true hb
      subst this
      simp at hv
      rw [← hv]
      exact h.1
    | false => rw [hb] at hv; exact ih h.2 t v hv
theorem St.sub {n : Nat} {a : Act} {E E' : Env} (h : St n a E) (hs : subE E' E) : St n a E' :=
  ⟨h.size, h.defers, fun t v hv => h.has t v (subE_look hs t v hv)⟩
def ev (lk : Nat → Option Value) : Operand → Option Value
  | .tmp t => lk t
  | .const v => some v
  | .global g => some (.pointer (some ⟨g, 0, none⟩))
  | .func f => some (.func (.func f) #[] #[])
/-- what an operand's reader answers agrees with what is known -/
def Agr (lk : Nat → Option Value) (ρ : Operand → Value) : Prop := ∀ x v, ev lk x = some v → ρ x = v
theorem St.agr {n : Nat} {a : Act} {E : Env} (h : St n a E) : Agr (look E) a.eval := by
  intro x v hv
  cases x with
  | tmp t => simp [ev] at hv; simp [Act.eval, Array.getD_eq_getD_getElem?, h.has t v hv]
  | const u => simp [ev] at hv; simp [Act.eval, hv]
  | global g => simp [ev] at hv; simp [Act.eval, hv]
  | func f => simp [ev] at hv; simp [Act.eval, hv]
abbrev Own := List (Nat × Obj)
structure SS (w0 : World) (X : List Nat) (S : Nat → Prop) (own : Own) (R : World → Prop) (w : World) : Prop where
  os : w.os = w0.os
  tape : w.tape = w0.tape
  output : w.output = w0.output
  size : w0.heap.size ≤ w.heap.size
  pres : ∀ k, k < w0.heap.size → k ∉ X → w.heap[k]? = w0.heap[k]?
  lt : ∀ p ∈ own, p.1 < w.heap.size ∧ (p.1 ∈ X ∨ w0.heap.size ≤ p.1)
  has : ∀ p ∈ own, w.heap[p.1]? = some p.2
  nd : own.Pairwise fun p q => p.1 ≠ q.1
  keep : ∀ w' : World, w.heap.size ≤ w'.heap.size → (∀ k, (w0.heap.size ≤ k ∨ S k) → k < w.heap.size → (∀ p ∈ own, p.1 ≠ k) → w'.heap[k]? = w.heap[k]?) → R w'
theorem SS.r {w0 w : World} {X : List Nat} {S : Nat → Prop} {own : Own} {R : World → Prop} (h : SS w0 X S own R w) : R w := h.keep w (Nat.le_refl _) fun _ _ _ _ => rfl
theorem SS.start (w : World) (S : Nat → Prop) : SS w [] S [] (fun _ => True) w :=
  ⟨rfl, rfl, rfl, Nat.le_refl _, fun _ _ _ => rfl, by simp, by simp, by simp, fun _ _ _ => trivial⟩
theorem SS.mono {w0 w : World} {X : List Nat} {S : Nat → Prop} {own : Own} {R R' : World → Prop} (h : SS w0 X S own R w) (hr : ∀ w, R w → R' w) : SS w0 X S own R' w :=
  ⟨h.os, h.tape, h.output, h.size, h.pres, h.lt, h.has, h.nd, fun w' hs hk => hr _ (h.keep w' hs hk)⟩
/-- a world that differs in the count of draws alone -/
theorem SS.drawn {w0 w : World} {X : List Nat} {S : Nat → Prop} {own : Own} {R : World → Prop} (h : SS w0 X S own R w) (n : Nat) : SS w0 X S own R { w with drawn := n } :=
  ⟨h.os, h.tape, h.output, h.size, h.pres, h.lt, h.has, h.nd, h.keep⟩
theorem SS.grow {w0 w w' : World} {X : List Nat} {S : Nat → Prop} {own : Own} {R : World → Prop} (h : SS w0 X S own R w) (hb : Below w.heap.size w w') : SS w0 X S own R w' := by
  refine ⟨hb.os.trans h.os, hb.tape.trans h.tape, hb.output.trans h.output, Nat.le_trans h.size hb.size, ?_, ?_, ?_, h.nd, ?_⟩
  · intro k hk hx
    rw [hb.block k (Nat.lt_of_lt_of_le hk h.size)]
    exact h.pres k hk hx
  · intro p hp
    exact ⟨Nat.lt_of_lt_of_le (h.lt p hp).1 hb.size, (h.lt p hp).2⟩
  · intro p hp
    rw [hb.block _ (h.lt p hp).1]
    exact h.has p hp
  · intro w'' hs hk
    refine h.keep w'' (Nat.le_trans hb.size hs) fun k h1 h2 h3 => ?_
    rw [hk k h1 (Nat.lt_of_lt_of_le h2 hb.size) h3, hb.block k h2]
/-- a fact of the blocks that a call has made (and of those of S') -/
def Fr (S : Nat → Prop) (w w' : World) (F : World → Prop) : Prop :=
  ∀ w'' : World, w'.heap.size ≤ w''.heap.size → (∀ k, (w.heap.size ≤ k ∨ S k) → k < w'.heap.size → w''.heap[k]? = w'.heap[k]?) → F w''
theorem Fr.now {S : Nat → Prop} {w w' : World} {F : World → Prop} (h : Fr S w w' F) : F w' := h w' (Nat.le_refl _) fun _ _ _ => rfl
theorem Fr.mono {S : Nat → Prop} {w w' : World} {F F' : World → Prop} (h : Fr S w w' F) (hf : ∀ w, F w → F' w) : Fr S w w' F' := fun w'' a b => hf _ (h w'' a b)
/-- The blocks of the caller that a callee may share: those that the caller does not write. -/
def Nn (w0 : World) (S : Nat → Prop) (own : Own) (w : World) : Nat → Prop := fun k => (w0.heap.size ≤ k ∨ S k) ∧ k < w.heap.size ∧ ∀ p ∈ own, p.1 ≠ k
theorem SS.add {w0 w w' : World} {X : List Nat} {S S' : Nat → Prop} {own : Own} {R F : World → Prop} (h : SS w0 X S own R w) (hb : Below w.heap.size w w') (hf : Fr S' w w' F)
    (hS : ∀ k, S' k → Nn w0 S own w k) : SS w0 X S own (fun w => R w ∧ F w) w' := by
  have g := h.grow hb
  refine ⟨g.os, g.tape, g.output, g.size, g.pres, g.lt, g.has, g.nd, fun w'' hs hk => ⟨g.keep w'' hs hk, hf w'' hs fun k h1 h2 => ?_⟩⟩
  rcases h1 with h1 | h1
  · exact hk k (.inl (Nat.le_trans h.size h1)) h2 fun p hp e => by have := (h.lt p hp).1; omega
  · exact hk k (hS k h1).1 h2 (hS k h1).2.2
theorem SS.alloc {w0 w : World} {X : List Nat} {S : Nat → Prop} {own : Own} {R : World → Prop} (h : SS w0 X S own R w) (o : Obj) : SS w0 X S ((w.heap.size, o) :: own) R (w.alloc o) := by
  have hb : Below w.heap.size w (w.alloc o) := (Below.refl _ _).alloc (Nat.le_refl _) o
  have g := h.grow hb
  refine ⟨g.os, g.tape, g.output, g.size, g.pres, ?_, ?_, ?_, ?_⟩
  · intro p hp
    rcases List.mem_cons.1 hp with rfl | hp
    · exact ⟨by simp, .inr h.size⟩
    · exact g.lt p hp
  · intro p hp
    rcases List.mem_cons.1 hp with rfl | hp
    · exact heap_alloc_new w o
    · exact g.has p hp
  · refine List.pairwise_cons.2 ⟨fun q hq => ?_, h.nd⟩
    have := (h.lt q hq).1
    simp only
    omega
  · intro w'' hs hk
    have hs' : w.heap.size + 1 ≤ w''.heap.size := by simpa using hs
    refine h.keep w'' (by omega) fun k h1 h2 h3 => ?_
    rw [hk k h1 (by simp; omega) (fun p hp => by
      rcases List.mem_cons.1 hp with rfl | hp
      · intro e; rw [← e] at h2; exact absurd h2 (Nat.lt_irrefl _)
      · exact h3 p hp), hb.block k h2]
/-- one block has turned -/
structure Upd (r : Nat) (o : Obj) (w w' : World) : Prop where
  os : w'.os = w.os
  tape : w'.tape = w.tape
  output : w'.output = w.output
  size : w'.heap.size = w.heap.size
  at_ : w'.heap[r]? = some o
  other : ∀ k, k ≠ r → w'.heap[k]? = w.heap[k]?
def ownAt : Own → Nat → Option (Nat × Obj)
  | [], _ => none
  | p :: _, 0 => some p
  | _ :: l, i + 1 => ownAt l i
def ownSet : Own → Nat → Obj → Own
  | [], _, _ => []
  | p :: l, 0, o => (p.1, o) :: l
  | p :: l, i + 1, o => p :: ownSet l i o
theorem ownAt_mem {own : Own} {i : Nat} {p : Nat × Obj} (h : ownAt own i = some p) : p ∈ own := by
  induction own generalizing i with
  | nil => simp [ownAt] at h
  | cons q l ih =>
    cases i with
    | zero => simp [ownAt] at h; simp [h]
    | succ i => exact List.mem_cons_of_mem _ (ih h)
theorem ownSet_fst (own : Own) (i : Nat) (o : Obj) : (ownSet own i o).map (·.1) = own.map (·.1) := by
  induction own generalizing i with
  | nil => rfl
  | cons q l ih => cases i <;> simp [ownSet, ih]
theorem ownSet_mem {own : Own} {i : Nat} {r : Nat} {o o' : Obj} (h : ownAt own i = some (r, o)) (nd : own.Pairwise fun p q => p.1 ≠ q.1) {p : Nat × Obj} (hp : p ∈ ownSet own i o') : p = (r, o') ∨ (p ∈ own ∧ p.1 ≠ r) := by
  induction own generalizing i with
  | nil => simp [ownSet] at hp
  | cons q l ih =>
    obtain ⟨h1, h2⟩ := List.pairwise_cons.1 nd
    cases i with
    | zero =>
      simp [ownAt] at h
      subst h
      rcases List.mem_cons.1 hp with rfl | hp
      · exact .inl rfl
      · exact .inr ⟨List.mem_cons_of_mem _ hp, fun e => h1 p hp e.symm⟩
    | succ i =>
      rcases List.mem_cons.1 hp with rfl | hp
      · exact .inr ⟨List.mem_cons_self, fun e => h1 _ (ownAt_mem h) e⟩
      · rcases ih h h2 hp with e | ⟨e1, e2⟩
        · exact .inl e
        · exact .inr ⟨List.mem_cons_of_mem _ e1, e2⟩
theorem mem_fst_ownSet {own : Own} {i k : Nat} {o : Obj} : (∃ p ∈ ownSet own i o, p.1 = k) ↔ ∃ p ∈ own, p.1 = k := by
  have h := ownSet_fst own i o
  have : k ∈ (ownSet own i o).map (·.1) ↔ k ∈ own.map (·.1) := by rw [h]
  simpa using this
theorem SS.upd {w0 w w' : World} {X : List Nat} {S : Nat → Prop} {own : Own} {R : World → Prop} (h : SS w0 X S own R w) {i r : Nat} {o o' : Obj} (hi : ownAt own i = some (r, o)) (hu : Upd r o' w w') : SS w0 X S (ownSet own i o') R w' := by
  have hr := h.lt _ (ownAt_mem hi)
  refine ⟨hu.os.trans h.os, hu.tape.trans h.tape, hu.output.trans h.output, by rw [hu.size]; exact h.size, ?_, ?_, ?_, ?_, ?_⟩
  · intro k hk hx
    rw [hu.other k ?_]
    · exact h.pres k hk hx
    · rintro rfl
      rcases hr.2 with h1 | h1
      · exact hx h1
      · omega
  · intro p hp
    rcases ownSet_mem hi h.nd hp with rfl | ⟨h1, h2⟩
    · rw [hu.size]; exact hr
    · rw [hu.size]; exact h.lt p h1
  · intro p hp
    rcases ownSet_mem hi h.nd hp with rfl | ⟨h1, h2⟩
    · exact hu.at_
    · rw [hu.other _ h2]; exact h.has p h1
  · have : (own.map (·.1)).Pairwise (· ≠ ·) := by rw [List.pairwise_map]; exact h.nd
    rw [← ownSet_fst own i o', List.pairwise_map] at this
    exact this
  · intro w'' hs hk
    refine h.keep w'' (by rw [← hu.size]; exact hs) fun k h1 h2 h3 => ?_
    rw [hk k h1 (by rw [hu.size]; exact h2) (fun p hp e => by
      obtain ⟨q, hq, hq'⟩ := mem_fst_ownSet.1 ⟨p, hp, e⟩
      exact h3 q hq hq'), hu.other k]
    rintro rfl
    exact h3 _ (ownAt_mem hi) rfl
/-- what held of the old memory when the call began still holds -/
theorem SS.arg {w0 w : World} {S : Nat → Prop} {own : Own} {R : World → Prop} (h : SS w0 [] S own R w) : Below w0.heap.size w0 w :=
  ⟨h.os, h.tape, h.output, h.size, fun k hk => h.pres k hk (by simp)⟩
section
variable {P : Program} {n : Nat} {w0 : World} {X : List Nat} {S : Nat → Prop} {E : Env} {own : Own} {R : World → Prop} {Q : Exit → Act → World → Prop}
def Tr (n : Nat) (w0 : World) (X : List Nat) (S : Nat → Prop) (E : Env) (own : Own) (R : World → Prop) (f : Act → World → Prop) : Prop :=
  ∀ a w, St n a E → SS w0 X S own R w → f a w
theorem tr_sub {f : Act → World → Prop} (E' : Env) (hs : subE E' E) (h : Tr n w0 X S E' own R f) : Tr n w0 X S E own R f := fun a w s t => h a w (s.sub hs) t
theorem tr_r {f : Act → World → Prop} (R' : World → Prop) (hs : ∀ w, R w → R' w) (h : Tr n w0 X S E own R' f) : Tr n w0 X S E own R f := fun a w s t => h a w s (t.mono hs)
theorem tr_have {f : Act → World → Prop} {p : Prop} (hp : ∀ w, SS w0 X S own R w → p) (h : p → Tr n w0 X S E own R f) : Tr n w0 X S E own R f := fun a w s t => h (hp w t) a w s t
theorem tr_seq {c d : Code} (h : Tr n w0 X S E own R (c.wp P (Exit.then (d.wp P Q) Q))) : Tr n w0 X S E own R ((Code.seq c d).wp P Q) := fun a w s t => wp_seq (h a w s t)
theorem tr_block {c : Code} {id : Nat} (h : Tr n w0 X S E own R (c.wp P (Exit.inBlock id Q))) : Tr n w0 X S E own R ((Code.block id c).wp P Q) := fun a w s t => wp_block (h a w s t)
theorem tr_skip (h : Tr n w0 X S E own R (Q .normal)) : Tr n w0 X S E own R (Code.skip.wp P Q) := fun a w s t => wp_skip (h a w s t)
theorem tr_exit {id : Nat} (h : Tr n w0 X S E own R (Q (.exit id))) : Tr n w0 X S E own R ((Code.exit id).wp P Q) := fun a w s t => wp_exit (h a w s t)
theorem tr_ret (h : Tr n w0 X S E own R (Q .ret)) : Tr n w0 X S E own R (Code.ret.wp P Q) := fun a w s t => wp_ret (h a w s t)
theorem tr_then {k : Act → World → Prop} (h : Tr n w0 X S E own R k) : Tr n w0 X S E own R (Exit.then k Q .normal) := h
theorem tr_inN {id : Nat} (h : Tr n w0 X S E own R (Q .normal)) : Tr n w0 X S E own R (Exit.inBlock id Q .normal) := h
theorem tr_inX {id : Nat} (h : Tr n w0 X S E own R (Q .normal)) : Tr n w0 X S E own R (Exit.inBlock id Q (.exit id)) := fun a w s t => by
  simp only [Exit.inBlock, if_true]; exact h a w s t
theorem tr_inR {id : Nat} (h : Tr n w0 X S E own R (Q .ret)) : Tr n w0 X S E own R (Exit.inBlock id Q .ret) := h
theorem tr_thenX {id : Nat} {k : Act → World → Prop} (h : Tr n w0 X S E own R (Q (.exit id))) : Tr n w0 X S E own R (Exit.then k Q (.exit id)) := h
theorem tr_thenR {k : Act → World → Prop} (h : Tr n w0 X S E own R (Q .ret)) : Tr n w0 X S E own R (Exit.then k Q .ret) := h
theorem tr_if {c : Operand} {x y : Code} {b : Bool} (hc : ev (look E) c = some (.bool b)) (ht : b = true → Tr n w0 X S E own R (x.wp P Q)) (hf : b = false → Tr n w0 X S E own R (y.wp P Q)) :
    Tr n w0 X S E own R ((Code.cond c x y).wp P Q) := fun a w s t => wp_cond_split (s.agr c _ hc) (fun h => ht h a w s t) (fun h => hf h a w s t)
theorem tr_ifT {c : Operand} {x y : Code} (hc : ev (look E) c = some (.bool true)) (h : Tr n w0 X S E own R (x.wp P Q)) :
    Tr n w0 X S E own R ((Code.cond c x y).wp P Q) := fun a w s t => wp_cond_true (s.agr c _ hc) (h a w s t)
theorem tr_ifF {c : Operand} {x y : Code} (hc : ev (look E) c = some (.bool false)) (h : Tr n w0 X S E own R (y.wp P Q)) :
    Tr n w0 X S E own R ((Code.cond c x y).wp P Q) := fun a w s t => wp_cond_false (s.agr c _ hc) (h a w s t)
/-- the state at the head of a loop -/
def Hd (n : Nat) (w0 : World) (X : List Nat) (S : Nat → Prop) {ι : Type} (I : ι → Prop) (Ef : ι → Env) (of : ι → Own) (Rf : ι → World → Prop) (μ : ι → Nat) (m : Nat) (a : Act) (w : World) : Prop :=
  ∃ y, I y ∧ μ y < m ∧ St n a (Ef y) ∧ SS w0 X S (of y) (Rf y) w
theorem tr_loop {ι : Type} {c : Code} (I : ι → Prop) (Ef : ι → Env) (of : ι → Own) (Rf : ι → World → Prop) (μ : ι → Nat) (x0 : ι) (hI : I x0) (hE : subE (Ef x0) E) (ho : own = of x0) (hR : ∀ w, R w → Rf x0 w)
    (round : ∀ x, I x → Tr n w0 X S (Ef x) (of x) (Rf x) (c.wp P (Exit.then (Hd n w0 X S I Ef of Rf μ (μ x)) Q))) : Tr n w0 X S E own R ((Code.loop c).wp P Q) := by
  intro a w s t
  subst ho
  refine wp_loop_ghost (fun m a w => ∃ y, I y ∧ μ y = m ∧ St n a (Ef y) ∧ SS w0 X S (of y) (Rf y) w) (μ x0) ⟨x0, hI, rfl, s.sub hE, t.mono hR⟩ ?_
  rintro m a w ⟨y, hy, rfl, s', t'⟩
  refine wp_mono (round y hy a w s' t') fun e a' w' q => ?_
  cases e with
  | normal =>
    obtain ⟨z, hz, hlt, h1, h2⟩ := q
    exact ⟨μ z, hlt, z, hz, rfl, h1, h2⟩
  | exit id => exact q
  | goto l => exact q
  | ret => exact q
  | panic ch => exact q
  | outgrown => exact q
theorem tr_round {ι : Type} {I : ι → Prop} {Ef : ι → Env} {of : ι → Own} {Rf : ι → World → Prop} {μ : ι → Nat} {m : Nat} (y : ι) (hI : I y) (hm : μ y < m) (hE : subE (Ef y) E) (ho : own = of y) (hR : ∀ w, R w → Rf y w) :
    Tr n w0 X S E own R (Hd n w0 X S I Ef of Rf μ m) := fun a w s t => ⟨y, hI, hm, s.sub hE, by rw [← ho]; exact t.mono hR⟩
def Hd2 (n : Nat) (w0 : World) (X : List Nat) (S : Nat → Prop) {α β : Type} (I : α → β → Prop) (Ef : α → β → Env) (of : α → β → Own) (Rf : α → β → World → Prop) (μ : α → β → Nat) (m : Nat) (a : Act) (w : World) : Prop :=
  ∃ y1 y2, I y1 y2 ∧ μ y1 y2 < m ∧ St n a (Ef y1 y2) ∧ SS w0 X S (of y1 y2) (Rf y1 y2) w
theorem tr_loop2 {α β : Type} {c : Code} (I : α → β → Prop) (Ef : α → β → Env) (of : α → β → Own) (Rf : α → β → World → Prop) (μ : α → β → Nat) (z1 : α) (z2 : β) (hI : I z1 z2) (hE : subE (Ef z1 z2) E) (ho : own = of z1 z2) (hR : ∀ w, R w → Rf z1 z2 w)
    (round : ∀ x1 x2, I x1 x2 → Tr n w0 X S (Ef x1 x2) (of x1 x2) (Rf x1 x2) (c.wp P (Exit.then (Hd2 n w0 X S I Ef of Rf μ (μ x1 x2)) Q))) : Tr n w0 X S E own R ((Code.loop c).wp P Q) :=
  tr_loop (ι := α × β) (fun z => I z.1 z.2) (fun z => Ef z.1 z.2) (fun z => of z.1 z.2) (fun z => Rf z.1 z.2) (fun z => μ z.1 z.2) (z1, z2) hI hE ho hR fun z hz a w s t => by
    refine wp_mono (round z.1 z.2 hz a w s t) fun e a' w' q => ?_
    cases e with
    | normal =>
      obtain ⟨y1, y2, h1, h2, h3, h4⟩ := q
      exact ⟨(y1, y2), h1, h2, h3, h4⟩
    | exit id => exact q
    | goto l => exact q
    | ret => exact q
    | panic ch => exact q
    | outgrown => exact q
theorem tr_round2 {α β : Type} {I : α → β → Prop} {Ef : α → β → Env} {of : α → β → Own} {Rf : α → β → World → Prop} {μ : α → β → Nat} {m : Nat} (y1 : α) (y2 : β) (hI : I y1 y2) (hm : μ y1 y2 < m) (hE : subE (Ef y1 y2) E) (ho : own = of y1 y2) (hR : ∀ w, R w → Rf y1 y2 w) :
    Tr n w0 X S E own R (Hd2 n w0 X S I Ef of Rf μ m) := fun a w s t => ⟨y1, y2, hI, hm, s.sub hE, by rw [← ho]; exact t.mono hR⟩
def Hd3 (n : Nat) (w0 : World) (X : List Nat) (S : Nat → Prop) {α β γ : Type} (I : α → β → γ → Prop) (Ef : α → β → γ → Env) (of : α → β → γ → Own) (Rf : α → β → γ → World → Prop) (μ : α → β → γ → Nat) (m : Nat) (a : Act) (w : World) : Prop :=
  ∃ y1 y2 y3, I y1 y2 y3 ∧ μ y1 y2 y3 < m ∧ St n a (Ef y1 y2 y3) ∧ SS w0 X S (of y1 y2 y3) (Rf y1 y2 y3) w
theorem tr_loop3 {α β γ : Type} {c : Code} (I : α → β → γ → Prop) (Ef : α → β → γ → Env) (of : α → β → γ → Own) (Rf : α → β → γ → World → Prop) (μ : α → β → γ → Nat) (z1 : α) (z2 : β) (z3 : γ) (hI : I z1 z2 z3) (hE : subE (Ef z1 z2 z3) E) (ho : own = of z1 z2 z3) (hR : ∀ w, R w → Rf z1 z2 z3 w)
    (round : ∀ x1 x2 x3, I x1 x2 x3 → Tr n w0 X S (Ef x1 x2 x3) (of x1 x2 x3) (Rf x1 x2 x3) (c.wp P (Exit.then (Hd3 n w0 X S I Ef of Rf μ (μ x1 x2 x3)) Q))) : Tr n w0 X S E own R ((Code.loop c).wp P Q) :=
  tr_loop (ι := α × β × γ) (fun z => I z.1 z.2.1 z.2.2) (fun z => Ef z.1 z.2.1 z.2.2) (fun z => of z.1 z.2.1 z.2.2) (fun z => Rf z.1 z.2.1 z.2.2) (fun z => μ z.1 z.2.1 z.2.2) (z1, z2, z3) hI hE ho hR fun z hz a w s t => by
    refine wp_mono (round z.1 z.2.1 z.2.2 hz a w s t) fun e a' w' q => ?_
    cases e with
    | normal =>
      obtain ⟨y1, y2, y3, h1, h2, h3, h4⟩ := q
      exact ⟨(y1, y2, y3), h1, h2, h3, h4⟩
    | exit id => exact q
    | goto l => exact q
    | ret => exact q
    | panic ch => exact q
    | outgrown => exact q
theorem tr_round3 {α β γ : Type} {I : α → β → γ → Prop} {Ef : α → β → γ → Env} {of : α → β → γ → Own} {Rf : α → β → γ → World → Prop} {μ : α → β → γ → Nat} {m : Nat} (y1 : α) (y2 : β) (y3 : γ) (hI : I y1 y2 y3) (hm : μ y1 y2 y3 < m) (hE : subE (Ef y1 y2 y3) E) (ho : own = of y1 y2 y3) (hR : ∀ w, R w → Rf y1 y2 y3 w) :
    Tr n w0 X S E own R (Hd3 n w0 X S I Ef of Rf μ m) := fun a w s t => ⟨y1, y2, y3, hI, hm, s.sub hE, by rw [← ho]; exact t.mono hR⟩
def Hd4 (n : Nat) (w0 : World) (X : List Nat) (S : Nat → Prop) {α β γ δ : Type} (I : α → β → γ → δ → Prop) (Ef : α → β → γ → δ → Env) (of : α → β → γ → δ → Own) (Rf : α → β → γ → δ → World → Prop) (μ : α → β → γ → δ → Nat) (m : Nat) (a : Act) (w : World) : Prop :=
  ∃ y1 y2 y3 y4, I y1 y2 y3 y4 ∧ μ y1 y2 y3 y4 < m ∧ St n a (Ef y1 y2 y3 y4) ∧ SS w0 X S (of y1 y2 y3 y4) (Rf y1 y2 y3 y4) w
theorem tr_loop4 {α β γ δ : Type} {c : Code} (I : α → β → γ → δ → Prop) (Ef : α → β → γ → δ → Env) (of : α → β → γ → δ → Own) (Rf : α → β → γ → δ → World → Prop) (μ : α → β → γ → δ → Nat) (z1 : α) (z2 : β) (z3 : γ) (z4 : δ) (hI : I z1 z2 z3 z4) (hE : subE (Ef z1 z2 z3 z4) E) (ho : own = of z1 z2 z3 z4) (hR : ∀ w, R w → Rf z1 z2 z3 z4 w)
    (round : ∀ x1 x2 x3 x4, I x1 x2 x3 x4 → Tr n w0 X S (Ef x1 x2 x3 x4) (of x1 x2 x3 x4) (Rf x1 x2 x3 x4) (c.wp P (Exit.then (Hd4 n w0 X S I Ef of Rf μ (μ x1 x2 x3 x4)) Q))) : Tr n w0 X S E own R ((Code.loop c).wp P Q) :=
  tr_loop (ι := α × β × γ × δ) (fun z => I z.1 z.2.1 z.2.2.1 z.2.2.2) (fun z => Ef z.1 z.2.1 z.2.2.1 z.2.2.2) (fun z => of z.1 z.2.1 z.2.2.1 z.2.2.2) (fun z => Rf z.1 z.2.1 z.2.2.1 z.2.2.2) (fun z => μ z.1 z.2.1 z.2.2.1 z.2.2.2) (z1, z2, z3, z4) hI hE ho hR fun z hz a w s t => by
    refine wp_mono (round z.1 z.2.1 z.2.2.1 z.2.2.2 hz a w s t) fun e a' w' q => ?_
    cases e with
    | normal =>
      obtain ⟨y1, y2, y3, y4, h1, h2, h3, h4⟩ := q
      exact ⟨(y1, y2, y3, y4), h1, h2, h3, h4⟩
    | exit id => exact q
    | goto l => exact q
    | ret => exact q
    | panic ch => exact q
    | outgrown => exact q
theorem tr_round4 {α β γ δ : Type} {I : α → β → γ → δ → Prop} {Ef : α → β → γ → δ → Env} {of : α → β → γ → δ → Own} {Rf : α → β → γ → δ → World → Prop} {μ : α → β → γ → δ → Nat} {m : Nat} (y1 : α) (y2 : β) (y3 : γ) (y4 : δ) (hI : I y1 y2 y3 y4) (hm : μ y1 y2 y3 y4 < m) (hE : subE (Ef y1 y2 y3 y4) E) (ho : own = of y1 y2 y3 y4) (hR : ∀ w, R w → Rf y1 y2 y3 y4 w) :
    Tr n w0 X S E own R (Hd4 n w0 X S I Ef of Rf μ m) := fun a w s t => ⟨y1, y2, y3, y4, hI, hm, s.sub hE, by rw [← ho]; exact t.mono hR⟩
/-- the state in the middle of a sequence -/
def Md (n : Nat) (w0 : World) (X : List Nat) (S : Nat → Prop) {ι : Type} (I : ι → Prop) (Ef : ι → Env) (of : ι → Own) (Rf : ι → World → Prop) (a : Act) (w : World) : Prop :=
  ∃ y, I y ∧ St n a (Ef y) ∧ SS w0 X S (of y) (Rf y) w
theorem tr_cut {ι : Type} {c d : Code} (I : ι → Prop) (Ef : ι → Env) (of : ι → Own) (Rf : ι → World → Prop) (h1 : Tr n w0 X S E own R (c.wp P (Exit.then (Md n w0 X S I Ef of Rf) Q)))
    (h2 : ∀ x, I x → Tr n w0 X S (Ef x) (of x) (Rf x) (d.wp P Q)) : Tr n w0 X S E own R ((Code.seq c d).wp P Q) := fun a w s t =>
  wp_seq (wp_mono (h1 a w s t) fun e a' w' q => by
    cases e with
    | normal => obtain ⟨y, hy, s', t'⟩ := q; exact h2 y hy a' w' s' t'
    | exit id => exact q
    | goto l => exact q
    | ret => exact q
    | panic ch => exact q
    | outgrown => exact q)
theorem tr_mid {ι : Type} {I : ι → Prop} {Ef : ι → Env} {of : ι → Own} {Rf : ι → World → Prop} (y : ι) (hI : I y) (hE : subE (Ef y) E) (ho : own = of y) (hR : ∀ w, R w → Rf y w) :
    Tr n w0 X S E own R (Md n w0 X S I Ef of Rf) := fun a w s t => ⟨y, hI, s.sub hE, by rw [← ho]; exact t.mono hR⟩
def Md2 (n : Nat) (w0 : World) (X : List Nat) (S : Nat → Prop) {α β : Type} (I : α → β → Prop) (Ef : α → β → Env) (of : α → β → Own) (Rf : α → β → World → Prop) (a : Act) (w : World) : Prop :=
  ∃ y1 y2, I y1 y2 ∧ St n a (Ef y1 y2) ∧ SS w0 X S (of y1 y2) (Rf y1 y2) w
theorem tr_cut2 {α β : Type} {c d : Code} (I : α → β → Prop) (Ef : α → β → Env) (of : α → β → Own) (Rf : α → β → World → Prop) (h1 : Tr n w0 X S E own R (c.wp P (Exit.then (Md2 n w0 X S I Ef of Rf) Q)))
    (h2 : ∀ y1 y2, I y1 y2 → Tr n w0 X S (Ef y1 y2) (of y1 y2) (Rf y1 y2) (d.wp P Q)) : Tr n w0 X S E own R ((Code.seq c d).wp P Q) := fun a w s t =>
  wp_seq (wp_mono (h1 a w s t) fun e a' w' q => by
    cases e with
    | normal => obtain ⟨y1, y2, hy, s', t'⟩ := q; exact h2 y1 y2 hy a' w' s' t'
    | exit id => exact q
    | goto l => exact q
    | ret => exact q
    | panic ch => exact q
    | outgrown => exact q)
theorem tr_mid2 {α β : Type} {I : α → β → Prop} {Ef : α → β → Env} {of : α → β → Own} {Rf : α → β → World → Prop} (y1 : α) (y2 : β) (hI : I y1 y2) (hE : subE (Ef y1 y2) E) (ho : own = of y1 y2) (hR : ∀ w, R w → Rf y1 y2 w) :
    Tr n w0 X S E own R (Md2 n w0 X S I Ef of Rf) := fun a w s t => ⟨y1, y2, hI, s.sub hE, by rw [← ho]; exact t.mono hR⟩
def Md3 (n : Nat) (w0 : World) (X : List Nat) (S : Nat → Prop) {α β γ : Type} (I : α → β → γ → Prop) (Ef : α → β → γ → Env) (of : α → β → γ → Own) (Rf : α → β → γ → World → Prop) (a : Act) (w : World) : Prop :=
  ∃ y1 y2 y3, I y1 y2 y3 ∧ St n a (Ef y1 y2 y3) ∧ SS w0 X S (of y1 y2 y3) (Rf y1 y2 y3) w
theorem tr_cut3 {α β γ : Type} {c d : Code} (I : α → β → γ → Prop) (Ef : α → β → γ → Env) (of : α → β → γ → Own) (Rf : α → β → γ → World → Prop) (h1 : Tr n w0 X S E own R (c.wp P (Exit.then (Md3 n w0 X S I Ef of Rf) Q)))
    (h2 : ∀ y1 y2 y3, I y1 y2 y3 → Tr n w0 X S (Ef y1 y2 y3) (of y1 y2 y3) (Rf y1 y2 y3) (d.wp P Q)) : Tr n w0 X S E own R ((Code.seq c d).wp P Q) := fun a w s t =>
  wp_seq (wp_mono (h1 a w s t) fun e a' w' q => by
    cases e with
    | normal => obtain ⟨y1, y2, y3, hy, s', t'⟩ := q; exact h2 y1 y2 y3 hy a' w' s' t'
    | exit id => exact q
    | goto l => exact q
    | ret => exact q
    | panic ch => exact q
    | outgrown => exact q)
theorem tr_mid3 {α β γ : Type} {I : α → β → γ → Prop} {Ef : α → β → γ → Env} {of : α → β → γ → Own} {Rf : α → β → γ → World → Prop} (y1 : α) (y2 : β) (y3 : γ) (hI : I y1 y2 y3) (hE : subE (Ef y1 y2 y3) E) (ho : own = of y1 y2 y3) (hR : ∀ w, R w → Rf y1 y2 y3 w) :
    Tr n w0 X S E own R (Md3 n w0 X S I Ef of Rf) := fun a w s t => ⟨y1, y2, y3, hI, s.sub hE, by rw [← ho]; exact t.mono hR⟩
def Sq (P : Program) (ops : Array Oper) (Q : Exit → Act → World → Prop) (n : Nat) (w0 : World) (X : List Nat) (S : Nat → Prop) (l : List Oper) (E : Env) (own : Own) (R : World → Prop) : Prop :=
  ∀ a w, St n a E → SS w0 X S own R w → wpList P ops Q l a w
theorem tr_region {id : Nat} {l : List Oper} (h : Sq P l.toArray Q n w0 X S l E own R) : Tr n w0 X S E own R ((Code.region id l.toArray false).wp P Q) := fun a w s t => wp_region_lit (h a w s t)
variable {ops : Array Oper} {rest : List Oper}
theorem sq_cast {lk : Nat → Option Value} {x : Operand} {k : IntKind} {a b : Int} (e : a = b) (h : ev lk x = some (.int k a) := by rfl) : ev lk x = some (.int k b) := by rw [← e]; exact h
theorem sq_nil (h : Tr n w0 X S E own R (Q .normal)) : Sq P ops Q n w0 X S [] E own R := fun a w s t => wpList_nil (h a w s t)
theorem sq_sub (E' : Env) (hs : subE E' E) {l : List Oper} (h : Sq P ops Q n w0 X S l E' own R) : Sq P ops Q n w0 X S l E own R := fun a w s t => h a w (s.sub hs) t
/-- one operation that answers a value and leaves the world alone -/
def Qt (P : Program) (J : World → Prop) (lk : Nat → Option Value) (op : Op) (ty : TypeId) (v : Value) : Prop :=
  ∀ (ρ : Operand → Value) (w : World), Agr lk ρ → J w → ∀ d pos af g, (execOp ρ ⟨d, op, ty, pos, af, g⟩).run P w = .ok (.value v) w
theorem sq_q {op : Op} {ty : TypeId} {v : Value} {d : Nat} {pos : String} {af : Array Edge} (hq : Qt P (SS w0 X S own R) (look E) op ty v) (hd : Nat.blt d n = true)
    (h : Sq P ops Q n w0 X S rest ((d, v) :: E) own R) : Sq P ops Q n w0 X S (⟨some d, op, ty, pos, af, none⟩ :: rest) E own R := by
  intro a w s t
  refine wpList_plain rfl fun K hK => ?_
  unfold Oper.wp
  rw [hq a.eval w s.agr t]
  exact hK _ _ (h _ _ (s.put hd v) t)
/-- a guard that says yes -/
theorem sq_gT {j : Nat} {dj : Nat} {b : Bool} {op : Op} {ty : TypeId} {d : Option Tmp} {pos : String} {af : Array Edge} (hj : (ops[j]?).bind (·.dst) = some dj) (hv : look E dj = some (.bool b))
    (h : Sq P ops Q n w0 X S (⟨d, op, ty, pos, af, none⟩ :: rest) E own R) : Sq P ops Q n w0 X S (⟨d, op, ty, pos, af, some (j, b)⟩ :: rest) E own R := by
  intro a w s t
  have h' := h a w s t
  have hy : yielded ops a.tmps j = some b := by
    unfold yielded
    rw [hj, Option.bind_some, s.has _ _ hv]
  unfold wpList at h' ⊢
  have e1 : Region.wanted ⟨d, op, ty, pos, af, none⟩ (yielded ops a.tmps) = true := rfl
  have e2 : Region.wanted ⟨d, op, ty, pos, af, some (j, b)⟩ (yielded ops a.tmps) = true := by simp [Region.wanted, hy]
  rw [if_pos e1] at h'
  rw [if_pos e2]
  exact h'
/-- a guard that says no -/
theorem sq_gF {j : Nat} {dj : Nat} {b c : Bool} {op : Op} {ty : TypeId} {d : Nat} {pos : String} {af : Array Edge} (hj : (ops[j]?).bind (·.dst) = some dj) (hv : look E dj = some (.bool c)) (hbc : (!(c == b)) = true) (hd : Nat.blt d n = true)
    (h : Sq P ops Q n w0 X S rest ((d, undef) :: E) own R) : Sq P ops Q n w0 X S (⟨some d, op, ty, pos, af, some (j, b)⟩ :: rest) E own R := by
  intro a w s t
  have hy : yielded ops a.tmps j = some c := by
    unfold yielded
    rw [hj, Option.bind_some, s.has _ _ hv]
  unfold wpList
  have e2 : Region.wanted ⟨some d, op, ty, pos, af, some (j, b)⟩ (yielded ops a.tmps) = false := by
    simp only [Region.wanted, hy]
    revert hbc
    cases b <;> cases c <;> simp
  rw [if_neg (by rw [e2]; simp)]
  exact h _ _ (s.put hd undef) t
section
variable {J : World → Prop} {lk : Nat → Option Value} {ty : TypeId}
theorem qt_move {x : Operand} {v : Value} (h : ev lk x = some v) : Qt P J lk (.move x) ty v := fun ρ w hρ _ d pos af g => by simp only [execOp]; rw [hρ x v h]; rfl
theorem qt_assign {x : Operand} {v : Value} (h : ev lk x = some v) : Qt P J lk (.assign x) ty v := fun ρ w hρ _ d pos af g => by simp only [execOp]; rw [hρ x v h]; rfl
theorem qt_pick {c x y : Operand} {b : Bool} {v : Value} (hc : ev lk c = some (.bool b)) (h : (if b then ev lk x else ev lk y) = some v) : Qt P J lk (.pick c x y) ty v := fun ρ w hρ _ d pos af g => by
  simp only [execOp]
  rw [hρ c _ hc]
  cases b with
  | true => simp at h; rw [hρ x v h]; rfl
  | false => simp at h; rw [hρ y v h]; rfl
/-- what an operator answers -/
def Bin (P : Program) (op : BinOp) (t : TypeId) (x y r : Value) : Prop := ∀ w, (binOp op t x y).run P w = .ok r w
theorem qt_bin {op : BinOp} {xt yt : TypeId} {x y : Operand} {k k' : IntKind} {a b : Int} {r : Value} (hx : ev lk x = some (.int k a)) (hy : ev lk y = some (.int k' b)) (hr : Bin P op xt (.int k a) (.int k' b) r) : Qt P J lk (.binOp op xt x y yt) ty r :=
  fun ρ w hρ _ d pos af g => by
    simp only [execOp]
    rw [hρ x _ hx, hρ y _ hy]
    have e : (eqGuard op xt x y (.int k a) (.int k' b)).run P w = .ok () w := by
      unfold eqGuard
      split <;> rfl
    simp only [Sem.run_bind, e, Result.andThen_ok, hr w, Sem.run_pure]
theorem qt_binB {op : BinOp} {xt yt : TypeId} {x y : Operand} {a b : Bool} {r : Value} (hx : ev lk x = some (.bool a)) (hy : ev lk y = some (.bool b)) (hr : Bin P op xt (.bool a) (.bool b) r) : Qt P J lk (.binOp op xt x y yt) ty r :=
  fun ρ w hρ _ d pos af g => by
    simp only [execOp]
    rw [hρ x _ hx, hρ y _ hy]
    have e : (eqGuard op xt x y (.bool a) (.bool b)).run P w = .ok () w := by
      unfold eqGuard
      split <;> rfl
    simp only [Sem.run_bind, e, Result.andThen_ok, hr w, Sem.run_pure]
theorem bin_eqlB {t : TypeId} (ht : P.underlying t = some .bool) (a b : Bool) : Bin P .eql t (.bool a) (.bool b) (.bool (a == b)) := fun w => run_eql_bool w t a b ht
theorem bin_neqB {t : TypeId} (ht : P.underlying t = some .bool) (a b : Bool) : Bin P .neq t (.bool a) (.bool b) (.bool (a != b)) := fun w => run_neq_bool w t a b ht
theorem qt_not {x : Operand} {xt : TypeId} {b : Bool} (h : ev lk x = some (.bool b)) : Qt P J lk (.unOp .not xt x) ty (.bool (!b)) := fun ρ w hρ _ d pos af g => by
  simp only [execOp]; rw [hρ x _ h]; rfl
theorem qt_neg {x : Operand} {xt : TypeId} {k : IntKind} {a : Int} (h : ev lk x = some (.int k a)) : Qt P J lk (.unOp .neg xt x) ty (.int k (k.wrap (0 - a))) := fun ρ w hρ _ d pos af g => by
  simp only [execOp]; rw [hρ x _ h]; rfl
theorem qt_extract {x : Operand} {vs : Array Value} {i : Nat} {v : Value} (h : ev lk x = some (.tuple vs)) (hi : vs[i]? = some v) : Qt P J lk (.extract x i) ty v := fun ρ w hρ _ d pos af g => by
  simp only [execOp]; rw [hρ x _ h]; simp [Instr.extract, hi]
theorem qt_max {x y : Operand} {ats : Array TypeId} {k : IntKind} {a b : Int} (hx : ev lk x = some (.int k a)) (hy : ev lk y = some (.int k b)) :
    Qt P J lk (.call { callee := .builtin .max, args := #[x, y], argTypes := ats }) ty (.int k (max a b)) := fun ρ w hρ _ d pos af g => by
  have hx := hρ x _ hx
  have hy := hρ y _ hy
  have e : (if b > a then b else a) = max a b := by split <;> omega
  simp [execOp, resolve, invoke, builtin, Builtin.max_, hx, hy, Builtin.max2, e]
theorem qt_min {x y : Operand} {ats : Array TypeId} {k : IntKind} {a b : Int} (hx : ev lk x = some (.int k a)) (hy : ev lk y = some (.int k b)) :
    Qt P J lk (.call { callee := .builtin .min, args := #[x, y], argTypes := ats }) ty (.int k (min a b)) := fun ρ w hρ _ d pos af g => by
  have hx := hρ x _ hx
  have hy := hρ y _ hy
  have e : (if b < a then b else a) = min a b := by split <;> omega
  simp [execOp, resolve, invoke, builtin, Builtin.min_, hx, hy, Builtin.min2, e]
theorem qt_conv {x : Operand} {src dst : TypeId} {k k' : IntKind} {a : Int} (hs : P.underlying src = some (.int k)) (hd : P.underlying dst = some (.int k')) (h : ev lk x = some (.int k a)) : Qt P J lk (.convert src dst x) ty (.int k' (k'.wrap a)) := fun ρ w hρ _ d pos af g => by
  simp only [execOp]; rw [hρ x _ h]
  simp [convert, run_underlying hs, run_underlying hd, Conv.intToInt]
def isAggB : TypeDesc → Bool
  | .struct _ => true
  | .array _ _ => true
  | _ => false
class TyI (P : Program) (t : TypeId) (agg : outParam Bool) (sz by_ : outParam Nat) (z : outParam Value) : Prop where
  und : (P.underlying t).map isAggB = some agg
  inf : (P.info? t).map (fun i => (i.zero, i.size, i.bytes)) = some (some z, sz, by_)
class SlT (P : Program) (t : TypeId) (e : outParam TypeId) : Prop where
  u : P.underlying t = some (.slice e)
class InT (P : Program) (t : TypeId) (k : outParam IntKind) : Prop where
  u : P.underlying t = some (.int k)
class FdT (P : Program) (s : TypeId) (f : Nat) (off ft : outParam Nat) : Prop where
  u : ∃ fs fd, P.underlying s = some (.struct fs) ∧ fs[f]? = some fd ∧ fd.offset = off ∧ fd.type = ft
theorem TyI.info {t : TypeId} {agg : Bool} {sz by_ : Nat} {z : Value} (h : TyI P t agg sz by_ z) : ∃ i, P.info? t = some i ∧ i.zero = some z ∧ i.size = sz ∧ i.bytes = by_ := by
  have h := h.inf
  cases hq : P.info? t with
  | none => simp [hq] at h
  | some i => simp [hq] at h; exact ⟨i, rfl, h⟩
theorem TyI.agg {t : TypeId} {agg : Bool} {sz by_ : Nat} {z : Value} (h : TyI P t agg sz by_ z) (w : World) : (isAgg t).run P w = .ok agg w := by
  have h := h.und
  cases hq : P.underlying t with
  | none => simp [hq] at h
  | some d =>
    simp [hq] at h
    unfold isAgg
    rw [Sem.run_bind, run_underlying hq w]
    cases d <;> simp_all [isAggB]
theorem TyI.sizeOf {t : TypeId} {agg : Bool} {sz by_ : Nat} {z : Value} (h : TyI P t agg sz by_ z) (w : World) : (Go.sizeOf t).run P w = .ok sz w := by
  obtain ⟨i, h1, h2, h3, h4⟩ := h.info
  simp [Go.sizeOf, typeInfo, h1, h3]
theorem TyI.zero {t : TypeId} {agg : Bool} {sz by_ : Nat} {z : Value} (h : TyI P t agg sz by_ z) (w : World) : (zeroValue t).run P w = .ok z w := by
  obtain ⟨i, h1, h2, h3, h4⟩ := h.info
  simp [zeroValue, typeInfo, h1, h2]
theorem qt_len {J : World → Prop} {lk : Nat → Option Value} {ty : TypeId} {x : Operand} {A : Option Addr} {m c : Nat} {t e : TypeId} [ht : SlT P t e] (h : ev lk x = some (.slice A m c)) :
    Qt P J lk (.call { callee := .builtin .len, args := #[x], argTypes := #[t] }) ty (.int .i64 m) := fun ρ w hρ _ d pos af g => by
  have hx := hρ x _ h
  simp [execOp, resolve, invoke, builtin, Builtin.len_, hx, run_underlying ht.u, goInt]
theorem add_mk (r o j : Nat) : (⟨r, o, none⟩ : Addr).add j = ⟨r, o + j, none⟩ := by unfold Addr.add; split <;> simp_all
/-- cell 'off' of block 'r' -/
def At (r off : Nat) (v : Value) (w : World) : Prop := w.cell? ⟨r, off, none⟩ = some v
theorem At.of_heap {r off : Nat} {v : Value} {w w' : World} (h : At r off v w) (e : w'.heap[r]? = w.heap[r]?) : At r off v w' := (World.cell?_of_block (w := w) e).trans h
theorem At.lt {r off : Nat} {v : Value} {w : World} (h : At r off v w) : r < w.heap.size := World.block_lt_of_cell? w ⟨r, off, none⟩ h
theorem At.below {r off : Nat} {v : Value} {w w' : World} (h : At r off v w) (hb : Below w.heap.size w w') : At r off v w' := h.of_heap (hb.block r h.lt)
theorem at_cells {r off : Nat} {v : Value} {w : World} {c : Array Value} {e : TypeId} {fr : Nat × Nat} (h : w.heap[r]? = some (.cells c e fr)) (hv : c[off]? = some v) : At r off v w := by
  unfold At; rw [cell_of_row w r off c e fr h]; exact hv
section
variable {J : World → Prop} {lk : Nat → Option Value} {ty : TypeId}
theorem qt_load {t : TypeId} {by_ : Nat} {z : Value} [hT : TyI P t false 1 by_ z] {x : Operand} {r off : Nat} {v : Value} (hx : ev lk x = some (.pointer (some ⟨r, off, none⟩))) (hc : ∀ w, J w → At r off v w) : Qt P J lk (.load t x) ty v :=
  fun ρ w hρ hJ d pos af g => by
    simp only [execOp]; rw [hρ x _ hx]
    have := hc w hJ
    unfold At at this
    simp [Instr.loadAt, Instr.sureAddr, loadVar, hT.agg w, run_load, this]
theorem qt_load_agg {t : TypeId} {sz by_ : Nat} {z : Value} [hT : TyI P t true sz by_ z] {x : Operand} {r off : Nat} {vs : List Value} (hx : ev lk x = some (.pointer (some ⟨r, off, none⟩))) (hl : vs.length = sz) (hc : ∀ w, J w → ∀ j v, vs[j]? = some v → At r (off + j) v w) :
    Qt P J lk (.load t x) ty (.agg vs.toArray) :=
  fun ρ w hρ hJ d pos af g => by
    simp only [execOp]; rw [hρ x _ hx]
    have h := run_loadCells_list (P := P) w ⟨r, off, none⟩ vs (fun j v hv => by rw [add_mk]; exact hc w hJ j v hv)
    rw [hl] at h
    simp [Instr.loadAt, Instr.sureAddr, loadVar, hT.agg w, hT.sizeOf w, h]
/-- two cells: a struct of two -/
theorem qt_load2 {t : TypeId} {by_ : Nat} {z : Value} [hT : TyI P t true 2 by_ z] {x : Operand} {r off : Nat} {u v : Value} (hx : ev lk x = some (.pointer (some ⟨r, off, none⟩))) (hu : ∀ w, J w → At r off u w) (hv : ∀ w, J w → At r (off + 1) v w) :
    Qt P J lk (.load t x) ty (.agg #[u, v]) :=
  qt_load_agg (vs := [u, v]) hx rfl fun w hJ j x hx => by
    match j, hx with
    | 0, hx => simp at hx; subst hx; exact hu w hJ
    | 1, hx => simp at hx; subst hx; exact hv w hJ
    | j + 2, hx => simp at hx
theorem qt_index {t e : TypeId} {agg : Bool} {sz by_ : Nat} {z : Value} [hs : SlT P t e] [hT : TyI P e agg sz by_ z] {x ix : Operand} {r o len cap : Nat} {k : IntKind} {i : Nat} (hx : ev lk x = some (.slice (some ⟨r, o, none⟩) len cap)) (hi : ev lk ix = some (.int k (i : Int))) (hlt : i < len) :
    Qt P J lk (.indexAddr t x ix) ty (.pointer (some ⟨r, o + i * sz, none⟩)) := fun ρ w hρ _ d pos af g => by
  simp only [execOp]; rw [hρ x _ hx, hρ ix _ hi]
  have h1 : (0 : Int) ≤ (i : Int) ∧ (i : Int) < (len : Int) := by omega
  simp [Instr.indexAt, asIntOf, run_underlying hs.u, hT.sizeOf w, h1, add_mk]
  intro h
  omega
theorem qt_fieldAddr {s f off ft : Nat} [hF : FdT P s f off ft] {agg : Bool} {sz by_ : Nat} {z : Value} [hT : TyI P ft agg (sz + 1) by_ z] {x : Operand} {r o : Nat} (hx : ev lk x = some (.pointer (some ⟨r, o, none⟩))) :
    Qt P J lk (.fieldAddr s x f) ty (.pointer (some ⟨r, o + off, none⟩)) := fun ρ w hρ _ d pos af g => by
  simp only [execOp]; rw [hρ x _ hx]
  obtain ⟨fs, fd, h1, h2, h3, h4⟩ := hF.u
  subst h3
  subst h4
  simp [Instr.fieldAt, run_underlying h1, h2, Instr.sureAddr, fieldPlace, hT.sizeOf w, add_mk]
theorem qt_nilCheck {x : Operand} {r : Addr} (hx : ev lk x = some (.pointer (some r))) : Qt P J lk (.nilCheck x) ty (.pointer (some r)) := fun ρ w hρ _ d pos af g => by
  simp only [execOp]; rw [hρ x _ hx]; rfl
/-- the parts of a literal, read -/
def evp (lk : Nat → Option Value) : List (Nat × Operand) → Option (List (Nat × Value))
  | [] => some []
  | x :: l => match ev lk x.2, evp lk l with
    | some v, some vs => some ((x.1, v) :: vs)
    | _, _ => none
theorem evp_map {lk : Nat → Option Value} {ρ : Operand → Value} (h : Agr lk ρ) : ∀ {xs : List (Nat × Operand)} {vs : List (Nat × Value)}, evp lk xs = some vs → xs.map (fun x => (x.1, ρ x.2)) = vs
  | [], vs, e => by simp [evp] at e; simp [e]
  | x :: l, vs, e => by
    simp only [evp] at e
    split at e
    · rename_i v vs' h1 h2
      simp at e
      subst e
      simp [h x.2 v h1, evp_map h h2]
    · simp at e
theorem qt_build {t : TypeId} {xs : List (Nat × Operand)} {vs : List (Nat × Value)} {cs : Array Value} (hx : evp lk xs = some vs) (hb : P.built t vs = some cs) : Qt P J lk (.build t xs.toArray) ty (.agg cs) := fun ρ w hρ _ d pos af g => by
  simp only [execOp, List.map_toArray]
  have e : (xs.map fun x => (x.1, ρ x.2)) = vs := evp_map hρ hx
  have := run_build (P := P) w t vs.toArray cs (by simpa using hb)
  have e' : (List.map (fun (x : Nat × Operand) => match x with | (i, x) => (i, ρ x)) xs) = vs := by rw [← e]
  rw [e', Sem.run_bind, this]
  rfl
theorem qt_sliceHM {t e : TypeId} {agg : Bool} {sz by_ : Nat} {z : Value} [hs : SlT P t e] [hT : TyI P e agg sz by_ z] {x hi mx : Operand} {A : Option Addr} {len cap : Nat} {k k' : IntKind} {h m : Nat} (hx : ev lk x = some (.slice A len cap)) (hh : ev lk hi = some (.int k (h : Int))) (hm : ev lk mx = some (.int k' (m : Int))) (h1 : h ≤ m) (h2 : m ≤ cap) :
    Qt P J lk (.slice t x none (some hi) (some mx)) ty (.slice A h m) := fun ρ w hρ _ d pos af g => by
  have e0 := hρ x _ hx
  have e1 := hρ hi _ hh
  have e2 := hρ mx _ hm
  simp only [execOp, Option.map_some, Option.map_none, e0, e1, e2]
  have b1 : (Instr.sliceBound (.int k (h : Int)) m .slice3B).run P w = .ok h w := by simp [Instr.sliceBound, asIntOf]; omega
  have b2 : (Instr.sliceBound (.int k' (m : Int)) cap .slice3Acap).run P w = .ok m w := by simp [Instr.sliceBound, asIntOf]; omega
  have ha : ∀ y : Addr, y.add 0 = y := fun y => by simp [Addr.add]
  simp [Instr.sliceAt, run_underlying hs.u, Instr.slice, Instr.sliceBounds, b1, b2, hT.sizeOf w, ha]
theorem qt_sliceH {t e : TypeId} {agg : Bool} {sz by_ : Nat} {z : Value} [hs : SlT P t e] [hT : TyI P e agg sz by_ z] {x hi : Operand} {A : Option Addr} {len cap : Nat} {k : IntKind} {h : Nat} (hx : ev lk x = some (.slice A len cap)) (hh : ev lk hi = some (.int k (h : Int))) (h2 : h ≤ cap) :
    Qt P J lk (.slice t x none (some hi) none) ty (.slice A h cap) := fun ρ w hρ _ d pos af g => by
  have e0 := hρ x _ hx
  have e1 := hρ hi _ hh
  simp only [execOp, Option.map_some, Option.map_none, e0, e1]
  have b1 : (Instr.sliceBound (.int k (h : Int)) cap .sliceAcap).run P w = .ok h w := by simp [Instr.sliceBound, asIntOf]; omega
  have ha : ∀ y : Addr, y.add 0 = y := fun y => by simp [Addr.add]
  simp [Instr.sliceAt, run_underlying hs.u, Instr.slice, Instr.sliceBounds, b1, hT.sizeOf w, ha]
theorem qt_sliceLH {t e : TypeId} {agg : Bool} {sz by_ : Nat} {z : Value} [hs : SlT P t e] [hT : TyI P e agg sz by_ z] {x lo hi : Operand} {r o : Nat} {len cap : Nat} {k k' : IntKind} {l h : Nat} (hx : ev lk x = some (.slice (some ⟨r, o, none⟩) len cap)) (hl : ev lk lo = some (.int k' (l : Int))) (hh : ev lk hi = some (.int k (h : Int))) (h1 : l ≤ h) (h2 : h ≤ cap) (h3 : l < cap) :
    Qt P J lk (.slice t x (some lo) (some hi) none) ty (.slice (some ⟨r, o + l * sz, none⟩) (h - l) (cap - l)) := fun ρ w hρ _ d pos af g => by
  have e0 := hρ x _ hx
  have e1 := hρ hi _ hh
  have e2 := hρ lo _ hl
  simp only [execOp, Option.map_some, Option.map_none, e0, e1, e2]
  have b1 : (Instr.sliceBound (.int k (h : Int)) cap .sliceAcap).run P w = .ok h w := by simp [Instr.sliceBound, asIntOf]; omega
  have b2 : (Instr.sliceBound (.int k' (l : Int)) h .sliceB).run P w = .ok l w := by simp [Instr.sliceBound, asIntOf]; omega
  have hne : ¬ cap = l := by omega
  simp [Instr.sliceAt, run_underlying hs.u, Instr.slice, Instr.sliceBounds, b1, b2, hT.sizeOf w, add_mk, hne]
end
theorem sq_alloc {t : TypeId} {agg : Bool} {sz by_ : Nat} {z : Value} [hT : TyI P t agg sz by_ z] {ty : TypeId} {d : Nat} {pos : String} {af : Array Edge} (hd : Nat.blt d n = true)
    (h : ∀ r, Sq P ops Q n w0 X S rest ((d, .pointer (some ⟨r, 0, none⟩)) :: E) ((r, .cells z.cells t (0, 0)) :: own) R) : Sq P ops Q n w0 X S (⟨some d, .alloc t, ty, pos, af, none⟩ :: rest) E own R := by
  intro a w s t'
  refine wpList_plain rfl fun K hK => ?_
  have e : (execOp a.eval ⟨some d, .alloc t, ty, pos, af, none⟩).run P w = .ok (.value (.pointer (some ⟨w.heap.size, 0, none⟩))) (w.alloc (.cells z.cells t (0, 0))) := by
    simp [execOp, Instr.alloc, hT.zero w, newVar, newRow]
  unfold Oper.wp
  rw [e]
  exact hK _ _ (h _ _ _ (s.put hd _) (t'.alloc _))
theorem sq_box {t : TypeId} {x : Operand} {v : Value} {ty : TypeId} {d : Nat} {pos : String} {af : Array Edge} (hx : ev (look E) x = some v) (hd : Nat.blt d n = true)
    (h : ∀ r, Sq P ops Q n w0 X S rest ((d, .pointer (some ⟨r, 0, none⟩)) :: E) ((r, .cells v.cells t (0, 0)) :: own) R) : Sq P ops Q n w0 X S (⟨some d, .box t x, ty, pos, af, none⟩ :: rest) E own R := by
  intro a w s t'
  refine wpList_plain rfl fun K hK => ?_
  have e : (execOp a.eval ⟨some d, .box t x, ty, pos, af, none⟩).run P w = .ok (.value (.pointer (some ⟨w.heap.size, 0, none⟩))) (w.alloc (.cells v.cells t (0, 0))) := by
    simp [execOp, Instr.box, s.agr x _ hx, newVar, newRow]
  unfold Oper.wp
  rw [e]
  exact hK _ _ (h _ _ _ (s.put hd _) (t'.alloc _))
theorem sq_make {t e : TypeId} {agg : Bool} {sz by_ : Nat} {z : Value} [hs : SlT P t e] [hT : TyI P e agg sz by_ z] {x y : Operand} {k k' : IntKind} {c : Nat} {ty : TypeId} {d : Nat} {pos : String} {af : Array Edge} (hx : ev (look E) x = some (.int k (c : Int))) (hy : ev (look E) y = some (.int k' (c : Int)))
    (hc : by_ * c ≤ 281474976710656) (hc' : c ≤ 281474976710656) (hd : Nat.blt d n = true)
    (h : ∀ r, Sq P ops Q n w0 X S rest ((d, .slice (some ⟨r, 0, none⟩) c c) :: E) ((r, .cells (madeCells z.cells (c * sz)) e (0, 0)) :: own) R) : Sq P ops Q n w0 X S (⟨some d, .makeSlice t x y, ty, pos, af, none⟩ :: rest) E own R := by
  intro a w s t'
  refine wpList_plain rfl fun K hK => ?_
  obtain ⟨i, i1, i2, i3, i4⟩ := hT.info
  have hb : (i.bytes : Int) * (c : Int) ≤ 281474976710656 := by
    rw [i4]
    have : ((by_ * c : Nat) : Int) ≤ 281474976710656 := by omega
    rwa [Int.natCast_mul] at this
  have e1 : (Instr.makeSlice t (.int k (c : Int)) (.int k' (c : Int))).run P w = .ok (.slice (some ⟨w.heap.size, 0, none⟩) c c) (w.alloc (.cells (madeCells z.cells (c * sz)) e)) := by
    have := run_make (P := P) w t e i z hs.u i1 i2 k k' c c (by omega) (by omega) hb (by omega)
    rw [i3] at this
    simpa using this
  have e : (execOp a.eval ⟨some d, .makeSlice t x y, ty, pos, af, none⟩).run P w = .ok (.value (.slice (some ⟨w.heap.size, 0, none⟩) c c)) (w.alloc (.cells (madeCells z.cells (c * sz)) e)) := by
    simp only [execOp, s.agr x _ hx, s.agr y _ hy, Sem.run_bind, e1, Result.andThen_ok, Sem.run_pure]
  unfold Oper.wp
  rw [e]
  exact hK _ _ (h _ _ _ (s.put hd _) (t'.alloc _))
theorem sq_lit {t e : TypeId} {agg : Bool} {sz by_ : Nat} {z : Value} [hs : SlT P t e] [hT : TyI P e agg sz by_ z] {len : Nat} {xs : List (Nat × Operand)} {vs : List (Nat × Value)} {cells : List Value} {ty : TypeId} {d : Nat} {pos : String} {af : Array Edge} (hx : evp (look E) xs = some vs)
    (hlen : Nat.ble (len * sz) 1000 = true) (hpos : Nat.blt 0 (len * sz) = true) (hf : Instr.fill (fun i => some (i * sz, sz)) ((Array.range (len * sz)).map (z.cells[· % z.cells.size]!)) vs = some cells.toArray) (hd : Nat.blt d n = true)
    (h : ∀ r, Sq P ops Q n w0 X S rest ((d, .slice (some ⟨r, 0, none⟩) len len) :: E) ((r, .cells cells.toArray e (0, 0)) :: own) R) : Sq P ops Q n w0 X S (⟨some d, .buildSlice t len xs.toArray, ty, pos, af, none⟩ :: rest) E own R := by
  intro a w s t'
  refine wpList_plain rfl fun K hK => ?_
  have h1 : ¬ (len * sz > 2 ^ 24) := by have : len * sz ≤ 1000 := by simpa using hlen
                                        omega
  have h2 : ¬ (len * sz = 0) := by have : 0 < len * sz := by simpa using hpos
                                   omega
  have e0 : (List.map (fun (x : Nat × Operand) => match x with | (i, x) => (i, a.eval x)) xs) = vs := by rw [← evp_map s.agr hx]
  have e : (execOp a.eval ⟨some d, .buildSlice t len xs.toArray, ty, pos, af, none⟩).run P w = .ok (.value (.slice (some ⟨w.heap.size, 0, none⟩) len len)) (w.alloc (.cells cells.toArray e (0, 0))) := by
    simp only [execOp, List.map_toArray, e0, Instr.buildSlice, Sem.run_bind, run_underlying hs.u, Result.andThen_ok, hT.sizeOf w, if_neg h1, if_neg h2, Sem.run_pure, hT.zero w, hf]
    simp [newRow]
  unfold Oper.wp
  rw [e]
  exact hK _ _ (h _ _ _ (s.put hd _) (t'.alloc _))
/-- the cells from 'off' on, written anew -/
def wr (l : List Value) (off : Nat) : List Value → List Value
  | [] => l
  | v :: vs => wr (l.set off v) (off + 1) vs
theorem wr_length (l : List Value) (off : Nat) (vs : List Value) : (wr l off vs).length = l.length := by
  induction vs generalizing l off with
  | nil => rfl
  | cons v vs ih => simp [wr, ih]
theorem Upd.trans {r : Nat} {o o' : Obj} {w w' w'' : World} (h : Upd r o w w') (k : Upd r o' w' w'') : Upd r o' w w'' :=
  ⟨k.os.trans h.os, k.tape.trans h.tape, k.output.trans h.output, k.size.trans h.size, k.at_, fun i hi => (k.other i hi).trans (h.other i hi)⟩
theorem upd_setCell {w : World} {r off : Nat} {l : List Value} {e : TypeId} (h : w.heap[r]? = some (.cells l.toArray e (0, 0))) (v : Value) : Upd r (.cells (l.set off v).toArray e (0, 0)) w (w.setCell ⟨r, off, none⟩ v) := by
  refine ⟨rfl, rfl, rfl, by simp, ?_, fun k hk => Below.heap_setCell _ _ _ _ hk⟩
  simp [World.setCell, Array.getElem?_modify, h]
theorem run_storeCells_own {w : World} {r off : Nat} {l : List Value} {e : TypeId} (vs : List Value) (h : w.heap[r]? = some (.cells l.toArray e (0, 0))) (hl : off + vs.length ≤ l.length) (h1 : ∀ v ∈ vs, v.oneCell' = true) (i : Nat) (base : Nat) (hb : base + i = off) (hne : vs ≠ []) :
    ∃ w', (storeCells ⟨r, base, none⟩ vs i).run P w = .ok () w' ∧ Upd r (.cells (wr l off vs).toArray e (0, 0)) w w' := by
  induction vs generalizing w l off i with
  | nil => exact absurd rfl hne
  | cons v vs ih =>
    have hcell : w.cell? ⟨r, off, none⟩ = some (l[off]'(by simp at hl; omega)) := by
      rw [cell_of_row w r off _ e _ h]
      simp at hl ⊢
    have hfro : w.frozen? ⟨r, off, none⟩ = false := by
      simp [World.frozen?, h]
    have hst : (store ((⟨r, base, none⟩ : Addr).add i) v).run P w = .ok () (w.setCell ⟨r, off, none⟩ v) := by
      rw [add_mk, hb, run_store P w _ v _ (h1 v (by simp)), hcell]
      simp [hfro]
    have hu := upd_setCell (off := off) h v
    cases vs with
    | nil =>
      refine ⟨_, ?_, hu⟩
      simp [storeCells, hst]
    | cons v' vs =>
      obtain ⟨w', e1, e2⟩ := ih (l := l.set off v) (off := off + 1) hu.at_ (by simp at hl ⊢; omega) (fun x hx => h1 x (by simp [hx])) (i + 1) (by omega) (by simp)
      refine ⟨w', ?_, hu.trans e2⟩
      rw [storeCells, Sem.run_bind, hst, Result.andThen_ok]
      exact e1
theorem run_storeVar_own {t : TypeId} {agg : Bool} {sz by_ : Nat} {z : Value} [hT : TyI P t agg sz by_ z] {w : World} {r off : Nat} {l : List Value} {e : TypeId} {v : Value} (h : w.heap[r]? = some (.cells l.toArray e (0, 0))) (hv : v.cells.size = sz) (hl : off + sz ≤ l.length) (hsz : 0 < sz) (h1 : ∀ u ∈ v.cells.toList, u.oneCell' = true) :
    ∃ w', (storeVar t ⟨r, off, none⟩ v).run P w = .ok () w' ∧ Upd r (.cells (wr l off v.cells.toList).toArray e (0, 0)) w w' := by
  obtain ⟨w', e1, e2⟩ := run_storeCells_own (P := P) (w := w) (off := off) v.cells.toList h (by simp [hv]; exact hl) h1 0 off rfl (by intro hn; have := congrArg List.length hn; simp [hv] at this; omega)
  refine ⟨w', ?_, e2⟩
  simp [storeVar, hT.sizeOf w, hv, e1]
def one' (l : List Value) : Bool := l.all (·.oneCell')
theorem sq_store (i : Nat) {t : TypeId} {agg : Bool} {sz by_ : Nat} {z : Value} [hT : TyI P t agg sz by_ z] {x y : Operand} {r off : Nat} {l : List Value} {e : TypeId} {v : Value} {ty : TypeId} {pos : String} {af : Array Edge} (hx : ev (look E) x = some (.pointer (some ⟨r, off, none⟩))) (hy : ev (look E) y = some v)
    (hi : ownAt own i = some (r, .cells l.toArray e (0, 0))) (hv : v.cells.size = sz) (hl : off + sz ≤ l.length) (hsz : Nat.blt 0 sz = true) (h1 : one' v.cells.toList = true)
    (h : Sq P ops Q n w0 X S rest E (ownSet own i (.cells (wr l off v.cells.toList).toArray e (0, 0))) R) : Sq P ops Q n w0 X S (⟨none, .store t x y, ty, pos, af, none⟩ :: rest) E own R := by
  intro a w s t'
  refine wpList_plain rfl fun K hK => ?_
  obtain ⟨w', e1, e2⟩ := run_storeVar_own (P := P) (t := t) (w := w) (off := off) (v := v) (t'.has _ (ownAt_mem hi)) hv hl (by simpa using hsz) (fun u hu => (List.all_eq_true.1 h1) u hu)
  have e : (execOp a.eval ⟨none, .store t x y, ty, pos, af, none⟩).run P w = .ok .skip w' := by
    simp only [execOp, s.agr x _ hx, s.agr y _ hy, Instr.storeAt, Instr.sureAddr, Sem.run_bind, Sem.run_pure, Result.andThen_ok, e1]
  unfold Oper.wp
  rw [e]
  exact hK _ _ (h _ _ s (t'.upd hi e2))
/-- what a call comes to: a value that is known but for 'x', new memory, and what is known of it -/
def Rt {α : Type} (w : World) (S : Nat → Prop) (val : α → Value) (F : α → World → Prop) (e : Ending) (w' : World) : Prop :=
  ∃ x, e = .returned (val x) ∧ Below w.heap.size w w' ∧ Fr S w w' (F x)
def Ret (P : Program) (f : FuncId) (vs : List Value) (w : World) (S : Nat → Prop) {α : Type} (val : α → Value) (F : α → World → Prop) : Prop := Calls P f vs.toArray w (Rt w S val F)
def none_ : Nat → Prop := fun _ => False
class FnB (P : Program) (f : FuncId) : Prop where
  ok : ∃ fn c, P.funcs[f]? = some fn ∧ fn.body = some c ∧ (fn.name == "runtime.NumGoroutine") = false
theorem FnB.run {f : FuncId} (h : FnB P f) (args : Array Value) (w : World) : (callFunc f args).run P w = .ok (.enter f args) w := by
  obtain ⟨fn, c, h1, h2, h3⟩ := h.ok
  have h3' : ¬ fn.name = "runtime.NumGoroutine" := by simpa using h3
  simp [callFunc, h1, h2, h3']
def evs (lk : Nat → Option Value) : List Operand → Option (List Value)
  | [] => some []
  | x :: l => match ev lk x, evs lk l with
    | some v, some vs => some (v :: vs)
    | _, _ => none
theorem evs_map {lk : Nat → Option Value} {ρ : Operand → Value} (h : Agr lk ρ) : ∀ {xs : List Operand} {vs : List Value}, evs lk xs = some vs → xs.map ρ = vs
  | [], vs, e => by simp [evs] at e; simp [e]
  | x :: l, vs, e => by
    simp only [evs] at e
    split at e
    · rename_i v vs' h1 h2
      simp at e
      subst e
      simp [h x v h1, evs_map h h2]
    · simp at e
/-- the operand is a function: its number, what goes ahead of the arguments and what is captured -/
def fnv (lk : Nat → Option Value) (c : Operand) (f : FuncId) (pre cap : List Value) : Prop := ev lk c = some (.func (.func f) pre.toArray cap.toArray)
theorem run_call {lk : Nat → Option Value} {ρ : Operand → Value} (hρ : Agr lk ρ) {c : Operand} {f : FuncId} {pre cap : List Value} {xs : List Operand} {vs : List Value} {ats : Array TypeId} {ty : TypeId} {d : Option Tmp} {pos : String} {af : Array Edge} {g : Option (Nat × Bool)} {w : World} [hB : FnB P f]
    (hc : fnv lk c f pre cap) (hxs : evs lk xs = some vs) :
    (execOp ρ ⟨d, .call { callee := .value c, args := xs.toArray, argTypes := ats }, ty, pos, af, g⟩).run P w = .ok (.enter f (pre ++ vs ++ cap).toArray) w := by
  have e1 := hρ c _ hc
  have e2 := evs_map hρ hxs
  simp only [execOp, resolve, e1, List.map_toArray, e2, Deferred.ofValue, Sem.run_bind, Sem.run_pure, Result.andThen_ok, invoke]
  rw [hB.run]
  simp
theorem sq_call {α : Type} {c : Operand} {f : FuncId} {pre cap : List Value} {xs : List Operand} {vs : List Value} {ats : Array TypeId} {ty : TypeId} {d : Nat} {pos : String} {af : Array Edge} (val : α → Value) (F : α → World → Prop) [hB : FnB P f]
    (hc : fnv (look E) c f pre cap) (hxs : evs (look E) xs = some vs) (hd : Nat.blt d n = true)
    (hcall : ∀ w, SS w0 X S own R w → Ret P f (pre ++ vs ++ cap) w (Nn w0 S own w) val F)
    (h : ∀ x, Sq P ops Q n w0 X S rest ((d, val x) :: E) own (fun w => R w ∧ F x w)) :
    Sq P ops Q n w0 X S (⟨some d, .call { callee := .value c, args := xs.toArray, argTypes := ats }, ty, pos, af, none⟩ :: rest) E own R := by
  intro a w s t'
  refine wpList_plain rfl fun K hK => ?_
  unfold Oper.wp
  rw [run_call s.agr hc hxs, Oper.upon_enter]
  refine (hcall w t').mono ?_
  rintro e w' ⟨x, rfl, hb, hf⟩
  exact hK _ _ (h x _ _ (s.put hd _) (t'.add hb hf fun k hk => hk))
theorem Ret.imp {f : FuncId} {vs : List Value} {w : World} {S : Nat → Prop} {α : Type} {val : α → Value} {F F' : α → World → Prop} (h : Ret P f vs w S val F) (hi : ∀ x w', F x w' → F' x w') : Ret P f vs w S val F' :=
  h.mono fun e w' ⟨x, h1, h2, h3⟩ => ⟨x, h1, h2, h3.mono (hi x)⟩
theorem sq_have {p : Prop} {l : List Oper} (hp : ∀ w, SS w0 X S own R w → p) (h : p → Sq P ops Q n w0 X S l E own R) : Sq P ops Q n w0 X S l E own R := fun a w s t => h (hp w t) a w s t
def envOf : Nat → List Value → Env
  | _, [] => []
  | i, v :: vs => (i, v) :: envOf (i + 1) vs
theorem envOf_look {vs : List Value} : ∀ {i t : Nat} {v : Value}, look (envOf i vs) t = some v → ∃ j, t = i + j ∧ vs[j]? = some v := by
  induction vs with
  | nil => intro i t v h; simp [envOf, look] at h
  | cons u vs ih =>
    intro i t v h
    simp only [envOf, look] at h
    cases hb : Nat.beq i t with
    | true =>
      rw [hb] at h
      have := Nat.eq_of_beq_eq_true hb
      subst this
      simp at h
      exact ⟨0, by simp, by simp [h]⟩
    | false =>
      rw [hb] at h
      obtain ⟨j, h1, h2⟩ := ih h
      exact ⟨j + 1, by omega, by simpa using h2⟩
theorem ret_of {f : FuncId} {fn : Func} {c : Code} {vs : List Value} {w : World} {S : Nat → Prop} {α : Type} {val : α → Value} {F : α → World → Prop} {n : Nat} (hf : P.funcs[f]? = some fn) (hb : fn.body = some c) (hn : fn.ntmps = n) (hle : Nat.ble vs.length n = true)
    (h : Tr n w [] S (envOf 0 vs) [] (fun _ => True) (c.wp P (bodyPost P fn (Rt w S val F)))) : Ret P f vs w S val F := by
  refine calls_of_wp hf hb (h _ _ ⟨?_, rfl, ?_⟩ (SS.start w S))
  · have : vs.length ≤ n := by simpa using hle
    simp [hn]
    omega
  · intro t v hv
    obtain ⟨j, h1, h2⟩ := envOf_look hv
    have : j < vs.length := by
      rcases Nat.lt_or_ge j vs.length with h | h
      · exact h
      · simp [List.getElem?_eq_none h] at h2
    subst h1
    simp only [Nat.zero_add]
    rw [Array.getElem?_append_left (by simpa using this)]
    simpa using h2
theorem tr_done {fn : Func} {w0 : World} {S : Nat → Prop} {α : Type} {val : α → Value} {F : α → World → Prop} (x : α) (hres : ∀ a w, St n a E → SS w0 [] S own R w → (results fn a.tmps).run P w = .ok (val x) w)
    (hF : ∀ w, R w → (∀ p ∈ own, w.heap[p.1]? = some p.2) → (∀ k, S k → k < w0.heap.size → w.heap[k]? = w0.heap[k]?) → F x w) : Tr n w0 [] S E own R (bodyPost P fn (Rt w0 S val F) .ret) := by
  intro a w s t
  refine ⟨s.defers, val x, hres a w s t, x, rfl, t.arg, fun w'' hs hk => hF w'' ?_ ?_ ?_⟩
  · exact t.keep w'' hs fun k h1 h2 _ => hk k h1 h2
  · intro p hp
    rw [hk p.1 (.inl ((t.lt p hp).2.resolve_left (by simp))) (t.lt p hp).1]
    exact t.has p hp
  · intro k h1 h2
    rw [hk k (.inr h1) (Nat.lt_of_lt_of_le h2 t.size)]
    exact t.pres k h2 (by simp)
/-- the same, told of the call's own blocks that they are new -/
theorem tr_doneW {fn : Func} {w0 : World} {S : Nat → Prop} {α : Type} {val : α → Value} {F : α → World → Prop} (x : α) (hres : ∀ a w, St n a E → SS w0 [] S own R w → (results fn a.tmps).run P w = .ok (val x) w)
    (hF : ∀ w, (∀ p ∈ own, w0.heap.size ≤ p.1) → (∀ p ∈ own, w.heap[p.1]? = some p.2) → F x w) : Tr n w0 [] S E own R (bodyPost P fn (Rt w0 S val F) .ret) := by
  intro a w s t
  refine ⟨s.defers, val x, hres a w s t, x, rfl, t.arg, fun w'' hs hk => hF w'' (fun p hp => (t.lt p hp).2.resolve_left (by simp)) ?_⟩
  intro p hp
  rw [hk p.1 (.inl ((t.lt p hp).2.resolve_left (by simp))) (t.lt p hp).1]
  exact t.has p hp
/-- one result variable -/
def resSem (tmps : Array Value) : ResultVar → Sem Value
  | .tmp t => pure (tmps.getD t undef)
  | .cell a t => do loadVar t (← asAddr (tmps.getD a undef))
theorem results_eq (fn : Func) (tmps : Array Value) : results fn tmps = (do
    let vs ← fn.results.mapM (resSem tmps)
    pure (if h : vs.size = 1 then vs[0] else .tuple vs)) := by
  unfold results
  congr 1
def ResV (P : Program) (tmps : Array Value) (w : World) (r : ResultVar) (v : Value) : Prop := (resSem tmps r).run P w = .ok v w
theorem resv_tmp {a : Act} {w : World} {t : Nat} {v : Value} (s : St n a E) (h : look E t = some v) : ResV P a.tmps w (.tmp t) v := by
  simp [ResV, resSem, s.has t v h]
theorem resv_cell (i : Nat) {a : Act} {w w0 : World} {X : List Nat} {S : Nat → Prop} {t p : Nat} {sz by_ : Nat} {z : Value} [hT : TyI P t true sz by_ z] {r : Nat} {l : List Value} {e : TypeId} {fr : Nat × Nat} (s : St n a E) (t' : SS w0 X S own R w) (h : look E p = some (.pointer (some ⟨r, 0, none⟩)))
    (hi : ownAt own i = some (r, .cells l.toArray e fr)) (hl : l.length = sz) : ResV P a.tmps w (.cell p t) (.agg l.toArray) := by
  have hg := t'.has _ (ownAt_mem hi)
  have hc := run_loadCells_list (P := P) w ⟨r, 0, none⟩ l (fun j v hv => by rw [add_mk]; rw [cell_of_row w r _ _ e fr hg]; simpa using hv)
  rw [hl] at hc
  simp [ResV, resSem, s.has p _ h, asAddr, loadVar, hT.agg w, hT.sizeOf w, hc]
theorem resv_run {tmps : Array Value} {w : World} {r : ResultVar} {v : Value} (h : ResV P tmps w r v) {β : Type} (k : Value → Sem β) : (resSem tmps r >>= k).run P w = (k v).run P w := by
  unfold ResV at h
  rw [Sem.run_bind, h, Result.andThen_ok]
theorem results_1 {fn : Func} {r : ResultVar} {v : Value} {tmps : Array Value} {w : World} (h : fn.results = #[r]) (h1 : ResV P tmps w r v) : (results fn tmps).run P w = .ok v w := by
  rw [results_eq, h, Array.mapM_eq_mapM_toList]
  simp only [List.mapM_cons, List.mapM_nil, map_eq_pure_bind, bind_assoc, pure_bind]
  rw [resv_run h1]
  rfl
theorem results_2 {fn : Func} {r s : ResultVar} {v u : Value} {tmps : Array Value} {w : World} (h : fn.results = #[r, s]) (h1 : ResV P tmps w r v) (h2 : ResV P tmps w s u) : (results fn tmps).run P w = .ok (.tuple #[v, u]) w := by
  rw [results_eq, h, Array.mapM_eq_mapM_toList]
  simp only [List.mapM_cons, List.mapM_nil, map_eq_pure_bind, bind_assoc, pure_bind]
  rw [resv_run h1, resv_run h2]
  rfl
theorem results_3 {fn : Func} {r s q : ResultVar} {v u x : Value} {tmps : Array Value} {w : World} (h : fn.results = #[r, s, q]) (h1 : ResV P tmps w r v) (h2 : ResV P tmps w s u) (h3 : ResV P tmps w q x) : (results fn tmps).run P w = .ok (.tuple #[v, u, x]) w := by
  rw [results_eq, h, Array.mapM_eq_mapM_toList]
  simp only [List.mapM_cons, List.mapM_nil, map_eq_pure_bind, bind_assoc, pure_bind]
  rw [resv_run h1, resv_run h2, resv_run h3]
  rfl
end
end
end Go.Qk
end
section
set_option linter.unusedVariables false
set_option linter.unusedSimpArgs false
namespace Go.Qk
open Go Go.RowKit
inductive Ent where
  | val (v : Value)
  | pr (F : Value → World → Prop)
def Ent.ok : Ent → Value → World → Prop
  | .val v, u, _ => u = v
  | .pr F, u, w => F u w
abbrev Ctx := List (Nat × Ent)
def lookC : Ctx → Nat → Option Ent
  | [], _ => none
  | p :: l, s => bif Nat.beq p.1 s then some p.2 else lookC l s
def lkC (Γ : Ctx) (t : Nat) : Option Value := match lookC Γ t with
  | some (.val v) => some v
  | _ => none
def extC (o : Oper) (F : Ent) (Γ : Ctx) : Ctx := match o.dst with
  | some d => (d, F) :: Γ
  | none => Γ
def ctx0 : Env → Ctx
  | [] => []
  | p :: l => (p.1, .val p.2) :: ctx0 l
theorem lookC_ctx0 (E : Env) (t : Nat) : lookC (ctx0 E) t = (look E t).map .val := by
  induction E with
  | nil => rfl
  | cons p l ih =>
    simp only [ctx0, lookC, look]
    cases Nat.beq p.1 t <;> simp [ih]
section
/-- the edges of an operation that bind in every order -/
def aft (o : Oper) : List Nat := (o.after.toList.filter (Region.binds .any)).map (·.on)
/-- any order -/
theorem region_master {I : (Nat → Bool) → Act → World → Prop} {P : Program} {ops : Array Oper} {Q : Exit → Act → World → Prop} {id : Nat} {dr : Bool} {a : Act} {w : World} (hm : P.follows .mixedOrders = true)
    (hedge : ∀ i o, ops[i]? = some o → ∀ j ∈ aft o, j < i)
    (step : ∀ D a w i, i < ops.size → D i = false → (∀ o, ops[i]? = some o → ∀ j ∈ aft o, D j = true) → I D a w → wpOp P ops Q i (I (fun j => j == i || D j)) a w)
    (fin : ∀ D a w, (∀ i, i < ops.size → D i = true) → I D a w → Q .normal a w) (h0 : ∀ m, I (fun _ => false) a { w with drawn := m }) : (Code.region id ops dr).wp P Q a w := by
  have ext : ∀ D D' : Nat → Bool, (∀ i, i < ops.size → D i = D' i) → True := fun _ _ _ => trivial
  cases dr with
  | true =>
    refine wp_region_any hm ?_
    have key : ∀ fuel (listed : Array Bool) a w, (∀ D, (∀ i, i < ops.size → D i = listed.getD i false) → (∀ i, ops.size ≤ i → D i = false) → I D a w) → listed.size = ops.size →
        (((List.range ops.size).filter fun i => !listed.getD i false).length ≤ fuel) → wpAny P .any ops Q fuel listed a w := by
      intro fuel
      induction fuel with
      | zero =>
        intro listed a w hI hs hf
        have hall : ∀ i, i < ops.size → listed.getD i false = true := by
          intro i hi
          have hnil : ((List.range ops.size).filter fun i => !listed.getD i false) = [] := List.eq_nil_of_length_eq_zero (by omega)
          have := (List.filter_eq_nil_iff.1 hnil) i (by simpa using hi)
          simpa using this
        refine ⟨?_, ?_⟩
        · refine List.filter_eq_nil_iff.2 fun i hi => ?_
          have hi' : i < ops.size := by simpa using hi
          have h1 := hall i hi'
          have h2 : listed.getD i true = true := by
            have hl : i < listed.size := by omega
            simp [Array.getD, hl] at h1 ⊢
            exact h1
          simp [h2]
        · exact fin (fun i => listed.getD i false && decide (i < ops.size)) a w (fun i hi => by simp [hall i hi, hi]) (hI _ (fun i hi => by simp [hi]) (fun i hi => by simp; omega))
      | succ fuel ih =>
        intro listed a w hI hs hf
        have hD : I (fun i => listed.getD i false && decide (i < ops.size)) a w := hI _ (fun i hi => by simp [hi]) (fun i hi => by simp; omega)
        refine ⟨fun hr => ?_, fun i hi => ?_⟩
        ·
          refine fin _ a w ?_ hD
          intro i
          induction i using Nat.strongRecOn with
          | _ i ihi =>
            intro hi
            have h1 := (List.filter_eq_nil_iff.1 hr) i (by simpa using hi)
            have hl : i < listed.size := by omega
            cases hli : listed.getD i false with
            | true => simp [hi]
            | false =>
              exfalso
              apply h1
              have h2 : listed.getD i true = false := by simp [Array.getD, hl] at hli ⊢; exact hli
              rw [h2]
              simp only [Bool.not_false, Bool.true_and]
              rw [Array.getElem?_eq_getElem hi]
              simp only [Option.map_some, Option.getD_some]
              rw [Array.all_eq_true]
              intro k hk
              by_cases hb : Region.binds .any (ops[i].after[k]) = true
              · have hmem : (ops[i].after[k]).on ∈ aft ops[i] := by
                  unfold aft
                  exact List.mem_map.2 ⟨_, List.mem_filter.2 ⟨by simp, hb⟩, rfl⟩
                have hlt := hedge i ops[i] (Array.getElem?_eq_getElem hi) _ hmem
                have := ihi _ hlt (by omega)
                simp at this
                simp
                right
                simpa using this.1
              · simp [hb]
        · have hmem := List.mem_filter.1 hi
          have hi' : i < ops.size := by simpa using hmem.1
          have hl : i < listed.size := by omega
          have hcond := hmem.2
          rw [Array.getElem?_eq_getElem hi'] at hcond
          simp only [Bool.and_eq_true, Bool.not_eq_true', Option.map_some, Option.getD_some] at hcond
          obtain ⟨hc1, hc2⟩ := hcond
          have hli : listed.getD i false = false := by simp [Array.getD, hl] at hc1 ⊢; exact hc1
          refine wpOp_mono ?_ (step _ a w i hi' (by simp only [hli, Bool.false_and]) ?_ hD)
          · intro a' w' hI'
            refine ih _ a' w' ?_ (by simp [hs]) ?_
            · intro D h1 h2
              have e : D = fun j => j == i || (listed.getD j false && decide (j < ops.size)) := by
                funext j
                by_cases hj : j < ops.size
                · rw [h1 j hj]
                  have hjl : j < listed.size := by omega
                  by_cases hji : j = i
                  · subst hji; simp [Array.getD, hl]
                  · simp [Array.getD, hjl, hj, hji, Array.getElem_setIfInBounds, Ne.symm hji]
                · rw [h2 j (by omega)]
                  have : j ≠ i := by omega
                  simp [hj, this]
              rw [e]; exact hI'
            ·
              have hlen : ((List.range ops.size).filter fun j => !(listed.setIfInBounds i true).getD j false).length < ((List.range ops.size).filter fun j => !listed.getD j false).length := by
                have hsub : ((List.range ops.size).filter fun j => !(listed.setIfInBounds i true).getD j false) = (((List.range ops.size).filter fun j => !listed.getD j false).filter fun j => !(j == i)) := by
                  rw [List.filter_filter]
                  refine List.filter_congr fun j hj => ?_
                  have hj' : j < ops.size := by simpa using hj
                  have hjl : j < listed.size := by omega
                  by_cases hji : j = i
                  · subst hji; simp [Array.getD, hl]
                  · have hij : ¬ i = j := fun h => hji h.symm
                    simp [Array.getD, hjl, hji, Array.getElem_setIfInBounds, hij]
                rw [hsub]
                refine List.length_filter_lt_length_iff_exists.2 ⟨i, ?_, by simp⟩
                exact List.mem_filter.2 ⟨by simpa using hi', by simp only [hli, Bool.not_false]⟩
              omega
          · intro o ho j hj
            rw [Array.getElem?_eq_getElem hi'] at ho
            injection ho with ho
            subst ho
            have hjlt := hedge i _ (Array.getElem?_eq_getElem hi') j hj
            unfold aft at hj
            obtain ⟨e, he, rfl⟩ := List.mem_map.1 hj
            obtain ⟨he1, he2⟩ := List.mem_filter.1 he
            rw [Array.all_eq_true] at hc2
            obtain ⟨k, hk, hk'⟩ := List.getElem_of_mem he1
            have := hc2 k (by simpa using hk)
            simp only [Array.getElem_toList] at hk'
            rw [hk'] at this
            simp only [he2, Bool.not_true, Bool.false_or] at this
            simp only [this, Bool.true_and, decide_eq_true_eq]
            omega
    refine key ops.size _ a _ ?_ (by simp) ?_
    · intro D h1 h2
      have e : D = fun _ => false := by
        funext i
        by_cases hi : i < ops.size
        · rw [h1 i hi]; simp [Array.getD, hi]
        · exact h2 i (by omega)
      rw [e]; exact h0 _
    · exact Nat.le_trans (List.length_filter_le _ _) (by simp)
  | false =>
    refine wp_region ?_
    have key : ∀ d k a w, k + d = ops.size → I (fun i => decide (i < k)) a w → wpOps P ops Q (List.range' k d) a w := by
      intro d
      induction d with
      | zero =>
        intro k a w hk hI
        simp only [List.range'_zero, wpOps]
        exact fin _ a w (fun i hi => by simp; omega) hI
      | succ d ih =>
        intro k a w hk hI
        rw [List.range'_succ, wpOps_cons]
        refine wpOp_mono ?_ (step _ a w k (by omega) (by simp) ?_ hI)
        · intro a' w' hI'
          refine ih (k + 1) a' w' (by omega) ?_
          have e : (fun i => decide (i < k + 1)) = fun j => j == k || decide (j < k) := by
            funext j
            by_cases h1 : j = k
            · subst h1; simp
            · have : (j < k + 1) ↔ j < k := by omega
              simp [h1, this]
          rw [e]; exact hI'
        · intro o ho j hj
          have := hedge k o ho j hj
          simp; omega
    rw [List.range_eq_range']
    exact key ops.size 0 a w (by omega) (by simpa using h0 w.drawn)
variable (P : Program) (ops : Array Oper) (Q : Exit → Act → World → Prop) (n : Nat) (J : World → Prop) (T : World → World → Prop)
def dstAt (ops : Array Oper) (i : Nat) : Option Tmp := (ops[i]?).bind (·.dst)
/-- an operation that comes before the tail -/
def ObE (Γ : Ctx) (o : Oper) (F : Ent) : Prop := (∀ u w w', T w w' → F.ok u w → F.ok u w') ∧ ∀ (a : Act) (w : World), a.tmps.size = n → a.defers = [] → J w → (∀ t ∈ o.looksAt ops, ∀ e, lookC Γ t = some e → e.ok (a.tmps.getD t undef) w) →
    if Region.wanted o (yielded ops a.tmps) then o.wp P a w (fun a' w' => ∃ v, a' = a.put o.dst v ∧ T w w' ∧ J w' ∧ F.ok v w') Q else F.ok undef w
/-- an operation that may come in the midst of the tail: it looks at no memory -/
def ObL (Γ : Ctx) (o : Oper) (F : Ent) : Prop := o.guard = none ∧ (∀ u w w', F.ok u w → F.ok u w') ∧ ∀ (a : Act) (w : World), a.tmps.size = n → (∀ t ∈ o.looksAt ops, ∀ e, lookC Γ t = some e → ∃ w1, e.ok (a.tmps.getD t undef) w1) →
    ∃ v, (execOp a.eval o).run P w = .ok (.value v) w ∧ F.ok v w
def Dx (late : Nat → Bool) : Nat → List Oper → Ctx → (Ctx → Prop) → Prop
  | _, [], Γ, K => K Γ
  | i, o :: os, Γ, K => ∃ F, (late i = false ∧ ObE P ops Q n J T Γ o F ∨ late i = true ∧ ObL P ops n Γ o F) ∧ Dx late (i + 1) os (extC o F Γ) K
def Closed (sl : List Nat) (A : Act → World → Prop) : Prop := ∀ a w d v, d ∈ sl → A a w → A (a.put (some d) v) w
def TailOb (sl : List Nat) (Γ : Ctx) (o : Oper) (A A' : Act → World → Prop) : Prop := ∀ (a : Act) (w : World), a.tmps.size = n → a.defers = [] → A a w → (∀ t ∈ sl, t ∈ o.looksAt ops → ∀ e, lookC Γ t = some e → ∃ w1, e.ok (a.tmps.getD t undef) w1) →
    o.guard = none ∧ o.wp P a w (fun a' w' => (∃ v, a' = a.put o.dst v) ∧ A' a' w') Q
def Tx (sl : List Nat) (Γ : Ctx) : List Oper → (Act → World → Prop) → Prop
  | [], A => ∀ a w, a.tmps.size = n → a.defers = [] → A a w → (∀ t ∈ sl, ∀ e, lookC Γ t = some e → ∃ w1, e.ok (a.tmps.getD t undef) w1) → Q .normal a w
  | o :: os, A => ∃ A', Closed sl A' ∧ TailOb P ops Q n sl Γ o A A' ∧ Tx sl Γ os A'
/-- is 'i' one of 'l', or one that these come behind? -/
def reach (ops : Array Oper) : Nat → List Nat → Nat → Bool
  | 0, l, i => l.contains i
  | k + 1, l, i => l.contains i || l.any fun j => match ops[j]? with | some o => reach ops k (aft o) i | none => false
theorem reach_ok {ops : Array Oper} {D : Nat → Bool} (hclo : ∀ j o, ops[j]? = some o → D j = true → ∀ k ∈ aft o, D k = true) : ∀ (k : Nat) (l : List Nat) (i : Nat), (∀ j ∈ l, D j = true) → reach ops k l i = true → D i = true := by
  intro k
  induction k with
  | zero => intro l i h hr; exact h i (by simpa [reach] using hr)
  | succ k ih =>
    intro l i h hr
    unfold reach at hr
    rcases Bool.or_eq_true _ _ ▸ hr with hr | hr
    · exact h i (by simpa using hr)
    · obtain ⟨j, hj, hr⟩ := List.any_eq_true.1 hr
      cases ho : ops[j]? with
      | none => rw [ho] at hr; simp at hr
      | some o => rw [ho] at hr; exact ih (aft o) i (hclo j o ho (h j hj)) hr
/-- is operation 'i' free to come in the midst of the tail, which begins at 'K'? -/
def lateB (ops : Array Oper) (K i : Nat) : Bool := (ops.toList.drop K).any fun o => !reach ops 2 (aft o) i
def lateSl (ops : Array Oper) (K : Nat) : List Nat := ((List.range K).filter (lateB ops K)).filterMap (dstAt ops)
def chk1 (ops : Array Oper) (n K i : Nat) (o : Oper) : Bool :=
  (aft o).all (fun j => Nat.blt j i) && (match o.dst with | some d => Nat.blt d n | none => true) &&
  (List.range ops.size).all (fun j => match dstAt ops j with
    | none => true
    | some d => (Nat.beq i j || o.dst != some d) && (!(o.looksAt ops).contains d || Nat.beq i j || (Nat.blt j i && (aft o).contains j) || (Nat.blt i j && (match ops[j]? with | some o' => (aft o').contains i | none => false)))) &&
  (Nat.blt i K || (List.range i).all fun j => Nat.blt j K || (aft o).contains j)
def chkR (ops : Array Oper) (n K : Nat) : Bool := Nat.ble K ops.size && ops.toList.zipIdx.all (fun x => chk1 ops n K x.2 x.1) && Region.noSelect ops
structure ChkR (ops : Array Oper) (n K : Nat) : Prop where
  le : K ≤ ops.size
  lt : ∀ (i : Nat) (o : Oper), ops[i]? = some o → ∀ j ∈ aft o, j < i
  dn : ∀ (i : Nat) (o : Oper) (d : Tmp), ops[i]? = some o → o.dst = some d → d < n
  nd : ∀ (i j : Nat) (d : Tmp), i ≠ j → dstAt ops i = some d → dstAt ops j ≠ some d
  rd : ∀ (i : Nat) (o : Oper) (j : Nat) (t : Tmp), ops[i]? = some o → t ∈ o.looksAt ops → dstAt ops j = some t → i = j ∨ (j < i ∧ j ∈ aft o) ∨ (i < j ∧ ∃ o', ops[j]? = some o' ∧ i ∈ aft o')
  tail : ∀ (i : Nat) (o : Oper) (j : Nat), ops[i]? = some o → K ≤ i → K ≤ j → j < i → j ∈ aft o
  sel : Region.noSelect ops = true
theorem chkR_ok {ops : Array Oper} {n K : Nat} (h : chkR ops n K = true) : ChkR ops n K := by
  unfold chkR at h
  rw [Bool.and_eq_true, Bool.and_eq_true] at h
  obtain ⟨⟨h1, h2⟩, h3⟩ := h
  have hop : ∀ i o, ops[i]? = some o → chk1 ops n K i o = true := by
    intro i o ho
    have hi : i < ops.size := (Array.getElem?_eq_some_iff.1 ho).1
    have := List.all_eq_true.1 h2 (o, i) (by
      rw [List.mem_zipIdx_iff_getElem?]
      simpa using ho)
    exact this
  have hp : ∀ i o, ops[i]? = some o → (∀ j ∈ aft o, j < i) ∧ (∀ d, o.dst = some d → d < n) ∧ (∀ j, j < ops.size → ∀ d, dstAt ops j = some d → (i = j ∨ o.dst ≠ some d) ∧ (d ∉ o.looksAt ops ∨ i = j ∨ (j < i ∧ j ∈ aft o) ∨ (i < j ∧ ∃ o', ops[j]? = some o' ∧ i ∈ aft o'))) ∧ (i < K ∨ ∀ j, j < i → j < K ∨ j ∈ aft o) := by
    intro i o ho
    have hc := hop i o ho
    unfold chk1 at hc
    rw [Bool.and_eq_true, Bool.and_eq_true, Bool.and_eq_true] at hc
    obtain ⟨⟨⟨c1, c2⟩, c3⟩, c4⟩ := hc
    refine ⟨?_, ?_, ?_, ?_⟩
    · intro j hj
      have := List.all_eq_true.1 c1 j hj
      simpa using this
    · intro d hd
      rw [hd] at c2
      simpa using c2
    · intro j hj d hd
      have := List.all_eq_true.1 c3 j (by simpa using hj)
      rw [hd] at this
      simp only [Bool.and_eq_true, Bool.or_eq_true, Bool.not_eq_true'] at this
      obtain ⟨d1, d2⟩ := this
      refine ⟨?_, ?_⟩
      · rcases d1 with d1 | d1
        · exact .inl (Nat.eq_of_beq_eq_true d1)
        · exact .inr (by simpa using d1)
      · rcases d2 with ((d2 | d2) | d2) | d2
        · left
          intro hm
          have : (o.looksAt ops).contains d = true := by simpa using hm
          rw [this] at d2; exact absurd d2 (by simp)
        · exact .inr (.inl (Nat.eq_of_beq_eq_true d2))
        · exact .inr (.inr (.inl ⟨by simpa using d2.1, by simpa using d2.2⟩))
        · refine .inr (.inr (.inr ⟨by simpa using d2.1, ?_⟩))
          cases ho' : ops[j]? with
          | none => rw [ho'] at d2; simp at d2
          | some o' => rw [ho'] at d2; exact ⟨o', rfl, by simpa using d2.2⟩
    · rcases Bool.or_eq_true _ _ ▸ c4 with c4 | c4
      · exact .inl (by simpa using c4)
      · right
        intro j hj
        have := List.all_eq_true.1 c4 j (by simpa using hj)
        rcases Bool.or_eq_true _ _ ▸ this with t | t
        · exact .inl (by simpa using t)
        · exact .inr (by simpa using t)
  have hsz : ∀ {j d}, dstAt ops j = some d → j < ops.size := by
    intro j d hd
    unfold dstAt at hd
    cases hj : ops[j]? with
    | none => rw [hj] at hd; simp at hd
    | some o => exact (Array.getElem?_eq_some_iff.1 hj).1
  refine ⟨by simpa using h1, fun i o ho => (hp i o ho).1, fun i o d ho => (hp i o ho).2.1 d, ?_, ?_, ?_, h3⟩
  · intro i j d hij hi hj
    have h1 := hsz hi
    have ho : ops[i]? = some ops[i] := Array.getElem?_eq_getElem h1
    have hdi : ops[i].dst = some d := by unfold dstAt at hi; rw [ho] at hi; exact hi
    rcases ((hp i _ ho).2.2.1 j (hsz hj) d hj).1 with e | e
    · exact hij e
    · exact e hdi
  · intro i o j t ho ht hj
    rcases ((hp i o ho).2.2.1 j (hsz hj) t hj).2 with e | e
    · exact absurd ht e
    · exact e
  · intro i o j ho hi hj hlt
    rcases (hp i o ho).2.2.2 with e | e
    · omega
    · rcases e j hlt with e | e
      · omega
      · exact e
theorem dx_seq {late : Nat → Bool} {os : List Oper} : ∀ {i : Nat} {Γ : Ctx} {K : Ctx → Prop}, Dx P ops Q n J T late i os Γ K → ∃ (Fs : Nat → Ent) (Γs : Nat → Ctx), Γs 0 = Γ ∧
    (∀ j o, os[j]? = some o → (late (i + j) = false ∧ ObE P ops Q n J T (Γs j) o (Fs j) ∨ late (i + j) = true ∧ ObL P ops n (Γs j) o (Fs j)) ∧ Γs (j + 1) = extC o (Fs j) (Γs j)) ∧ K (Γs os.length) := by
  induction os with
  | nil => intro i Γ K h; exact ⟨fun _ => .val undef, fun _ => Γ, rfl, by simp, h⟩
  | cons o os ih =>
    intro i Γ K h
    obtain ⟨F, hF, hr⟩ := h
    obtain ⟨Fs, Γs, e0, e1, e2⟩ := ih hr
    refine ⟨fun j => match j with | 0 => F | j + 1 => Fs j, fun j => match j with | 0 => Γ | j + 1 => Γs j, rfl, ?_, e2⟩
    intro j o' hj
    cases j with
    | zero =>
      simp at hj
      subst hj
      exact ⟨by simpa using hF, e0⟩
    | succ j =>
      have := e1 j o' (by simpa using hj)
      rw [show i + (j + 1) = i + 1 + j by omega]
      exact this
theorem tx_seq {sl : List Nat} {Γ : Ctx} {os : List Oper} : ∀ {A : Act → World → Prop}, Tx P ops Q n sl Γ os A → ∃ As : Nat → Act → World → Prop, As 0 = A ∧ (∀ j o, os[j]? = some o → Closed sl (As (j + 1)) ∧ TailOb P ops Q n sl Γ o (As j) (As (j + 1))) ∧
    (∀ a w, a.tmps.size = n → a.defers = [] → As os.length a w → (∀ t ∈ sl, ∀ e, lookC Γ t = some e → ∃ w1, e.ok (a.tmps.getD t undef) w1) → Q .normal a w) := by
  induction os with
  | nil => intro A h; exact ⟨fun _ => A, rfl, by simp, h⟩
  | cons o os ih =>
    intro A h
    obtain ⟨A', h1, h2, h3⟩ := h
    obtain ⟨As, e0, e1, e2⟩ := ih h3
    refine ⟨fun j => match j with | 0 => A | j + 1 => As j, rfl, ?_, e2⟩
    intro j o' hj
    cases j with
    | zero =>
      simp at hj
      subst hj
      simp only [Nat.zero_add]
      rw [e0]
      exact ⟨h1, h2⟩
    | succ j => exact e1 j o' (by simpa using hj)
theorem lookC_ext_ne {o : Oper} {F : Ent} {Γ : Ctx} {t : Nat} (h : o.dst ≠ some t) : lookC (extC o F Γ) t = lookC Γ t := by
  unfold extC
  cases hd : o.dst with
  | none => rfl
  | some d =>
    simp only [lookC]
    have : Nat.beq d t = false := by
      cases hb : Nat.beq d t with
      | false => rfl
      | true => exact absurd (by rw [hd, Nat.eq_of_beq_eq_true hb]) h
    rw [this]; rfl
theorem lookC_ext_eq {o : Oper} {F : Ent} {Γ : Ctx} {t : Nat} (h : o.dst = some t) : lookC (extC o F Γ) t = some F := by
  unfold extC
  rw [h]
  simp [lookC]
theorem getD_put_ne {a : Act} {dst : Option Tmp} {v : Value} {t : Nat} (h : dst ≠ some t) : (a.put dst v).tmps.getD t undef = a.tmps.getD t undef := by
  cases dst with
  | none => rfl
  | some d =>
    have : d ≠ t := fun e => h (by rw [e])
    simp [Act.put, Array.getElem?_setIfInBounds_ne this]
theorem getD_put_eq {a : Act} {v : Value} {t : Nat} (h : t < a.tmps.size) : (a.put (some t) v).tmps.getD t undef = v := by
  simp [Act.put, h]
theorem size_put {a : Act} {dst : Option Tmp} {v : Value} : (a.put dst v).tmps.size = a.tmps.size := by
  cases dst <;> simp [Act.put]
theorem defers_put {a : Act} {dst : Option Tmp} {v : Value} : (a.put dst v).defers = a.defers := by
  cases dst <;> simp [Act.put]
theorem region_dx {P : Program} {ops : Array Oper} {Q : Exit → Act → World → Prop} {n : Nat} {J : World → Prop} {T : World → World → Prop} {id : Nat} {dr : Bool} {a : Act} {w : World} (K : Nat) (al : List Nat) (E0 : Env) (hm : P.follows .mixedOrders = true) (hc : chkR ops n K = true)
    (hal : ∀ i ∈ al, i < K ∧ lateB ops K i = false ∧ ∀ o, ops[i]? = some o → o.guard = none ∧ (∃ d, o.dst = some d) ∧ ∀ ρ w, ∃ w', (execOp ρ o).run P w = .ok (.value (.pointer (some ⟨w.heap.size, 0, none⟩))) w' ∧ w'.heap.size = w.heap.size + 1)
    (hTs : ∀ w w', T w w' → w.heap.size ≤ w'.heap.size) (hrefl : ∀ w, T w w) (hJ : ∀ m, J { w with drawn := m }) (hs : a.tmps.size = n) (hd : a.defers = []) (hE : ∀ t v, look E0 t = some v → a.tmps.getD t undef = v)
    (hx : Dx P ops Q n J T (lateB ops K) 0 (ops.toList.take K) (ctx0 E0) fun Γ => ∃ A0, Closed (lateSl ops K) A0 ∧
      (∀ a w, a.tmps.size = n → a.defers = [] → J w → (∀ t, t ∉ lateSl ops K → ∀ e, lookC Γ t = some e → e.ok (a.tmps.getD t undef) w) →
        (∀ i j di dj, i ∈ al → j ∈ al → i ≠ j → dstAt ops i = some di → dstAt ops j = some dj → a.tmps.getD di undef ≠ a.tmps.getD dj undef) → A0 a w) ∧
      Tx P ops Q n (lateSl ops K) Γ (ops.toList.drop K) A0) : (Code.region id ops dr).wp P Q a w := by
  have C := chkR_ok hc
  obtain ⟨Fs, Γs, g0, g1, A0, hA0c, hA0, htx⟩ := dx_seq P ops Q n J T hx
  obtain ⟨As, a0, a1, aend⟩ := tx_seq P ops Q n htx
  have hlen : (ops.toList.take K).length = K := by simp; exact Nat.min_eq_left C.le
  have hlen2 : (ops.toList.drop K).length = ops.size - K := by simp
  rw [hlen] at hA0 aend a1

  have opK : ∀ i, i < K → ∀ o, ops[i]? = some o → (ops.toList.take K)[i]? = some o := by
    intro i hi o ho
    rw [List.getElem?_take, if_pos hi]
    simpa using ho
  have opT : ∀ m o, ops[K + m]? = some o → (ops.toList.drop K)[m]? = some o := by
    intro m o ho
    rw [List.getElem?_drop]
    simpa using ho

  have look_lt : ∀ j, j ≤ K → ∀ k, k < j → ∀ t, dstAt ops k = some t → lookC (Γs j) t = some (Fs k) := by
    intro j
    induction j with
    | zero => intro _ k hk; omega
    | succ j ih =>
      intro hj k hk t ht
      have hjs : j < ops.size := Nat.lt_of_lt_of_le (by omega) C.le
      have ho : ops[j]? = some ops[j] := Array.getElem?_eq_getElem hjs
      rw [(g1 j ops[j] (opK j (by omega) _ ho)).2]
      by_cases hkj : k = j
      · subst hkj
        unfold dstAt at ht
        rw [ho] at ht
        exact lookC_ext_eq ht
      · rw [lookC_ext_ne]
        · exact ih (by omega) k (by omega) t ht
        · intro e
          exact C.nd k j t hkj ht (by unfold dstAt; rw [ho]; exact e)
  have look_ge : ∀ j, j ≤ K → ∀ t, (∀ k, k < j → dstAt ops k ≠ some t) → lookC (Γs j) t = (look E0 t).map .val := by
    intro j
    induction j with
    | zero => intro _ t _; rw [g0]; exact lookC_ctx0 E0 t
    | succ j ih =>
      intro hj t ht
      have hjs : j < ops.size := Nat.lt_of_lt_of_le (by omega) C.le
      have ho : ops[j]? = some ops[j] := Array.getElem?_eq_getElem hjs
      rw [(g1 j ops[j] (opK j (by omega) _ ho)).2, lookC_ext_ne]
      · exact ih (by omega) t fun k hk => ht k (by omega)
      · intro e
        exact ht j (by omega) (by unfold dstAt; rw [ho]; exact e)
  have stab : ∀ i, i < K → ∀ u w w', T w w' → (Fs i).ok u w → (Fs i).ok u w' := by
    intro i hi u w w' hT hok
    have his : i < ops.size := Nat.lt_of_lt_of_le hi C.le
    rcases (g1 i _ (opK i hi _ (Array.getElem?_eq_getElem his))).1 with ⟨_, h⟩ | ⟨_, h⟩
    · exact h.1 u w w' hT hok
    · exact h.2.1 u w w' hok
  let Inv : (Nat → Bool) → Act → World → Prop := fun D a w =>
    a.tmps.size = n ∧ a.defers = [] ∧ (∀ j o, ops[j]? = some o → D j = true → ∀ k ∈ aft o, D k = true) ∧
    (∀ t v, look E0 t = some v → (∀ j, D j = true → dstAt ops j ≠ some t) → a.tmps.getD t undef = v) ∧
    (∀ i, i < K → D i = true → ∀ d, dstAt ops i = some d → ∃ w1, (Fs i).ok (a.tmps.getD d undef) w1) ∧
    ∃ m, K + m ≤ ops.size ∧ (∀ j, K ≤ j → j < ops.size → (D j = true ↔ j < K + m)) ∧
      ((m = 0 ∧ J w ∧ (∀ i, i < K → D i = true → ∀ d, dstAt ops i = some d → (Fs i).ok (a.tmps.getD d undef) w) ∧
        ∀ i d, i ∈ al → D i = true → dstAt ops i = some d → (∃ r, a.tmps.getD d undef = .pointer (some ⟨r, 0, none⟩) ∧ r < w.heap.size) ∧ ∀ j d', j ∈ al → j ≠ i → D j = true → dstAt ops j = some d' → a.tmps.getD d undef ≠ a.tmps.getD d' undef) ∨
       (m ≠ 0 ∧ As m a w ∧ ∀ i, i < K → lateB ops K i = false → D i = true))
  refine region_master (I := Inv) hm C.lt ?_ ?_ ?_
  ·
    intro D a w i hi hDi haft hI
    obtain ⟨hs, hd, hclo, hlive, hweak, m, hmle, htl, hph⟩ := hI
    have ho : ops[i]? = some ops[i] := Array.getElem?_eq_getElem hi
    have haft := haft _ ho
    have hdi : dstAt ops i = ops[i].dst := by unfold dstAt; rw [ho]; rfl
    have hclo' : ∀ j o, ops[j]? = some o → (j == i || D j) = true → ∀ k ∈ aft o, (k == i || D k) = true := by
      intro j o hj hDj k hk
      by_cases hji : j = i
      · subst hji
        rw [ho] at hj
        injection hj with hj
        subst hj
        simp [haft k hk]
      · have : D j = true := by simpa [hji] using hDj
        simp [hclo j o hj this k hk]

    have hread : ∀ t, t ∈ ops[i].looksAt ops → ∀ j, dstAt ops j = some t → ¬ (j < i ∧ j ∈ aft ops[i]) → D j = false := by
      intro t ht j hj hn
      rcases C.rd i _ j t ho ht hj with e | e | ⟨e, o', ho', e'⟩
      · subst e; exact hDi
      · exact absurd e hn
      · cases hDj : D j with
        | false => rfl
        | true =>
          have := hclo j o' ho' hDj i e'
          rw [hDi] at this
          exact absurd this (by simp)
    have hlive' : ∀ v' : Value, ∀ t v, look E0 t = some v → (∀ j, (j == i || D j) = true → dstAt ops j ≠ some t) → (a.put ops[i].dst v').tmps.getD t undef = v := by
      intro v' t v hv hn
      have h1 := hn i (by simp)
      rw [hdi] at h1
      rw [getD_put_ne h1]
      exact hlive t v hv fun j hj => hn j (by simp [hj])
    have hput : ∀ (v' : Value) k d, k ≠ i → dstAt ops k = some d → (a.put ops[i].dst v').tmps.getD d undef = a.tmps.getD d undef := by
      intro v' k d hk hd
      refine getD_put_ne fun e => ?_
      exact C.nd k i d hk hd (by rw [hdi]; exact e)
    have hput' : ∀ (v' : Value) d, dstAt ops i = some d → (a.put ops[i].dst v').tmps.getD d undef = v' := by
      intro v' d hd
      rw [hdi] at hd
      rw [hd]
      exact getD_put_eq (by rw [hs]; exact C.dn i _ d ho hd)
    have hg : wpOp P ops Q i (Inv fun j => j == i || D j) a w = (if Region.wanted ops[i] (yielded ops a.tmps) then ops[i].wp P a w (Inv fun j => j == i || D j) Q ∨ (ops[i].asks P a w ∧ LetsOut Q) else (Inv fun j => j == i || D j) (a.put ops[i].dst undef) w) := by
      unfold wpOp
      rw [ho]
    rw [hg]
    by_cases hiK : i < K
    ·
      have hob := (g1 i _ (opK i hiK _ ho)).1
      rw [Nat.zero_add] at hob

      have hops : ∀ t ∈ ops[i].looksAt ops, ∀ e, lookC (Γs i) t = some e → (∃ k, k < K ∧ D k = true ∧ dstAt ops k = some t ∧ e = Fs k) ∨ (∃ v, e = .val v ∧ a.tmps.getD t undef = v) := by
        intro t ht e he
        by_cases hk : ∃ k, k < i ∧ dstAt ops k = some t
        · obtain ⟨k, hk, hkd⟩ := hk
          left
          rw [look_lt i (by omega) k hk t hkd] at he
          injection he with he
          refine ⟨k, by omega, ?_, hkd, he.symm⟩
          rcases C.rd i _ k t ho ht hkd with e | e | e
          · omega
          · exact haft k e.2
          · omega
        · have hk' : ∀ k, k < i → dstAt ops k ≠ some t := fun k hki hkd => hk ⟨k, hki, hkd⟩
          rw [look_ge i (by omega) t hk'] at he
          cases hv : look E0 t with
          | none => rw [hv] at he; simp at he
          | some v =>
            rw [hv] at he
            simp at he
            right
            refine ⟨v, he.symm, hlive t v hv fun j hj hjd => ?_⟩
            have := hread t ht j hjd (fun hh => hk' j hh.1 hjd)
            rw [hj] at this
            exact absurd this (by simp)
      have htl' : ∀ j, K ≤ j → j < ops.size → ((j == i || D j) = true ↔ j < K + m) := by
        intro j h1 h2
        have : j ≠ i := by omega
        simp only [show (j == i) = false from by simpa using this, Bool.false_or]
        exact htl j h1 h2
      rcases hob with ⟨hl, hE⟩ | ⟨hl, hL⟩
      ·
        rcases hph with ⟨rfl, hJ, hz, hz2⟩ | ⟨hm0, _, hall⟩
        · have hob := hE.2 a w hs hd hJ (fun t ht e he => by
            rcases hops t ht e he with ⟨k, hk, hDk, hkd, rfl⟩ | ⟨v, rfl, hv⟩
            · exact hz k hk hDk t hkd
            · exact hv)
          have fin : ∀ v w', T w w' → J w' → (Fs i).ok v w' → (i ∈ al → v = .pointer (some ⟨w.heap.size, 0, none⟩) ∧ w'.heap.size = w.heap.size + 1) → Inv (fun j => j == i || D j) (a.put ops[i].dst v) w' := by
            intro v w' hT hJ' hF hv
            refine ⟨by rw [size_put, hs], by rw [defers_put, hd], hclo', hlive' v, ?_, 0, hmle, htl', .inl ⟨rfl, hJ', ?_, ?_⟩⟩
            · intro k hk hDk d hdk
              by_cases hki : k = i
              · subst hki
                exact ⟨w', by rw [hput' v d hdk]; exact hF⟩
              · rw [hput v k d hki hdk]
                exact hweak k hk (by simpa [hki] using hDk) d hdk
            · intro k hk hDk d hdk
              by_cases hki : k = i
              · subst hki
                rw [hput' v d hdk]; exact hF
              · rw [hput v k d hki hdk]
                exact stab k hk _ w w' hT (hz k hk (by simpa [hki] using hDk) d hdk)
            · intro k d hk hDk hdk
              have hsz := hTs w w' hT
              by_cases hki : k = i
              · subst hki
                obtain ⟨hv1, hv2⟩ := hv hk
                rw [hput' v d hdk]
                subst hv1
                refine ⟨⟨_, rfl, by omega⟩, fun j d' hj hjk hDj hdj => ?_⟩
                rw [hput _ j d' hjk hdj]
                obtain ⟨⟨r, hr, hrl⟩, _⟩ := hz2 j d' hj (by simpa [hjk] using hDj) hdj
                rw [hr]
                intro e
                simp only [Value.pointer.injEq, Option.some.injEq, Addr.mk.injEq, and_true] at e
                omega
              · rw [hput v k d hki hdk]
                obtain ⟨⟨r, hr, hrl⟩, hne⟩ := hz2 k d hk (by simpa [hki] using hDk) hdk
                refine ⟨⟨r, hr, by omega⟩, fun j d' hj hjk hDj hdj => ?_⟩
                by_cases hji : j = i
                · subst hji
                  obtain ⟨hv1, hv2⟩ := hv hj
                  rw [hput' v d' hdj, hv1, hr]
                  intro e
                  simp only [Value.pointer.injEq, Option.some.injEq, Addr.mk.injEq, and_true] at e
                  omega
                · rw [hput v j d' hji hdj]
                  exact hne j d' hj hjk (by simpa [hji] using hDj) hdj
          split
          · rename_i hw
            rw [if_pos hw] at hob
            by_cases hia : i ∈ al
            · obtain ⟨_, _, h3⟩ := hal i hia
              obtain ⟨_, ⟨d, hdd⟩, h5⟩ := h3 _ ho
              obtain ⟨w', h6, h7⟩ := h5 a.eval w
              unfold Oper.wp at hob
              rw [h6, Oper.upon_value] at hob
              obtain ⟨v, e, hT, hJ', hF⟩ := hob
              refine .inl ?_
              unfold Oper.wp
              rw [h6, Oper.upon_value]
              rw [hdd] at e
              have hdlt := C.dn i _ d ho hdd
              have e2 := congrArg (fun a : Act => a.tmps.getD d undef) e
              rw [getD_put_eq (by rw [hs]; exact hdlt), getD_put_eq (by rw [hs]; exact hdlt)] at e2
              rw [e2]
              exact fin v w' hT hJ' hF fun _ => ⟨e2.symm, h7⟩
            · refine .inl (Oper.wp_mono ?_ hob)
              rintro a' w' ⟨v, rfl, hT, hJ', hF⟩
              exact fin v w' hT hJ' hF fun h => absurd h hia
          · rename_i hw
            rw [if_neg hw] at hob
            refine fin undef w (hrefl w) hJ hob fun h => ?_
            obtain ⟨_, _, h3⟩ := hal i h
            exact absurd (show Region.wanted ops[i] (yielded ops a.tmps) = true by simp [Region.wanted, (h3 _ ho).1]) hw
        · have := hall i hiK hl
          rw [hDi] at this
          exact absurd this (by simp)
      ·
        obtain ⟨hgd, hst, hrun⟩ := hL
        obtain ⟨v, hrun, hF⟩ := hrun a w hs (fun t ht e he => by
          rcases hops t ht e he with ⟨k, hk, hDk, hkd, rfl⟩ | ⟨v, rfl, hv⟩
          · exact hweak k hk hDk t hkd
          · exact ⟨w, hv⟩)
        have hw : Region.wanted ops[i] (yielded ops a.tmps) = true := by simp [Region.wanted, hgd]
        rw [if_pos hw]
        left
        unfold Oper.wp
        rw [hrun]
        show Inv (fun j => j == i || D j) (a.put ops[i].dst v) w
        have hsl : ∀ d, ops[i].dst = some d → d ∈ lateSl ops K := by
          intro d hd
          unfold lateSl
          exact List.mem_filterMap.2 ⟨i, List.mem_filter.2 ⟨by simpa using hiK, hl⟩, by rw [hdi]; exact hd⟩
        refine ⟨by rw [size_put, hs], by rw [defers_put, hd], hclo', hlive' v, ?_, m, hmle, htl', ?_⟩
        · intro k hk hDk d hdk
          by_cases hki : k = i
          · subst hki
            exact ⟨w, by rw [hput' v d hdk]; exact hF⟩
          · rw [hput v k d hki hdk]
            exact hweak k hk (by simpa [hki] using hDk) d hdk
        · rcases hph with ⟨rfl, hJ, hz, hz2⟩ | ⟨hm0, hA, hall⟩
          · refine .inl ⟨rfl, hJ, ?_, ?_⟩
            · intro k hk hDk d hdk
              by_cases hki : k = i
              · subst hki
                rw [hput' v d hdk]; exact hF
              · rw [hput v k d hki hdk]
                exact hz k hk (by simpa [hki] using hDk) d hdk
            · have hia : ∀ k, k ∈ al → k ≠ i := fun k hk e => by
                have := (hal k hk).2.1
                rw [e, hl] at this
                exact absurd this (by simp)
              intro k d hk hDk hdk
              rw [hput v k d (hia k hk) hdk]
              obtain ⟨h1, h2⟩ := hz2 k d hk (by simpa [hia k hk] using hDk) hdk
              refine ⟨h1, fun j d' hj hjk hDj hdj => ?_⟩
              rw [hput v j d' (hia j hj) hdj]
              exact h2 j d' hj hjk (by simpa [hia j hj] using hDj) hdj
          · refine .inr ⟨hm0, ?_, ?_⟩
            · have hcl : Closed (lateSl ops K) (As m) := by
                cases m with
                | zero => exact absurd rfl hm0
                | succ m =>
                  have hms : K + m < ops.size := by omega
                  exact (a1 m _ (opT m _ (Array.getElem?_eq_getElem hms))).1
              cases hdst : ops[i].dst with
              | none => exact hA
              | some d => exact hcl a w d v (hsl d hdst) hA
            · intro k hk hlk
              simp [hall k hk hlk]
    ·
      have hiK' : K ≤ i := by omega
      have him : i = K + m := by
        have h1 : ¬ i < K + m := fun h => by
          have := (htl i hiK' hi).2 h
          rw [hDi] at this
          exact absurd this (by simp)
        rcases Nat.lt_or_ge (K + m) i with h | h
        · exfalso
          have h2 := C.tail i _ (K + m) ho hiK' (by omega) h
          have h3 := (htl (K + m) (by omega) (by omega)).1 (haft _ h2)
          omega
        · omega
      have hT := opT m _ (by rw [← him]; exact ho)
      have hall : ∀ k, k < K → lateB ops K k = false → D k = true := by
        intro k hk hl
        cases hct : reach ops 2 (aft ops[i]) k with
        | true => exact reach_ok hclo 2 _ k haft hct
        | false =>
          exfalso
          unfold lateB at hl
          have := List.any_eq_false.1 hl ops[i] (List.mem_of_getElem? hT)
          rw [hct] at this
          exact this rfl
      have hA : As m a w := by
        rcases hph with ⟨rfl, hJ, hz, hz2⟩ | ⟨hm0, hA, _⟩
        · rw [a0]
          refine hA0 a w hs hd hJ (fun t ht e he => ?_) fun i j di dj hi hj hij hdi hdj => (hz2 i di hi (hall i (hal i hi).1 (hal i hi).2.1) hdi).2 j dj hj (Ne.symm hij) (hall j (hal j hj).1 (hal j hj).2.1) hdj
          by_cases hk : ∃ k, k < K ∧ dstAt ops k = some t
          · obtain ⟨k, hk, hkd⟩ := hk
            rw [look_lt K (Nat.le_refl _) k hk t hkd] at he
            injection he with he
            subst he
            refine hz k hk (hall k hk ?_) t hkd
            cases hl : lateB ops K k with
            | false => rfl
            | true =>
              exfalso
              apply ht
              unfold lateSl
              exact List.mem_filterMap.2 ⟨k, List.mem_filter.2 ⟨by simpa using hk, hl⟩, hkd⟩
          · have hk' : ∀ k, k < K → dstAt ops k ≠ some t := fun k hki hkd => hk ⟨k, hki, hkd⟩
            rw [look_ge K (Nat.le_refl _) t hk'] at he
            cases hv : look E0 t with
            | none => rw [hv] at he; simp at he
            | some v =>
              rw [hv] at he
              simp at he
              subst he
              refine hlive t v hv fun j hj hjd => ?_
              by_cases hjK : j < K
              · exact hk' j hjK hjd
              · have hjs : j < ops.size := by
                  unfold dstAt at hjd
                  cases hjo : ops[j]? with
                  | none => rw [hjo] at hjd; simp at hjd
                  | some o => exact (Array.getElem?_eq_some_iff.1 hjo).1
                have := (htl j (by omega) hjs).1 hj
                omega
        · exact hA
      obtain ⟨hcl, hob⟩ := a1 m _ hT
      have hlate : ∀ t ∈ lateSl ops K, t ∈ ops[i].looksAt ops → ∀ e, lookC (Γs K) t = some e → ∃ w1, e.ok (a.tmps.getD t undef) w1 := ?late
      obtain ⟨hgd, hob⟩ := hob a w hs hd hA hlate
      have hw : Region.wanted ops[i] (yielded ops a.tmps) = true := by simp [Region.wanted, hgd]
      rw [if_pos hw]
      left
      refine Oper.wp_mono ?_ hob
      · rintro a' w' ⟨⟨v, rfl⟩, hA'⟩
        refine ⟨by rw [size_put, hs], by rw [defers_put, hd], hclo', hlive' v, ?_, m + 1, by omega, ?_, .inr ⟨by omega, hA', ?_⟩⟩
        · intro k hk hDk d hdk
          have hki : k ≠ i := by omega
          rw [hput v k d hki hdk]
          exact hweak k hk (by simpa [hki] using hDk) d hdk
        · intro j h1 h2
          by_cases hji : j = i
          · subst hji; simp; omega
          · simp only [show (j == i) = false from by simpa using hji, Bool.false_or]
            rw [htl j h1 h2]
            omega
        · intro k hk hlk
          simp [hall k hk hlk]
      case late =>

        intro t ht htr e he
        unfold lateSl at ht
        obtain ⟨k, hk, hkd⟩ := List.mem_filterMap.1 ht
        obtain ⟨hk1, hk2⟩ := List.mem_filter.1 hk
        have hkK : k < K := by simpa using hk1
        have hlk := look_lt K (Nat.le_refl _) k hkK t hkd
        have he' : lookC (Γs K) t = some e := he
        rw [hlk] at he'
        injection he' with he'
        subst he'
        refine hweak k hkK ?_ t hkd
        rcases C.rd i _ k t ho htr hkd with e | e | e
        · omega
        · exact haft k e.2
        · omega
  ·
    intro D a w hall hI
    obtain ⟨hs, hd, hclo, hlive, hweak, m, hmle, htl, hph⟩ := hI
    have hm' : K + m = ops.size := by
      rcases Nat.lt_or_ge (K + m) ops.size with h | h
      · have := (htl (K + m) (by omega) h).1 (hall _ h)
        omega
      · omega
    have hA : As m a w := by
      rcases hph with ⟨rfl, hJ, hz, hz2⟩ | ⟨hm0, hA, _⟩
      · rw [a0]
        refine hA0 a w hs hd hJ (fun t ht e he => ?_) fun i j di dj hi hj hij hdi hdj => (hz2 i di hi (hall i (Nat.lt_of_lt_of_le (hal i hi).1 C.le)) hdi).2 j dj hj (Ne.symm hij) (hall j (Nat.lt_of_lt_of_le (hal j hj).1 C.le)) hdj
        by_cases hk : ∃ k, k < K ∧ dstAt ops k = some t
        · obtain ⟨k, hk, hkd⟩ := hk
          rw [look_lt K (Nat.le_refl _) k hk t hkd] at he
          injection he with he
          subst he
          exact hz k hk (hall k (by omega)) t hkd
        · have hk' : ∀ k, k < K → dstAt ops k ≠ some t := fun k hki hkd => hk ⟨k, hki, hkd⟩
          rw [look_ge K (Nat.le_refl _) t hk'] at he
          cases hv : look E0 t with
          | none => rw [hv] at he; simp at he
          | some v =>
            rw [hv] at he
            simp at he
            subst he
            refine hlive t v hv fun j hj hjd => ?_
            have hjs : j < ops.size := by
              unfold dstAt at hjd
              cases hjo : ops[j]? with
              | none => rw [hjo] at hjd; simp at hjd
              | some o => exact (Array.getElem?_eq_some_iff.1 hjo).1
            exact hk' j (by omega) hjd
      · exact hA
    refine aend a w hs hd ?_ fun t ht e he => ?_
    · rw [hlen2, show ops.size - K = m by omega]; exact hA
    · unfold lateSl at ht
      obtain ⟨k, hk, hkd⟩ := List.mem_filterMap.1 ht
      obtain ⟨hk1, hk2⟩ := List.mem_filter.1 hk
      have hkK : k < K := by simpa using hk1
      have hlk := look_lt K (Nat.le_refl _) k hkK t hkd
      have he' : lookC (Γs K) t = some e := he
      rw [hlk] at he'
      injection he' with he'
      subst he'
      exact hweak k hkK (hall k (by omega)) t hkd
  ·
    intro m
    refine ⟨hs, hd, ?_, ?_, ?_, 0, by have := C.le; omega, ?_, .inl ⟨rfl, hJ m, ?_, ?_⟩⟩
    · intro j o _ h; simp at h
    · intro t v hv _; exact hE t v hv
    · intro i _ h; simp at h
    · intro j h1 h2; simp; omega
    · intro i _ h; simp at h
    · intro i d _ h; simp at h
end
end Go.Qk
end
section
namespace Go.Qk
open Go
section
variable {P : Program} {t : TypeId}
theorem w64 {z : Int} (h0 : -9223372036854775808 ≤ z) (h1 : z < 9223372036854775808) : IntKind.i64.wrap z = z := by rw [IntKind.wrap_i64]; omega
theorem wu64 {z : Int} : IntKind.u64.wrap z = z % 18446744073709551616 := by simp [IntKind.wrap, IntKind.signed, IntKind.bits]
theorem wu32 {z : Int} : IntKind.u32.wrap z = z % 4294967296 := by simp [IntKind.wrap, IntKind.signed, IntKind.bits]
theorem wu8 {z : Int} : IntKind.u8.wrap z = z % 256 := by simp [IntKind.wrap, IntKind.signed, IntKind.bits]
theorem bin_add {k : IntKind} {a b : Int} (h : k.wrap (a + b) = a + b) : Bin P .add t (.int k a) (.int k b) (.int k (a + b)) := fun w => by
  simp [binOp, Op.intArith, h]
theorem bin_sub {k : IntKind} {a b : Int} (h : k.wrap (a - b) = a - b) : Bin P .sub t (.int k a) (.int k b) (.int k (a - b)) := fun w => by
  simp [binOp, Op.intArith, h]
theorem bin_mul {k : IntKind} {a b : Int} (h : k.wrap (a * b) = a * b) : Bin P .mul t (.int k a) (.int k b) (.int k (a * b)) := fun w => by
  simp [binOp, Op.intArith, h]
theorem bin_addI {a b : Int} (h0 : -9223372036854775808 ≤ a + b) (h1 : a + b < 9223372036854775808) : Bin P .add t (.int .i64 a) (.int .i64 b) (.int .i64 (a + b)) := bin_add (w64 h0 h1)
theorem bin_subI {a b : Int} (h0 : -9223372036854775808 ≤ a - b) (h1 : a - b < 9223372036854775808) : Bin P .sub t (.int .i64 a) (.int .i64 b) (.int .i64 (a - b)) := bin_sub (w64 h0 h1)
theorem bin_mulI {a b : Int} (h0 : -9223372036854775808 ≤ a * b) (h1 : a * b < 9223372036854775808) : Bin P .mul t (.int .i64 a) (.int .i64 b) (.int .i64 (a * b)) := bin_mul (w64 h0 h1)
/-- a difference of natural numbers -/
theorem bin_subN {a b : Nat} {b' : Int} (hb : b' = (b : Int)) (h : b ≤ a) (h1 : a < 9223372036854775808) : Bin P .sub t (.int .i64 (a : Int)) (.int .i64 b') (.int .i64 ((a - b : Nat) : Int)) := by
  subst hb
  have e : ((a - b : Nat) : Int) = (a : Int) - (b : Int) := by omega
  rw [e]
  exact bin_subI (by omega) (by omega)
theorem bin_addU {a b : Int} (h0 : 0 ≤ a + b) (h1 : a + b < 18446744073709551616) : Bin P .add t (.int .u64 a) (.int .u64 b) (.int .u64 (a + b)) := bin_add (by rw [wu64]; omega)
theorem bin_subU {a b : Int} (h0 : 0 ≤ a - b) (h1 : a - b < 18446744073709551616) : Bin P .sub t (.int .u64 a) (.int .u64 b) (.int .u64 (a - b)) := bin_sub (by rw [wu64]; omega)
theorem bin_subUw {a b : Int} : Bin P .sub t (.int .u64 a) (.int .u64 b) (.int .u64 ((a - b) % 18446744073709551616)) := fun w => by
  simp [binOp, Op.intArith, wu64]
theorem bin_mulU {a b : Int} (h0 : 0 ≤ a * b) (h1 : a * b < 18446744073709551616) : Bin P .mul t (.int .u64 a) (.int .u64 b) (.int .u64 (a * b)) := bin_mul (by rw [wu64]; exact Int.emod_eq_of_lt h0 h1)
theorem bin_addU32w {a b : Int} : Bin P .add t (.int .u32 a) (.int .u32 b) (.int .u32 ((a + b) % 4294967296)) := fun w => by
  simp [binOp, Op.intArith, wu32]
theorem bin_lss {k : IntKind} {a b : Int} : Bin P .lss t (.int k a) (.int k b) (.bool (decide (a < b))) := fun w => by simp [binOp, Op.intCmp]
theorem bin_leq {k : IntKind} {a b : Int} : Bin P .leq t (.int k a) (.int k b) (.bool (decide (a ≤ b))) := fun w => by simp [binOp, Op.intCmp]
theorem bin_gtr {k : IntKind} {a b : Int} : Bin P .gtr t (.int k a) (.int k b) (.bool (decide (b < a))) := fun w => by simp [binOp, Op.intCmp]
theorem bin_geq {k : IntKind} {a b : Int} : Bin P .geq t (.int k a) (.int k b) (.bool (decide (b ≤ a))) := fun w => by simp [binOp, Op.intCmp]
theorem bin_eql {k : IntKind} {a b : Int} : Bin P .eql t (.int k a) (.int k b) (.bool (decide (a = b))) := fun w => by
  simp [binOp, Op.intCmp]
  by_cases h : a = b <;> simp [h]
theorem bin_neq {k : IntKind} {a b : Int} : Bin P .neq t (.int k a) (.int k b) (.bool (decide (a ≠ b))) := fun w => by
  simp [binOp, Op.intCmp]
  by_cases h : a = b <;> simp [h, bne]
theorem bT {op : BinOp} {x y : Value} {p : Prop} [Decidable p] (h : Bin P op t x y (.bool (decide p))) (hp : p) : Bin P op t x y (.bool true) := by rwa [decide_eq_true hp] at h
theorem bF {op : BinOp} {x y : Value} {p : Prop} [Decidable p] (h : Bin P op t x y (.bool (decide p))) (hp : ¬ p) : Bin P op t x y (.bool false) := by rwa [decide_eq_false hp] at h
/-- shifts by a constant -/
theorem bin_shrU {a : Int} {k' : IntKind} (n : Nat) {y : Int} (hy : y = (n : Int)) (hn : n ≤ 64) (h0 : 0 ≤ a) : Bin P .shr t (.int .u64 a) (.int k' y) (.int .u64 (a / 2 ^ n)) := fun w => by
  subst hy
  have h1 : ¬ ((n : Int) < 0) := by omega
  have h2 : min n 64 = n := by omega
  have e : a.fdiv (2 ^ n) = a / 2 ^ n := by
    rw [Int.fdiv_eq_ediv_of_nonneg _ (Int.le_of_lt (Int.pow_pos (by decide)))]
  simp [binOp, Op.shift, h1, IntKind.bits, h2, e]
theorem bin_shrU32 {a : Int} {k' : IntKind} (n : Nat) {y : Int} (hy : y = (n : Int)) (hn : n ≤ 32) (h0 : 0 ≤ a) : Bin P .shr t (.int .u32 a) (.int k' y) (.int .u32 (a / 2 ^ n)) := fun w => by
  subst hy
  have h1 : ¬ ((n : Int) < 0) := by omega
  have h2 : min n 32 = n := by omega
  have e : a.fdiv (2 ^ n) = a / 2 ^ n := by
    rw [Int.fdiv_eq_ediv_of_nonneg _ (Int.le_of_lt (Int.pow_pos (by decide)))]
  simp [binOp, Op.shift, h1, IntKind.bits, h2, e]
theorem bin_shr32 {a : Int} {k' : IntKind} (h0 : 0 ≤ a) : Bin P .shr t (.int .u64 a) (.int k' 32) (.int .u64 (a / 4294967296)) := bin_shrU 32 rfl (by omega) h0
theorem bin_shr63 {a : Int} {k' : IntKind} (h0 : 0 ≤ a) : Bin P .shr t (.int .u64 a) (.int k' 63) (.int .u64 (a / 9223372036854775808)) := bin_shrU 63 rfl (by omega) h0
theorem bin_shlU {a : Int} {k' : IntKind} (n : Nat) {y : Int} (hy : y = (n : Int)) (hn : n ≤ 64) (h0 : 0 ≤ a * 2 ^ n) (h1 : a * 2 ^ n < 18446744073709551616) : Bin P .shl t (.int .u64 a) (.int k' y) (.int .u64 (a * 2 ^ n)) := fun w => by
  subst hy
  have h1' : ¬ ((n : Int) < 0) := by omega
  have h2 : min n 64 = n := by omega
  have e : IntKind.u64.wrap (a * 2 ^ n) = a * 2 ^ n := by rw [wu64]; exact Int.emod_eq_of_lt h0 h1
  simp [binOp, Op.shift, h1', IntKind.bits, h2, e]
theorem bin_quo {k : IntKind} {a b : Int} (hb : b ≠ 0) (h0 : 0 ≤ a) (h1 : 0 < b) (h : k.wrap (a / b) = a / b) : Bin P .quo t (.int k a) (.int k b) (.int k (a / b)) := fun w => by
  have e : a.tdiv b = a / b := Int.tdiv_eq_ediv_of_nonneg h0
  simp [binOp, Op.intDiv, hb, e, h]
theorem bin_rem {k : IntKind} {a b : Int} (hb : b ≠ 0) (h0 : 0 ≤ a) : Bin P .rem t (.int k a) (.int k b) (.int k (a % b)) := fun w => by
  have e : a.tmod b = a % b := Int.tmod_eq_emod_of_nonneg h0
  simp [binOp, Op.intDiv, hb, e]
theorem bin_quoU {a b : Int} (h0 : 0 ≤ a) (h1 : 0 < b) (h2 : a < 18446744073709551616) : Bin P .quo t (.int .u64 a) (.int .u64 b) (.int .u64 (a / b)) :=
  bin_quo (by omega) h0 h1 (by rw [wu64]; exact Int.emod_eq_of_lt (Int.ediv_nonneg h0 (by omega)) (Int.lt_of_le_of_lt (Int.ediv_le_self _ h0) h2))
theorem bin_remU {a b : Int} (h0 : 0 ≤ a) (h1 : 0 < b) : Bin P .rem t (.int .u64 a) (.int .u64 b) (.int .u64 (a % b)) := bin_rem (by omega) h0
/-- the lowest 32 bits -/
theorem bin_low {a : Int} (h0 : 0 ≤ a) (h1 : a < 18446744073709551616) : Bin P .and t (.int .u64 a) (.int .u64 4294967295) (.int .u64 (a % 4294967296)) := fun w => by
  obtain ⟨n, rfl⟩ := Int.eq_ofNat_of_zero_le h0
  have e : ((BitVec.ofInt 64 (n : Int)) &&& (BitVec.ofInt 64 4294967295)).toNat = n % 4294967296 := by
    rw [BitVec.toNat_and]
    have a1 : (BitVec.ofInt 64 (n : Int)).toNat = n := by simp; omega
    have a2 : (BitVec.ofInt 64 4294967295).toNat = 2 ^ 32 - 1 := by decide
    rw [a1, a2, Nat.and_two_pow_sub_one_eq_mod]
  have e2 : IntKind.u64.wrap ((n % 4294967296 : Nat) : Int) = (n : Int) % 4294967296 := by rw [wu64]; omega
  change Result.ok (Value.int .u64 (IntKind.u64.wrap ((((BitVec.ofInt 64 (n : Int)) &&& (BitVec.ofInt 64 4294967295)).toNat : Nat) : Int))) w = _
  rw [e, e2]
/-- a high part and a low part -/
theorem bin_join {a b : Int} (h0 : 0 ≤ a) (h1 : a < 4294967296) (h2 : 0 ≤ b) (h3 : b < 4294967296) : Bin P .or t (.int .u64 (a * 2 ^ 32)) (.int .u64 b) (.int .u64 (a * 2 ^ 32 + b)) := fun w => by
  obtain ⟨m, rfl⟩ := Int.eq_ofNat_of_zero_le h0
  obtain ⟨n, rfl⟩ := Int.eq_ofNat_of_zero_le h2
  have e : ((BitVec.ofInt 64 ((m : Int) * 2 ^ 32)) ||| (BitVec.ofInt 64 (n : Int))).toNat = m * 2 ^ 32 + n := by
    rw [BitVec.toNat_or]
    have a1 : (BitVec.ofInt 64 ((m : Int) * 2 ^ 32)).toNat = m * 2 ^ 32 := by
      have : ((m : Int) * 2 ^ 32) = ((m * 2 ^ 32 : Nat) : Int) := by simp
      rw [this, BitVec.ofInt_natCast]
      simp
      omega
    have a2 : (BitVec.ofInt 64 (n : Int)).toNat = n := by simp; omega
    rw [a1, a2, Nat.mul_comm, ← Nat.two_pow_add_eq_or_of_lt (by omega)]
  have e2 : IntKind.u64.wrap ((m * 2 ^ 32 + n : Nat) : Int) = (m : Int) * 2 ^ 32 + n := by rw [wu64]; simp; omega
  change Result.ok (Value.int .u64 (IntKind.u64.wrap ((((BitVec.ofInt 64 ((m : Int) * 2 ^ 32)) ||| (BitVec.ofInt 64 (n : Int))).toNat : Nat) : Int))) w = _
  rw [e, e2]
theorem bin_orN {a b : Nat} (ha : a < 4294967296) (hb : b < 4294967296) : Bin P .or t (.int .u32 (a : Int)) (.int .u32 (b : Int)) (.int .u32 ((a ||| b : Nat) : Int)) := fun w => by
  have e : ((BitVec.ofInt 32 (a : Int)) ||| (BitVec.ofInt 32 (b : Int))).toNat = a ||| b := by
    rw [BitVec.toNat_or]
    have a1 : (BitVec.ofInt 32 (a : Int)).toNat = a := by simp; omega
    have a2 : (BitVec.ofInt 32 (b : Int)).toNat = b := by simp; omega
    rw [a1, a2]
  have h1 : a ||| b < 2 ^ 32 := Nat.or_lt_two_pow (by omega) (by omega)
  have e2 : IntKind.u32.wrap ((a ||| b : Nat) : Int) = ((a ||| b : Nat) : Int) := by rw [wu32]; omega
  change Result.ok (Value.int .u32 (IntKind.u32.wrap ((((BitVec.ofInt 32 (a : Int)) ||| (BitVec.ofInt 32 (b : Int))).toNat : Nat) : Int))) w = _
  rw [e, e2]
section
variable {J : World → Prop} {lk : Nat → Option Value} {ty : TypeId}
theorem qt_to64 {x : Operand} {src dst : TypeId} {k : IntKind} {a : Int} [hs : InT P src k] [hd : InT P dst .u64] (h : ev lk x = some (.int k a)) (h0 : 0 ≤ a) (h1 : a < 18446744073709551616) : Qt P J lk (.convert src dst x) ty (.int .u64 a) := by
  have := qt_conv (J := J) (ty := ty) hs.u hd.u h
  rwa [wu64, Int.emod_eq_of_lt h0 h1] at this
theorem qt_to32 {x : Operand} {src dst : TypeId} {k : IntKind} {a : Int} [hs : InT P src k] [hd : InT P dst .u32] (h : ev lk x = some (.int k a)) : Qt P J lk (.convert src dst x) ty (.int .u32 (a % 4294967296)) := by
  have := qt_conv (J := J) (ty := ty) hs.u hd.u h
  rwa [wu32] at this
theorem qt_to8 {x : Operand} {src dst : TypeId} {k : IntKind} {a : Int} [hs : InT P src k] [hd : InT P dst .u8] (h : ev lk x = some (.int k a)) (h0 : 0 ≤ a) (h1 : a < 256) : Qt P J lk (.convert src dst x) ty (.int .u8 a) := by
  have := qt_conv (J := J) (ty := ty) hs.u hd.u h
  rwa [wu8, Int.emod_eq_of_lt h0 h1] at this
theorem qt_indexStr {t : TypeId} (ht : P.underlying t = some .string) {x ix : Operand} {s : ByteArray} {k : IntKind} {i : Nat} {b : UInt8} (hx : ev lk x = some (.string s)) (hi : ev lk ix = some (.int k (i : Int))) (hb : s[i]? = some b) : Qt P J lk (.index t x ix) ty (.int .u8 (b.toNat : Int)) := fun ρ w hρ _ d pos af g => by
  simp only [execOp]; rw [hρ x _ hx, hρ ix _ hi]
  simp [Instr.index, asIntOf, run_underlying ht, hb]
theorem qt_toI {x : Operand} {src dst : TypeId} {k : IntKind} {a : Int} [hs : InT P src k] [hd : InT P dst .i64] (h : ev lk x = some (.int k a)) (h0 : -9223372036854775808 ≤ a) (h1 : a < 9223372036854775808) : Qt P J lk (.convert src dst x) ty (.int .i64 a) := by
  have := qt_conv (J := J) (ty := ty) hs.u hd.u h
  rwa [w64 h0 h1] at this
end
end
end Go.Qk
end
section
namespace Go.Qk
/-- the number that a list of limbs denotes -/
def val : List Nat → Nat
  | [] => 0
  | x :: xs => x + 4294967296 * val xs
def lim (xs : List Nat) : Prop := ∀ x ∈ xs, x < 4294967296
/-- without zeros at the end -/
def trimL : List Nat → List Nat
  | [] => []
  | x :: xs => match trimL xs with
    | [] => if x = 0 then [] else [x]
    | y :: ys => x :: y :: ys
def limbsOf (n : Nat) : List Nat := if h : n = 0 then [] else n % 4294967296 :: limbsOf (n / 4294967296)
termination_by n
decreasing_by omega
theorem limbsOf_zero : limbsOf 0 = [] := by unfold limbsOf; simp
theorem limbsOf_pos {n : Nat} (h : n ≠ 0) : limbsOf n = n % 4294967296 :: limbsOf (n / 4294967296) := by rw [limbsOf, dif_neg h]
theorem val_limbsOf (n : Nat) : val (limbsOf n) = n := by
  induction n using Nat.strongRecOn with
  | _ n ih =>
    by_cases h : n = 0
    · subst h; rw [limbsOf_zero]; rfl
    · rw [limbsOf_pos h, val, ih _ (by omega)]; omega
theorem lim_limbsOf (n : Nat) : lim (limbsOf n) := by
  induction n using Nat.strongRecOn with
  | _ n ih =>
    by_cases h : n = 0
    · subst h; rw [limbsOf_zero]; intro x hx; simp at hx
    · rw [limbsOf_pos h]
      intro x hx
      rcases List.mem_cons.1 hx with rfl | hx
      · omega
      · exact ih _ (by omega) x hx
theorem lim_cons {x : Nat} {xs : List Nat} : lim (x :: xs) ↔ x < 4294967296 ∧ lim xs := by simp [lim]
theorem lim_append {xs ys : List Nat} : lim (xs ++ ys) ↔ lim xs ∧ lim ys := by
  simp only [lim, List.mem_append]
  exact ⟨fun h => ⟨fun x hx => h x (.inl hx), fun x hx => h x (.inr hx)⟩, fun h x hx => hx.elim (h.1 x) (h.2 x)⟩
theorem trimL_val (xs : List Nat) : val (trimL xs) = val xs := by
  induction xs with
  | nil => rfl
  | cons x xs ih =>
    simp only [trimL]
    split
    · rename_i h
      rw [h] at ih
      by_cases hx : x = 0
      · simp only [hx, if_true, val]; simp [val] at ih; omega
      · simp only [hx, if_false, val]; simp [val] at ih; omega
    · rename_i y ys h
      rw [h] at ih
      simp only [val] at ih ⊢
      omega
theorem trimL_limbsOf {xs : List Nat} (h : lim xs) : trimL xs = limbsOf (val xs) := by
  induction xs with
  | nil => simp [trimL, val, limbsOf_zero]
  | cons x xs ih =>
    obtain ⟨hx, hxs⟩ := lim_cons.1 h
    have ih := ih hxs
    simp only [trimL, val]
    by_cases h0 : val xs = 0
    · rw [ih, h0, limbsOf_zero]
      by_cases hx0 : x = 0
      · simp [hx0, limbsOf_zero]
      · simp only [hx0, if_false]
        rw [limbsOf_pos (by omega)]
        simp only [Nat.mul_zero, Nat.add_zero]
        rw [Nat.mod_eq_of_lt hx, show x / 4294967296 = 0 by omega, limbsOf_zero]
    · rw [limbsOf_pos (by omega), show (x + 4294967296 * val xs) % 4294967296 = x by omega, show (x + 4294967296 * val xs) / 4294967296 = val xs by omega, ← ih]
      split
      · rename_i h
        rw [ih] at h
        have := congrArg val h
        rw [val_limbsOf] at this
        exact absurd this h0
      · rename_i y ys h
        rw [h]
theorem trimL_length (xs : List Nat) : (trimL xs).length ≤ xs.length := by
  induction xs with
  | nil => simp [trimL]
  | cons x xs ih =>
    simp only [trimL]
    split
    · split <;> simp
    · rename_i y ys h
      rw [h] at ih
      simp at ih ⊢
      omega
theorem trimL_take (xs : List Nat) : xs.take (trimL xs).length = trimL xs := by
  induction xs with
  | nil => simp [trimL]
  | cons x xs ih =>
    simp only [trimL]
    split
    · split <;> simp
    · rename_i y ys h
      rw [h] at ih
      simp at ih ⊢
      exact ih
/-- the last limb, if it is 0, falls away -/
theorem trimL_concat0 (xs : List Nat) : trimL (xs ++ [0]) = trimL xs := by
  induction xs with
  | nil => simp [trimL]
  | cons x xs ih => simp only [List.cons_append, trimL, ih]
theorem trimL_concat {xs : List Nat} {x : Nat} (h : x ≠ 0) : trimL (xs ++ [x]) = xs ++ [x] := by
  induction xs with
  | nil => simp [trimL, h]
  | cons y xs ih =>
    simp only [List.cons_append, trimL, ih]
    split
    · rename_i hh
      simp at hh
    · rename_i hh
      rw [hh]
theorem trimL_of_take {xs : List Nat} {k : Nat} (hk : k ≤ xs.length) (hz : ∀ i (h : i < xs.length), k ≤ i → xs[i] = 0) : trimL xs = trimL (xs.take k) := by
  obtain ⟨d, hd⟩ : ∃ d, xs.length = k + d := ⟨xs.length - k, by omega⟩
  induction d generalizing xs with
  | zero => rw [List.take_of_length_le (by omega)]
  | succ d ih =>
    have hne : xs ≠ [] := by intro e; subst e; simp at hd
    have e : xs = xs.dropLast ++ [xs.getLast hne] := (List.dropLast_concat_getLast hne).symm
    have hl : xs.getLast hne = 0 := by
      rw [List.getLast_eq_getElem]
      exact hz _ _ (by omega)
    have hlen : xs.dropLast.length = k + d := by simp; omega
    have := ih (xs := xs.dropLast) (by omega) (fun i h hi => by
      rw [List.getElem_dropLast]
      exact hz i _ hi) hlen
    rw [e, hl, trimL_concat0, this]
    congr 1
    rw [List.take_append_of_le_length (by omega)]
/-- trimmed -/
def canon (xs : List Nat) : Prop := trimL xs = xs
theorem canon_limbsOf (n : Nat) : canon (limbsOf n) := by
  unfold canon
  rw [trimL_limbsOf (lim_limbsOf n), val_limbsOf]
theorem val_append (xs ys : List Nat) : val (xs ++ ys) = val xs + 4294967296 ^ xs.length * val ys := by
  induction xs with
  | nil => simp [val]
  | cons x xs ih =>
    simp only [List.cons_append, val, ih, List.length_cons, Nat.pow_succ]
    rw [Nat.mul_add, Nat.mul_comm (4294967296 ^ xs.length) 4294967296, Nat.mul_assoc]
    omega
theorem val_lt {xs : List Nat} (h : lim xs) : val xs < 4294967296 ^ xs.length := by
  induction xs with
  | nil => simp [val]
  | cons x xs ih =>
    obtain ⟨hx, hxs⟩ := lim_cons.1 h
    have := ih hxs
    simp only [val, List.length_cons, Nat.pow_succ]
    omega
theorem lim_take {xs : List Nat} (h : lim xs) (k : Nat) : lim (xs.take k) := fun x hx => h x (List.mem_of_mem_take hx)
theorem val_take_succ {xs : List Nat} {k : Nat} (h : k < xs.length) : val (xs.take (k + 1)) = val (xs.take k) + 4294967296 ^ k * xs[k] := by
  rw [List.take_succ_eq_append_getElem h, val_append]
  simp [val]
  congr 2
  omega
theorem val_replicate (k : Nat) : val (List.replicate k 0) = 0 := by
  induction k with
  | zero => rfl
  | succ k ih => simp [List.replicate_succ, val, ih]
theorem canon_last {xs : List Nat} (h : canon xs) (hne : xs ≠ []) : xs.getLast hne ≠ 0 := by
  intro h0
  have e : xs = xs.dropLast ++ [xs.getLast hne] := (List.dropLast_concat_getLast hne).symm
  have h1 := h
  unfold canon at h1
  rw [e, h0, trimL_concat0] at h1
  have h2 := trimL_length xs.dropLast
  have h3 := congrArg List.length h1
  simp at h3
  have : xs.length ≠ 0 := by intro hh; exact hne (List.eq_nil_of_length_eq_zero hh)
  simp at h2
  omega
theorem canon_eq {xs : List Nat} (h : canon xs) (hl : lim xs) : xs = limbsOf (val xs) := by rw [← trimL_limbsOf hl]; exact h.symm
theorem val_ge {xs : List Nat} (h : canon xs) (hne : xs ≠ []) : 4294967296 ^ (xs.length - 1) ≤ val xs := by
  have e : xs = xs.dropLast ++ [xs.getLast hne] := (List.dropLast_concat_getLast hne).symm
  have h0 := canon_last h hne
  rw [e, val_append]
  simp only [val, List.length_append, List.length_singleton, List.length_dropLast, Nat.add_sub_cancel, Nat.mul_zero, Nat.add_zero]
  have := Nat.le_mul_of_pos_right (4294967296 ^ (xs.length - 1)) (show 0 < xs.getLast hne by omega)
  omega
theorem val_lt_of_length {xs ys : List Nat} (hx : lim xs) (hy : canon ys) (h : xs.length < ys.length) : val xs < val ys := by
  have h1 := val_lt hx
  have hne : ys ≠ [] := by intro e; subst e; simp at h
  have h2 := val_ge hy hne
  have : 4294967296 ^ xs.length ≤ 4294967296 ^ (ys.length - 1) := Nat.pow_le_pow_right (by decide) (by omega)
  omega
theorem val_split (xs : List Nat) (k : Nat) (h : k < xs.length) : val xs = val (xs.take k) + 4294967296 ^ k * (xs[k] + 4294967296 * val (xs.drop (k + 1))) := by
  have e : xs = xs.take k ++ (xs[k] :: xs.drop (k + 1)) := by rw [List.getElem_cons_drop, List.take_append_drop]
  have hl : (xs.take k).length = k := by simp; omega
  have h2 := val_append (xs.take k) (xs[k] :: xs.drop (k + 1))
  rw [← e, hl] at h2
  simpa [val] using h2
theorem val_lt_of_at {xs ys : List Nat} {k : Nat} (hx : lim xs) (hkx : k < xs.length) (hky : k < ys.length) (hd : xs.drop (k + 1) = ys.drop (k + 1)) (hlt : xs[k] < ys[k]) : val xs < val ys := by
  rw [val_split xs k hkx, val_split ys k hky, hd]
  have h1 := val_lt (lim_take hx k)
  have hl : (xs.take k).length = k := by simp; omega
  rw [hl] at h1
  have : 4294967296 ^ k * (xs[k] + 4294967296 * val (ys.drop (k + 1)) + 1) ≤ 4294967296 ^ k * (ys[k] + 4294967296 * val (ys.drop (k + 1))) := Nat.mul_le_mul_left _ (by omega)
  rw [Nat.mul_add _ _ 1] at this
  omega
/-- -1, 0 or 1 -/
def cmp3 (a b : Nat) : Int := if a < b then -1 else if a = b then 0 else 1
theorem val_take_getD (xs : List Nat) (i : Nat) : val (xs.take (i + 1)) = val (xs.take i) + 4294967296 ^ i * xs.getD i 0 := by
  by_cases h : i < xs.length
  · rw [val_take_succ h, List.getD_eq_getElem?_getD, List.getElem?_eq_getElem h]; rfl
  · rw [List.take_of_length_le (by omega), List.take_of_length_le (by omega), List.getD_eq_getElem?_getD, List.getElem?_eq_none (by omega)]
    simp
theorem getD_lim {xs : List Nat} (h : lim xs) (i : Nat) : xs.getD i 0 < 4294967296 := by
  rw [List.getD_eq_getElem?_getD]
  cases hq : xs[i]? with
  | none => simp
  | some x => simp; exact h x (List.mem_of_getElem? hq)
theorem limbsOf_length_le {n k : Nat} (h : n < 4294967296 ^ k) : (limbsOf n).length ≤ k := by
  rcases Nat.lt_or_ge k (limbsOf n).length with hk | hk
  · exfalso
    have hne : limbsOf n ≠ [] := by intro e; rw [e] at hk; simp at hk
    have h1 := val_ge (canon_limbsOf n) hne
    rw [val_limbsOf] at h1
    have : 4294967296 ^ k ≤ 4294967296 ^ ((limbsOf n).length - 1) := Nat.pow_le_pow_right (by decide) (by omega)
    omega
  · exact hk
/-- one round of an addition -/
theorem add_step {p c x y B : Nat} {a b : Nat} (h : p + B * c = a + b) : (p + B * ((c + (x + y)) % 4294967296)) + (B * 4294967296) * ((c + (x + y)) / 4294967296) = (a + B * x) + (b + B * y) := by
  have e : c + (x + y) = (c + (x + y)) % 4294967296 + 4294967296 * ((c + (x + y)) / 4294967296) := (Nat.mod_add_div _ _).symm
  generalize (c + (x + y)) % 4294967296 = u at *
  generalize (c + (x + y)) / 4294967296 = v at *
  have e2 : B * (c + (x + y)) = B * (u + 4294967296 * v) := by rw [e]
  simp only [Nat.mul_add, Nat.mul_assoc] at e2 ⊢
  omega
theorem lim_set {xs : List Nat} {i y : Nat} (h : lim xs) (hy : y < 4294967296) : lim (xs.set i y) := fun x hx => by
  rcases List.mem_or_eq_of_mem_set hx with h' | h'
  · exact h x h'
  · omega
theorem val_set {xs : List Nat} {i q : Nat} (h : i < xs.length) : val (xs.set i q) + 4294967296 ^ i * xs[i] = val xs + 4294967296 ^ i * q := by
  rw [val_split xs i h, val_split (xs.set i q) i (by simpa using h)]
  simp only [List.take_set_of_le (Nat.le_refl i), List.getElem_set_self, List.drop_set_of_lt (Nat.lt_succ_self i)]
  grind
/-- one round of a subtraction -/
theorem sub_step {x y b : Nat} (hx : x < 4294967296) (hy : y < 4294967296) (hb : b ≤ 1) : ∃ q b' : Nat, ((((x : Int) - (y : Int)) % 18446744073709551616 - (b : Int)) % 18446744073709551616) % 4294967296 = (q : Int) ∧
    ((((x : Int) - (y : Int)) % 18446744073709551616 - (b : Int)) % 18446744073709551616) / 9223372036854775808 = (b' : Int) ∧ q < 4294967296 ∧ b' ≤ 1 ∧ x + 4294967296 * b' = q + y + b := by
  by_cases h : y + b ≤ x
  · exact ⟨x - y - b, 0, by omega, by omega, by omega, by omega, by omega⟩
  · exact ⟨x + 4294967296 - y - b, 1, by omega, by omega, by omega, by omega, by omega⟩
theorem pow_split {m : Nat} (h : m < 32) : 2 ^ (32 - m) * 2 ^ m = 4294967296 := by rw [← Nat.pow_add, show 32 - m + m = 32 by omega]
/-- shifted to the right by 'm' bits, limb by limb -/
def unsh (m : Nat) : List Nat → List Nat
  | [] => []
  | x :: xs => (x + 4294967296 * xs.getD 0 0) / 2 ^ m % 4294967296 :: unsh m xs
theorem unsh_length (m : Nat) (xs : List Nat) : (unsh m xs).length = xs.length := by
  induction xs with
  | nil => rfl
  | cons x xs ih => simp [unsh, ih]
theorem unsh_lim (m : Nat) (xs : List Nat) : lim (unsh m xs) := by
  induction xs with
  | nil => intro x hx; simp [unsh] at hx
  | cons x xs ih => exact lim_cons.2 ⟨Nat.mod_lt _ (by decide), ih⟩
theorem unsh_get (m : Nat) (xs : List Nat) {i : Nat} (h : i < xs.length) : (unsh m xs)[i]'(by rw [unsh_length]; exact h) = (xs[i] + 4294967296 * xs.getD (i + 1) 0) / 2 ^ m % 4294967296 := by
  induction xs generalizing i with
  | nil => simp at h
  | cons x xs ih =>
    cases i with
    | zero => simp [unsh]
    | succ i =>
      simp only [unsh, List.getElem_cons_succ]
      rw [ih (by simpa using h)]
      simp
theorem unsh_val {m : Nat} (hm : m < 32) {xs : List Nat} (h : lim xs) : val (unsh m xs) = val xs / 2 ^ m := by
  induction xs with
  | nil => simp [unsh, val]
  | cons x xs ih =>
    obtain ⟨hx, hxs⟩ := lim_cons.1 h
    simp only [unsh, val]
    rw [ih hxs]

    have hy : ∃ y z, val xs = y + 4294967296 * z ∧ xs.getD 0 0 = y := by
      cases xs with
      | nil => exact ⟨0, 0, by simp [val], by simp⟩
      | cons y ys => exact ⟨y, val ys, by simp [val], by simp⟩
    obtain ⟨y, z, hv, hg⟩ := hy
    rw [hg, hv]
    have hp : 0 < 2 ^ m := Nat.pow_pos (by decide)
    have eB : (4294967296 : Nat) = 2 ^ m * 2 ^ (32 - m) := by rw [← Nat.pow_add, show m + (32 - m) = 32 by omega]
    have e1 : (y + 4294967296 * z) / 2 ^ m = y / 2 ^ m + 2 ^ (32 - m) * z := by
      rw [eB, Nat.mul_assoc, Nat.add_mul_div_left _ _ hp]
    have e2 : (x + 4294967296 * (y + 4294967296 * z)) / 2 ^ m = x / 2 ^ m + 2 ^ (32 - m) * (y + 4294967296 * z) := by
      conv => lhs; rw [eB]
      rw [Nat.mul_assoc, Nat.add_mul_div_left _ _ hp, ← eB]
    have e3 : (x + 4294967296 * y) / 2 ^ m = x / 2 ^ m + 2 ^ (32 - m) * y := by
      rw [eB, Nat.mul_assoc, Nat.add_mul_div_left _ _ hp]
    rw [e1, e2, e3]

    have e4 : 2 ^ (32 - m) * y = 4294967296 * (y / 2 ^ m) + 2 ^ (32 - m) * (y % 2 ^ m) := by
      have := Nat.div_add_mod y (2 ^ m)
      conv => lhs; rw [← this]
      rw [Nat.mul_add, ← Nat.mul_assoc, Nat.mul_comm (2 ^ (32 - m)), ← eB]
    have b1 : x / 2 ^ m < 2 ^ (32 - m) := by
      rw [Nat.div_lt_iff_lt_mul hp, Nat.mul_comm, ← eB]; exact hx
    have b2 : 2 ^ (32 - m) * (y % 2 ^ m + 1) ≤ 2 ^ (32 - m) * 2 ^ m := Nat.mul_le_mul_left _ (Nat.mod_lt y hp)
    rw [Nat.mul_comm (2 ^ (32 - m)) (2 ^ m), ← eB, Nat.mul_add] at b2
    have hlow : (x / 2 ^ m + 2 ^ (32 - m) * y) % 4294967296 = x / 2 ^ m + 2 ^ (32 - m) * (y % 2 ^ m) := by
      rw [e4]
      generalize 2 ^ (32 - m) * (y % 2 ^ m) = g at *
      generalize y / 2 ^ m = h' at *
      generalize x / 2 ^ m = k at *
      omega
    rw [hlow, Nat.mul_add (2 ^ (32 - m)), e4, Nat.mul_add]
    have e5 : 2 ^ (32 - m) * (4294967296 * z) = 4294967296 * (2 ^ (32 - m) * z) := by rw [← Nat.mul_assoc, Nat.mul_comm (2 ^ (32 - m)), Nat.mul_assoc]
    rw [e5]
    omega
/-- the table of the lengths of bytes -/
def tabOk (s : ByteArray) : Bool := (List.range 256).all fun y => match s[y]? with
  | some b => Nat.blt y (2 ^ b.toNat) && Nat.ble b.toNat 8 && (Nat.beq y 0 || Nat.ble 1 b.toNat)
  | none => false
theorem tabOk_at {s : ByteArray} (h : tabOk s = true) {y : Nat} (hy : y < 256) : ∃ b : UInt8, s[y]? = some b ∧ y < 2 ^ b.toNat ∧ b.toNat ≤ 8 ∧ (y ≠ 0 → 1 ≤ b.toNat) := by
  have := List.all_eq_true.1 h y (by simpa using hy)
  cases hb : s[y]? with
  | none => rw [hb] at this; simp at this
  | some b =>
    rw [hb] at this
    simp only [Bool.and_eq_true, Bool.or_eq_true] at this
    refine ⟨b, rfl, by simpa using this.1.1, by simpa using this.1.2, fun h0 => ?_⟩
    rcases this.2 with h | h
    · exact absurd (Nat.eq_of_beq_eq_true h) h0
    · simpa using h
end Go.Qk
end
section
set_option linter.unusedSimpArgs false
set_option linter.unusedVariables false
namespace Go.Qk
open Go Go.RowKit
/-- a row of cells at an address: what stands there -/
def Rd (A : Option Addr) (vs : List Value) (w : World) : Prop := ∀ i v, vs[i]? = some v → ∃ r o, A = some ⟨r, o, none⟩ ∧ At r (o + i) v w
theorem Rd.nil (A : Option Addr) (w : World) : Rd A [] w := by intro i v h; simp at h
theorem Rd.at_ {A : Option Addr} {vs : List Value} {w : World} (h : Rd A vs w) {i : Nat} {v : Value} (hv : vs[i]? = some v) : ∃ r o, A = some ⟨r, o, none⟩ ∧ At r (o + i) v w := h i v hv
/-- the same row, read later: every block that it lies in reads as before -/
theorem Rd.of {A : Option Addr} {vs : List Value} {w w' : World} (h : Rd A vs w) (hk : ∀ r o, A = some ⟨r, o, none⟩ → r < w.heap.size → w'.heap[r]? = w.heap[r]?) : Rd A vs w' := by
  intro i v hv
  obtain ⟨r, o, hA, ha⟩ := h i v hv
  exact ⟨r, o, hA, ha.of_heap (hk r o hA ha.lt)⟩
theorem Rd.below {A : Option Addr} {vs : List Value} {w w' : World} (h : Rd A vs w) (hb : Below w.heap.size w w') : Rd A vs w' := h.of fun r _ _ hr => hb.block r hr
theorem Rd.own {r : Nat} {l : List Value} {w : World} {e : TypeId} {fr : Nat × Nat} (h : w.heap[r]? = some (.cells l.toArray e fr)) : Rd (some ⟨r, 0, none⟩) l w := by
  intro i v hv
  exact ⟨r, 0, rfl, at_cells h (by simpa using hv)⟩
theorem Rd.take {A : Option Addr} {vs : List Value} {w : World} (h : Rd A vs w) (k : Nat) : Rd A (vs.take k) w := by
  intro i v hv
  refine h i v ?_
  rw [List.getElem?_take] at hv
  split at hv
  · exact hv
  · simp at hv
section
variable {w0 w : World} {X : List Nat} {S : Nat → Prop} {own : Own} {R : World → Prop}
theorem SS.at_ (t : SS w0 X S own R w) {r o : Nat} {v : Value} (h : At r o v w0) (hx : r ∉ X) : At r o v w := h.of_heap (t.pres r h.lt hx)
theorem SS.atA (t : SS w0 [] S own R w) {r o : Nat} {v : Value} (h : At r o v w0) : At r o v w := t.at_ h (by simp)
theorem SS.atO (i : Nat) (t : SS w0 X S own R w) {r o : Nat} {v : Value} {l : List Value} {e : TypeId} {fr : Nat × Nat} (h : ownAt own i = some (r, .cells l.toArray e fr)) (hv : l[o]? = some v) : At r o v w :=
  at_cells (t.has _ (ownAt_mem h)) (by simpa using hv)
theorem SS.a1 (t : SS w0 [] S own R w) {r o i : Nat} {v : Value} (h : At r (o + i) v w0) : At r (o + i * 1) v w := by rw [Nat.mul_one]; exact t.atA h
theorem SS.o1 (i : Nat) (t : SS w0 X S own R w) {r o : Nat} {v : Value} {l : List Value} {e : TypeId} {fr : Nat × Nat} (h : ownAt own i = some (r, .cells l.toArray e fr)) (hv : l[o]? = some v) : At r (0 + o * 1) v w := by rw [Nat.mul_one, Nat.zero_add]; exact t.atO i h hv
theorem SS.rd (t : SS w0 [] S own R w) {A : Option Addr} {vs : List Value} (h : Rd A vs w0) : Rd A vs w := h.below t.arg
end
def u32s (xs : List Nat) : List Value := xs.map fun (x : Nat) => .int .u32 (x : Int)
theorem u32s_length (xs : List Nat) : (u32s xs).length = xs.length := by simp [u32s]
theorem u32s_get {xs : List Nat} {i : Nat} (h : i < xs.length) : (u32s xs)[i]? = some (.int .u32 ((xs[i] : Nat) : Int)) := by simp [u32s, h]
theorem u32s_take (xs : List Nat) (k : Nat) : (u32s xs).take k = u32s (xs.take k) := by simp [u32s, List.map_take]
/-- a slice that reads as these limbs -/
abbrev Sv : Type := Option Addr × Nat
def slv (xs : List Nat) (p : Sv) : Value := .slice p.1 xs.length p.2
def Lm (xs : List Nat) (p : Sv) (w : World) : Prop := Rd p.1 (u32s xs) w ∧ xs.length ≤ p.2
theorem made_u32 (c : Nat) : madeCells (Value.int .u32 0).cells (c * 1) = (u32s (List.replicate c 0)).toArray := by
  apply Array.ext
  · simp [madeCells, u32s]
  · intro i h1 h2
    simp [madeCells, u32s, Value.cells, Nat.mod_one]
theorem u32s_set (xs : List Nat) (i y : Nat) : (u32s xs).set i (.int .u32 (y : Int)) = u32s (xs.set i y) := by simp [u32s, List.map_set]
theorem set_next (ps : List Nat) (m y i : Nat) (hi : i = ps.length) : (ps ++ List.replicate (m + 1) 0).set i y = (ps ++ [y]) ++ List.replicate m 0 := by
  subst hi
  rw [List.set_append_right _ _ (Nat.le_refl _)]
  simp [List.replicate_succ]
theorem own1 {r : Nat} {l l' : List Value} {e : TypeId} {fr : Nat × Nat} (h : l = l') : [(r, Obj.cells l.toArray e fr)] = [(r, Obj.cells l'.toArray e fr)] := by rw [h]
theorem lm_trim {zs : List Nat} {r : Nat} {w : World} {e : TypeId} {fr : Nat × Nat} (h : w.heap[r]? = some (.cells (u32s zs).toArray e fr)) : Lm (trimL zs) (some ⟨r, 0, none⟩, (trimL zs).length) w := by
  refine ⟨?_, Nat.le_refl _⟩
  have := (Rd.own h).take (trimL zs).length
  rwa [u32s_take, trimL_take] at this
section
variable {P : Program} {n : Nat} {w0 : World} {X : List Nat} {S : Nat → Prop} {E : Env} {own : Own} {R : World → Prop} {Q : Exit → Act → World → Prop} {ops : Array Oper} {rest : List Oper}
theorem tr_rseq {id : Nat} {l : List Oper} {d : Code} (h : Sq P l.toArray (Exit.then (d.wp P Q) Q) n w0 X S l E own R) : Tr n w0 X S E own R ((Code.seq (.region id l.toArray false) d).wp P Q) := tr_seq (tr_region h)
theorem sq_end {k : Act → World → Prop} (h : Tr n w0 X S E own R k) : Sq P ops (Exit.then k Q) n w0 X S [] E own R := sq_nil (tr_then h)
end
end Go.Qk
end
