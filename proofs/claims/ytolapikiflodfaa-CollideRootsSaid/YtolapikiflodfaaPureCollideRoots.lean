/- Here is proved: whatever claim is given, collide.Root tells what the chapter's Root tells. Conditions: none. -/
import Derived.Test.YtolapikiflodfaaPColCollideRoots
namespace Go.Proofs.Ytolapikiflodfaa.PCollideRoots.Pure
open Go Go.RowKit Go.Proofs.YtolapikiflodfaaW.PrintWords Go.Proofs.YtolapikiflodfaaW.PrintLast Go.Proofs.YtolapikiflodfaaW.PrintMore
open Go.Proofs.Ytolapikiflodfaa.PCollideRoots Go.Proofs.Ytolapikiflodfaa.Hsh Go.Proofs.Ytolapikiflodfaa.PColCollideRoots
theorem root_ev (a0 : Int) (leaf : ByteArray) (i sz : Int) (pr : List ByteArray) (hl : leaf.size ≤ 1000) (hp : ∀ s ∈ pr, s.size ≤ 40) (hpl : pr.length ≤ 1000) :
    Ev (fun k => annalistlaw08_root.f k a0 leaf i sz pr) (rootF (hsW a0) leaf i sz pr) := by
  unfold annalistlaw08_root.f hsW
  by_cases h0 : Int.tmod a0 3 = 0
  · rw [if_pos h0]
    exact Ev.pos h0 (Ev.bind (Root_ev hs41 leaf i sz pr hl hp hpl) (Ev.now _))
  · rw [if_neg h0]
    refine Ev.neg h0 ?_
    by_cases h1 : Int.tmod a0 3 = 1
    · rw [if_pos h1]
      exact Ev.pos h1 (Ev.bind (Root_ev hs42 leaf i sz pr hl hp hpl) (Ev.now _))
    · rw [if_neg h1]
      exact Ev.neg h1 (Ev.bind (Root_ev hs43 leaf i sz pr hl hp hpl) (Ev.now _))
theorem CollideRoots (a0 : Int) (leaf : ByteArray) (i sz : Int) (pr : List ByteArray) (_ : (Lit.int .u8 a0).wf = true)
    (hq : leaf.size ≤ maxLen ∧ (Lit.int .i64 i).wf = true ∧ (Lit.int .i64 sz).wf = true ∧ pr.length ≤ maxLen ∧ ∀ s ∈ pr, s.size ≤ maxLen) : ∃ k, annalistlaw08_CollideRoots.f k a0 leaf i sz pr = some true := by
  have hl := hq.2.2.2.1
  unfold maxLen at hl
  refine Ev.rounds (g := fun k => annalistlaw08_CollideRoots.f k a0 leaf i sz pr) ?_
  unfold annalistlaw08_CollideRoots.f
  obtain ⟨b, hb, h2⟩ := few_f leaf i sz pr (by omega)
  refine Ev.bind awake_ev (Ev.pos rfl (Ev.bind hb (Ev.step (fun k => annalistlaw08_CollideRoots.j0.eq_2 _ _ _ _ _ _ _) ?_)))
  cases b with
  | false => exact Ev.pos rfl (Ev.bind awake_ev (Ev.now _))
  | true =>
    obtain ⟨h3, h4, h5⟩ := h2 rfl
    refine Ev.neg (by decide) (Ev.bind (root_ev a0 leaf i sz pr (by omega) h5 (by omega)) (Ev.bind (refRoot_ev a0 leaf i sz pr (by omega) h5 (by omega)) (Ev.pos rfl ?_)))
    rw [beq_self_eq_true]
    exact Ev.now _
end Go.Proofs.Ytolapikiflodfaa.PCollideRoots.Pure
