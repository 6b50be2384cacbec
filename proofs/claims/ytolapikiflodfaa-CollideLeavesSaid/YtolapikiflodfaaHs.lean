/- Here is said: what a function value of the type func(string) string is, and how it is called. Conditions: none. -/
import Derived.Test.YtolapikiflodfaaMem
namespace Go.Proofs.Ytolapikiflodfaa.Hsh
open Go Go.Proofs Go.RowKit Go.Proofs.YtolapikiflodfaaW.PrintWords Go.Proofs.YtolapikiflodfaaW.PrintLast Go.Proofs.YtolapikiflodfaaW.PrintMore
/-- a hasher: its number, what it tells (texts of 32 bytes), that it is entered by its number, and its contract -/
structure Hs where
  id : Nat
  fn : ByteArray → ByteArray
  size : ∀ s, (fn s).size = 32
  enters : ∀ args w, (callFunc id args).run Try.prog w = .ok (.enter id args) w
  calls : ∀ s w, s.size ≤ 1000000000 → Calls Try.prog id #[.string s] w fun e w' => e = .returned (.string (fn s)) ∧ Below w.heap.size w w'
/-- what it answers, of texts that aren't too long -/
def hs_call.f (h : Hs) (s : ByteArray) : Option (ByteArray) := if s.size ≤ 1000000000 then some (h.fn s) else none
theorem hs_call.calls (a0 : Hs) (a1 : ByteArray) (r : ByteArray) (w : World) (h : hs_call.f a0 a1 = some r) : Calls Try.prog a0.id #[.string a1] w fun e w' => e = .returned (.string r) ∧ Below w.heap.size w w' := by
  unfold hs_call.f at h
  split at h
  · cases h
    exact a0.calls a1 w (by assumption)
  · cases h
section
variable {ops : Array Oper} {Q : Exit → Act → World → Prop}
theorem gate_value {P : Program} {rest : List Oper} {o : Oper} {a : Act} {W : World} {t : Tmp} {xs : Array Operand} {ts : Array TypeId} (_ho : o.op = .call { callee := .value (.tmp t), args := xs, argTypes := ts }) (h : wpList P ops Q (o :: rest) a W) : wpList P ops Q (o :: rest) a W := h
theorem run_value {oi : Oper} {a : Act} {w : World} {h : Hs} {t : Tmp} {xs : Array Operand} {ts : Array TypeId} (args : Array Value)
    (hop : oi.op = .call { callee := .value (.tmp t), args := xs, argTypes := ts }) (hv : a.eval (.tmp t) = .func (.func h.id) #[] #[]) (hargs : xs.map a.eval = args) : (execOp a.eval oi).run Try.prog w = .ok (.enter h.id args) w := by
  have he := h.enters args w
  unfold execOp
  simp [hop, resolve, Deferred.ofValue, invoke, hv, hargs, he]
theorem goesv_ {oi : Oper} {N : Option Tmp} {a : Act} {w : World} {K : Act → World → Prop} {h : Hs} {t : Tmp} (hv : a.eval (.tmp t) = .func (.func h.id) #[] #[]) {xs : Array Operand} {ts : Array TypeId} (args : Array Value)
    (hw : Region.wanted oi (yielded ops a.tmps) = true) (hN : oi.dst = N) (hop : oi.op = .call { callee := .value (.tmp t), args := xs, argTypes := ts }) (hargs : xs.map a.eval = args)
    (hc : Calls Try.prog h.id args w fun e w' => ∃ v, e = .returned v ∧ K (a.put N v) w') : if Region.wanted oi (yielded ops a.tmps) = true then Oper.wp Try.prog oi a w K Q else K (a.put N undef) w :=
  call_ h.id args hw hN (run_value args hop hv hargs) hc
theorem goesLv_ {rest : List Oper} {oi : Oper} {a : Act} {w : World} {h : Hs} {t : Tmp} (hv : a.eval (.tmp t) = .func (.func h.id) #[] #[]) (N : Option Tmp) (hd : oi.dst = N) (hg : oi.guard = none) {xs : Array Operand} {ts : Array TypeId} (args : Array Value)
    (hop : oi.op = .call { callee := .value (.tmp t), args := xs, argTypes := ts }) (hargs : xs.map a.eval = args)
    (hc : Calls Try.prog h.id args w fun e w' => ∃ v, e = .returned v ∧ wpList Try.prog ops Q rest (a.put N v) w') : wpList Try.prog ops Q (oi :: rest) a w := by
  refine wpList_plain hg fun K hK => ?_
  have hrun := run_value (w := w) args hop hv hargs
  unfold Oper.wp
  rw [hrun, Oper.upon_enter]
  refine hc.mono fun e w'' hh => ?_
  obtain ⟨v, rfl, hk⟩ := hh
  subst hd
  exact hK _ _ hk
end
end Go.Proofs.Ytolapikiflodfaa.Hsh
