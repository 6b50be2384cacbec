/- What package prop's functions come to, over one law's printed functions. -/
import Derived.Test.YtpflopenjbealaaWithinPropPlays
namespace Go.Proofs.Ytpflopenjbealaa.SetsPropPlays
open Go.RowKit Go.Proofs.Ytpflopenjbealaa.PPropPlays Go.Proofs.YtpflopenjbealaaW.PrintWords Go.Proofs.YtpflopenjbealaaW.PrintLast Go.Proofs.YtpflopenjbealaaW.PrintMore Go.Proofs.YtpflopenjbealaaBits

/-- a proposal -/
structure PS where
  n : Int
  b : Int
  ph : Int
  v : ByteArray
  best : Int
  fd : ByteArray
  pr : Nat
  tk : Nat

/-- does a vote count? -/
def counts (want : Int) (s : PS) (node ballot : Int) (had : Nat) : Bool :=
  decide (s.ph = want) && (decide (ballot = s.b) && (decide (0 ≤ node) && (decide (node < s.n) && !(decide (inn node) && had.testBit node.toNat))))

theorem counts_f (want : Int) (s : PS) (node ballot : Int) (had : Nat) (hh : had < 2 ^ 64) :
    prop_Prop_counts.f s.n s.b s.ph s.v s.best s.fd s.pr s.tk want node ballot had = some (counts want s node ballot had, s.n, s.b, s.ph, s.v, s.best, s.fd, (s.pr : Int), (s.tk : Int)) := by
  unfold prop_Prop_counts.f counts
  by_cases h1 : s.ph = want
  · rw [if_pos h1, decide_eq_true h1, Bool.true_and]
    by_cases h2 : ballot = s.b
    · rw [if_pos h2, decide_eq_true h2, Bool.true_and]
      by_cases h3 : 0 ≤ node
      · rw [if_pos h3, decide_eq_true h3, Bool.true_and]
        by_cases h4 : node < s.n
        · rw [if_pos h4, decide_eq_true h4, Bool.true_and, has_f had node hh, Option.bind_some]
        · rw [if_neg h4, decide_eq_false h4, Bool.false_and]
      · rw [if_neg h3, decide_eq_false h3, Bool.false_and]
    · rw [if_neg h2, decide_eq_false h2, Bool.false_and]
  · rw [if_neg h1, decide_eq_false h1, Bool.false_and]

def best' (s : PS) (acc : Int) : Int := if acc > s.best then acc else s.best
def fd' (s : PS) (acc : Int) (val : ByteArray) : ByteArray := if acc > s.best then val else s.fd
def enough (t : Nat) (n : Int) : Bool := decide ((lives t n : Int) ≥ (max n 0) / 2 + 1)
/-- a promise -/
def promise (s : PS) (node ballot acc : Int) (val : ByteArray) : Bool × PS :=
  if counts 1 s node ballot s.pr = true then
    if enough (put s.pr node) s.n = true then
      (true, { s with ph := 2, v := if best' s acc > 0 then fd' s acc val else s.v, best := best' s acc, fd := fd' s acc val, pr := put s.pr node })
    else (false, { s with best := best' s acc, fd := fd' s acc val, pr := put s.pr node })
  else (false, s)
def accepting (s : PS) (node ballot : Int) : Bool × PS :=
  if counts 2 s node ballot s.tk = true then
    if enough (put s.tk node) s.n = true then (true, { s with ph := 3, tk := put s.tk node })
    else (false, { s with tk := put s.tk node })
  else (false, s)
def out (r : Bool × PS) : Bool × Int × Int × Int × ByteArray × Int × ByteArray × Int × Int := (r.1, r.2.n, r.2.b, r.2.ph, r.2.v, r.2.best, r.2.fd, (r.2.pr : Int), (r.2.tk : Int))

theorem promised_j (k : Nat) (n b ph best : Int) (v fd : ByteArray) (pr tk : Nat) (hpr : pr < 2 ^ 64) (hn : n ≤ 9223372036854775807) :
    prop_Prop_Promised.j0 (k + 1) n b ph v best fd pr tk = some (if enough pr n = true then (true, n, b, 2, (if best > 0 then fd else v), best, fd, (pr : Int), (tk : Int)) else (false, n, b, ph, v, best, fd, (pr : Int), (tk : Int))) := by
  simp only [prop_Prop_Promised.j0]
  rw [enough_f pr n hpr hn, Option.bind_some]
  unfold enough
  by_cases h : (lives pr n : Int) ≥ (max n 0) / 2 + 1
  · rw [decide_eq_true h, if_pos rfl, if_pos rfl]
    by_cases h2 : best > 0
    · rw [if_pos h2, if_pos h2]
    · rw [if_neg h2, if_neg h2]
  · rw [decide_eq_false h, if_neg Bool.false_ne_true, if_neg Bool.false_ne_true]

theorem promised_f (k : Nat) (s : PS) (node ballot acc : Int) (val : ByteArray) (hpr : s.pr < 2 ^ 64) (hn : s.n ≤ 9223372036854775807) :
    prop_Prop_Promised.f (k + 1) s.n s.b s.ph s.v s.best s.fd s.pr s.tk node ballot acc val = some (out (promise s node ballot acc val)) := by
  unfold prop_Prop_Promised.f promise
  rw [counts_f 1 s node ballot s.pr hpr, Option.bind_some]
  cases counts 1 s node ballot s.pr with
  | false => rw [if_neg Bool.false_ne_true, if_neg Bool.false_ne_true]; rfl
  | true =>
    have hp := put_lt s.pr node hpr
    rw [if_pos rfl, if_pos rfl, with_f s.pr node hpr, Option.bind_some]
    unfold best' fd'
    by_cases h : acc > s.best
    · rw [if_pos h, if_pos h, if_pos h, promised_j k _ _ _ _ _ _ _ _ hp hn]
      cases enough (put s.pr node) s.n with
      | true => rw [if_pos rfl, if_pos rfl]; rfl
      | false => rw [if_neg Bool.false_ne_true, if_neg Bool.false_ne_true]; rfl
    · rw [if_neg h, if_neg h, if_neg h, promised_j k _ _ _ _ _ _ _ _ hp hn]
      cases enough (put s.pr node) s.n with
      | true => rw [if_pos rfl, if_pos rfl]; rfl
      | false => rw [if_neg Bool.false_ne_true, if_neg Bool.false_ne_true]; rfl

theorem accepted_f (s : PS) (node ballot : Int) (htk : s.tk < 2 ^ 64) (hn : s.n ≤ 9223372036854775807) :
    prop_Prop_Accepted.f s.n s.b s.ph s.v s.best s.fd s.pr s.tk node ballot = some (out (accepting s node ballot)) := by
  unfold prop_Prop_Accepted.f accepting
  rw [counts_f 2 s node ballot s.tk htk, Option.bind_some]
  cases counts 2 s node ballot s.tk with
  | false => rw [if_neg Bool.false_ne_true, if_neg Bool.false_ne_true]; rfl
  | true =>
    have hp := put_lt s.tk node htk
    rw [if_pos rfl, if_pos rfl, with_f s.tk node htk, Option.bind_some, enough_f _ s.n hp hn, Option.bind_some]
    unfold enough
    by_cases h : (lives (put s.tk node) s.n : Int) ≥ (max s.n 0) / 2 + 1
    · rw [decide_eq_true h, if_pos rfl, if_pos rfl]; rfl
    · rw [decide_eq_false h, if_neg Bool.false_ne_true, if_neg Bool.false_ne_true]; rfl

def fresh (n b : Int) (v : ByteArray) : PS := ⟨min (max n 1) 63, b, 1, v, 0, ⟨#[]⟩, 0, 0⟩
theorem new_f (n b : Int) (v : ByteArray) : prop_New.f n b v = some ((fresh n b v).n, (fresh n b v).b, (fresh n b v).ph, (fresh n b v).v, (fresh n b v).best, (fresh n b v).fd, ((fresh n b v).pr : Int), ((fresh n b v).tk : Int)) := by
  unfold prop_New.f fresh
  have e : mn (mx n 1) 63 = min (max n 1) 63 := by unfold mn mx; (repeat' split) <;> omega
  rw [e]; rfl

/-- well kept -/
def PS.ok (s : PS) : Prop := 1 ≤ s.n ∧ s.n ≤ 63 ∧ s.pr < 2 ^ 64 ∧ s.tk < 2 ^ 64
theorem fresh_ok (n b : Int) (v : ByteArray) : (fresh n b v).ok := by
  refine ⟨?_, ?_, (by decide : 0 < 2 ^ 64), (by decide : 0 < 2 ^ 64)⟩
  · show 1 ≤ min (max n 1) 63; omega
  · show min (max n 1) 63 ≤ 63; omega
theorem PS.ok.big {s : PS} (h : s.ok) : s.n ≤ 9223372036854775807 := by have := h.2.1; omega
theorem promise_ok (s : PS) (node ballot acc : Int) (val : ByteArray) (h : s.ok) : (promise s node ballot acc val).2.ok := by
  unfold promise
  split
  · split
    · exact ⟨h.1, h.2.1, put_lt _ _ h.2.2.1, h.2.2.2⟩
    · exact ⟨h.1, h.2.1, put_lt _ _ h.2.2.1, h.2.2.2⟩
  · exact h
theorem accepting_ok (s : PS) (node ballot : Int) (h : s.ok) : (accepting s node ballot).2.ok := by
  unfold accepting
  split
  · split
    · exact ⟨h.1, h.2.1, h.2.2.1, put_lt _ _ h.2.2.2⟩
    · exact ⟨h.1, h.2.1, h.2.2.1, put_lt _ _ h.2.2.2⟩
  · exact h

theorem awake18_f (k : Nat) : annalistlaw18_awake.f (k + 1) = some true := by
  unfold annalistlaw18_awake.f
  have h1 := new_f 1 2 ⟨#[97]⟩
  rw [h1, Option.bind_some]
  have ok1 := fresh_ok 1 2 ⟨#[97]⟩
  have h2 := promised_f k (fresh 1 2 ⟨#[97]⟩) 0 2 0 ⟨#[]⟩ ok1.2.2.1 ok1.big
  have ok2 := promise_ok (fresh 1 2 ⟨#[97]⟩) 0 2 0 ⟨#[]⟩ ok1
  have e2 : (promise (fresh 1 2 ⟨#[97]⟩) 0 2 0 ⟨#[]⟩).1 = true := by decide +kernel
  generalize hs : promise (fresh 1 2 ⟨#[97]⟩) 0 2 0 ⟨#[]⟩ = r at *
  rw [h2, Option.bind_some]
  have h3 := accepted_f r.2 0 2 ok2.2.2.2 ok2.big
  have e3 : (accepting r.2 0 2).1 = true ∧ (accepting r.2 0 2).2.ph = 3 := by rw [← hs]; decide +kernel
  show (if r.1 = true then _ else _) = _
  rw [if_pos e2]
  show (prop_Prop_Accepted.f r.2.n r.2.b r.2.ph r.2.v r.2.best r.2.fd r.2.pr r.2.tk 0 2).bind _ = _
  rw [h3, Option.bind_some]
  show (if (accepting r.2 0 2).1 = true then _ else _) = _
  rw [if_pos e3.1]
  unfold prop_Prop_Phase.f
  rw [Option.bind_some]
  show some ((accepting r.2 0 2).2.ph == 3) = some true
  rw [e3.2]; rfl

end Go.Proofs.Ytpflopenjbealaa.SetsPropPlays
