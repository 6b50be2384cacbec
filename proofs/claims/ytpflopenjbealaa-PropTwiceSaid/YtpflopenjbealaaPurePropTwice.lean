/- Proved: (at most 60) votes of which each comes twice leave a proposal just as they do where each comes once. Conditions: none. -/
import Derived.Test.YtpflopenjbealaaPropPropTwice
import Derived.Test.YtpflopenjbealaaReadsPropTwice
namespace Go.Proofs.Ytpflopenjbealaa.Pure
open Go.RowKit Go.Proofs.Ytpflopenjbealaa.PPropTwice Go.Proofs.YtpflopenjbealaaW.PrintWords Go.Proofs.YtpflopenjbealaaW.PrintLast Go.Proofs.YtpflopenjbealaaW.PrintMore Go.Proofs.YtpflopenjbealaaBits Go.Proofs.Ytpflopenjbealaa.SetsPropTwice

/-- a vote of either kind -/
def act (s : PS) (o : S42) : PS := if o.f0 = true then (accepting s o.f1 o.f2).2 else (promise s o.f1 o.f2 o.f3 o.f4).2
theorem act_ok (s : PS) (o : S42) (h : s.ok) : (act s o).ok := by
  unfold act; split
  · exact accepting_ok s _ _ h
  · exact promise_ok s _ _ _ _ h
theorem put_has (s : Nat) (i : Int) (h : inn i) : (put s i).testBit i.toNat = true := by
  unfold put; rw [if_pos h, or_bit, decide_eq_true rfl, Bool.or_true]

theorem counts_had (want : Int) (s : PS) (node ballot : Int) (had : Nat) (hn : s.n ≤ 63) : counts want s node ballot (put had node) = false ∨ ¬ (0 ≤ node ∧ node < s.n) := by
  by_cases h : 0 ≤ node ∧ node < s.n
  · left
    have hi : inn node := ⟨h.1, by have := h.2; omega⟩
    unfold counts
    rw [put_has had node hi, decide_eq_true hi]
    simp
  · exact .inr h
theorem counts_in {want : Int} {s : PS} {node ballot : Int} {had : Nat} (h : counts want s node ballot had = true) : 0 ≤ node ∧ node < s.n := by
  unfold counts at h
  simp only [Bool.and_eq_true, decide_eq_true_eq] at h
  exact ⟨h.2.2.1, h.2.2.2.1⟩
theorem counts_same (want : Int) (s t : PS) (node ballot : Int) (had : Nat) (h1 : s.n = t.n) (h2 : s.b = t.b) (h3 : s.ph = t.ph) : counts want s node ballot had = counts want t node ballot had := by
  unfold counts; rw [h1, h2, h3]
theorem counts_ph (want : Int) (s : PS) (node ballot : Int) (had : Nat) (h : s.ph ≠ want) : counts want s node ballot had = false := by
  unfold counts; rw [decide_eq_false h, Bool.false_and]

theorem promise_twice (s : PS) (node ballot acc : Int) (val : ByteArray) (h : s.ok) : (promise (promise s node ballot acc val).2 node ballot acc val).2 = (promise s node ballot acc val).2 := by
  have key : ∀ t : PS, counts 1 t node ballot t.pr = false → (promise t node ballot acc val).2 = t := by
    intro t ht
    unfold promise
    rw [if_neg (by rw [ht]; exact Bool.false_ne_true)]
  apply key
  unfold promise
  by_cases hc : counts 1 s node ballot s.pr = true
  · rw [if_pos hc]
    by_cases he : enough (put s.pr node) s.n = true
    · rw [if_pos he]; exact counts_ph 1 _ _ _ _ (by show (2 : Int) ≠ 1; decide)
    · rw [if_neg he]
      rcases counts_had 1 s node ballot s.pr h.2.1 with h1 | h1
      · exact (counts_same 1 _ s node ballot _ rfl rfl rfl).trans h1
      · exact absurd (counts_in hc) h1
  · rw [if_neg hc]; exact Bool.eq_false_iff.2 hc
theorem accepting_twice (s : PS) (node ballot : Int) (h : s.ok) : (accepting (accepting s node ballot).2 node ballot).2 = (accepting s node ballot).2 := by
  have key : ∀ t : PS, counts 2 t node ballot t.tk = false → (accepting t node ballot).2 = t := by
    intro t ht
    unfold accepting
    rw [if_neg (by rw [ht]; exact Bool.false_ne_true)]
  apply key
  unfold accepting
  by_cases hc : counts 2 s node ballot s.tk = true
  · rw [if_pos hc]
    by_cases he : enough (put s.tk node) s.n = true
    · rw [if_pos he]; exact counts_ph 2 _ _ _ _ (by show (3 : Int) ≠ 2; decide)
    · rw [if_neg he]
      rcases counts_had 2 s node ballot s.tk h.2.1 with h1 | h1
      · exact (counts_same 2 _ s node ballot _ rfl rfl rfl).trans h1
      · exact absurd (counts_in hc) h1
  · rw [if_neg hc]; exact Bool.eq_false_iff.2 hc
theorem act_twice (s : PS) (o : S42) (h : s.ok) : act (act s o) o = act s o := by
  unfold act
  by_cases hf : o.f0 = true
  · rw [if_pos hf, if_pos hf]; exact accepting_twice s _ _ h
  · rw [if_neg hf, if_neg hf]; exact promise_twice s _ _ _ _ h

/-- one round of the inner loop -/
theorem one (k : Nat) (l : List S42) (x : Int) (j : Nat) (hj : j < 2) (s t : PS) (o : S42) (hs : s.ok) (r : Bool)
    (hr : annalistlaw18_PropTwice.l1 (k + 1) l x ((j + 1 : Nat) : Int) (act s o).n (act s o).b (act s o).ph (act s o).v (act s o).best (act s o).fd (act s o).pr (act s o).tk t.n t.b t.ph t.v t.best t.fd t.pr t.tk o.f0 o.f1 o.f2 o.f3 o.f4 = some r) :
    annalistlaw18_PropTwice.l1 (k + 1 + 1) l x (j : Int) s.n s.b s.ph s.v s.best s.fd s.pr s.tk t.n t.b t.ph t.v t.best t.fd t.pr t.tk o.f0 o.f1 o.f2 o.f3 o.f4 = some r := by
  have hw : wrap64 ((j : Int) + 1) = ((j + 1 : Nat) : Int) := by unfold wrap64; omega
  rw [annalistlaw18_PropTwice.l1]
  rw [if_pos (by omega), hw]
  revert hr
  unfold act
  by_cases hf : o.f0 = true
  · rw [if_pos hf, if_pos hf, accepted_f s _ _ hs.2.2.2 hs.big, Option.bind_some]; exact id
  · rw [if_neg hf, if_neg hf, promised_f k s _ _ _ _ hs.2.2.1 hs.big, Option.bind_some]; exact id
theorem last (k : Nat) (l : List S42) (i : Nat) (hi : i < 60) (s t : PS) (o : S42) (ht : t.ok) (r : Bool)
    (hr : annalistlaw18_PropTwice.l0 (k + 1) l ((i + 1 : Nat) : Int) s.n s.b s.ph s.v s.best s.fd s.pr s.tk (act t o).n (act t o).b (act t o).ph (act t o).v (act t o).best (act t o).fd (act t o).pr (act t o).tk = some r) :
    annalistlaw18_PropTwice.l1 (k + 1 + 1) l (i : Int) ((2 : Nat) : Int) s.n s.b s.ph s.v s.best s.fd s.pr s.tk t.n t.b t.ph t.v t.best t.fd t.pr t.tk o.f0 o.f1 o.f2 o.f3 o.f4 = some r := by
  have hw : wrap64 ((i : Int) + 1) = ((i + 1 : Nat) : Int) := by unfold wrap64; omega
  rw [annalistlaw18_PropTwice.l1]
  rw [if_neg (by omega), hw]
  revert hr
  unfold act
  by_cases hf : o.f0 = true
  · rw [if_pos hf, if_pos hf, accepted_f t _ _ ht.2.2.2 ht.big, Option.bind_some]; exact id
  · rw [if_neg hf, if_neg hf, promised_f k t _ _ _ _ ht.2.2.1 ht.big, Option.bind_some]; exact id

theorem twice_loop (l : List S42) (hl : l.length ≤ 60) (d : Nat) : ∀ (k i : Nat) (s : PS), i ≤ l.length → l.length - i = d → s.ok → 4 * d + 1 < k →
    annalistlaw18_PropTwice.l0 k l (i : Int) s.n s.b s.ph s.v s.best s.fd s.pr s.tk s.n s.b s.ph s.v s.best s.fd s.pr s.tk = some true := by
  induction d with
  | zero =>
    intro k i s hi hd hs hk
    obtain ⟨k, rfl⟩ : ∃ m, k = m + 1 := ⟨k - 1, by omega⟩
    rw [annalistlaw18_PropTwice.l0]
    rw [if_neg (by omega)]
    unfold prop_Prop_Voters.f prop_Prop_Phase.f prop_Prop_Value.f
    rw [Option.bind_some, Option.bind_some, Option.bind_some, Option.bind_some, if_pos rfl, Option.bind_some, Option.bind_some, if_pos rfl, if_pos rfl]
    exact congrArg some (beq_self_eq_true _)
  | succ d ih =>
    intro k i s hi hd hs hk
    obtain ⟨k, rfl⟩ : ∃ m, k = m + 1 + 1 + 1 + 1 + 1 := ⟨k - 5, by omega⟩
    have ha := act_ok s (rd_T42 l i) hs
    have hr := ih (k + 1) (i + 1) (act s (rd_T42 l i)) (by omega) (by omega) ha (by omega)
    have h2 := last k l i (by omega) (act s (rd_T42 l i)) s (rd_T42 l i) hs true hr
    have h1 := one (k + 1) l i 1 (by decide) (act s (rd_T42 l i)) s (rd_T42 l i) ha true (by rw [act_twice s _ hs]; exact h2)
    have h0 := one (k + 1 + 1) l i 0 (by decide) s s (rd_T42 l i) hs true h1
    rw [annalistlaw18_PropTwice.l0]
    rw [if_pos (by omega), if_pos (by omega)]
    exact h0

theorem PropTwice (n : Int) (l : List S42) (_ : (Lit.int .i64 n).wf = true) (_ : l.length ≤ maxLen) (_ : ∀ x ∈ l, Op42 x) : ∃ k, annalistlaw18_PropTwice.f k n l = some true := by
  refine ⟨400, ?_⟩
  unfold annalistlaw18_PropTwice.f
  rw [awake18_f 399, Option.bind_some, if_pos rfl]
  by_cases h : (l.length : Int) > 60
  · rw [decide_eq_true h]
    rw [annalistlaw18_PropTwice.j0]
    rw [if_pos rfl, awake18_f 398, Option.bind_some]
  · rw [decide_eq_false h]
    rw [annalistlaw18_PropTwice.j0]
    rw [if_neg Bool.false_ne_true, new_f n 5 _, Option.bind_some, Option.bind_some]
    exact twice_loop l (by omega) l.length 399 0 (fresh n 5 _) (Nat.zero_le _) rfl (fresh_ok n 5 _) (by omega)

end Go.Proofs.Ytpflopenjbealaa.Pure
