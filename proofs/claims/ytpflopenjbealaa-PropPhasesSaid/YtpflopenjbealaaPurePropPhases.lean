/- Proved: whatever (at most 60) votes come, a proposal's phase only rises, and a vote of a stranger, or of another ballot, changes nothing. Conditions: none. -/
import Derived.Test.YtpflopenjbealaaPropPropPhases
import Derived.Test.YtpflopenjbealaaReadsPropPhases
namespace Go.Proofs.Ytpflopenjbealaa.Pure
open Go.RowKit Go.Proofs.Ytpflopenjbealaa.PPropPhases Go.Proofs.YtpflopenjbealaaW.PrintWords Go.Proofs.YtpflopenjbealaaW.PrintLast Go.Proofs.YtpflopenjbealaaW.PrintMore Go.Proofs.YtpflopenjbealaaBits Go.Proofs.Ytpflopenjbealaa.SetsPropPhases

/-- a vote of either kind -/
def act (s : PS) (o : S42) : PS := if o.f0 = true then (accepting s o.f1 o.f2).2 else (promise s o.f1 o.f2 o.f3 o.f4).2
structure Inv (n : Int) (s : PS) : Prop where
  ok : s.ok
  nodes : s.n = min (max n 1) 63
  ballot : s.b = 5
  phase : s.ph = 1 ∨ s.ph = 2 ∨ s.ph = 3

theorem counts_ph {want : Int} {s : PS} {node ballot : Int} {had : Nat} (h : counts want s node ballot had = true) : s.ph = want ∧ ballot = s.b ∧ 0 ≤ node ∧ node < s.n := by
  unfold counts at h
  simp only [Bool.and_eq_true, decide_eq_true_eq] at h
  exact ⟨h.1, h.2.1, h.2.2.1, h.2.2.2.1⟩

theorem promise_inv (n : Int) (s : PS) (h : Inv n s) (node ballot acc : Int) (val : ByteArray) : Inv n (promise s node ballot acc val).2 ∧ s.ph ≤ (promise s node ballot acc val).2.ph ∧ ((ballot ≠ 5 ∨ node < 0 ∨ node ≥ min (max n 1) 63) → (promise s node ballot acc val).2 = s) := by
  have hok := promise_ok s node ballot acc val h.ok
  have hn := h.nodes
  have hb := h.ballot
  revert hok
  unfold promise
  by_cases hc : counts 1 s node ballot s.pr = true
  · obtain ⟨h1, h2, h3, h4⟩ := counts_ph hc
    rw [if_pos hc]
    have hx : ¬ (ballot ≠ 5 ∨ node < 0 ∨ node ≥ min (max n 1) 63) := by
      rw [← hn]; rintro (a | a | a)
      · exact a (h2.trans hb)
      · omega
      · omega
    by_cases he : enough (put s.pr node) s.n = true
    · rw [if_pos he]
      exact fun hok => ⟨⟨hok, hn, hb, .inr (.inl rfl)⟩, by show s.ph ≤ 2; omega, fun a => absurd a hx⟩
    · rw [if_neg he]
      exact fun hok => ⟨⟨hok, hn, hb, h.phase⟩, Int.le_refl _, fun a => absurd a hx⟩
  · rw [if_neg hc]
    exact fun _ => ⟨h, Int.le_refl _, fun _ => rfl⟩
theorem accepting_inv (n : Int) (s : PS) (h : Inv n s) (node ballot : Int) : Inv n (accepting s node ballot).2 ∧ s.ph ≤ (accepting s node ballot).2.ph ∧ ((ballot ≠ 5 ∨ node < 0 ∨ node ≥ min (max n 1) 63) → (accepting s node ballot).2 = s) := by
  have hok := accepting_ok s node ballot h.ok
  have hn := h.nodes
  have hb := h.ballot
  revert hok
  unfold accepting
  by_cases hc : counts 2 s node ballot s.tk = true
  · obtain ⟨h1, h2, h3, h4⟩ := counts_ph hc
    rw [if_pos hc]
    have hx : ¬ (ballot ≠ 5 ∨ node < 0 ∨ node ≥ min (max n 1) 63) := by
      rw [← hn]; rintro (a | a | a)
      · exact a (h2.trans hb)
      · omega
      · omega
    by_cases he : enough (put s.tk node) s.n = true
    · rw [if_pos he]
      exact fun hok => ⟨⟨hok, hn, hb, .inr (.inr rfl)⟩, by show s.ph ≤ 3; omega, fun a => absurd a hx⟩
    · rw [if_neg he]
      exact fun hok => ⟨⟨hok, hn, hb, h.phase⟩, Int.le_refl _, fun a => absurd a hx⟩
  · rw [if_neg hc]
    exact fun _ => ⟨h, Int.le_refl _, fun _ => rfl⟩
theorem act_inv (n : Int) (s : PS) (h : Inv n s) (o : S42) : Inv n (act s o) ∧ s.ph ≤ (act s o).ph ∧ ((o.f2 ≠ 5 ∨ o.f1 < 0 ∨ o.f1 ≥ min (max n 1) 63) → act s o = s) := by
  unfold act
  by_cases hf : o.f0 = true
  · rw [if_pos hf]; exact accepting_inv n s h _ _
  · rw [if_neg hf]; exact promise_inv n s h _ _ _ _

theorem phases_j3 (n : Int) (l : List S42) (i : Nat) (s s' : PS) (x : Bool) (k : Nat) (hi : i < 60) (h1 : s.ph ≤ s'.ph) (h2 : x = true → s' = s) (r : Bool)
    (hr : annalistlaw18_PropPhases.l0 k n l (i + 1 : Nat) s'.n s'.b s'.ph s'.v s'.best s'.fd s'.pr s'.tk = some r) :
    annalistlaw18_PropPhases.j3 (k + 1) n l i s.ph s.v s.pr s.tk s'.pr s'.tk x s'.n s'.b s'.ph s'.v s'.best s'.fd s'.pr s'.tk = some r := by
  have hw : wrap64 ((i : Int) + 1) = ((i + 1 : Nat) : Int) := by unfold wrap64; omega
  simp only [annalistlaw18_PropPhases.j3]
  unfold prop_Prop_Phase.f prop_Prop_Value.f
  rw [Option.bind_some, if_neg (by show ¬ s'.ph < s.ph; omega), hw]
  cases x with
  | false => rw [if_neg Bool.false_ne_true]; exact hr
  | true =>
    obtain rfl := h2 rfl
    rw [if_pos rfl, Option.bind_some, if_pos rfl, Option.bind_some, if_pos rfl, if_pos rfl, if_pos rfl]
    exact hr

theorem phases_j2 (n : Int) (l : List S42) (i : Nat) (s s' : PS) (o : S42) (k : Nat) (hi : i < 60) (h1 : s.ph ≤ s'.ph) (h2 : (o.f2 ≠ 5 ∨ o.f1 < 0 ∨ o.f1 ≥ min (max n 1) 63) → s' = s) (r : Bool)
    (hr : annalistlaw18_PropPhases.l0 k n l (i + 1 : Nat) s'.n s'.b s'.ph s'.v s'.best s'.fd s'.pr s'.tk = some r) :
    annalistlaw18_PropPhases.j2 (k + 1 + 1) n l i s.ph s.v s.pr s.tk s'.n s'.b s'.ph s'.v s'.best s'.fd s'.pr s'.tk o.f0 o.f1 o.f2 o.f3 o.f4 = some r := by
  have e : mn (mx n 1) 63 = min (max n 1) 63 := by unfold mn mx; (repeat' split) <;> omega
  have j := fun x h => phases_j3 n l i s s' x k hi h1 h r hr
  simp only [annalistlaw18_PropPhases.j2]
  unfold prop_Prop_Voters.f
  rw [Option.bind_some, e]
  by_cases c1 : o.f2 = 5
  · rw [if_pos c1]
    by_cases c2 : o.f1 < 0
    · rw [if_pos c2]; exact j true (fun _ => h2 (.inr (.inl c2)))
    · rw [if_neg c2]; exact j _ (fun hx => h2 (.inr (.inr (of_decide_eq_true hx))))
  · rw [if_neg c1]; exact j true (fun _ => h2 (.inl c1))

theorem phases_loop (n : Int) (l : List S42) (hl : l.length ≤ 60) (d : Nat) : ∀ (k i : Nat) (s : PS), i ≤ l.length → l.length - i = d → Inv n s → 3 * d < k →
    annalistlaw18_PropPhases.l0 k n l i s.n s.b s.ph s.v s.best s.fd s.pr s.tk = some true := by
  induction d with
  | zero =>
    intro k i s hi hd hI hk
    obtain ⟨k, rfl⟩ : ∃ m, k = m + 1 := ⟨k - 1, by omega⟩
    simp only [annalistlaw18_PropPhases.l0]
    rw [if_neg (by omega)]
  | succ d ih =>
    intro k i s hi hd hI hk
    obtain ⟨k, rfl⟩ : ∃ m, k = m + 1 + 1 + 1 := ⟨k - 3, by omega⟩
    obtain ⟨h1, h2, h3⟩ := act_inv n s hI (rd_T42 l i)
    have hr := ih k (i + 1) (act s (rd_T42 l i)) (by omega) (by omega) h1 (by omega)
    have hj := phases_j2 n l i s (act s (rd_T42 l i)) (rd_T42 l i) k (by omega) h2 h3 true hr
    simp only [annalistlaw18_PropPhases.l0]
    rw [if_pos (by omega), if_pos (by omega)]
    unfold prop_Prop_Phase.f prop_Prop_Value.f prop_Prop_Voters.f
    rw [Option.bind_some, Option.bind_some, Option.bind_some]
    revert hj
    unfold act
    by_cases hf : (rd_T42 l (i : Int)).f0 = true
    · rw [if_pos hf, if_pos hf, accepted_f s _ _ hI.ok.2.2.2 hI.ok.big, Option.bind_some]; exact id
    · rw [if_neg hf, if_neg hf, promised_f (k + 1) s _ _ _ _ hI.ok.2.2.1 hI.ok.big, Option.bind_some]; exact id

theorem PropPhases (n : Int) (l : List S42) (_ : (Lit.int .i64 n).wf = true) (_ : l.length ≤ maxLen) (_ : ∀ x ∈ l, Op42 x) : ∃ k, annalistlaw18_PropPhases.f k n l = some true := by
  refine ⟨400, ?_⟩
  unfold annalistlaw18_PropPhases.f
  rw [awake18_f 399, Option.bind_some, if_pos rfl]
  by_cases h : (l.length : Int) > 60
  · rw [decide_eq_true h]
    simp only [annalistlaw18_PropPhases.j0]
    rw [if_pos True.intro, awake18_f 398, Option.bind_some]
  · rw [decide_eq_false h]
    simp only [annalistlaw18_PropPhases.j0]
    rw [if_neg Bool.false_ne_true, new_f n 5 _, Option.bind_some]
    exact phases_loop n l (by omega) l.length 399 0 (fresh n 5 _) (Nat.zero_le _) rfl ⟨fresh_ok n 5 _, rfl, rfl, .inl rfl⟩ (by omega)

end Go.Proofs.Ytpflopenjbealaa.Pure
