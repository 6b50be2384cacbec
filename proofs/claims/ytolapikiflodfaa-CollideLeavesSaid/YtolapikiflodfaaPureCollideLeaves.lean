/- Here is proved: whatever two claims are given, collide.Leaves tells a collision where it must, and nothing else. Conditions: none. -/
import Derived.Test.YtolapikiflodfaaPColCollideLeaves
namespace Go.Proofs.Ytolapikiflodfaa.PCollideLeaves.Pure
open Go Go.RowKit Go.Proofs.YtolapikiflodfaaW.PrintWords Go.Proofs.YtolapikiflodfaaW.PrintLast Go.Proofs.YtolapikiflodfaaW.PrintMore
open Go.Proofs.Ytolapikiflodfaa.PCollideLeaves Go.Proofs.Ytolapikiflodfaa.Hsh Go.Proofs.Ytolapikiflodfaa.PColCollideLeaves
set_option linter.unusedVariables false
theorem ba_ext {a b : ByteArray} (h : a.data = b.data) : a = b := by
  cases a; cases b; cases h; rfl
theorem toList_inj {a b : ByteArray} (h : a.toList = b.toList) : a = b := by
  rw [ByteArray.toList_eq, ByteArray.toList_eq] at h
  exact ba_ext (Array.toList_inj.1 h)
theorem app_left {a b p q : ByteArray} (h : a ++ p = b ++ q) (hs : a.size = b.size) : a = b := by
  have h1 := congrArg (fun x => x.data.toList) h
  simp only [ByteArray.data_append, Array.toList_append] at h1
  have := (List.append_inj h1 (by simpa using hs)).1
  exact ba_ext (Array.toList_inj.1 this)
theorem app_right {a b p q : ByteArray} (h : p ++ a = q ++ b) (hs : a.size = b.size) : a = b := by
  have h1 := congrArg (fun x => x.data.toList) h
  simp only [ByteArray.data_append, Array.toList_append] at h1
  have := (List.append_inj' h1 (by simpa using hs)).2
  exact ba_ext (Array.toList_inj.1 this)
theorem step_hash {h9 : Hs} {c : Prop} [Decidable c] {a b p q : ByteArray} (h : (if c then ((⟨#[1]⟩ : ByteArray) ++ h9.fn a) ++ p else ((⟨#[1]⟩ : ByteArray) ++ p) ++ h9.fn a) = (if c then ((⟨#[1]⟩ : ByteArray) ++ h9.fn b) ++ q else ((⟨#[1]⟩ : ByteArray) ++ q) ++ h9.fn b)) : h9.fn a = h9.fn b := by
  by_cases hc : c
  · rw [if_pos hc, if_pos hc] at h
    have := app_left h (by rw [ByteArray.size_append, ByteArray.size_append, h9.size, h9.size])
    exact app_right this (by rw [h9.size, h9.size])
  · rw [if_neg hc, if_neg hc] at h
    exact app_right h (by rw [h9.size, h9.size])
section
variable {h9 : Hs} {leaf1 leaf2 : ByteArray} {p1 p2 : List ByteArray} {base F G : List S157} {D : Nat}
theorem ap_l (tF : Tx h9 leaf1 p1 base F D) (tG : Tx h9 leaf2 p2 base G D) (j : Nat) (hj : j ≤ D) (res : ByteArray × ByteArray × Bool) (hr : Ev (fun k => collide_apart.j1 k F G (j : Int) ((D + 1 : Nat) : Int) (j : Int) false) res) :
    Ev (fun k => collide_apart.l0 k F G ((D + 1 : Nat) : Int) (j : Int)) res := by
  have c1 : (j : Int) < ((D + 1 : Nat) : Int) := by omega
  have c2 : (0 : Int) ≤ (j : Int) := by omega
  have c3 : (j : Int) < (F.length : Int) := by rw [tF.len]; exact c1
  have c4 : (j : Int) < (G.length : Int) := by rw [tG.len]; exact c1
  have c5 : (rd_T157 F (j : Int)).f0 = (rd_T157 G (j : Int)).f0 := (tF.ends j hj).1.trans (tG.ends j hj).1.symm
  have c6 : ((rd_T157 F (j : Int)).f1 != (rd_T157 G (j : Int)).f1) = false := bne_eq_false_iff_eq.mpr ((tF.ends j hj).2.trans (tG.ends j hj).2.symm)
  refine Ev.step (fun k => collide_apart.l0.eq_2 _ _ _ _ _) (Ev.pos c1 (Ev.pos c2 (Ev.pos c3 (Ev.pos c4 (Ev.pos c5 ?_)))))
  rw [c6]
  exact hr
theorem ap_j (tF : Tx h9 leaf1 p1 base F D) (tG : Tx h9 leaf2 p2 base G D) (j : Nat) (hj : j ≤ D) (hD : D ≤ 1048576) (res : ByteArray × ByteArray × Bool)
    (hr : Ev (fun k => if (F.getD j z157).f2.toList = (G.getD j z157).f2.toList then collide_apart.l0 k F G ((D + 1 : Nat) : Int) ((j + 1 : Nat) : Int) else some ((F.getD j z157).f2, (G.getD j z157).f2, true)) res) :
    Ev (fun k => collide_apart.j1 k F G (j : Int) ((D + 1 : Nat) : Int) (j : Int) false) res := by
  have c1 : (j : Int) < ((D + 1 : Nat) : Int) := by omega
  have c2 : (0 : Int) ≤ (j : Int) := by omega
  have c3 : (j : Int) < (F.length : Int) := by rw [tF.len]; exact c1
  have c4 : (j : Int) < (G.length : Int) := by rw [tG.len]; exact c1
  have w : wrap64 ((j : Int) + 1) = ((j + 1 : Nat) : Int) := by unfold wrap64; omega
  refine Ev.step (fun k => collide_apart.j1.eq_2 _ _ _ _ _ _ _) (Ev.neg (by decide) (Ev.pos c2 (Ev.pos c3 (Ev.pos c4 ?_))))
  rw [w]
  exact hr
theorem apart_ev (tF : Tx h9 leaf1 p1 base F D) (tG : Tx h9 leaf2 p2 base G D) (hD : D ≤ 1048576) (d : Nat) : ∀ j, j + d = D + 1 → (∀ t, t < j → (F.getD t z157).f2 = (G.getD t z157).f2) →
    ∃ res : ByteArray × ByteArray × Bool, Ev (fun k => collide_apart.l0 k F G ((D + 1 : Nat) : Int) (j : Int)) res ∧
      (((∀ t, t ≤ D → (F.getD t z157).f2 = (G.getD t z157).f2) ∧ res = (⟨#[]⟩, ⟨#[]⟩, false)) ∨ ∃ t, t ≤ D ∧ (∀ u, u < t → (F.getD u z157).f2 = (G.getD u z157).f2) ∧ (F.getD t z157).f2 ≠ (G.getD t z157).f2 ∧ res = ((F.getD t z157).f2, (G.getD t z157).f2, true)) := by
  induction d with
  | zero =>
    intro j hj hb
    have c1 : ¬ (j : Int) < ((D + 1 : Nat) : Int) := by omega
    exact ⟨_, Ev.step (fun k => collide_apart.l0.eq_2 _ _ _ _ _) (Ev.neg c1 (Ev.now _)), .inl ⟨fun t ht => hb t (by omega), rfl⟩⟩
  | succ d ih =>
    intro j hj hb
    have hjD : j ≤ D := by omega
    have hj1 : j + 1 + d = D + 1 := by omega
    by_cases hc : (F.getD j z157).f2 = (G.getD j z157).f2
    · have hb2 : ∀ t, t < j + 1 → (F.getD t z157).f2 = (G.getD t z157).f2 := fun t ht => by
        by_cases h3 : t = j
        · rw [h3]; exact hc
        · exact hb t (Nat.lt_of_le_of_ne (Nat.le_of_lt_succ ht) h3)
      obtain ⟨res, hr, h2⟩ := ih (j + 1) hj1 hb2
      exact ⟨res, ap_l tF tG j hjD res (ap_j tF tG j hjD hD res (Ev.pos (by rw [hc]) hr)), h2⟩
    · exact ⟨_, ap_l tF tG j hjD _ (ap_j tF tG j hjD hD _ (Ev.neg (fun h => hc (toList_inj h)) (Ev.now _))), .inr ⟨j, hjD, hb, hc, rfl⟩⟩
theorem collides (tF : Tx h9 leaf1 p1 base F D) (tG : Tx h9 leaf2 p2 base G D) (hr : h9.fn (hd F) = h9.fn (hd G)) (t : Nat) (ht : t ≤ D) (hu : ∀ u, u < t → (F.getD u z157).f2 = (G.getD u z157).f2) : h9.fn (F.getD t z157).f2 = h9.fn (G.getD t z157).f2 := by
  cases t with
  | zero => exact hr
  | succ u =>
    have h := hu u (Nat.lt_succ_self _)
    rw [tF.mid u (by omega), tG.mid u (by omega), (tF.ends (u + 1) ht).1, (tF.ends u (by omega)).1, (tG.ends (u + 1) ht).1, (tG.ends u (by omega)).1] at h
    exact step_hash h
end
/-- what is asked of two claims, that a collision be told -/
def Want (h9 : Hs) (l1 : ByteArray) (i1 n1 : Int) (p1 : List ByteArray) (l2 : ByteArray) (i2 n2 : Int) (p2 : List ByteArray) : Prop :=
  (rootF h9 l1 i1 n1 p1).2 = true ∧ (rootF h9 l2 i2 n2 p2).2 = true ∧ (rootF h9 l1 i1 n1 p1).1 = (rootF h9 l2 i2 n2 p2).1 ∧ i1 = i2 ∧ n1 = n2 ∧ l1 ≠ l2
def Told (h9 : Hs) (res : ByteArray × ByteArray × Bool) : Prop := res.2.2 = true ∧ res.1 ≠ res.2.1 ∧ h9.fn res.1 = h9.fn res.2.1 ∧ res.1.size ≤ 1001 ∧ res.2.1.size ≤ 1001
theorem rootF_ok {h9 : Hs} {l : ByteArray} {i n : Int} {p : List ByteArray} : (rootF h9 l i n p).2 = okC i n p := by
  unfold rootF
  cases okC i n p <;> rfl
theorem holds_ev (h9 : Hs) (r l : ByteArray) (i n : Int) (p : List ByteArray) (hl : l.size ≤ 1000) (hp : ∀ s ∈ p, s.size ≤ 40) (hpl : p.length ≤ 1000) :
    Ev (fun k => collide_holds.f k h9 r l i n p) (if (rootF h9 l i n p).2 = true then (rootF h9 l i n p).1.toList == r.toList else false) := by
  unfold collide_holds.f
  refine Ev.bind (Root_ev h9 l i n p hl hp hpl) ?_
  by_cases h : (rootF h9 l i n p).2 = true
  · rw [if_pos h, if_pos h]; exact Ev.now _
  · rw [if_neg h, if_neg h]; exact Ev.now _
theorem lj0_true (h9 : Hs) (l1 : ByteArray) (i1 n1 : Int) (p1 : List ByteArray) (l2 : ByteArray) (i2 n2 : Int) (p2 : List ByteArray) : Ev (fun k => collide_Leaves.j0 k h9 true l1 i1 n1 p1 l2 i2 n2 p2) (⟨#[]⟩, ⟨#[]⟩, false) :=
  Ev.step (fun k => collide_Leaves.j0.eq_2 _ _ _ _ _ _ _ _ _ _ _) (Ev.pos rfl (Ev.now _))
theorem Leaves_ev (h9 : Hs) (l1 : ByteArray) (i1 n1 : Int) (p1 : List ByteArray) (l2 : ByteArray) (i2 n2 : Int) (p2 : List ByteArray)
    (hl1 : l1.size ≤ 1000) (hp1 : ∀ s ∈ p1, s.size ≤ 40) (hq1 : p1.length ≤ 1000) (hl2 : l2.size ≤ 1000) (hp2 : ∀ s ∈ p2, s.size ≤ 40) (hq2 : p2.length ≤ 1000) :
    ∃ res, Ev (fun k => collide_Leaves.f k h9 (rootF h9 l1 i1 n1 p1).1 l1 i1 n1 p1 l2 i2 n2 p2) res ∧ ((Want h9 l1 i1 n1 p1 l2 i2 n2 p2 ∧ Told h9 res) ∨ (¬ Want h9 l1 i1 n1 p1 l2 i2 n2 p2 ∧ res = (⟨#[]⟩, ⟨#[]⟩, false))) := by
  unfold collide_Leaves.f
  have hA := holds_ev h9 (rootF h9 l1 i1 n1 p1).1 l1 i1 n1 p1 hl1 hp1 hq1
  have hB := holds_ev h9 (rootF h9 l1 i1 n1 p1).1 l2 i2 n2 p2 hl2 hp2 hq2
  have no := lj0_true h9 l1 i1 n1 p1 l2 i2 n2 p2
  by_cases c1 : (rootF h9 l1 i1 n1 p1).2 = true
  · rw [if_pos c1, beq_self_eq_true] at hA
    by_cases c2 : (rootF h9 l2 i2 n2 p2).2 = true ∧ (rootF h9 l2 i2 n2 p2).1 = (rootF h9 l1 i1 n1 p1).1
    · rw [if_pos c2.1, c2.2, beq_self_eq_true] at hB
      by_cases c3 : i1 = i2
      · by_cases c4 : n1 = n2
        · by_cases c5 : l1 = l2
          · refine ⟨_, Ev.bind hA (Ev.pos rfl (Ev.bind hB (Ev.pos rfl (Ev.pos c3 (Ev.pos c4 ?_))))), .inr ⟨fun h => h.2.2.2.2.2 c5, rfl⟩⟩
            rw [c5, beq_self_eq_true]
            rw [c5] at no
            exact no
          · have o1 := c1
            have o2 := c2.1
            rw [rootF_ok] at o1 o2
            subst c3 c4
            obtain ⟨a1, a2, a3, a4, _, a6⟩ := okC_in o1
            obtain ⟨_, _, _, _, _, b6⟩ := okC_in o2
            have tF := tex_tx h9 l1 p1 0 i1.toNat n1.toNat (by omega) (by omega)
            have tG := tex_tx h9 l2 p2 0 i1.toNat n1.toNat (by omega) (by omega)
            have hDl := dep_lt i1.toNat n1.toNat
            have eF := opened_ev h9 l1 i1 n1 p1 hl1 hp1 hq1
            have eG := opened_ev h9 l2 i1 n1 p2 hl2 hp2 hq2
            unfold openF at eF eG
            rw [o1, if_pos rfl] at eF
            rw [o2, if_pos rfl] at eG
            have hroot : h9.fn (hd (tex h9 l1 p1 0 i1.toNat n1.toNat)) = h9.fn (hd (tex h9 l2 p2 0 i1.toNat n1.toNat)) := by
              have := c2.2
              unfold rootF at this
              rw [o1, o2] at this
              exact this.symm
            obtain ⟨res, hr, hcase⟩ := apart_ev tF tG (by omega) (dep i1.toNat n1.toNat + 1) 0 (Nat.zero_add _) (fun t ht => by omega)
            have hap : Ev (fun k => collide_apart.f k (tex h9 l1 p1 0 i1.toNat n1.toNat) (tex h9 l2 p2 0 i1.toNat n1.toNat)) res := by
              unfold collide_apart.f
              rw [show mn ((tex h9 l1 p1 0 i1.toNat n1.toNat).length : Int) ((tex h9 l2 p2 0 i1.toNat n1.toNat).length : Int) = ((dep i1.toNat n1.toNat + 1 : Nat) : Int) from by rw [tF.len, tG.len]; unfold mn; split <;> rfl]
              exact hr
            refine ⟨(res.1, res.2.1, res.2.2), Ev.bind hA (Ev.pos rfl (Ev.bind hB (Ev.pos rfl (Ev.pos rfl (Ev.pos rfl ?_))))), .inl ⟨⟨c1, c2.1, c2.2.symm, rfl, rfl, c5⟩, ?_⟩⟩
            · rw [beq_eq_false_iff_ne.mpr (fun h => c5 (toList_inj h))]
              exact Ev.step (fun k => collide_Leaves.j0.eq_2 _ _ _ _ _ _ _ _ _ _ _) (Ev.neg (by decide) (Ev.bind eF (Ev.bind eG (Ev.bind hap (Ev.now _)))))
            · rcases hcase with ⟨hall, _⟩ | ⟨t, ht, hu, hne, rfl⟩
              · have := hall _ (Nat.le_refl _)
                rw [tF.last, tG.last] at this
                have h1 := congrArg (fun x => x.data.toList) this
                simp only [ByteArray.data_append, Array.toList_append] at h1
                have h2 := List.append_cancel_left h1
                exact absurd (ba_ext (Array.toList_inj.1 h2)) c5
              · exact ⟨rfl, hne, collides tF tG hroot t ht hu, tx_size tF hl1 hp1 t ht, tx_size tG hl2 hp2 t ht⟩
        · exact ⟨_, Ev.bind hA (Ev.pos rfl (Ev.bind hB (Ev.pos rfl (Ev.pos c3 (Ev.neg c4 no))))), .inr ⟨fun h => c4 h.2.2.2.2.1, rfl⟩⟩
      · exact ⟨_, Ev.bind hA (Ev.pos rfl (Ev.bind hB (Ev.pos rfl (Ev.neg c3 no)))), .inr ⟨fun h => c3 h.2.2.2.1, rfl⟩⟩
    · have hf : (if (rootF h9 l2 i2 n2 p2).2 = true then (rootF h9 l2 i2 n2 p2).1.toList == (rootF h9 l1 i1 n1 p1).1.toList else false) = false := by
        by_cases h : (rootF h9 l2 i2 n2 p2).2 = true
        · rw [if_pos h]
          exact beq_eq_false_iff_ne.mpr (fun h3 => c2 ⟨h, toList_inj h3⟩)
        · rw [if_neg h]
      rw [hf] at hB
      exact ⟨_, Ev.bind hA (Ev.pos rfl (Ev.bind hB (Ev.neg (by decide) no))), .inr ⟨fun h => c2 ⟨h.2.1, h.2.2.1.symm⟩, rfl⟩⟩
  · rw [if_neg c1] at hA
    exact ⟨_, Ev.bind hA (Ev.neg (by decide) no), .inr ⟨fun h => c1 h.1, rfl⟩⟩
theorem leaves_ev (a0 : Int) (r l1 : ByteArray) (i1 n1 : Int) (p1 : List ByteArray) (l2 : ByteArray) (i2 n2 : Int) (p2 : List ByteArray) (res : ByteArray × ByteArray × Bool) (h : Ev (fun k => collide_Leaves.f k (hsW a0) r l1 i1 n1 p1 l2 i2 n2 p2) res) :
    Ev (fun k => annalistlaw08_leaves.f k a0 r l1 i1 n1 p1 l2 i2 n2 p2) res := by
  unfold hsW at h
  unfold annalistlaw08_leaves.f
  by_cases h0 : Int.tmod a0 3 = 0
  · rw [if_pos h0] at h
    exact Ev.pos h0 (Ev.bind h (Ev.now _))
  · rw [if_neg h0] at h
    refine Ev.neg h0 ?_
    by_cases h1 : Int.tmod a0 3 = 1
    · rw [if_pos h1] at h
      exact Ev.pos h1 (Ev.bind h (Ev.now _))
    · rw [if_neg h1] at h
      exact Ev.neg h1 (Ev.bind h (Ev.now _))
theorem j1_told (a0 : Int) (res : ByteArray × ByteArray × Bool) (h : Told (hsW a0) res) : Ev (fun k => annalistlaw08_CollideLeaves.j1 k a0 res.2.2 true res.1 res.2.1) true := by
  obtain ⟨h1, h2, h3, h4, h5⟩ := h
  rw [h1]
  refine Ev.step (fun k => annalistlaw08_CollideLeaves.j1.eq_2 _ _ _ _ _ _) (Ev.neg (by decide) (Ev.pos rfl ?_))
  refine Ev.bind (a := true) ?_ (Ev.now _)
  unfold annalistref08_Collides.f
  refine Ev.neg (fun h => h2 (toList_inj h)) (Ev.bind (hash_ev a0 _ (by omega)) (Ev.bind (hash_ev a0 _ (by omega)) ?_))
  rw [h3, beq_self_eq_true]
  exact Ev.now _
theorem j1_not (a0 : Int) : Ev (fun k => annalistlaw08_CollideLeaves.j1 k a0 false false ⟨#[]⟩ ⟨#[]⟩) true :=
  Ev.step (fun k => annalistlaw08_CollideLeaves.j1.eq_2 _ _ _ _ _ _) (Ev.neg (by decide) (Ev.neg (by decide) (by
    rw [show ((⟨#[]⟩ : ByteArray).toList == ([] : List UInt8)) = true from by rw [ByteArray.toList_eq]; rfl]
    exact Ev.now _)))
theorem CollideLeaves (a0 : Int) (l1 : ByteArray) (i1 n1 : Int) (p1 : List ByteArray) (l2 : ByteArray) (i2 n2 : Int) (p2 : List ByteArray) (_ : (Lit.int .u8 a0).wf = true)
    (hq1 : l1.size ≤ maxLen ∧ (Lit.int .i64 i1).wf = true ∧ (Lit.int .i64 n1).wf = true ∧ p1.length ≤ maxLen ∧ ∀ s ∈ p1, s.size ≤ maxLen)
    (hq2 : l2.size ≤ maxLen ∧ (Lit.int .i64 i2).wf = true ∧ (Lit.int .i64 n2).wf = true ∧ p2.length ≤ maxLen ∧ ∀ s ∈ p2, s.size ≤ maxLen) : ∃ k, annalistlaw08_CollideLeaves.f k a0 l1 i1 n1 p1 l2 i2 n2 p2 = some true := by
  have hl1 := hq1.2.2.2.1
  have hl2 := hq2.2.2.2.1
  unfold maxLen at hl1 hl2
  refine Ev.rounds (g := fun k => annalistlaw08_CollideLeaves.f k a0 l1 i1 n1 p1 l2 i2 n2 p2) ?_
  unfold annalistlaw08_CollideLeaves.f
  obtain ⟨b, hb, h2⟩ := few_f l1 i1 n1 p1 (by omega)
  obtain ⟨c, hc, h3⟩ := few_f l2 i2 n2 p2 (by omega)
  have no : Ev (fun k => annalistlaw08_CollideLeaves.j0 k a0 true l1 i1 n1 p1 l2 i2 n2 p2) true := Ev.step (fun k => annalistlaw08_CollideLeaves.j0.eq_2 _ _ _ _ _ _ _ _ _ _ _) (Ev.pos rfl (Ev.bind awake_ev (Ev.now _)))
  refine Ev.bind awake_ev (Ev.pos rfl (Ev.bind hb ?_))
  cases b with
  | false => exact Ev.neg (by decide) no
  | true =>
    refine Ev.pos rfl (Ev.bind hc ?_)
    cases c with
    | false => exact no
    | true =>
      obtain ⟨b1, b2, b3⟩ := h2 rfl
      obtain ⟨c1, c2, c3⟩ := h3 rfl
      obtain ⟨res, hr, hw⟩ := Leaves_ev (hsW a0) l1 i1 n1 p1 l2 i2 n2 p2 (by omega) b3 (by omega) (by omega) c3 (by omega)
      refine Ev.step (fun k => annalistlaw08_CollideLeaves.j0.eq_2 _ _ _ _ _ _ _ _ _ _ _) (Ev.neg (by decide) (Ev.bind (refRoot_ev a0 l1 i1 n1 p1 (by omega) b3 (by omega)) (Ev.bind (refRoot_ev a0 l2 i2 n2 p2 (by omega) c3 (by omega)) (Ev.bind (leaves_ev a0 _ l1 i1 n1 p1 l2 i2 n2 p2 res hr) ?_))))
      rcases hw with ⟨⟨d1, d2, d3, d4, d5, d6⟩, ht⟩ | ⟨hn, rfl⟩
      · refine Ev.pos d1 (Ev.pos d2 (Ev.pos (by rw [d3]) (Ev.pos d4 (Ev.pos d5 ?_))))
        rw [bne_iff_ne.mpr (fun h => d6 (toList_inj h))]
        exact j1_told a0 res ht
      · have z := j1_not a0
        by_cases d1 : (rootF (hsW a0) l1 i1 n1 p1).2 = true
        · refine Ev.pos d1 ?_
          by_cases d2 : (rootF (hsW a0) l2 i2 n2 p2).2 = true
          · refine Ev.pos d2 ?_
            by_cases d3 : (rootF (hsW a0) l1 i1 n1 p1).1.toList = (rootF (hsW a0) l2 i2 n2 p2).1.toList
            · refine Ev.pos d3 ?_
              by_cases d4 : i1 = i2
              · refine Ev.pos d4 ?_
                by_cases d5 : n1 = n2
                · refine Ev.pos d5 ?_
                  by_cases d6 : l1 = l2
                  · rw [d6, bne_self_eq_false]
                    exact z
                  · exact absurd ⟨d1, d2, toList_inj d3, d4, d5, d6⟩ hn
                · exact Ev.neg d5 z
              · exact Ev.neg d4 z
            · exact Ev.neg d3 z
          · exact Ev.neg d2 z
        · exact Ev.neg d1 z
end Go.Proofs.Ytolapikiflodfaa.PCollideLeaves.Pure
