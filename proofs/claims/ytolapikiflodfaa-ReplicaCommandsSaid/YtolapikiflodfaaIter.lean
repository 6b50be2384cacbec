/- Here is proved: a range over an iterator that keeps a number in a cell of its own goes round by round, where the loop's invariant does not speak of that cell. Condition: the body leaves the cell as it was. -/
import Derived.RangeFuncNested
import Derived.RangeFuncBox
import Derived.RangeFuncBound
import Derived.RangeFuncCalls
import Derived.RangeFuncLeaves
import Derived.Laws.OwnMore
import Derived.OwnWalkIn
namespace Go.Proofs.Ytolapikiflodfaa
open Go Go.RowKit
variable {F : Fence} {n : Nat} {P : Program}

/-- what an iterator with a cell of its own (block Bn, one cell) does: J is carried on by the rounds, and by the iterator's own stores into that cell -/
def CellSeq {α : Type} (F : Fence) (n : Nat) (P : Program) (g : Nat) (lb : Array Value) (encs : α → Array Value) (Bn : Nat) (Kp : World → World → Prop) (S Sp : List α → Prop) (N : Nat) (w : World) : Prop :=
  ∀ (l : Nat) (J Jx : List α → World → Prop) (W : World), Below w.heap.size w W →
    (∀ s A v, J s A → J s (A.setCell ⟨Bn, 0, none⟩ v)) →
    (∀ s A o, J s A → J s (A.alloc o)) → (∀ s A o, Jx s A → Jx s (A.alloc o)) →
    (∀ pre x W1, J pre W1 → pre.length < N → YieldAt F (n - 1) P l (encs x) W1 fun e W2 =>
      (e = .returned (.bool true) ∧ J (pre ++ [x]) W2 ∧ Kp W1 W2) ∨ (e = .returned (.bool false) ∧ Jx (pre ++ [x]) W2)) →
    J [] W →
    CallsIn F n P g (#[.func (.yield l) #[] #[]] ++ lb) W fun e W2 => (∃ v, e = .returned v) ∧ ((∃ xs, S xs ∧ J xs W2) ∨ (∃ pre, Sp pre ∧ Jx pre W2))

/-- how the body may be left -/
def bodyWay {α : Type} (B : Nat) (Kp : World → World → Prop) (I : List α → World → Prop) (Ix : Code → List α → World → Prop) (xs : List α) (W : World) : Exit → Act → World → Prop
  | .normal, _, V => KeepsFrom B W V ∧ Kp W V ∧ I xs V
  | .ret, _, V => KeepsFrom B W V ∧ Ix .ret xs V
  | .exit i, _, V => KeepsFrom B W V ∧ Ix (.exit i) xs V
  | .goto t, _, V => KeepsFrom B W V ∧ Ix (.goto t) xs V
  | _, _, _ => False

theorem at_other {W : World} {k Bn : Nat} {o : Obj} (v : Value) (h : W.heap[k]? = some o) (ho : o.isCells = false) : (W.setCell ⟨Bn, 0, none⟩ v).heap[k]? = some o :=
  (KeepsOthers.setCell W ⟨Bn, 0, none⟩ v).same k o h ho
theorem at_alloc {W : World} {k : Nat} {o : Obj} (o2 : Obj) (h : W.heap[k]? = some o) : (W.alloc o2).heap[k]? = some o :=
  (Below.heap_alloc W o2 k (Array.getElem?_eq_some_iff.1 h).1).trans h

/-- a turn of the loop's own record, or of its block for deferred calls -/
theorem own_put {β : Type} {B : Nat} {I : β → World → Prop} (h : OwnFrom B I) {s : β} {W : World} {k : Nat} {o o2 : Obj} (hs : I s W) (hB : B ≤ k) (hk : W.heap[k]? = some o) (ho : o.isCells = false) : I s (W.putObj k o2) :=
  h.putObj o2 hs hB hk ho

theorem range_cell {α : Type} {g : Operand} {ps : Array Tmp} {assign body : Code} {Q : Exit → Act → World → Prop} {a : Act} {w : World}
    (hro : F.round = none) (h1 : 1 ≤ n) {gf : Nat} {lb : Array Value} (hg : a.eval g = .func (.func gf) #[] lb) (hF : F.fn gf) (eg : ∀ args w, (callFunc gf args).run P w = .ok (.enter gf args) w)
    {encs : α → Array Value} {Bn : Nat} {Kp : World → World → Prop} {S Sp : List α → Prop} {N : Nat} {w0 : World} (hseq : CellSeq F (n - 1) P gf lb encs Bn Kp S Sp N w0)
    (hKt : ∀ {A B C : World}, Kp A B → Kp B C → Kp A C)
    (hKb : ∀ (W : World) (l : Nat) (o o2 : Obj), w.heap.size ≤ l → W.heap[l]? = some o → o.isCells = false → Kp W (W.putObj l o2))
    (hb0 : Below w0.heap.size w0 w) (hps : ∀ x, (encs x).size = ps.size)
    (I : List α → World → Prop) (Ix : Code → List α → World → Prop) (hI : OwnFrom w.heap.size I) (hIx : ∀ c, OwnFrom w.heap.size (Ix c))
    (hIc : ∀ s A v, I s A → I s (A.setCell ⟨Bn, 0, none⟩ v)) (h0 : I [] w) (a1 : α → Act)
    (hassign : ∀ (l : Nat) (x : α) (W : World) (K : Act → World → Prop), K (a1 x) W →
      assign.wpIn (F.inRound l) (n - 1 - 1) P (Exit.then K (fun _ _ _ => False)) { tmps := (ps.zip (encs x)).foldl (fun t (p, v) => t.setIfInBounds p v) a.tmps, defers := [] } W)
    (hbody : ∀ (l : Nat) (pre : List α) (x : α) (W : World), I pre W → pre.length < N → body.wpIn (F.inRound l) (n - 1 - 1) P (bodyWay w.heap.size Kp I Ix (pre ++ [x]) W) (a1 x) W)
    (hdone : ∀ (D : Nat) (xs : List α) (W : World), w.heap.size ≤ D → S xs → I xs W → W.heap[D]? = some (.deferred (some [])) → Q .normal { a with defers := { target := .collected D, args := #[] } :: a.defers } W)
    (hstop : ∀ (D : Nat) (c : Code) (pre : List α) (W : World), w.heap.size ≤ D → Sp pre → Ix c pre W → W.heap[D]? = some (.deferred (some [])) → c.wpIn F n P Q { a with defers := { target := .collected D, args := #[] } :: a.defers } W) :
    (Code.rangeFunc g ps assign body).wpIn F n P Q a w := by
  refine wpIn_rangeFunc fun fn hfn => ?_
  rw [hro]
  obtain ⟨rec, hrec⟩ : ∃ r : LoopState → Option Code → Loop, r = fun st pe => { state := st, pending := pe, fn, tmps := a.tmps, params := ps, assign, body, defers := w.heap.size } := ⟨_, rfl⟩
  obtain ⟨V, hV⟩ : ∃ V, (w.alloc (.deferred (some []))).alloc (.loop (rec .ready none)) = V := ⟨_, rfl⟩
  have hD : V.heap[w.heap.size]? = some (.deferred (some [])) := by rw [← hV]; exact at_alloc _ (World.alloc_heap_new w _)
  have hR : V.heap[w.heap.size + 1]? = some (.loop (rec .ready none)) := by
    rw [← hV]; have h := World.alloc_heap_new (w.alloc (.deferred (some []))) (.loop (rec .ready none)); rwa [World.size_alloc] at h
  have hI0 : I [] V := by rw [← hV]; exact hI.alloc _ (hI.alloc _ h0)
  have hBV : Below w0.heap.size w0 V := by rw [← hV]; exact hb0.trans ((((Below.refl _ w).alloc (Nat.le_refl _) _).alloc (by simp) _).mono hb0.size)
  refine ⟨w.heap.size + 1, [{ target := .collected w.heap.size, args := #[] }], V, { target := .fn (.func gf) lb, args := #[.func (.yield (w.heap.size + 1)) #[] #[]] }, V, gf,
    #[.func (.yield (w.heap.size + 1)) #[] #[]] ++ lb, V, ?_, ?_, ?_, ?_, fun _ => h1, ?_⟩
  · rw [← hV, hrec]; exact run_enterLoop_outer _ _ _ _ _
  · simp only [resolve, hg]; simp [go_sem]
  · intro f2 h2; simp [Target.leads] at h2; subst h2; exact hF
  · simp [invoke, go_sem, eg]
  have hround : ∀ pre x W1, (I pre W1 ∧ W1.heap[w.heap.size + 1]? = some (.loop (rec .ready none)) ∧ W1.heap[w.heap.size]? = some (.deferred (some []))) → pre.length < N →
      YieldAt F (n - 1 - 1) P (w.heap.size + 1) (encs x) W1 fun e W2 =>
        (e = .returned (.bool true) ∧ (I (pre ++ [x]) W2 ∧ W2.heap[w.heap.size + 1]? = some (.loop (rec .ready none)) ∧ W2.heap[w.heap.size]? = some (.deferred (some []))) ∧ Kp W1 W2) ∨
        (e = .returned (.bool false) ∧ ∃ c, Ix c (pre ++ [x]) W2 ∧ W2.heap[w.heap.size + 1]? = some (.loop (rec .done (some c))) ∧ W2.heap[w.heap.size]? = some (.deferred (some []))) := by
    rintro pre x W1 ⟨hi, hl, hd⟩ hlen
    have hlt := (Array.getElem?_eq_some_iff.1 hl).1
    have hy := run_yield (P := P) (args := encs x) hl (by rw [hrec]; exact hps x)
    rw [hrec] at hy
    refine ⟨fn, _, assign, body, hy, roundIn_of_wpIn hfn (hassign _ x W1 _ ⟨_, run_beginRound hl (by rw [hrec]), ?_⟩)⟩
    generalize hW3 : W1.putObj (w.heap.size + 1) (.loop { rec .ready none with state := .busy }) = W3
    have hl3 : W3.heap[w.heap.size + 1]? = some (.loop { rec .ready none with state := .busy }) := by rw [← hW3]; exact World.putObj_heap_same hlt
    have hd3 : W3.heap[w.heap.size]? = some (.deferred (some [])) := by rw [← hW3]; exact (World.putObj_heap_other (by omega)).trans hd
    have hk3 : Kp W1 W3 := by rw [← hW3]; exact hKb _ _ _ _ (by omega) hl rfl
    have hi3 : I pre W3 := by rw [← hW3]; exact own_put hI hi (by omega) hl rfl
    have last : ∀ (j : Option Code) (W4 : World), KeepsFrom w.heap.size W3 W4 → ∃ W5, (Instr.endRound (w.heap.size + 1) j).run P W4 = .ok (.bool j.isNone) W5 ∧ W5 = W4.putObj (w.heap.size + 1) (.loop (rec (if j.isNone then .ready else .done) j)) ∧
        W4.heap[w.heap.size + 1]? = some (.loop { rec .ready none with state := .busy }) ∧
        W5.heap[w.heap.size + 1]? = some (.loop (rec (if j.isNone then .ready else .done) j)) ∧ W5.heap[w.heap.size]? = some (.deferred (some [])) := fun j W4 h4 => by
      have hl4 := h4.same _ _ (by omega) hl3 rfl
      have hd4 := h4.same _ _ (Nat.le_refl _) hd3 rfl
      have he := run_endRound (P := P) j hl4
      refine ⟨_, he, ?_, hl4, ?_, ?_⟩
      · rw [hrec]
      · rw [World.putObj_heap_same (Array.getElem?_eq_some_iff.1 hl4).1, hrec]
      · exact (World.putObj_heap_other (by omega)).trans hd4
    refine wpIn_mono (hbody _ pre x _ hi3 hlen) ?_
    rintro e a4 W4 hp
    cases e with
    | normal =>
      obtain ⟨h4, hk4, hi4⟩ := hp
      obtain ⟨W5, he, e5, hl4, hl5, hd5⟩ := last none W4 h4
      exact ⟨_, _, he, .inl ⟨rfl, ⟨by rw [e5]; exact own_put hI hi4 (by omega) hl4 rfl, hl5, hd5⟩, by rw [e5]; exact hKt (hKt hk3 hk4) (hKb _ _ _ _ (by omega) hl4 rfl)⟩⟩
    | ret =>
      obtain ⟨h4, hi4⟩ := hp
      obtain ⟨W5, he, e5, hl4, hl5, hd5⟩ := last (some .ret) W4 h4
      exact ⟨_, _, he, .inr ⟨rfl, .ret, by rw [e5]; exact own_put (hIx _) hi4 (by omega) hl4 rfl, hl5, hd5⟩⟩
    | exit i =>
      obtain ⟨h4, hi4⟩ := hp
      obtain ⟨W5, he, e5, hl4, hl5, hd5⟩ := last (some (.exit i)) W4 h4
      exact ⟨_, _, he, .inr ⟨rfl, .exit i, by rw [e5]; exact own_put (hIx _) hi4 (by omega) hl4 rfl, hl5, hd5⟩⟩
    | goto t =>
      obtain ⟨h4, hi4⟩ := hp
      obtain ⟨W5, he, e5, hl4, hl5, hd5⟩ := last (some (.goto t)) W4 h4
      exact ⟨_, _, he, .inr ⟨rfl, .goto t, by rw [e5]; exact own_put (hIx _) hi4 (by omega) hl4 rfl, hl5, hd5⟩⟩
    | panic ch => exact hp.elim
    | outgrown => exact hp.elim
  refine (hseq (w.heap.size + 1)
    (fun pre W => I pre W ∧ W.heap[w.heap.size + 1]? = some (.loop (rec .ready none)) ∧ W.heap[w.heap.size]? = some (.deferred (some [])))
    (fun pre W => ∃ c, Ix c pre W ∧ W.heap[w.heap.size + 1]? = some (.loop (rec .done (some c))) ∧ W.heap[w.heap.size]? = some (.deferred (some [])))
    V hBV (fun s A v h => ⟨hIc s A v h.1, at_other v h.2.1 rfl, at_other v h.2.2 rfl⟩)
    (fun s A o h => ⟨hI.alloc o h.1, at_alloc o h.2.1, at_alloc o h.2.2⟩)
    (fun s A o h => by obtain ⟨c, hc, hl, hd⟩ := h; exact ⟨c, (hIx c).alloc o hc, at_alloc o hl, at_alloc o hd⟩)
    hround ⟨hI0, hR, hD⟩).mono ?_
  rintro e W2 ⟨⟨v, rfl⟩, (⟨xs, hS, hi, hl, hd⟩ | ⟨pre, hSp, c, hi, hl, hd⟩)⟩
  · refine ⟨none, _, by have h := run_endLoop (P := P) hl (by rw [hrec]; simp); rw [hrec] at h; exact h, ?_⟩
    exact hdone _ xs _ (Nat.le_refl _) hS (own_put hI hi (by omega) hl rfl) ((World.putObj_heap_other (by omega)).trans hd)
  · refine ⟨some c, _, by have h := run_endLoop (P := P) hl (by rw [hrec]; simp); rw [hrec] at h; exact h, ?_⟩
    exact hstop _ c pre _ (Nat.le_refl _) hSp (own_put (hIx c) hi (by omega) hl rfl) ((World.putObj_heap_other (by omega)).trans hd)

/-- append(s, x...), both the call's own (x may be nil) -/
theorem append_two {F : Fence} {n : Nat} {P : Program} (w : World) {ops : Array Oper} {rest : List Oper} {o : Oper} {a : Act} {Q : Exit → Act → World → Prop}
    (hg : o.guard = none) (s x : Operand) (t : TypeId) (hop : o.op = Op.call { callee := Callee.builtin Builtin.append, args := #[s, x], argTypes := #[t, t] })
    (base : Nat) (e : TypeId) (i : TypeInfo) (z : Value) (size bytes : Nat) (h1 : P.underlying t = some (.slice e)) (h2 : P.info? e = some i) (h3 : i.zero = some z) (h4 : i.size = size) (h5 : i.bytes = bytes) (h6 : z.cells.size = size) (h7 : 0 < size)
    (v : Value) (k : Nat) (xs : List Value) (hs : a.eval s = v) (hown : w.ownsRow base e size v k xs) (base2 : Nat) (vx : Value) (m : Nat) (news : List Value) (hx : a.eval x = vx) (hown2 : w.ownsRow base2 e size vx m news)
    (h1c : ∀ u ∈ news, u.oneCell' = true) (b1 : k + m ≤ maxLen) (b2 : (k + m) * bytes ≤ 140737488355328) (b3 : base ≤ w.heap.size)
    (hK : ∀ v2 w2, w2.ownsRow base e size v2 (k + m) (xs ++ news) → w.grownBy w2 v.ownBlock → wpListIn F n P ops Q rest (a.put o.dst v2) w2) :
    wpListIn F n P ops Q (o :: rest) a w := by
  rcases hown2.2 with ⟨rfl, rfl⟩ | ⟨g, cap, cur, rfl, hg2, hgb, hc1, hc2, hc3, hc4⟩
  · have hn : news = [] := List.eq_nil_of_length_eq_zero (by have := hown2.1; omega)
    subst hn
    refine wpListIn_plain hg fun K hK2 => ?_
    have hrun := run_append_owned_none (P := P) (w := w) base t o.type e i size h1 h2 v k xs hown
    unfold Oper.wpIn
    refine ⟨by simp [Oper.about, hop, resolve, Target.leads, Sem.run_pure], ?_⟩
    rw [Oper.semAt_plain F _ _ (by rw [hop]; intro c hc; cases hc)]
    simp [execOp, hop, resolve, invoke, builtin, hs, hx, hrun, Result.andThen]
    exact hK2 _ _ (hK v w (by simpa using hown) (World.grownBy.refl w _))
  · exact wpListIn_append_own w hg s x t hop base e i z size bytes h1 h2 h3 h4 h5 h6 h7 v k xs hs hown ⟨g, 0, none⟩ m cap news hx hown2.1 (hown2.cells rfl) h1c b1 b2 b3 (fun v2 w2 r1 r2 _ => hK v2 w2 r1 r2)
theorem own_mono {w : World} {b b2 : Nat} {e size : Nat} {v : Value} {n : Nat} {xs : List Value} (h : w.ownsRow b e size v n xs) (hb : b2 ≤ b) : w.ownsRow b2 e size v n xs := by
  refine ⟨h.1, ?_⟩
  rcases h.2 with h0 | ⟨g, cap, cur, h1, h2, h3⟩
  · exact .inl h0
  · exact .inr ⟨g, cap, cur, h1, Nat.le_trans hb h2, h3⟩
theorem own_below {w w2 : World} {b B : Nat} {e size : Nat} {v : Value} {n : Nat} {xs : List Value} (h : w.ownsRow b e size v n xs) (hlt : B = w.heap.size) (hb : Below B w w2) : w2.ownsRow b e size v n xs := by
  subst hlt
  refine ⟨h.1, ?_⟩
  rcases h.2 with h0 | ⟨g, cap, cur, h1, h2, h3, h4⟩
  · exact .inl h0
  · exact .inr ⟨g, cap, cur, h1, h2, (hb.block g (Array.getElem?_eq_some_iff.1 h3).1).trans h3, h4⟩
end Go.Proofs.Ytolapikiflodfaa
