/- Here is proved: a range over an iterator that keeps a number in a cell of its own goes round by round, where the loop's invariant does not speak of that cell. Condition: the body leaves the cell as it was. -/
import Derived.Test.YtondnammkcgjpaaMFetchBad3
import Derived.RangeFuncNested
import Derived.RangeFuncBox
import Derived.RangeFuncBound
import Derived.RangeFuncCalls
import Derived.RangeFuncLeaves
import Derived.Laws.OwnMore
import Derived.OwnWalkIn
import Derived.Shelf.Abstract
import Derived.Shelf.RegionOpen
import Derived.TacticsInMore
import Derived.LoopNIn
import Derived.LoopIn
import Derived.Laws.BitsAllLaws
import Derived.Scope
import Derived.WalkMore
import Derived.Deep.MidRow
import Derived.Laws.BitsLemmas
import Derived.WalkKit
import Derived.Lib.Hide
import Derived.Maps.AppendAt
import Derived.Test.YtondnammkcgjpaaProg
import Derived.Deep.QuietTactic
import Derived.BigQuiet
import Derived.Lib.SliceRun
import Derived.OrdersIn
import Derived.TacticsIn
import Derived.RangeFuncKeeps
set_option linter.unusedVariables false
set_option linter.unusedSimpArgs false
set_option maxRecDepth 100000
set_option maxHeartbeats 8000000
namespace Go.Proofs.Ytondnammkcgjpaa
open Go Go.RowKit
variable {F : Fence} {n : Nat} {P : Program}

def CellSeq {α : Type} (F : Fence) (n : Nat) (P : Program) (g : Nat) (lb : Array Value) (encs : α → Array Value) (Bn : Nat) (Kp : World → World → Prop) (S Sp : List α → Prop) (N : Nat) (w : World) : Prop :=
  ∀ (l : Nat) (J Jx : List α → World → Prop) (W : World), Below w.heap.size w W →
    (∀ s A v, J s A → J s (A.setCell ⟨Bn, 0, none⟩ v)) →
    (∀ s A o, J s A → J s (A.alloc o)) → (∀ s A o, Jx s A → Jx s (A.alloc o)) →
    (∀ pre x W1, J pre W1 → pre.length < N → YieldAt F (n - 1) P l (encs x) W1 fun e W2 =>
      (e = .returned (.bool true) ∧ J (pre ++ [x]) W2 ∧ Kp W1 W2) ∨ (e = .returned (.bool false) ∧ Jx (pre ++ [x]) W2)) →
    J [] W →
    CallsIn F n P g (#[.func (.yield l) #[] #[]] ++ lb) W fun e W2 => (∃ v, e = .returned v) ∧ ((∃ xs, S xs ∧ J xs W2) ∨ (∃ pre, Sp pre ∧ Jx pre W2))

def bodyWay {α : Type} (B : Nat) (Kp : World → World → Prop) (I : List α → World → Prop) (Ix : Code → List α → World → Prop) (xs : List α) (W : World) : Exit → Act → World → Prop
  | .normal, _, V => KeepsFrom B W V ∧ Kp W V ∧ I xs V
  | .ret, _, V => KeepsFrom B W V ∧ Ix .ret xs V
  | .exit i, _, V => KeepsFrom B W V ∧ Ix (.exit i) xs V
  | .goto t, _, V => KeepsFrom B W V ∧ Ix (.goto t) xs V
  | _, _, _ => False

theorem at_other {W : World} {k Bn : Nat} {o : Obj} (v : Value) (h : W.heap[k]? = some o) (ho : o.isCells = false) : (W.setCell ⟨Bn, 0, none⟩ v).heap[k]? = some o :=
  (KeepsOthers.setCell W ⟨Bn, 0, none⟩ v).same k o h ho
theorem at_alloc {W : World} {k : Nat} {o : Obj} (o2 : Obj) (h : W.heap[k]? = some o) : (W.alloc o2).heap[k]? = some o :=
  (Below.heap_alloc W o2 k (Array.getElem?_eq_some_iff.1 h).1).trans h

theorem own_put {β : Type} {B : Nat} {I : β → World → Prop} (h : OwnFrom B I) {s : β} {W : World} {k : Nat} {o o2 : Obj} (hs : I s W) (hB : B ≤ k) (hk : W.heap[k]? = some o) (ho : o.isCells = false) : I s (W.putObj k o2) :=
  h.putObj o2 hs hB hk ho

theorem range_cell {α : Type} {g : Operand} {ps : Array Tmp} {assign body : Code} {Q : Exit → Act → World → Prop} {a : Act} {w : World}
    (hro : F.round = none) (h1 : 1 ≤ n) {gf : Nat} {lb : Array Value} (hg : a.eval g = .func (.func gf) #[] lb) (hF : F.fn gf) (eg : ∀ args w, (callFunc gf args).run P w = .ok (.enter gf args) w)
    {encs : α → Array Value} {Bn : Nat} {Kp : World → World → Prop} {S Sp : List α → Prop} {N : Nat} {w0 : World} (hseq : CellSeq F (n - 1) P gf lb encs Bn Kp S Sp N w0)
    (hKt : ∀ {A B C : World}, Kp A B → Kp B C → Kp A C)
    (hKb : ∀ (W : World) (l : Nat) (o o2 : Obj), w.heap.size ≤ l → W.heap[l]? = some o → o.isCells = false → Kp W (W.putObj l o2))
    (hb0 : Below w0.heap.size w0 w) (hps : ∀ x, (encs x).size = ps.size)
    (I : List α → World → Prop) (Ix : Code → List α → World → Prop) (hI : OwnFrom w.heap.size I) (hIx : ∀ c, OwnFrom w.heap.size (Ix c))
    (hIc : ∀ s A v, I s A → I s (A.setCell ⟨Bn, 0, none⟩ v)) (h0 : I [] w) (a1 : α → Act)
    (hassign : ∀ (l : Nat) (x : α) (W : World) (K : Act → World → Prop), K (a1 x) W →
      assign.wpIn (F.inRound l) (n - 1 - 1) P (Exit.then K (fun _ _ _ => False)) { tmps := (ps.zip (encs x)).foldl (fun t (p, v) => t.setIfInBounds p v) a.tmps, defers := [] } W)
    (hbody : ∀ (l : Nat) (pre : List α) (x : α) (W : World), I pre W → pre.length < N → body.wpIn (F.inRound l) (n - 1 - 1) P (bodyWay w.heap.size Kp I Ix (pre ++ [x]) W) (a1 x) W)
    (hdone : ∀ (D : Nat) (xs : List α) (W : World), w.heap.size ≤ D → S xs → I xs W → W.heap[D]? = some (.deferred (some [])) → Q .normal { a with defers := { target := .collected D, args := #[] } :: a.defers } W)
    (hstop : ∀ (D : Nat) (c : Code) (pre : List α) (W : World), w.heap.size ≤ D → Sp pre → Ix c pre W → W.heap[D]? = some (.deferred (some [])) → c.wpIn F n P Q { a with defers := { target := .collected D, args := #[] } :: a.defers } W) :
    (Code.rangeFunc g ps assign body).wpIn F n P Q a w := by
  refine wpIn_rangeFunc fun fn hfn => ?_
  rw [hro]
  obtain ⟨rec, hrec⟩ : ∃ r : LoopState → Option Code → Loop, r = fun st pe => { state := st, pending := pe, fn, tmps := a.tmps, params := ps, assign, body, defers := w.heap.size } := ⟨_, rfl⟩
  obtain ⟨V, hV⟩ : ∃ V, (w.alloc (.deferred (some []))).alloc (.loop (rec .ready none)) = V := ⟨_, rfl⟩
  have hD : V.heap[w.heap.size]? = some (.deferred (some [])) := by rw [← hV]; exact at_alloc _ (World.alloc_heap_new w _)
  have hR : V.heap[w.heap.size + 1]? = some (.loop (rec .ready none)) := by
    rw [← hV]; have h := World.alloc_heap_new (w.alloc (.deferred (some []))) (.loop (rec .ready none)); rwa [World.size_alloc] at h
  have hI0 : I [] V := by rw [← hV]; exact hI.alloc _ (hI.alloc _ h0)
  have hBV : Below w0.heap.size w0 V := by rw [← hV]; exact hb0.trans ((((Below.refl _ w).alloc (Nat.le_refl _) _).alloc (by simp) _).mono hb0.size)
  refine ⟨w.heap.size + 1, [{ target := .collected w.heap.size, args := #[] }], V, { target := .fn (.func gf) lb, args := #[.func (.yield (w.heap.size + 1)) #[] #[]] }, V, gf,
    #[.func (.yield (w.heap.size + 1)) #[] #[]] ++ lb, V, ?_, ?_, ?_, ?_, fun _ => h1, ?_⟩
  · rw [← hV, hrec]; exact run_enterLoop_outer _ _ _ _ _
  · simp only [resolve, hg]; simp [go_sem]
  · intro f2 h2; simp [Target.leads] at h2; subst h2; exact hF
  · simp [invoke, go_sem, eg]
  have hround : ∀ pre x W1, (I pre W1 ∧ W1.heap[w.heap.size + 1]? = some (.loop (rec .ready none)) ∧ W1.heap[w.heap.size]? = some (.deferred (some []))) → pre.length < N →
      YieldAt F (n - 1 - 1) P (w.heap.size + 1) (encs x) W1 fun e W2 =>
        (e = .returned (.bool true) ∧ (I (pre ++ [x]) W2 ∧ W2.heap[w.heap.size + 1]? = some (.loop (rec .ready none)) ∧ W2.heap[w.heap.size]? = some (.deferred (some []))) ∧ Kp W1 W2) ∨
        (e = .returned (.bool false) ∧ ∃ c, Ix c (pre ++ [x]) W2 ∧ W2.heap[w.heap.size + 1]? = some (.loop (rec .done (some c))) ∧ W2.heap[w.heap.size]? = some (.deferred (some []))) := by
    rintro pre x W1 ⟨hi, hl, hd⟩ hlen
    have hlt := (Array.getElem?_eq_some_iff.1 hl).1
    have hy := run_yield (P := P) (args := encs x) hl (by rw [hrec]; exact hps x)
    rw [hrec] at hy
    refine ⟨fn, _, assign, body, hy, roundIn_of_wpIn hfn (hassign _ x W1 _ ⟨_, run_beginRound hl (by rw [hrec]), ?_⟩)⟩
    generalize hW3 : W1.putObj (w.heap.size + 1) (.loop { rec .ready none with state := .busy }) = W3
    have hl3 : W3.heap[w.heap.size + 1]? = some (.loop { rec .ready none with state := .busy }) := by rw [← hW3]; exact World.putObj_heap_same hlt
    have hd3 : W3.heap[w.heap.size]? = some (.deferred (some [])) := by rw [← hW3]; exact (World.putObj_heap_other (by omega)).trans hd
    have hk3 : Kp W1 W3 := by rw [← hW3]; exact hKb _ _ _ _ (by omega) hl rfl
    have hi3 : I pre W3 := by rw [← hW3]; exact own_put hI hi (by omega) hl rfl
    have last : ∀ (j : Option Code) (W4 : World), KeepsFrom w.heap.size W3 W4 → ∃ W5, (Instr.endRound (w.heap.size + 1) j).run P W4 = .ok (.bool j.isNone) W5 ∧ W5 = W4.putObj (w.heap.size + 1) (.loop (rec (if j.isNone then .ready else .done) j)) ∧
        W4.heap[w.heap.size + 1]? = some (.loop { rec .ready none with state := .busy }) ∧
        W5.heap[w.heap.size + 1]? = some (.loop (rec (if j.isNone then .ready else .done) j)) ∧ W5.heap[w.heap.size]? = some (.deferred (some [])) := fun j W4 h4 => by
      have hl4 := h4.same _ _ (by omega) hl3 rfl
      have hd4 := h4.same _ _ (Nat.le_refl _) hd3 rfl
      have he := run_endRound (P := P) j hl4
      refine ⟨_, he, ?_, hl4, ?_, ?_⟩
      · rw [hrec]
      · rw [World.putObj_heap_same (Array.getElem?_eq_some_iff.1 hl4).1, hrec]
      · exact (World.putObj_heap_other (by omega)).trans hd4
    refine wpIn_mono (hbody _ pre x _ hi3 hlen) ?_
    rintro e a4 W4 hp
    cases e with
    | normal =>
      obtain ⟨h4, hk4, hi4⟩ := hp
      obtain ⟨W5, he, e5, hl4, hl5, hd5⟩ := last none W4 h4
      exact ⟨_, _, he, .inl ⟨rfl, ⟨by rw [e5]; exact own_put hI hi4 (by omega) hl4 rfl, hl5, hd5⟩, by rw [e5]; exact hKt (hKt hk3 hk4) (hKb _ _ _ _ (by omega) hl4 rfl)⟩⟩
    | ret =>
      obtain ⟨h4, hi4⟩ := hp
      obtain ⟨W5, he, e5, hl4, hl5, hd5⟩ := last (some .ret) W4 h4
      exact ⟨_, _, he, .inr ⟨rfl, .ret, by rw [e5]; exact own_put (hIx _) hi4 (by omega) hl4 rfl, hl5, hd5⟩⟩
    | exit i =>
      obtain ⟨h4, hi4⟩ := hp
      obtain ⟨W5, he, e5, hl4, hl5, hd5⟩ := last (some (.exit i)) W4 h4
      exact ⟨_, _, he, .inr ⟨rfl, .exit i, by rw [e5]; exact own_put (hIx _) hi4 (by omega) hl4 rfl, hl5, hd5⟩⟩
    | goto t =>
      obtain ⟨h4, hi4⟩ := hp
      obtain ⟨W5, he, e5, hl4, hl5, hd5⟩ := last (some (.goto t)) W4 h4
      exact ⟨_, _, he, .inr ⟨rfl, .goto t, by rw [e5]; exact own_put (hIx _) hi4 (by omega) hl4 rfl, hl5, hd5⟩⟩
    | panic ch => exact hp.elim
    | outgrown => exact hp.elim
  refine (hseq (w.heap.size + 1)
    (fun pre W => I pre W ∧ W.heap[w.heap.size + 1]? = some (.loop (rec .ready none)) ∧ W.heap[w.heap.size]? = some (.deferred (some [])))
    (fun pre W => ∃ c, Ix c pre W ∧ W.heap[w.heap.size + 1]? = some (.loop (rec .done (some c))) ∧ W.heap[w.heap.size]? = some (.deferred (some [])))
    V hBV (fun s A v h => ⟨hIc s A v h.1, at_other v h.2.1 rfl, at_other v h.2.2 rfl⟩)
    (fun s A o h => ⟨hI.alloc o h.1, at_alloc o h.2.1, at_alloc o h.2.2⟩)
    (fun s A o h => by obtain ⟨c, hc, hl, hd⟩ := h; exact ⟨c, (hIx c).alloc o hc, at_alloc o hl, at_alloc o hd⟩)
    hround ⟨hI0, hR, hD⟩).mono ?_
  rintro e W2 ⟨⟨v, rfl⟩, (⟨xs, hS, hi, hl, hd⟩ | ⟨pre, hSp, c, hi, hl, hd⟩)⟩
  · refine ⟨none, _, by have h := run_endLoop (P := P) hl (by rw [hrec]; simp); rw [hrec] at h; exact h, ?_⟩
    exact hdone _ xs _ (Nat.le_refl _) hS (own_put hI hi (by omega) hl rfl) ((World.putObj_heap_other (by omega)).trans hd)
  · refine ⟨some c, _, by have h := run_endLoop (P := P) hl (by rw [hrec]; simp); rw [hrec] at h; exact h, ?_⟩
    exact hstop _ c pre _ (Nat.le_refl _) hSp (own_put (hIx c) hi (by omega) hl rfl) ((World.putObj_heap_other (by omega)).trans hd)

theorem append_two {F : Fence} {n : Nat} {P : Program} (w : World) {ops : Array Oper} {rest : List Oper} {o : Oper} {a : Act} {Q : Exit → Act → World → Prop}
    (hg : o.guard = none) (s x : Operand) (t : TypeId) (hop : o.op = Op.call { callee := Callee.builtin Builtin.append, args := #[s, x], argTypes := #[t, t] })
    (base : Nat) (e : TypeId) (i : TypeInfo) (z : Value) (size bytes : Nat) (h1 : P.underlying t = some (.slice e)) (h2 : P.info? e = some i) (h3 : i.zero = some z) (h4 : i.size = size) (h5 : i.bytes = bytes) (h6 : z.cells.size = size) (h7 : 0 < size)
    (v : Value) (k : Nat) (xs : List Value) (hs : a.eval s = v) (hown : w.ownsRow base e size v k xs) (base2 : Nat) (vx : Value) (m : Nat) (news : List Value) (hx : a.eval x = vx) (hown2 : w.ownsRow base2 e size vx m news)
    (h1c : ∀ u ∈ news, u.oneCell' = true) (b1 : k + m ≤ maxLen) (b2 : (k + m) * bytes ≤ 140737488355328) (b3 : base ≤ w.heap.size)
    (hK : ∀ v2 w2, w2.ownsRow base e size v2 (k + m) (xs ++ news) → w.grownBy w2 v.ownBlock → wpListIn F n P ops Q rest (a.put o.dst v2) w2) :
    wpListIn F n P ops Q (o :: rest) a w := by
  rcases hown2.2 with ⟨rfl, rfl⟩ | ⟨g, cap, cur, rfl, hg2, hgb, hc1, hc2, hc3, hc4⟩
  · have hn : news = [] := List.eq_nil_of_length_eq_zero (by have := hown2.1; omega)
    subst hn
    refine wpListIn_plain hg fun K hK2 => ?_
    have hrun := run_append_owned_none (P := P) (w := w) base t o.type e i size h1 h2 v k xs hown
    unfold Oper.wpIn
    refine ⟨by simp [Oper.about, hop, resolve, Target.leads, Sem.run_pure], ?_⟩
    rw [Oper.semAt_plain F _ _ (by rw [hop]; intro c hc; cases hc)]
    simp [execOp, hop, resolve, invoke, builtin, hs, hx, hrun, Result.andThen]
    exact hK2 _ _ (hK v w (by simpa using hown) (World.grownBy.refl w _))
  · exact wpListIn_append_own w hg s x t hop base e i z size bytes h1 h2 h3 h4 h5 h6 h7 v k xs hs hown ⟨g, 0, none⟩ m cap news hx hown2.1 (hown2.cells rfl) h1c b1 b2 b3 (fun v2 w2 r1 r2 _ => hK v2 w2 r1 r2)
theorem own_mono {w : World} {b b2 : Nat} {e size : Nat} {v : Value} {n : Nat} {xs : List Value} (h : w.ownsRow b e size v n xs) (hb : b2 ≤ b) : w.ownsRow b2 e size v n xs := by
  refine ⟨h.1, ?_⟩
  rcases h.2 with h0 | ⟨g, cap, cur, h1, h2, h3⟩
  · exact .inl h0
  · exact .inr ⟨g, cap, cur, h1, Nat.le_trans hb h2, h3⟩
theorem own_below {w w2 : World} {b B : Nat} {e size : Nat} {v : Value} {n : Nat} {xs : List Value} (h : w.ownsRow b e size v n xs) (hlt : B = w.heap.size) (hb : Below B w w2) : w2.ownsRow b e size v n xs := by
  subst hlt
  refine ⟨h.1, ?_⟩
  rcases h.2 with h0 | ⟨g, cap, cur, h1, h2, h3, h4⟩
  · exact .inl h0
  · exact .inr ⟨g, cap, cur, h1, h2, (hb.block g (Array.getElem?_eq_some_iff.1 h3).1).trans h3, h4⟩
end Go.Proofs.Ytondnammkcgjpaa
namespace Go.Proofs.Ytondnammkcgjpaa.Sha
open Go Go.Proofs Go.RowKit Go.Shelf
attribute [local go_sem] Oper.semAt_some

def isSq (p x : Nat) : Bool := let r := x * x; decide (r / 18446744073709551616 < p) || (decide (r / 18446744073709551616 = p) && decide (r % 18446744073709551616 = 0))

theorem sq_is (p x : Nat) (hp : p < 1000) (hx : x < 68719476736) (b : Nat) (w : World) (hb : Boxed w b 93 (.int .u64 p)) :
    Calls Try.prog 79 #[.int .u64 x, .pointer (some ⟨b, 0, none⟩)] w fun e w' => e = .returned (.bool (isSq p x)) ∧ w' = w := by
  obtain ⟨hi, hhi⟩ : ∃ h : Nat, x * x / 18446744073709551616 = h := ⟨_, rfl⟩
  obtain ⟨lo, hlo⟩ : ∃ h : Nat, x * x % 18446744073709551616 = h := ⟨_, rfl⟩
  have HM := Lib.hid (Try.bits_Mul64 x x (by omega) (by omega) w)
  rw [hhi, hlo] at HM
  have hc := hb.cell
  obtain ⟨r, hr⟩ : ∃ r, isSq p x = r := ⟨_, rfl⟩
  rw [hr]
  have HR := Lib.hid hr
  unfold isSq at hr
  simp only [hhi, hlo] at hr
  clear hhi hlo HR
  by_cases h1 : hi < p
  · simp [h1] at hr; subst hr
    go_enter Try.func79, Try.ntmps79
    go_wp2_with (refine (HM.out).mono ?_; rintro e w2 ⟨rfl, rfl⟩)
    go_ret
    exact ⟨rfl, rfl⟩
  · by_cases h2 : hi = p
    · subst h2
      by_cases h3 : lo = 0
      · subst h3
        simp at hr; subst hr
        go_enter Try.func79, Try.ntmps79
        go_wp2_with (refine (HM.out).mono ?_; rintro e w2 ⟨rfl, rfl⟩)
        go_ret
        exact ⟨rfl, rfl⟩
      · simp [h3] at hr; subst hr
        have hz : ((lo : Int) == 0) = false := by simp; exact h3
        go_enter Try.func79, Try.ntmps79
        go_wp2_with (refine (HM.out).mono ?_; rintro e w2 ⟨rfl, rfl⟩)
        go_ret
        exact ⟨rfl, rfl⟩
    · simp [h1, h2] at hr; subst hr
      go_enter Try.func79, Try.ntmps79
      go_wp2_with (refine (HM.out).mono ?_; rintro e w2 ⟨rfl, rfl⟩)
      go_ret
      exact ⟨rfl, rfl⟩

def isCu (p x : Nat) : Bool :=
  let r := x * x; let r2 := r % 18446744073709551616 * x
  let hi := r2 / 18446744073709551616 + r / 18446744073709551616 * x
  decide (hi < p * 4294967296) || (decide (hi = p * 4294967296) && decide (r2 % 18446744073709551616 = 0))

theorem cu_walk (p x h l hi lo m s q : Nat) (hp : p < 1000) (hm : (h : Int) * (x : Int) = (m : Int)) (hm2 : m < 100000000000000) (hq : (p : Int) * 4294967296 = (q : Int)) (hs2 : (hi : Int) + (m : Int) = (s : Int)) (hsl : s < 100000000000000) (b : Nat) (w : World) (hb : Boxed w b 93 (.int .u64 p))
    (HM : Hid (Calls Try.prog 78 #[.int .u64 x, .int .u64 x] w fun e w' => e = .returned (.tuple #[.int .u64 h, .int .u64 l]) ∧ w' = w))
    (HM2 : Hid (Calls Try.prog 78 #[.int .u64 l, .int .u64 x] w fun e w' => e = .returned (.tuple #[.int .u64 hi, .int .u64 lo]) ∧ w' = w))
    (r : Bool) (hr : (decide (s < q) || (decide (s = q) && decide (lo = 0))) = r) :
    Calls Try.prog 77 #[.int .u64 x, .pointer (some ⟨b, 0, none⟩)] w fun e w' => e = .returned (.bool r) ∧ w' = w := by
  have hc := hb.cell
  by_cases h1 : s < q
  · simp [h1] at hr; subst hr
    go_enter Try.func77, Try.ntmps77
    go_wp2_with (first | (with_reducible refine (HM.out).mono ?_; rintro e w2 ⟨rfl, rfl⟩) | (with_reducible refine (HM2.out).mono ?_; rintro e w2 ⟨rfl, rfl⟩))
    go_ret
    exact ⟨rfl, rfl⟩
  · by_cases h2 : s = q
    · have g2 : ((s : Int) == (q : Int)) = true := by rw [beq_iff_eq]; omega
      by_cases h3 : lo = 0
      · subst h3
        simp [h2] at hr; subst hr
        clear h2
        go_enter Try.func77, Try.ntmps77
        go_wp2_with (first | (with_reducible refine (HM.out).mono ?_; rintro e w2 ⟨rfl, rfl⟩) | (with_reducible refine (HM2.out).mono ?_; rintro e w2 ⟨rfl, rfl⟩))
        go_ret
        exact ⟨rfl, rfl⟩
      · simp [h3, h2] at hr; subst hr
        have hz : ((lo : Int) == 0) = false := by simp; exact h3
        clear h2 h3
        go_enter Try.func77, Try.ntmps77
        go_wp2_with (first | (with_reducible refine (HM.out).mono ?_; rintro e w2 ⟨rfl, rfl⟩) | (with_reducible refine (HM2.out).mono ?_; rintro e w2 ⟨rfl, rfl⟩))
        go_ret
        exact ⟨rfl, rfl⟩
    · have g2 : ((s : Int) == (q : Int)) = false := by simp; omega
      simp [h1, h2] at hr; subst hr
      clear h2
      go_enter Try.func77, Try.ntmps77
      go_wp2_with (first | (with_reducible refine (HM.out).mono ?_; rintro e w2 ⟨rfl, rfl⟩) | (with_reducible refine (HM2.out).mono ?_; rintro e w2 ⟨rfl, rfl⟩))
      go_ret
      exact ⟨rfl, rfl⟩

theorem cu_is (p x : Nat) (hp : p < 1000) (hx : x < 68719476736) (b : Nat) (w : World) (hb : Boxed w b 93 (.int .u64 p)) :
    Calls Try.prog 77 #[.int .u64 x, .pointer (some ⟨b, 0, none⟩)] w fun e w' => e = .returned (.bool (isCu p x)) ∧ w' = w := by
  have hxx : x * x < 68719476736 * 68719476736 := Nat.mul_lt_mul'' hx hx
  have hll : x * x % 18446744073709551616 < 18446744073709551616 := Nat.mod_lt _ (by decide)
  have hhh : x * x / 18446744073709551616 < 256 := by omega
  have hhx := Nat.mul_lt_mul'' hhh hx
  have hlx := Nat.mul_lt_mul'' hll hx
  have hih : x * x % 18446744073709551616 * x / 18446744073709551616 < 68719476736 := by omega
  exact cu_walk p x (x * x / 18446744073709551616) (x * x % 18446744073709551616) (x * x % 18446744073709551616 * x / 18446744073709551616) (x * x % 18446744073709551616 * x % 18446744073709551616)
    (x * x / 18446744073709551616 * x) (x * x % 18446744073709551616 * x / 18446744073709551616 + x * x / 18446744073709551616 * x) (p * 4294967296) hp (by simp) (by omega) (by simp) (by simp) (by omega) b w hb
    (Lib.hid (Try.bits_Mul64 x x (by omega) (by omega) w)) (Lib.hid (Try.bits_Mul64 _ x hll (by omega) w)) _ rfl
attribute [local go_sem] Oper.semAt_some

def grF (isB : Nat → Bool) : Nat → Nat → Nat
  | 0, x => x
  | k + 1, x => grF isB k (if isB (x ||| 2 ^ k) then x ||| 2 ^ k else x)
def bitK (k : Nat) : Nat := 2 ^ k / 2
theorem bitK_succ (k : Nat) : bitK (k + 1) = 2 ^ k := by unfold bitK; rw [Nat.pow_succ]; omega
theorem bitK_half (k : Nat) : ((2 ^ k : Nat) : Int) / 2 = ((bitK k : Nat) : Int) := by unfold bitK; omega
theorem bitK_0 : bitK 0 = 0 := rfl

theorem gr117 (p : Nat) (hp : p < 1000) (b : Nat) (w : World) (hb : Boxed w b 93 (.int .u64 p)) :
    Calls Try.prog 76 #[.func (.func 79) #[] #[.pointer (some ⟨b, 0, none⟩)]] w fun e w' => e = .returned (.int .u64 (grF (isSq p) 36 0 : Nat)) ∧ w' = w := by
  have HC := Lib.hid (fun x (hx : x < 68719476736) => sq_is p x hp hx b w hb)
  obtain ⟨T, hT⟩ : ∃ T, grF (isSq p) 36 0 = T := ⟨_, rfl⟩
  rw [hT]
  have HT := Lib.hid hT
  clear hT hb hp
  go_enter Try.func76, Try.ntmps76
  go_wp2
  go_loop [3, 4] (fun s3 s4 => ∃ (k x : Nat), k ≤ 36 ∧ x < 68719476736 ∧ s3 = .int .u64 x ∧ s4 = .int .u64 (bitK k) ∧ Hid (grF (isSq p) k x = T)) (fun _ s4 => (intOf s4).toNat)
  case atStart => exact ⟨36, 0, Nat.le_refl _, by decide, rfl, by rw [show bitK 36 = 34359738368 from rfl]; rfl, HT⟩
  case round =>
    obtain ⟨k, x, hk, hx, rfl, rfl, HG⟩ := hrel
    match k, hk, HG with
    | 0, _, HG =>
      rw [bitK_0]
      go_wp2
      go_ret
      exact ⟨by rw [← HG.out]; rfl, rfl⟩
    | k + 1, hk, HG =>
      have hor : x ||| 2 ^ k < 68719476736 := Nat.or_lt_two_pow (n := 36) hx (Nat.pow_lt_pow_right (by decide) (by omega))
      have hcall := HC.out _ hor
      have hG := HG.out
      rw [grF] at hG
      rw [bitK_succ]
      have hhalf := bitK_half k
      have hpos : 0 < 2 ^ k := Nat.two_pow_pos k
      have hle : 2 ^ k < 68719476736 := Nat.pow_lt_pow_right (n := 36) (by decide) (by omega)
      generalize 2 ^ k = y at *
      have hbits := u64_or_nat x y (by omega) (by omega)
      generalize x ||| y = z at *
      cases hq : isSq p z with
      | true =>
        rw [hq] at hcall hG
        have HG2 := Lib.hid hG
        clear hG hq HC HT HG
        go_wp2_with (go_at_call 79; refine hcall.mono ?_; rintro e w2 ⟨rfl, rfl⟩)
        go_round
        case rel => exact ⟨k, z, by omega, hor, by go_num, by go_num, HG2⟩
        case measure => simp [intOf]; omega
      | false =>
        rw [hq] at hcall hG
        have HG2 := Lib.hid hG
        clear hG hq HC HT HG
        go_wp2_with (go_at_call 79; refine hcall.mono ?_; rintro e w2 ⟨rfl, rfl⟩)
        go_round
        case rel => exact ⟨k, x, by omega, hx, by go_num, by go_num, HG2⟩
        case measure => simp [intOf]; omega

theorem gr115 (p : Nat) (hp : p < 1000) (b : Nat) (w : World) (hb : Boxed w b 93 (.int .u64 p)) :
    Calls Try.prog 76 #[.func (.func 77) #[] #[.pointer (some ⟨b, 0, none⟩)]] w fun e w' => e = .returned (.int .u64 (grF (isCu p) 36 0 : Nat)) ∧ w' = w := by
  have HC := Lib.hid (fun x (hx : x < 68719476736) => cu_is p x hp hx b w hb)
  obtain ⟨T, hT⟩ : ∃ T, grF (isCu p) 36 0 = T := ⟨_, rfl⟩
  rw [hT]
  have HT := Lib.hid hT
  clear hT hb hp
  go_enter Try.func76, Try.ntmps76
  go_wp2
  go_loop [3, 4] (fun s3 s4 => ∃ (k x : Nat), k ≤ 36 ∧ x < 68719476736 ∧ s3 = .int .u64 x ∧ s4 = .int .u64 (bitK k) ∧ Hid (grF (isCu p) k x = T)) (fun _ s4 => (intOf s4).toNat)
  case atStart => exact ⟨36, 0, Nat.le_refl _, by decide, rfl, by rw [show bitK 36 = 34359738368 from rfl]; rfl, HT⟩
  case round =>
    obtain ⟨k, x, hk, hx, rfl, rfl, HG⟩ := hrel
    match k, hk, HG with
    | 0, _, HG =>
      rw [bitK_0]
      go_wp2
      go_ret
      exact ⟨by rw [← HG.out]; rfl, rfl⟩
    | k + 1, hk, HG =>
      have hor : x ||| 2 ^ k < 68719476736 := Nat.or_lt_two_pow (n := 36) hx (Nat.pow_lt_pow_right (by decide) (by omega))
      have hcall := HC.out _ hor
      have hG := HG.out
      rw [grF] at hG
      rw [bitK_succ]
      have hhalf := bitK_half k
      have hpos : 0 < 2 ^ k := Nat.two_pow_pos k
      have hle : 2 ^ k < 68719476736 := Nat.pow_lt_pow_right (n := 36) (by decide) (by omega)
      generalize 2 ^ k = y at *
      have hbits := u64_or_nat x y (by omega) (by omega)
      generalize x ||| y = z at *
      cases hq : isCu p z with
      | true =>
        rw [hq] at hcall hG
        have HG2 := Lib.hid hG
        clear hG hq HC HT HG
        go_wp2_with (go_at_call 77; refine hcall.mono ?_; rintro e w2 ⟨rfl, rfl⟩)
        go_round
        case rel => exact ⟨k, z, by omega, hor, by go_num, by go_num, HG2⟩
        case measure => simp [intOf]; omega
      | false =>
        rw [hq] at hcall hG
        have HG2 := Lib.hid hG
        clear hG hq HC HT HG
        go_wp2_with (go_at_call 77; refine hcall.mono ?_; rintro e w2 ⟨rfl, rfl⟩)
        go_round
        case rel => exact ⟨k, x, by omega, hx, by go_num, by go_num, HG2⟩
        case measure => simp [intOf]; omega

end Go.Proofs.Ytondnammkcgjpaa.Sha
namespace Go.Proofs.Ytondnammkcgjpaa
open Go Go.RowKit
variable {F : Fence} {n : Nat} {P : Program}

def StepSeq {α : Type} (F : Fence) (n : Nat) (P : Program) (g : Nat) (lb : Array Value) (encs : α → Array Value) (T Kp : World → World → Prop) (G : List α → Prop) (S Sp : List α → Prop) (N : Nat) (w : World) : Prop :=
  ∀ (l : Nat) (J Jx : List α → World → Prop) (W : World), Below w.heap.size w W →
    (∀ s A B, T A B → J s A → J s B) → (∀ s A B, T A B → Jx s A → Jx s B) →
    (∀ pre x W1, J pre W1 → pre.length < N → YieldAt F (n - 1) P l (encs x) W1 fun e W2 =>
      (e = .returned (.bool true) ∧ G (pre ++ [x]) ∧ J (pre ++ [x]) W2 ∧ Kp W1 W2) ∨ (e = .returned (.bool false) ∧ Jx (pre ++ [x]) W2)) →
    J [] W →
    CallsIn F n P g (#[.func (.yield l) #[] #[]] ++ lb) W fun e W2 => (∃ v, e = .returned v) ∧ ((∃ xs, S xs ∧ J xs W2) ∨ (∃ pre, Sp pre ∧ Jx pre W2))

def stepWay {α : Type} (B : Nat) (G : List α → Prop) (Kp : World → World → Prop) (I : List α → World → Prop) (Ix : Code → List α → World → Prop) (xs : List α) (W : World) : Exit → Act → World → Prop
  | .normal, _, V => KeepsFrom B W V ∧ G xs ∧ Kp W V ∧ I xs V
  | .ret, _, V => KeepsFrom B W V ∧ Ix .ret xs V
  | .exit i, _, V => KeepsFrom B W V ∧ Ix (.exit i) xs V
  | .goto t, _, V => KeepsFrom B W V ∧ Ix (.goto t) xs V
  | _, _, _ => False

theorem step_alloc {W : World} {k : Nat} {o : Obj} (o2 : Obj) (h : W.heap[k]? = some o) : (W.alloc o2).heap[k]? = some o :=
  (Below.heap_alloc W o2 k (Array.getElem?_eq_some_iff.1 h).1).trans h

theorem step_put {β : Type} {B : Nat} {I : β → World → Prop} (h : OwnFrom B I) {s : β} {W : World} {k : Nat} {o o2 : Obj} (hs : I s W) (hB : B ≤ k) (hk : W.heap[k]? = some o) (ho : o.isCells = false) : I s (W.putObj k o2) :=
  h.putObj o2 hs hB hk ho

theorem range_step {α : Type} {g : Operand} {ps : Array Tmp} {assign body : Code} {Q : Exit → Act → World → Prop} {a : Act} {w : World}
    (hro : F.round = none) (h1 : 1 ≤ n) {gf : Nat} {lb : Array Value} (hg : a.eval g = .func (.func gf) #[] lb) (hF : F.fn gf) (eg : ∀ args w, (callFunc gf args).run P w = .ok (.enter gf args) w)
    {encs : α → Array Value} {T Kp : World → World → Prop} {G : List α → Prop} {S Sp : List α → Prop} {N : Nat} {w0 : World} (hseq : StepSeq F (n - 1) P gf lb encs T Kp G S Sp N w0)
    (hTn : ∀ (A B : World) (k : Nat) (o : Obj), T A B → A.heap[k]? = some o → o.isCells = false → B.heap[k]? = some o)
    (hKt : ∀ {A B C : World}, Kp A B → Kp B C → Kp A C)
    (hKb : ∀ (W : World) (l : Nat) (o o2 : Obj), w.heap.size ≤ l → W.heap[l]? = some o → o.isCells = false → Kp W (W.putObj l o2))
    (hb0 : Below w0.heap.size w0 w) (hps : ∀ x, (encs x).size = ps.size)
    (I : List α → World → Prop) (Ix : Code → List α → World → Prop) (hI : OwnFrom w.heap.size I) (hIx : ∀ c, OwnFrom w.heap.size (Ix c))
    (hIT : ∀ s A B, T A B → I s A → I s B) (hIxT : ∀ c s A B, T A B → Ix c s A → Ix c s B) (h0 : I [] w) (a1 : α → Act)
    (hassign : ∀ (l : Nat) (x : α) (W : World) (K : Act → World → Prop), K (a1 x) W →
      assign.wpIn (F.inRound l) (n - 1 - 1) P (Exit.then K (fun _ _ _ => False)) { tmps := (ps.zip (encs x)).foldl (fun t (p, v) => t.setIfInBounds p v) a.tmps, defers := [] } W)
    (hbody : ∀ (l : Nat) (pre : List α) (x : α) (W : World), I pre W → pre.length < N → body.wpIn (F.inRound l) (n - 1 - 1) P (stepWay w.heap.size G Kp I Ix (pre ++ [x]) W) (a1 x) W)
    (hdone : ∀ (D : Nat) (xs : List α) (W : World), w.heap.size ≤ D → S xs → I xs W → W.heap[D]? = some (.deferred (some [])) → Q .normal { a with defers := { target := .collected D, args := #[] } :: a.defers } W)
    (hstop : ∀ (D : Nat) (c : Code) (pre : List α) (W : World), w.heap.size ≤ D → Sp pre → Ix c pre W → W.heap[D]? = some (.deferred (some [])) → c.wpIn F n P Q { a with defers := { target := .collected D, args := #[] } :: a.defers } W) :
    (Code.rangeFunc g ps assign body).wpIn F n P Q a w := by
  refine wpIn_rangeFunc fun fn hfn => ?_
  rw [hro]
  obtain ⟨rec, hrec⟩ : ∃ r : LoopState → Option Code → Loop, r = fun st pe => { state := st, pending := pe, fn, tmps := a.tmps, params := ps, assign, body, defers := w.heap.size } := ⟨_, rfl⟩
  obtain ⟨V, hV⟩ : ∃ V, (w.alloc (.deferred (some []))).alloc (.loop (rec .ready none)) = V := ⟨_, rfl⟩
  have hD : V.heap[w.heap.size]? = some (.deferred (some [])) := by rw [← hV]; exact step_alloc _ (World.alloc_heap_new w _)
  have hR : V.heap[w.heap.size + 1]? = some (.loop (rec .ready none)) := by
    rw [← hV]; have h := World.alloc_heap_new (w.alloc (.deferred (some []))) (.loop (rec .ready none)); rwa [World.size_alloc] at h
  have hI0 : I [] V := by rw [← hV]; exact hI.alloc _ (hI.alloc _ h0)
  have hBV : Below w0.heap.size w0 V := by rw [← hV]; exact hb0.trans ((((Below.refl _ w).alloc (Nat.le_refl _) _).alloc (by simp) _).mono hb0.size)
  refine ⟨w.heap.size + 1, [{ target := .collected w.heap.size, args := #[] }], V, { target := .fn (.func gf) lb, args := #[.func (.yield (w.heap.size + 1)) #[] #[]] }, V, gf,
    #[.func (.yield (w.heap.size + 1)) #[] #[]] ++ lb, V, ?_, ?_, ?_, ?_, fun _ => h1, ?_⟩
  · rw [← hV, hrec]; exact run_enterLoop_outer _ _ _ _ _
  · simp only [resolve, hg]; simp [go_sem]
  · intro f2 h2; simp [Target.leads] at h2; subst h2; exact hF
  · simp [invoke, go_sem, eg]
  have hround : ∀ pre x W1, (I pre W1 ∧ W1.heap[w.heap.size + 1]? = some (.loop (rec .ready none)) ∧ W1.heap[w.heap.size]? = some (.deferred (some []))) → pre.length < N →
      YieldAt F (n - 1 - 1) P (w.heap.size + 1) (encs x) W1 fun e W2 =>
        (e = .returned (.bool true) ∧ G (pre ++ [x]) ∧ (I (pre ++ [x]) W2 ∧ W2.heap[w.heap.size + 1]? = some (.loop (rec .ready none)) ∧ W2.heap[w.heap.size]? = some (.deferred (some []))) ∧ Kp W1 W2) ∨
        (e = .returned (.bool false) ∧ ∃ c, Ix c (pre ++ [x]) W2 ∧ W2.heap[w.heap.size + 1]? = some (.loop (rec .done (some c))) ∧ W2.heap[w.heap.size]? = some (.deferred (some []))) := by
    rintro pre x W1 ⟨hi, hl, hd⟩ hlen
    have hlt := (Array.getElem?_eq_some_iff.1 hl).1
    have hy := run_yield (P := P) (args := encs x) hl (by rw [hrec]; exact hps x)
    rw [hrec] at hy
    refine ⟨fn, _, assign, body, hy, roundIn_of_wpIn hfn (hassign _ x W1 _ ⟨_, run_beginRound hl (by rw [hrec]), ?_⟩)⟩
    generalize hW3 : W1.putObj (w.heap.size + 1) (.loop { rec .ready none with state := .busy }) = W3
    have hl3 : W3.heap[w.heap.size + 1]? = some (.loop { rec .ready none with state := .busy }) := by rw [← hW3]; exact World.putObj_heap_same hlt
    have hd3 : W3.heap[w.heap.size]? = some (.deferred (some [])) := by rw [← hW3]; exact (World.putObj_heap_other (by omega)).trans hd
    have hk3 : Kp W1 W3 := by rw [← hW3]; exact hKb _ _ _ _ (by omega) hl rfl
    have hi3 : I pre W3 := by rw [← hW3]; exact step_put hI hi (by omega) hl rfl
    have last : ∀ (j : Option Code) (W4 : World), KeepsFrom w.heap.size W3 W4 → ∃ W5, (Instr.endRound (w.heap.size + 1) j).run P W4 = .ok (.bool j.isNone) W5 ∧ W5 = W4.putObj (w.heap.size + 1) (.loop (rec (if j.isNone then .ready else .done) j)) ∧
        W4.heap[w.heap.size + 1]? = some (.loop { rec .ready none with state := .busy }) ∧
        W5.heap[w.heap.size + 1]? = some (.loop (rec (if j.isNone then .ready else .done) j)) ∧ W5.heap[w.heap.size]? = some (.deferred (some [])) := fun j W4 h4 => by
      have hl4 := h4.same _ _ (by omega) hl3 rfl
      have hd4 := h4.same _ _ (Nat.le_refl _) hd3 rfl
      have he := run_endRound (P := P) j hl4
      refine ⟨_, he, ?_, hl4, ?_, ?_⟩
      · rw [hrec]
      · rw [World.putObj_heap_same (Array.getElem?_eq_some_iff.1 hl4).1, hrec]
      · exact (World.putObj_heap_other (by omega)).trans hd4
    refine wpIn_mono (hbody _ pre x _ hi3 hlen) ?_
    rintro e a4 W4 hp
    cases e with
    | normal =>
      obtain ⟨h4, hg4, hk4, hi4⟩ := hp
      obtain ⟨W5, he, e5, hl4, hl5, hd5⟩ := last none W4 h4
      exact ⟨_, _, he, .inl ⟨rfl, hg4, ⟨by rw [e5]; exact step_put hI hi4 (by omega) hl4 rfl, hl5, hd5⟩, by rw [e5]; exact hKt (hKt hk3 hk4) (hKb _ _ _ _ (by omega) hl4 rfl)⟩⟩
    | ret =>
      obtain ⟨h4, hi4⟩ := hp
      obtain ⟨W5, he, e5, hl4, hl5, hd5⟩ := last (some .ret) W4 h4
      exact ⟨_, _, he, .inr ⟨rfl, .ret, by rw [e5]; exact step_put (hIx _) hi4 (by omega) hl4 rfl, hl5, hd5⟩⟩
    | exit i =>
      obtain ⟨h4, hi4⟩ := hp
      obtain ⟨W5, he, e5, hl4, hl5, hd5⟩ := last (some (.exit i)) W4 h4
      exact ⟨_, _, he, .inr ⟨rfl, .exit i, by rw [e5]; exact step_put (hIx _) hi4 (by omega) hl4 rfl, hl5, hd5⟩⟩
    | goto t =>
      obtain ⟨h4, hi4⟩ := hp
      obtain ⟨W5, he, e5, hl4, hl5, hd5⟩ := last (some (.goto t)) W4 h4
      exact ⟨_, _, he, .inr ⟨rfl, .goto t, by rw [e5]; exact step_put (hIx _) hi4 (by omega) hl4 rfl, hl5, hd5⟩⟩
    | panic ch => exact hp.elim
    | outgrown => exact hp.elim
  refine (hseq (w.heap.size + 1)
    (fun pre W => I pre W ∧ W.heap[w.heap.size + 1]? = some (.loop (rec .ready none)) ∧ W.heap[w.heap.size]? = some (.deferred (some [])))
    (fun pre W => ∃ c, Ix c pre W ∧ W.heap[w.heap.size + 1]? = some (.loop (rec .done (some c))) ∧ W.heap[w.heap.size]? = some (.deferred (some [])))
    V hBV (fun s A B hT h => ⟨hIT s A B hT h.1, hTn A B _ _ hT h.2.1 rfl, hTn A B _ _ hT h.2.2 rfl⟩)
    (fun s A B hT h => by obtain ⟨c, hc, hl, hd⟩ := h; exact ⟨c, hIxT c s A B hT hc, hTn A B _ _ hT hl rfl, hTn A B _ _ hT hd rfl⟩)
    hround ⟨hI0, hR, hD⟩).mono ?_
  rintro e W2 ⟨⟨v, rfl⟩, (⟨xs, hS, hi, hl, hd⟩ | ⟨pre, hSp, c, hi, hl, hd⟩)⟩
  · refine ⟨none, _, by have h := run_endLoop (P := P) hl (by rw [hrec]; simp); rw [hrec] at h; exact h, ?_⟩
    exact hdone _ xs _ (Nat.le_refl _) hS (step_put hI hi (by omega) hl rfl) ((World.putObj_heap_other (by omega)).trans hd)
  · refine ⟨some c, _, by have h := run_endLoop (P := P) hl (by rw [hrec]; simp); rw [hrec] at h; exact h, ?_⟩
    exact hstop _ c pre _ (Nat.le_refl _) hSp (step_put (hIx c) hi (by omega) hl rfl) ((World.putObj_heap_other (by omega)).trans hd)

end Go.Proofs.Ytondnammkcgjpaa
namespace Go.Proofs.Ytondnammkcgjpaa.Sha
open Go Go.Proofs Go.RowKit Go.Shelf
attribute [local go_sem] Oper.semAt_some

section
variable {F : Fence} {n : Nat} {P : Program} {Q : Exit → Act → World → Prop} {a : Act} {w : World}
theorem stepR_scope {b : Frame} {k : List Item} {cs : List Frame} {c : Code} : step P (lone (b.atR a (.code (.scope c) :: k)) cs w) = .next (lone (b.atR a (.code c :: .inScope c :: k)) cs w) :=
  step_lone_go (by simp [stepG, stepG.exec, Frame.atR])
theorem stepR_inScope {b : Frame} {k : List Item} {cs : List Frame} {c : Code} : step P (lone (b.atR a (.inScope c :: k)) cs w) = .next (lone (b.atR a k) cs w) :=
  step_lone_go (by simp [stepG, stepG.exec, Frame.atR])
theorem wpIn_scope_straight {c : Code} (h : c.wpIn F n P (Exit.noGoto Q) a w) : (Code.scope c).wpIn F n P Q a w := by
  intro b k cs hro hb hr
  have h0 : (lone (b.atR a (.code (.scope c) :: k)) cs w).fenced P F := fenced_calm hb hr rfl
  obtain ⟨e, a₁, w₁, hq, harr⟩ := h b (.inScope c :: k) cs hro hb hr
  cases e with
  | normal => exact ⟨.normal, a₁, w₁, hq, .head h0 stepR_scope (StepsIn.trans harr (.one (fenced_calm hb hr rfl) stepR_inScope))⟩
  | exit id =>
    have hx : exitTo id (.inScope c :: k) = exitTo id k := by simp [exitTo]
    exact ⟨.exit id, a₁, w₁, hq, fun k' hk => .head h0 stepR_scope (harr.1 k' (by rw [hx]; exact hk)), fun hr' hk => let ⟨k₁, h1, h2⟩ := harr.2 hr' (by rw [hx]; exact hk); ⟨k₁, h1, .head h0 stepR_scope h2⟩⟩
  | goto l => exact hq.elim
  | ret => exact ⟨_, a₁, w₁, hq, .of_steps (.one h0 stepR_scope) harr⟩
  | panic ch => exact ⟨_, a₁, w₁, hq, .of_steps (.one h0 stepR_scope) harr⟩
  | outgrown => exact ⟨_, a₁, w₁, hq, .of_steps (.one h0 stepR_scope) harr⟩
end
theorem grF_lt (isB : Nat → Bool) : ∀ k x, k ≤ 36 → x < 68719476736 → grF isB k x < 68719476736 := by
  intro k
  induction k with
  | zero => intro x _ h; exact h
  | succ k ih =>
    intro x hk hx
    have h2 : x ||| 2 ^ k < 68719476736 := Nat.or_lt_two_pow (n := 36) hx (Nat.pow_lt_pow_right (by decide) (by omega))
    rw [grF]
    split
    · exact ih _ (by omega) h2
    · exact ih _ (by omega) hx
def sqV (p : Nat) : Nat := grF (isSq p) 36 0
def cuV (p : Nat) : Nat := grF (isCu p) 36 0
theorem sqV_lt (p : Nat) : sqV p < 68719476736 := grF_lt _ 36 0 (Nat.le_refl _) (by decide)
theorem cuV_lt (p : Nat) : cuV p < 68719476736 := grF_lt _ 36 0 (Nat.le_refl _) (by decide)
abbrev box (p : Nat) : Obj := .cells #[.int .u64 p] 93
theorem hmf (fn : Fn) (first cap : Array Value) (w : World) : (Instr.makeFunc fn first cap).run Try.prog w = .ok (.func fn first cap) w := rfl

theorem square_c (p : Nat) (hp : p < 1000) (w : World) : Calls Try.prog 49 #[.int .u64 p] w fun e w' => e = .returned (.int .u32 (sqV p % 4294967296 : Nat)) ∧ w' = w.alloc (box p) := by
  have HC := Lib.hid (gr117 p hp w.heap.size (w.alloc (box p)) (Boxed.new w 93 _))
  have hlt := sqV_lt p
  change Hid (Calls Try.prog 76 _ _ fun e w' => e = .returned (.int .u64 (sqV p : Nat)) ∧ _) at HC
  generalize sqV p = s at *
  have hmf := hmf
  go_enter Try.func49, Try.ntmps49
  go_wp2_with (go_at_call 76; refine HC.out.mono ?_; rintro e w2 ⟨rfl, rfl⟩)
  go_ret
  exact ⟨rfl, rfl⟩
theorem cube_c (p : Nat) (hp : p < 1000) (w : World) : Calls Try.prog 48 #[.int .u64 p] w fun e w' => e = .returned (.int .u32 (cuV p % 4294967296 : Nat)) ∧ w' = w.alloc (box p) := by
  have HC := Lib.hid (gr115 p hp w.heap.size (w.alloc (box p)) (Boxed.new w 93 _))
  have hlt := cuV_lt p
  change Hid (Calls Try.prog 76 _ _ fun e w' => e = .returned (.int .u64 (cuV p : Nat)) ∧ _) at HC
  generalize cuV p = s at *
  have hmf := hmf
  go_enter Try.func48, Try.ntmps48
  go_wp2_with (go_at_call 76; refine HC.out.mono ?_; rintro e w2 ⟨rfl, rfl⟩)
  go_ret
  exact ⟨rfl, rfl⟩

def prs : Nat → List Nat
  | 0 => []
  | q + 1 => if q < 2 then prs q else if (prs q).any (fun p => q % p == 0) then prs q else prs q ++ [q]
theorem prs_hit (q : Nat) (h2 : 2 ≤ q) (h : (prs q).any (fun p => q % p == 0) = true) : prs (q + 1) = prs q := by rw [prs, if_neg (by omega), if_pos h]
theorem prs_new (q : Nat) (h2 : 2 ≤ q) (h : (prs q).any (fun p => q % p == 0) = false) : prs (q + 1) = prs q ++ [q] := by rw [prs, if_neg (by omega), if_neg (by rw [h]; decide)]
theorem prs_in (q : Nat) : ∀ p ∈ prs q, 2 ≤ p ∧ p < q := by
  induction q with
  | zero => intro p hp; cases hp
  | succ q ih =>
    intro p hp
    rw [prs] at hp
    split at hp
    · have := ih p hp; omega
    · split at hp
      · have := ih p hp; omega
      · rcases List.mem_append.1 hp with hp | hp
        · have := ih p hp; omega
        · rw [List.mem_singleton.1 hp]; omega
theorem prs_mono (q r : Nat) (h : q ≤ r) : (prs q).length ≤ (prs r).length := by
  induction r with
  | zero => rw [Nat.le_zero.1 h]; exact Nat.le_refl _
  | succ r ih =>
    by_cases e : q = r + 1
    · rw [e]; exact Nat.le_refl _
    · refine Nat.le_trans (ih (by omega)) ?_
      rw [prs]
      split
      · exact Nat.le_refl _
      · split
        · exact Nat.le_refl _
        · simp
theorem prs_314 : (prs 314).length = 65 := by decide +kernel
theorem prs_313 : (prs 313).length = 64 := by decide +kernel
theorem prs_top (q : Nat) (h : (prs q).length < 65) : q < 314 := by
  rcases Nat.lt_or_ge q 314 with h1 | h1
  · exact h1
  · have := prs_mono 314 q h1; rw [prs_314] at this; omega

def encP (l : List Nat) : List Value := l.map fun (p : Nat) => .int .u64 (p : Int)
theorem encP_app (a b : List Nat) : encP (a ++ b) = encP a ++ encP b := List.map_append
def StepT (base : Nat) (A B : World) : Prop := ∃ row, A.grownBy B row ∧ ∀ r, row = some r → base ≤ r ∧ ∃ cs, A.heap[r]? = some (.cells cs 93 (0, 0))
def Keep145 (A B : World) : Prop := ∀ (k : Nat) (cs : Array Value), A.heap[k]? = some (.cells cs 93 (0, 0)) → B.heap[k]? = some (.cells cs 93 (0, 0))
theorem StepT.alloc (base : Nat) (A : World) (o : Obj) : StepT base A (A.alloc o) := ⟨none, World.grownBy_alloc A o none, fun r e => by cases e⟩
theorem StepT.row {base b : Nat} {A B : World} {v : Value} {n : Nat} {xs : List Value} (h : A.ownsRow b 93 1 v n xs) (hb : base ≤ b) (hg : A.grownBy B v.ownBlock) : StepT base A B := by
  refine ⟨_, hg, fun r e => ?_⟩
  rcases h.2 with ⟨rfl, _⟩ | ⟨g, cap, cur, rfl, hbg, hc, _⟩
  · cases e
  · cases e; exact ⟨Nat.le_trans hb hbg, _, hc⟩
theorem own_keep {A B : World} {b : Nat} {v : Value} {n : Nat} {xs : List Value} (h : A.ownsRow b 93 1 v n xs) (hk : Keep145 A B) : B.ownsRow b 93 1 v n xs := by
  refine ⟨h.1, ?_⟩
  rcases h.2 with h0 | ⟨g, cap, cur, h1, h2, h3, h4⟩
  · exact .inl h0
  · exact .inr ⟨g, cap, cur, h1, h2, hk _ _ h3, h4⟩
theorem own_view {w : World} {b : Nat} {v : Value} {n : Nat} {l : List Nat} (h : w.ownsRow b 93 1 v n (encP l)) : ∃ A c, v = .slice A l.length c ∧ n = l.length ∧ ∀ k (h : k < l.length), ∃ ad, A = some ad ∧ w.cell? (ad.add k) = some (.int .u64 (l[k] : Nat)) := by
  have hn : n = l.length := by have := h.1; simp [encP] at this; omega
  rcases h.2 with ⟨rfl, rfl⟩ | ⟨g, cap, cur, rfl, _⟩
  · exact ⟨none, 0, by rw [← hn], hn, fun k hk => by omega⟩
  · refine ⟨_, cap, by rw [hn], hn, fun k hk => ⟨_, rfl, h.cells rfl k _ ?_⟩⟩
    simp [encP, hk]
theorem info145 : (Try.prog.info? 93).map (fun i => (i.zero, i.size, i.bytes)) = some (some (.int .u64 0), 1, 8) := by kernel_rfl
theorem one_new (w : World) (u : Value) (t : TypeId) : ∀ j x, ([u] : List Value)[j]? = some x → (w.alloc (.cells #[u] t)).cell? ((⟨w.heap.size, 0, none⟩ : Addr).add j) = some x := by
  intro j x hx
  match j, hx with
  | 0, hx => obtain rfl : u = x := by simpa using hx
             simp [Addr.add]
  | j + 1, hx => simp at hx

abbrev Pm := { p : Nat // p < 1000 }
def mkP (p : Nat) : Pm := ⟨min p 999, by omega⟩
theorem mkP_val (p : Nat) (h : p < 314) : (mkP p).1 = p := by show min p 999 = p; omega
def pms (l : List Nat) : List Pm := l.map mkP
theorem pms_app (l : List Nat) (q : Nat) : pms (l ++ [q]) = pms l ++ [mkP q] := by simp [pms]
theorem pms_len (l : List Nat) : (pms l).length = l.length := by simp [pms]
theorem primes1 (F : Fence) (n : Nat) (hf : F.fn 75) (hro : F.round = none) (hn : 1 ≤ n) (w : World) :
    StepSeq F n Try.prog 75 #[] (fun (p : Pm) => #[.int .u64 (p.1 : Int)]) (StepT w.heap.size) Keep145 (fun l => l.length < 65) (fun _ => False) (fun pre => ∃ q, pre = pms (prs (q + 1)) ∧ q < 314) 65 w := fun l J Jx W hW hJT hJxT hY hJ0 => by
  obtain ⟨i0, hi, hz0, hz1, hz2⟩ := info_parts info145
  refine callsIn_of_wp Try.func75 rfl hf ?_ hro
  simp only [Try.ntmps75, List.size_toArray, List.length_cons, List.length_nil, Nat.reduceAdd, Nat.reduceSub, Array.replicate_succ, Array.replicate_zero, List.push_toArray, List.append_toArray, List.nil_append, List.cons_append]
  refine wpIn_scope_straight ?_
  gi_wp2_with (apply wpIn_label)
  gi_loopw [2, 3] (fun s2 s3 wr => ∃ q : Nat, 2 ≤ q ∧ s3 = .int .u64 (q : Int) ∧ (prs q).length < 65 ∧ wr.ownsRow W.heap.size 93 1 s2 (prs q).length (encP (prs q)) ∧ J (pms (prs q)) wr ∧ W.heap.size ≤ wr.heap.size) (fun _ s3 _ => 400 - (intOf s3).toNat)
  case atStart => exact ⟨2, Nat.le_refl _, rfl, by decide, World.ownsRow_nil _ _ _ _, hJ0, Nat.le_refl _⟩
  case round =>
    obtain ⟨q, h2, rfl, hlen, hrow, hJ, hsz⟩ := hrel
    have hq := prs_top q hlen
    have hin := prs_in q
    obtain ⟨L, hL⟩ : ∃ L, prs q = L := ⟨_, rfl⟩
    rw [hL] at hlen hrow hJ hin
    have HL := Lib.hid hL
    have HIN := Lib.hid hin
    have HR := Lib.hid hrow
    obtain ⟨A, c, rfl, _, hcell⟩ := own_view hrow
    have HC := Lib.hid hcell
    obtain ⟨m, hN⟩ : ∃ m, L.length = m := ⟨_, rfl⟩
    have HN := Lib.hid hN
    rw [hN] at hlen hrow HR ⊢
    clear hin hL hcell hN
    gi_wp2
    gi_loopw [5, 10] (fun _ s10 w2 => ∃ k : Nat, k ≤ m ∧ s10 = .int .i64 k ∧ w2 = wr ∧ Hid (∀ j (h : j < L.length), j < k → q % L[j] ≠ 0)) (fun _ s10 _ => m - (intOf s10).toNat)
    case atStart => exact ⟨0, Nat.zero_le _, rfl, rfl, fun j h hj => absurd hj (by omega)⟩
    case round =>
      rename_i wr2 _
      obtain ⟨k, hk, rfl, rfl, HM⟩ := hrel
      by_cases hlt : k < m
      · have hlL : k < L.length := by rw [HN.out]; exact hlt
        obtain ⟨ad, rfl, hc⟩ := HC.out k hlL
        have hpin := HIN.out L[k] (List.getElem_mem _)
        have HP := Lib.hid (rfl : L[k] = L[k])
        obtain ⟨p, hp⟩ : ∃ p, L[k] = p := ⟨_, rfl⟩
        have HP := Lib.hid hp
        rw [hp] at hc hpin
        clear hp
        have hrem : (q : Int).tmod (p : Int) = ((q % p : Nat) : Int) := (Int.ofNat_tmod q p).symm
        obtain ⟨r, hr⟩ : ∃ r, q % p = r := ⟨_, rfl⟩
        have HRM := Lib.hid hr
        rw [hr] at hrem
        clear hr
        by_cases hz : r = 0
        · subst hz
          gi_wp2
          have hany : (prs q).any (fun p => q % p == 0) = true := by
            rw [HL.out]
            exact List.any_eq_true.2 ⟨p, by rw [← HP.out]; exact List.getElem_mem _, by rw [HRM.out]; rfl⟩
          have hnx := prs_hit q h2 hany
          exact ⟨⟨q + 1, by omega, by go_num, by rw [hnx, HL.out, HN.out]; exact hlen, by rw [hnx, HL.out, HN.out]; exact HR.out, by rw [hnx, HL.out]; exact hJ, hsz⟩, by simp [intOf]; omega⟩
        · have hz2 : ((r : Int) == 0) = false := by simp; exact hz
          gi_wp2
          go_roundw
          case rel => exact ⟨k + 1, by omega, by go_num, by first | rfl | trivial, fun j h hj => by
            by_cases e : j = k
            · subst e; rw [HP.out, HRM.out]; exact hz
            · exact HM.out j h (by omega)⟩
          case measure => simp [intOf]; omega
      · obtain rfl : k = m := by omega
        have hany : (prs q).any (fun p => q % p == 0) = false := by
          rw [HL.out, List.any_eq_false]
          intro p hp h0
          obtain ⟨j, hj, rfl⟩ := List.getElem_of_mem hp
          exact HM.out j hj (by rw [← HN.out]; exact hj) (by simpa using h0)
        have HNX := Lib.hid (prs_new q h2 hany)
        clear hany
        gi_wp2_with (gi_at_builtin; refine wpListIn_append_own _ rfl (.tmp 19) (.tmp 21) 126 rfl W.heap.size 93 i0 (.int .u64 0) 1 8 Try.underlying126 hi hz0 hz1 hz2 rfl (by decide) _ _ _ rfl (hrow.alloc _) ⟨wr.heap.size, 0, none⟩ 1 1 [.int .u64 (q : Int)] rfl rfl (one_new _ _ _) (by simp [Value.oneCell']) (by simp only [maxLen]; omega) (by omega) (by simp; omega) ?_; intro v2 w1 hown2 hgrow _; have hJ1 := hJT _ _ _ (StepT.row (hrow.alloc _) hW.size hgrow) (hJT _ _ _ (StepT.alloc _ _ _) hJ); obtain ⟨fn, tmps, assign, body, hy, hR⟩ := hY (pms L) (mkP q) w1 hJ1 (by rw [pms_len, HN.out]; exact hlen); simp only [mkP_val q hq] at hy)
        refine hR.mono ?_
        rintro e W3 (⟨rfl, hG3, hJ3, hk3⟩ | ⟨rfl, hx3⟩)
        · have hown3 := own_keep hown2 hk3
          have hsz3 : W.heap.size ≤ W3.heap.size := by
            rcases hown3.2 with ⟨_, h0⟩ | ⟨g, cap, cur, _, hg, hc, _⟩
            · omega
            · have := (Array.getElem?_eq_some_iff.1 hc).1; omega
          gi_wp2
          have hl3 : (prs (q + 1)).length = k + 1 := by rw [HNX.out, List.length_append, HL.out, HN.out]; rfl
          have he3 : encP (prs (q + 1)) = encP L ++ [.int .u64 (q : Int)] := by rw [HNX.out, encP_app, HL.out]; rfl
          exact ⟨⟨q + 1, by omega, by go_num, by rw [HNX.out, HL.out, ← pms_len, pms_app]; exact hG3, by rw [hl3, he3]; exact hown3, by rw [HNX.out, HL.out, pms_app]; exact hJ3, hsz3⟩, by simp [intOf]; omega⟩
        · gi_wp2
          rw [Exit.noGoto_ret]
          refine bodyPost_ret (results_none rfl _ _ _) rfl ?_
          exact ⟨⟨_, rfl⟩, .inr ⟨_, ⟨q, by rw [HNX.out, HL.out, pms_app], hq⟩, hx3⟩⟩
end Go.Proofs.Ytondnammkcgjpaa.Sha
namespace Go.Proofs.Ytondnammkcgjpaa.Sha
open Go Go.Proofs Go.RowKit Go.Shelf
attribute [local go_sem] Oper.semAt_some

section
variable {F : Fence} {n : Nat} {P : Program}
theorem load_row_in {ops : Array Oper} {rest : List Oper} {o : Oper} {a : Act} {w : World} {Q : Exit → Act → World → Prop} (hgd : o.guard = none) (ty : TypeId) (x : Operand) (ho : o.op = .load ty x)
    (g : Nat) (hx : a.eval x = .pointer (some ⟨g, 0, none⟩)) (t : TypeId) (cs : Array Value) (fr : Nat × Nat) (d : TypeDesc) (hg : w.heap[g]? = some (.cells cs t fr))
    (hu : P.underlying ty = some d) (hd : (match d with | .struct _ | .array _ _ => true | _ => false) = true) (hi : (P.info? ty).map (·.size) = some cs.size)
    (h : wpListIn F n P ops Q rest (a.put o.dst (.agg cs)) w) : wpListIn F n P ops Q (o :: rest) a w := by
  refine wpListIn_plain hgd fun K hK2 => ?_
  unfold Oper.wpIn
  refine ⟨by simp [Oper.about, ho], ?_⟩
  rw [Oper.semAt_plain F _ _ (by rw [ho]; intro c hc; cases hc)]
  unfold execOp
  simp only [ho, hx, Instr.loadAt, Instr.sureAddr, Sem.run_bind, Sem.run_pure, Result.andThen_ok, run_loadVar_row w g t ty cs fr d hg hu hd hi]
  exact hK2 _ _ h
theorem store_row_in {ops : Array Oper} {rest : List Oper} {o : Oper} {a : Act} {w : World} {Q : Exit → Act → World → Prop} (hgd : o.guard = none) (ty : TypeId) (x y : Operand) (ho : o.op = .store ty x y)
    (g : Nat) (cells : Array Value) (hx : a.eval x = .pointer (some ⟨g, 0, none⟩)) (hy : a.eval y = .agg cells)
    (t : TypeId) (old : Array Value) (hg : w.heap[g]? = some (.cells old t (0, 0))) (hi : (P.info? ty).map (·.size) = some cells.size)
    (hold : old.size = cells.size) (h1 : cells.all (·.oneCell') = true)
    (h : wpListIn F n P ops Q rest (a.put o.dst undef) (w.setRow g cells)) : wpListIn F n P ops Q (o :: rest) a w := by
  refine wpListIn_plain hgd fun K hK2 => ?_
  unfold Oper.wpIn
  refine ⟨by simp [Oper.about, ho], ?_⟩
  rw [Oper.semAt_plain F _ _ (by rw [ho]; intro c hc; cases hc)]
  unfold execOp
  simp only [ho, hx, hy, Instr.storeAt, Instr.sureAddr, Sem.run_bind, Sem.run_pure, Result.andThen_ok, run_storeVar_row w g t ty old cells hg hi hold h1]
  exact hK2 _ _ h
end

def u32 (n : Nat) : Value := .int .u32 ((n % 4294967296 : Nat) : Int)
def tabStep (s : Array Value × Nat) (p : Nat) : Array Value × Nat :=
  (let A := s.1.setIfInBounds s.2 (u32 (cuV p)); if s.2 < 8 then A.setIfInBounds (64 + s.2) (u32 (sqV p)) else A, s.2 + 1)
def zeros : Array Value := Array.replicate 72 (.int .u32 0)
def tabS (l : List Nat) : Array Value × Nat := l.foldl tabStep (zeros, 0)
def vals (l : List Pm) : List Nat := l.map (·.1)
def tabA (l : List Nat) : Array Value := (tabS l).1
theorem tabS_2 (l : List Nat) : (tabS l).2 = l.length := by
  suffices h : ∀ (l : List Nat) s, (l.foldl tabStep s).2 = s.2 + l.length by have := h l (zeros, 0); simpa [tabS] using this
  intro l; induction l with
  | nil => intro s; rfl
  | cons x l ih => intro s; rw [List.foldl_cons, ih]; simp only [tabStep, List.length_cons]; omega
theorem tabA_app (l : List Nat) (p : Nat) : tabA (l ++ [p]) = (let A := (tabA l).setIfInBounds l.length (u32 (cuV p)); if l.length < 8 then A.setIfInBounds (64 + l.length) (u32 (sqV p)) else A) := by
  show (tabS (l ++ [p])).1 = _
  rw [tabS, List.foldl_append]
  show (tabStep (tabS l) p).1 = _
  unfold tabStep
  rw [tabS_2]; rfl
theorem tabA_size (l : List Nat) : (tabA l).size = 72 := by
  suffices h : ∀ (l : List Nat) s, s.1.size = 72 → (l.foldl tabStep s).1.size = 72 from h l (zeros, 0) (by simp [zeros])
  intro l; induction l with
  | nil => intro s h; exact h
  | cons x l ih => intro s h; rw [List.foldl_cons]; refine ih _ ?_; simp only [tabStep]; split <;> simpa using h
theorem tabA_one (l : List Nat) : (tabA l).all (·.oneCell') = true := by
  suffices h : ∀ (l : List Nat) s, (∀ v ∈ s.1, v.oneCell' = true) → ∀ v ∈ (l.foldl tabStep s).1, v.oneCell' = true by
    rw [Array.all_eq_true_iff_forall_mem]
    exact h l (zeros, 0) (by intro v hv; simp only [zeros, Array.mem_replicate] at hv; rw [hv.2]; rfl)
  intro l; induction l with
  | nil => intro s h; exact h
  | cons x l ih =>
    intro s h; rw [List.foldl_cons]; refine ih _ ?_
    intro v hv
    simp only [tabStep] at hv
    split at hv
    · rcases Array.mem_or_eq_of_mem_setIfInBounds hv with hv | rfl
      · rcases Array.mem_or_eq_of_mem_setIfInBounds hv with hv | rfl
        · exact h _ hv
        · rfl
      · rfl
    · rcases Array.mem_or_eq_of_mem_setIfInBounds hv with hv | rfl
      · exact h _ hv
      · rfl

theorem fnE113 : ∀ args w, (callFunc 75 args).run Try.prog w = .ok (.enter 75 args) w := enters_of Try.func75 (by kernel_rfl) rfl
theorem primes_c (w : World) : Calls Try.prog 47 #[] w fun e w' => e = .returned (.func (.func 75) #[] #[]) ∧ w' = w := by
  go_enter Try.func47, Try.ntmps47
  go_wp2
  go_ret
  exact ⟨rfl, rfl⟩

theorem zeros_eq : Try.zeroCells31 = tabA [] := by kernel_rfl
theorem prs_314_eq : prs 314 = prs 313 ++ [313] := by decide +kernel
theorem vals_pms (L : List Nat) (h : ∀ p ∈ L, p < 314) : vals (pms L) = L := by
  unfold vals pms
  rw [List.map_map]
  conv => rhs; rw [← List.map_id L]
  exact List.map_congr_left fun p hp => mkP_val p (h p hp)
theorem stepT_at {b : Nat} {A B : World} (h : StepT b A B) {k : Nat} {cs : Array Value} {t : TypeId} {fr : Nat × Nat} (hk : A.heap[k]? = some (.cells cs t fr)) (ht : t ≠ 93) : B.heap[k]? = some (.cells cs t fr) := by
  obtain ⟨row, hg, hr⟩ := h
  refine (hg.block k (Array.getElem?_eq_some_iff.1 hk).1 (fun e => ?_)).trans hk
  obtain ⟨_, cs2, h2⟩ := hr k e.symm
  rw [hk] at h2; cases h2; exact ht rfl
theorem stepT_not (b : Nat) (A B : World) (k : Nat) (o : Obj) (h : StepT b A B) (hk : A.heap[k]? = some o) (ho : o.isCells = false) : B.heap[k]? = some o := by
  obtain ⟨row, hg, hr⟩ := h
  refine (hg.block k (Array.getElem?_eq_some_iff.1 hk).1 (fun e => ?_)).trans hk
  obtain ⟨_, cs2, h2⟩ := hr k e.symm
  rw [hk] at h2; cases h2; cases ho
theorem stepT_below {w A B : World} (h : StepT w.heap.size A B) (hb : Below w.heap.size w A) : Below w.heap.size w B := by
  obtain ⟨row, hg, hr⟩ := h
  exact hb.grown hg hb.size (fun k e => (hr k e).1)
theorem keep_t {A B C : World} (h : Keep145 A B) (k : Keep145 B C) : Keep145 A C := fun i cs hi => k i cs (h i cs hi)
theorem keep_b (W : World) (l : Nat) (o o2 : Obj) (h : W.heap[l]? = some o) (ho : o.isCells = false) : Keep145 W (W.putObj l o2) := fun i cs hi =>
  (World.putObj_heap_other (fun e => by subst e; rw [h] at hi; cases hi; cases ho)).trans hi
theorem keep_alloc (W : World) (o : Obj) : Keep145 W (W.alloc o) := fun i _ hi => (Below.heap_alloc W o i (Array.getElem?_eq_some_iff.1 hi).1).trans hi
theorem keep_set {W : World} {b : Nat} {cs : Array Value} {t : TypeId} {fr : Nat × Nat} (h : W.heap[b]? = some (.cells cs t fr)) (ht : t ≠ 93) (i : Nat) (v : Value) : Keep145 W (W.setCell ⟨b, i, none⟩ v) := fun k cs2 hk =>
  (heap_setCell_other W ⟨b, i, none⟩ k v (fun e => by subst e; rw [h] at hk; cases hk; exact ht rfl)).trans hk

def Ok (w W V : World) : Prop := KeepsOthers W V ∧ Keep145 W V ∧ Below w.heap.size w V
theorem ok_new {w W : World} (p : Nat) (hb : Below w.heap.size w W) : Ok w W (W.drew.alloc (box p)) :=
  ⟨(KeepsOthers.drew W).trans (KeepsOthers.alloc _ _), fun k cs h => keep_alloc W.drew (box p) k cs h, (hb.drew).alloc hb.size _⟩
theorem Ok.set {w W V : World} (h : Ok w W V) {b : Nat} {cs : Array Value} {t : TypeId} {fr : Nat × Nat} (hc : V.heap[b]? = some (.cells cs t fr)) (ht : t ≠ 93) (hb : w.heap.size ≤ b) (i : Nat) (v : Value) : Ok w W (V.setCell ⟨b, i, none⟩ v) :=
  ⟨h.1.trans (KeepsOthers.setCell _ _ _), keep_t h.2.1 (keep_set hc ht i v), h.2.2.setCell (p := ⟨b, i, none⟩) hb v⟩
theorem Ok.trans {w W V U : World} (h : Ok w W V) (k : Ok w V U) : Ok w W U := ⟨h.1.trans k.1, keep_t h.2.1 k.2.1, k.2.2⟩

def Inv (w : World) (l : List Nat) (W : World) : Prop :=
  W.heap[w.heap.size]? = some (.cells Try.zeroCells31 31 (0, 0)) ∧ W.heap[w.heap.size + 1]? = some (.cells (tabA l) 31 (0, 0)) ∧ Boxed W (w.heap.size + 1 + 1) 3 (.int .i64 (l.length : Int)) ∧ Below w.heap.size w W
theorem Inv.step {w A B : World} {l : List Nat} (h : StepT w.heap.size A B) (hi : Inv w l A) : Inv w l B :=
  ⟨stepT_at h hi.1 (by decide), stepT_at h hi.2.1 (by decide), stepT_at h hi.2.2.1 (by decide), stepT_below h hi.2.2.2⟩
theorem Inv.own (w : World) (B0 : Nat) (hB : w.heap.size ≤ B0) {A A2 : World} {row : Option Nat} {l : List Nat} (hi : Inv w l A) (hg : A.grownBy A2 row) (hr : ∀ r, row = some r → B0 ≤ r ∧ ∃ o : Obj, A.heap[r]? = some o ∧ o.isCells = false) : Inv w l A2 := by
  have hk : ∀ (k : Nat) (cs : Array Value) (t : TypeId), A.heap[k]? = some (.cells cs t (0, 0)) → A2.heap[k]? = some (.cells cs t (0, 0)) := fun k cs t h =>
    (hg.block k (Array.getElem?_eq_some_iff.1 h).1 (fun e => by obtain ⟨_, o, ho, hc⟩ := hr k e.symm; rw [h] at ho; cases ho; cases hc)).trans h
  exact ⟨hk _ _ _ hi.1, hk _ _ _ hi.2.1, hk _ _ _ hi.2.2.1, hi.2.2.2.grown hg hi.2.2.2.size (fun k e => Nat.le_trans hB (hr k e).1)⟩

theorem fin_round {w W V : World} {pre : List Pm} {x : Pm} {i B0 : Nat} (T : Array Value) (hO : Ok w W V) (v0 : V.heap[w.heap.size]? = some (.cells Try.zeroCells31 31 (0, 0))) (v1 : V.heap[w.heap.size + 1]? = some (.cells T 31 (0, 0))) (v2 : Boxed V (w.heap.size + 1 + 1) 3 (.int .i64 (i : Int)))
    (hT : tabA (vals (pre ++ [x])) = T) (hi : pre.length = i) (hlt : i < 64) :
    KeepsFrom B0 W (V.setCell ⟨w.heap.size + 1 + 1, 0, none⟩ (.int .i64 ((i : Int) + 1))) ∧ (pre ++ [x]).length < 65 ∧ Keep145 W (V.setCell ⟨w.heap.size + 1 + 1, 0, none⟩ (.int .i64 ((i : Int) + 1))) ∧ Inv w (vals (pre ++ [x])) (V.setCell ⟨w.heap.size + 1 + 1, 0, none⟩ (.int .i64 ((i : Int) + 1))) := by
  have hO2 := hO.set v2 (by decide) (by omega) 0 (.int .i64 ((i : Int) + 1))
  refine ⟨hO2.1.from _, by simp [hi]; omega, hO2.2.1, ?_, ?_, ?_, hO2.2.2⟩
  · exact (heap_setCell_other _ _ _ _ (by show w.heap.size ≠ w.heap.size + 1 + 1; omega)).trans v0
  · rw [hT]; exact (heap_setCell_other _ _ _ _ (by show w.heap.size + 1 ≠ w.heap.size + 1 + 1; omega)).trans v1
  · have e : (((vals (pre ++ [x])).length : Nat) : Int) = (i : Int) + 1 := by simp [vals, hi]
    rw [e]; exact v2.set _
def Out (w : World) (c : Code) (pre : List Pm) (W : World) : Prop := c = .exit 0 ∧ ∃ (l : List Pm) (x : Pm), pre = l ++ [x] ∧ l.length = 64 ∧ Inv w (vals l) W

theorem make_in (w : World) : CallsIn Fence.wide 6 Try.prog 16 #[] w fun e w' => e = .returned (.agg (tabA (prs 313))) ∧ Below w.heap.size w w' := by
  refine callsIn_of_wp_marks Try.func16 rfl trivial ?_ rfl
  simp only [Try.ntmps16, List.size_toArray, List.length_nil, Nat.reduceSub, Array.replicate_succ, Array.replicate_zero, List.push_toArray, List.append_toArray, List.nil_append, List.cons_append]
  gi_wp2_with (refine ⟨trivial, ?_⟩; gi_at_call 47; refine (callsIn_wide.2 (primes_c _)).mono ?_; rintro e w' ⟨rfl, rfl⟩)
  have hB0 : Below w.heap.size w (((w.alloc (.cells Try.zeroCells31 31)).alloc (.cells Try.zeroCells31 31)).alloc (.cells #[.int .i64 0] 3)) := (((Below.refl _ w).alloc (Nat.le_refl _) _).alloc (by simp) _).alloc (by simp <;> omega) _
  have hb0 : (((w.alloc (.cells Try.zeroCells31 31)).alloc (.cells Try.zeroCells31 31)).alloc (.cells #[.int .i64 0] 3)).heap[w.heap.size]? = some (.cells Try.zeroCells31 31 (0, 0)) :=
    (Below.heap_alloc _ _ _ (by simp <;> omega)).trans ((Below.heap_alloc _ _ _ (by simp)).trans (World.alloc_heap_new w _))
  have hb1 : (((w.alloc (.cells Try.zeroCells31 31)).alloc (.cells Try.zeroCells31 31)).alloc (.cells #[.int .i64 0] 3)).heap[w.heap.size + 1]? = some (.cells (tabA []) 31 (0, 0)) := by
    rw [← zeros_eq]
    refine (Below.heap_alloc _ _ _ (by simp)).trans ?_
    have h := World.alloc_heap_new (w.alloc (.cells Try.zeroCells31 31)) (.cells Try.zeroCells31 31)
    rwa [World.size_alloc] at h
  have hb2 : Boxed (((w.alloc (.cells Try.zeroCells31 31)).alloc (.cells Try.zeroCells31 31)).alloc (.cells #[.int .i64 0] 3)) (w.heap.size + 1 + 1) 3 (.int .i64 0) := by
    have h := Boxed.new ((w.alloc (.cells Try.zeroCells31 31)).alloc (.cells Try.zeroCells31 31)) 3 (.int .i64 0)
    rwa [World.size_alloc, World.size_alloc] at h
  have hsz : (((w.alloc (.cells Try.zeroCells31 31)).alloc (.cells Try.zeroCells31 31)).alloc (.cells #[.int .i64 0] 3)).heap.size = w.heap.size + 3 := by simp
  obtain ⟨W0, hW0⟩ : ∃ W0, ((w.alloc (.cells Try.zeroCells31 31)).alloc (.cells Try.zeroCells31 31)).alloc (.cells #[.int .i64 0] 3) = W0 := ⟨_, rfl⟩
  rw [hW0] at hB0 hb0 hb1 hb2 hsz ⊢
  have hI0 : Inv w [] W0 := ⟨hb0, hb1, hb2, hB0⟩
  clear hW0 hb0 hb1 hb2
  refine range_step (α := Pm) (encs := fun (p : Pm) => #[.int .u64 (p.1 : Int)]) (N := 65) (Kp := Keep145) (T := StepT w.heap.size) (G := fun l => l.length < 65) rfl (Nat.le_add_left 1 5) (gf := 75) (lb := #[]) rfl trivial fnE113
    (primes1 Fence.wide 5 trivial rfl (by omega) w) (stepT_not _) keep_t (fun V l o o2 _ h hc => keep_b V l o o2 h hc) hB0 (fun _ => rfl)
    (fun (pre : List Pm) W => Inv w (vals pre) W)
    (Out w)
    (fun s A A2 row hs hg hr => hs.own w _ (by rw [hsz]; omega) hg hr)
    (fun c s A A2 row hs hg hr => by obtain ⟨hc, l, x, e1, e2, h⟩ := hs; exact ⟨hc, l, x, e1, e2, h.own w _ (by rw [hsz]; omega) hg hr⟩)
    (fun s A B hT h => h.step hT) (fun c s A B hT hs => by obtain ⟨hc, l, x, e1, e2, h⟩ := hs; exact ⟨hc, l, x, e1, e2, h.step hT⟩)
    hI0
    (fun x => { tmps := #[.pointer (some ⟨w.heap.size, 0, none⟩), .pointer (some ⟨w.heap.size + 1, 0, none⟩), .pointer (some ⟨w.heap.size + 1 + 1, 0, none⟩), .int .u64 (x.1 : Int), .func (.func 75) #[] #[], .int .u64 (x.1 : Int), undef, undef, undef, undef, undef, undef, undef, undef, undef, undef, undef, undef, undef, undef, undef, undef, undef], defers := [] }) ?assign ?body ?done ?stop
  case assign =>
    intro l x W K hK
    gi_wp2
    exact hK
  case body =>
    rintro l pre x W ⟨h0, h1, h2, hB⟩ hlen
    have hp := x.2
    have HX : Hid (tabA (vals (pre ++ [x])) = (let A := (tabA (vals pre)).setIfInBounds (vals pre).length (u32 (cuV x.1)); if (vals pre).length < 8 then A.setIfInBounds (64 + (vals pre).length) (u32 (sqV x.1)) else A)) := Lib.hid (by rw [vals, List.map_append]; exact tabA_app (vals pre) x.1)
    have hvl : (vals (pre ++ [x])).length = (vals pre).length + 1 := by simp [vals]
    have HVL := Lib.hid hvl
    have hl2 : (vals pre).length = pre.length := by simp [vals]
    obtain ⟨i, hi⟩ : ∃ i, pre.length = i := ⟨_, rfl⟩
    rw [hi] at hl2 hlen
    have HI := Lib.hid hi
    have HL2 := Lib.hid hl2
    rw [hl2] at h2
    clear hi hl2 hvl
    have hc2 := h2.cell
    by_cases h64 : i = 64
    · subst h64
      gi_wp2
      exact ⟨KeepsFrom.refl _ _, rfl, pre, x, rfl, HI.out, h0, h1, by rw [HL2.out]; exact h2, hB⟩
    · obtain ⟨W1, hW1⟩ : ∃ W1, W.drew.alloc (box x.1) = W1 := ⟨_, rfl⟩
      have HC : Hid (Calls Try.prog 48 #[.int .u64 x.1] W.drew fun e w' => e = .returned (.int .u32 (cuV x.1 % 4294967296 : Nat)) ∧ w' = W1) := Lib.hid (by rw [← hW1]; exact cube_c x.1 hp W.drew)
      have hal : ∀ k o, W.heap[k]? = some o → W1.heap[k]? = some o := fun k o h => by rw [← hW1]; exact (Below.heap_alloc _ _ _ (Array.getElem?_eq_some_iff.1 h).1).trans h
      have a0 := hal _ _ h0
      have a1 := hal _ _ h1
      have a2 : Boxed W1 (w.heap.size + 1 + 1) 3 (.int .i64 (i : Int)) := hal _ _ h2
      have ac : W1.cell? ⟨w.heap.size + 1, i, none⟩ = some ((tabA (vals pre))[i]'(by rw [tabA_size]; omega)) := by
        rw [cell_of_row W1 _ i _ _ _ a1]; simp [tabA_size, show i < 72 by omega]
      have af := frozen_of_row W1 (w.heap.size + 1) i _ _ a1
      have ac2 := a2.cell
      have af2 := a2.frozen
      generalize (tabA (vals pre))[i]'(by rw [tabA_size]; omega) = old at ac
      obtain ⟨cv, hcv⟩ : ∃ cv, cuV x.1 % 4294967296 = cv := ⟨_, rfl⟩
      have HCV : Hid (u32 (cuV x.1) = .int .u32 (cv : Int)) := Lib.hid (by unfold u32; rw [hcv])
      rw [hcv] at HC
      clear hcv
      obtain ⟨sv, hsv⟩ : ∃ sv, sqV x.1 % 4294967296 = sv := ⟨_, rfl⟩
      have HSV : Hid (u32 (sqV x.1) = .int .u32 (sv : Int)) := Lib.hid (by unfold u32; rw [hsv])
      have HSC : Hid (∀ W, Calls Try.prog 49 #[.int .u64 x.1] W fun e w' => e = .returned (.int .u32 (sv : Int)) ∧ w' = W.alloc (box x.1)) := Lib.hid (fun W => by rw [← hsv]; exact square_c x.1 hp W)
      clear hsv
      gi_wp2_with fail
      gi_region_with (refine ⟨trivial, ?_⟩; gi_at_call 48; refine (CallsIn.inRound l (callsIn_wide.2 HC.out)).mono ?_; rintro e w' ⟨rfl, rfl⟩)
      all_goals
        obtain ⟨W2, hW2⟩ : ∃ W2, w'.setCell ⟨w.heap.size + 1, i, none⟩ (.int .u32 (cv : Int)) = W2 := ⟨_, rfl⟩
        rw [hW2]
        have hO2 : Ok w W W2 := by rw [← hW2, ← hW1]; rw [← hW1] at a1; exact (ok_new x.1 hB).set a1 (by decide) (by omega) _ _
        have b0 : W2.heap[w.heap.size]? = some (.cells Try.zeroCells31 31 (0, 0)) := by rw [← hW2]; exact (heap_setCell_other _ _ _ _ (by show w.heap.size ≠ w.heap.size + 1; omega)).trans a0
        have b1 : W2.heap[w.heap.size + 1]? = some (.cells ((tabA (vals pre)).setIfInBounds i (.int .u32 (cv : Int))) 31 (0, 0)) := by rw [← hW2]; exact heap_setCell_same _ _ _ _ _ _ a1
        have b2 : Boxed W2 (w.heap.size + 1 + 1) 3 (.int .i64 (i : Int)) := by rw [← hW2]; exact (heap_setCell_other _ _ _ _ (by show w.heap.size + 1 + 1 ≠ w.heap.size + 1; omega)).trans a2
        have bc2 := b2.cell
        have bf2 := b2.frozen
        clear HC hal a0 a1 a2 af ac2 af2 ac hW2 hW1
        by_cases h8 : i < 8
        · obtain ⟨W3, hW3⟩ : ∃ W3, W2.drew.alloc (box x.1) = W3 := ⟨_, rfl⟩
          have HC3 : Hid (Calls Try.prog 49 #[.int .u64 x.1] W2.drew fun e w' => e = .returned (.int .u32 (sv : Int)) ∧ w' = W3) := Lib.hid (by rw [← hW3]; exact HSC.out _)
          have hal : ∀ k o, W2.heap[k]? = some o → W3.heap[k]? = some o := fun k o h => by rw [← hW3]; exact (Below.heap_alloc _ _ _ (Array.getElem?_eq_some_iff.1 h).1).trans h
          have c0 := hal _ _ b0
          have c1 := hal _ _ b1
          have c2 : Boxed W3 (w.heap.size + 1 + 1) 3 (.int .i64 (i : Int)) := hal _ _ b2
          have cc : ∃ old2, W3.cell? ⟨w.heap.size + 1, 64 + i, none⟩ = some old2 := by
            refine ⟨((tabA (vals pre)).setIfInBounds i (.int .u32 (cv : Int)))[64 + i]'(by simp [tabA_size]; omega), ?_⟩
            rw [cell_of_row W3 _ _ _ _ _ c1]; simp [tabA_size, show 64 + i < 72 by omega]
          obtain ⟨old2, cc⟩ := cc
          have cf := frozen_of_row W3 (w.heap.size + 1) (64 + i) _ _ c1
          have cc2 := c2.cell
          have cf2 := c2.frozen
          gi_wp2_with fail
          gi_region_with (refine ⟨trivial, ?_⟩; gi_at_call 49; refine (CallsIn.inRound l (callsIn_wide.2 HC3.out)).mono ?_; rintro e w' ⟨rfl, rfl⟩)
          all_goals
            obtain ⟨W4, hW4⟩ : ∃ W4, w'.setCell ⟨w.heap.size + 1, 64 + i, none⟩ (.int .u32 (sv : Int)) = W4 := ⟨_, rfl⟩
            rw [hW4]
            have hO4 : Ok w W W4 := by rw [← hW4, ← hW3]; rw [← hW3] at c1; exact hO2.trans ((ok_new x.1 hO2.2.2).set c1 (by decide) (by omega) _ _)
            have d0 : W4.heap[w.heap.size]? = some (.cells Try.zeroCells31 31 (0, 0)) := by rw [← hW4]; exact (heap_setCell_other _ _ _ _ (by show w.heap.size ≠ w.heap.size + 1; omega)).trans c0
            have d1 : W4.heap[w.heap.size + 1]? = some (.cells (((tabA (vals pre)).setIfInBounds i (.int .u32 (cv : Int))).setIfInBounds (64 + i) (.int .u32 (sv : Int))) 31 (0, 0)) := by rw [← hW4]; exact heap_setCell_same _ _ _ _ _ _ c1
            have d2 : Boxed W4 (w.heap.size + 1 + 1) 3 (.int .i64 (i : Int)) := by rw [← hW4]; exact (heap_setCell_other _ _ _ _ (by show w.heap.size + 1 + 1 ≠ w.heap.size + 1; omega)).trans c2
            have dc2 := d2.cell
            have df2 := d2.frozen
            clear HC3 hal c0 c1 c2 cc cf cc2 cf2 hW4 hW3 b0 b1 b2 bc2 bf2
            gi_wp2
            exact fin_round _ hO4 d0 d1 d2 (by rw [HX.out, if_pos (by rw [HL2.out]; exact h8), HL2.out, HCV.out, HSV.out]) HI.out (by omega)
        · gi_wp2
          exact fin_round _ hO2 b0 b1 b2 (by rw [HX.out, if_neg (by rw [HL2.out]; exact h8), HL2.out, HCV.out]) HI.out (by omega)
  case done => intro D xs W _ hS; exact hS.elim
  case stop =>
    rintro D c pre W hD ⟨q, rfl, hq⟩ ⟨rfl, l, x, e1, e2, h0, h1, h2, hB⟩ hd
    have hlen : (prs (q + 1)).length = 65 := by rw [← pms_len, e1]; simp [e2]
    have hq2 : q = 313 := by
      rcases Nat.lt_or_ge q 313 with h | h
      · have := prs_mono (q + 1) 313 h; rw [prs_313] at this; omega
      · omega
    subst hq2
    rw [prs_314_eq, pms_app] at e1
    obtain ⟨e3, _⟩ := List.append_inj' e1 rfl
    subst e3
    rw [vals_pms _ (fun p hp => by have := prs_in 313 p hp; omega)] at h1
    obtain ⟨T, hT⟩ : ∃ T, tabA (prs 313) = T := ⟨_, rfl⟩
    have hTs : T.size = 72 := by rw [← hT, tabA_size]
    have hT1 : T.all (·.oneCell') = true := by rw [← hT]; exact tabA_one _
    rw [hT] at h1
    have HT := Lib.hid hT
    have HI : Hid ((Try.prog.info? 31).map (·.size) = some T.size) := Lib.hid (by rw [hTs]; kernel_rfl)
    have HZ : Hid (Try.zeroCells31.size = T.size) := Lib.hid (by rw [hTs, zeros_eq, tabA_size])
    clear hT hTs e1 e2 hlen hq
    gi_wp2_with (first
      | (refine load_row_in rfl 31 (.tmp 1) rfl (w.heap.size + 1) rfl 31 T (0, 0) _ h1 Try.underlying31 rfl HI.out ?_)
      | (refine store_row_in rfl 31 (.tmp 0) (.tmp 22) rfl (w.heap.size) T rfl rfl 31 _ h0 HI.out HZ.out hT1 ?_))
    have hB2 : Below w.heap.size w (W.setRow w.heap.size T) := hB.trans ⟨rfl, rfl, rfl, by rw [size_setRow]; exact Nat.le_refl _, fun k hk => setRow_other W w.heap.size k T (by omega)⟩
    have hR := setRow_heap W w.heap.size _ T _ _ h0
    have hd2 : (W.setRow w.heap.size T).heap[D]? = some (.deferred (some [])) := (setRow_other W w.heap.size D T (by omega)).trans hd
    generalize W.setRow w.heap.size T = V at *
    refine ⟨by simp, .inl ⟨_, _, rfl, run_takeDeferred hd2, ?_⟩⟩
    have hR2 : (V.putObj D (.deferred none)).heap[w.heap.size]? = some (.cells T 31 (0, 0)) := (World.putObj_heap_other (by omega)).trans hR
    exact ⟨_, results_cell_row (p := 0) (ty := 31) rfl _ _ w.heap.size 31 _ _ _ rfl hR2 Try.underlying31 rfl HI.out, by rw [HT.out], hB2.trans (belowK_b (w := w) (Nat.le_refl _) _ D _ _ (by omega) hd2 rfl rfl)⟩
end Go.Proofs.Ytondnammkcgjpaa.Sha
namespace Go.Proofs.Ytondnammkcgjpaa.ShaP
open Go Go.RowKit Go.Proofs.YtondnammkcgjpaaW.PrintWords Go.Proofs.YtondnammkcgjpaaW.PrintLast Go.Proofs.YtondnammkcgjpaaW.PrintMore
open Go.Proofs.Ytondnammkcgjpaa.ShaM Go.Proofs.Ytondnammkcgjpaa.Ref01
def Kn : List Nat := kF.map Int.toNat
def Hn : List Nat := hF.map Int.toNat
theorem kn_cast : kF = ShaM.cast Kn := by rfl
theorem hn_cast : hF = ShaM.cast Hn := by rfl
theorem kn_len : Kn.length = 64 := by rfl
theorem hn_len : Hn.length = 8 := by rfl
theorem kn_small : Small Kn := small_of (by decide +kernel)
theorem hn_small : Small Hn := small_of (by decide +kernel)
theorem sch_take (bs : List Nat) (i : Nat) : schN (bs.take 64) i = schN bs i := by
  have key : ∀ j, j < 64 → (bs.take 64).getD j 0 = bs.getD j 0 := fun j hj => by
    rw [List.getD_eq_getElem?_getD, List.getD_eq_getElem?_getD, List.getElem?_take, if_pos hj]
  induction i with
  | zero => rfl
  | succ i ih =>
    rw [schN, schN, ih]
    by_cases h : i < 16
    · rw [if_pos h, if_pos h, wordN, wordN, key _ (by omega), key _ (by omega), key _ (by omega), key _ (by omega)]
    · rw [if_neg h, if_neg h]
theorem block_take (K h bs : List Nat) : blockN K h (bs.take 64) = blockN K h bs := by unfold blockN; rw [sch_take]
theorem cast_drop (l : List Nat) (n : Nat) : (ShaM.cast l).drop n = ShaM.cast (l.drop n) := by rw [ShaM.cast, ShaM.cast, List.map_drop]
theorem drop_lt (l : List Nat) (hl : ∀ j, l.getD j 0 < 256) (n : Nat) : ∀ j, (l.drop n).getD j 0 < 256 := fun j => by
  rw [List.getD_eq_getElem?_getD, List.getElem?_drop, ← List.getD_eq_getElem?_getD]; exact hl _
theorem hs_eq (ms : List Nat) (hm : ∀ j, ms.getD j 0 < 256) (k : Nat) : hsF (ShaM.cast ms) k = ShaM.cast (hsN Kn Hn ms k) := by
  induction k with
  | zero => exact hn_cast
  | succ k ih => rw [hsF, ih, kn_cast, cast_drop, block_eq Kn _ _ ((hsN_len Kn Hn ms k).trans hn_len) kn_small (hsN_small Kn Hn ms hn_small k) (drop_lt ms hm _), hsN, block_take]
theorem hs_app (K h xs p : List Nat) (q : Nat) (hq : 64 * q ≤ xs.length) : hsN K h (xs ++ p) q = hsN K h xs q := by
  induction q with
  | zero => rfl
  | succ q ih =>
    rw [hsN, hsN, ih (by omega)]
    congr 1
    rw [List.drop_append_of_le_length (by omega), List.take_append_of_le_length (by rw [List.length_drop]; omega)]
theorem hs_two (K h xs p : List Nat) (q m : Nat) (hq : 64 * q ≤ xs.length) : hsN K (hsN K h xs q) (xs.drop (64 * q) ++ p) m = hsN K h (xs ++ p) (q + m) := by
  induction m with
  | zero => exact (hs_app K h xs p q hq).symm
  | succ m ih =>
    rw [hsN, ih, ← Nat.add_assoc, hsN]
    congr 2
    rw [← List.drop_append_of_le_length hq, List.drop_drop]
    congr 1; omega
theorem lv_eq (L d : Nat) : lv L d = L / 256 ^ d := by
  induction d with
  | zero => simp [lv]
  | succ d ih => rw [lv, ih, Nat.div_div_eq_div_mul, Nat.pow_succ]
theorem num8 (n : Nat) : numP n 8 8 = [n / 256 ^ 7 % 256, n / 256 ^ 6 % 256, n / 256 ^ 5 % 256, n / 256 ^ 4 % 256, n / 256 ^ 3 % 256, n / 256 ^ 2 % 256, n / 256 ^ 1 % 256, n / 256 ^ 0 % 256] := by rfl
theorem len_eq (L : Nat) : lenB L 8 = ShaM.cast (numP L 8 8) := by
  rw [num8]
  simp only [lenB, lv_eq, List.nil_append, List.cons_append, Nat.sub_zero, Nat.reduceSub, ShaM.cast, List.map_cons, List.map_nil]
theorem bsF_eq (s : ByteArray) : bsF s = ShaM.cast (bsN s) := by unfold bsF bsN ShaM.cast; rw [List.map_map]; rfl
theorem msg_eq (s : ByteArray) : msgF s = ShaM.cast (bsN s ++ padB (s.size % 64) s.size) := by
  unfold msgF pad padN padB
  rw [len_eq, bsF_eq, show (120 - (s.size + 1) % 64) % 64 = (119 - s.size % 64) % 64 by omega, Nat.mul_comm s.size 8]
  simp [ShaM.cast]
theorem num4 (n : Nat) : numP n 4 4 = [n / 16777216 % 256, n / 65536 % 256, n / 256 % 256, n / 1 % 256] := by rfl
theorem w4_eq (n : Nat) (hn : n < 2 ^ 32) : w4 (n : Int) = ShaM.cast (numP n 4 4) := by
  rw [num4]
  unfold w4
  have t : ∀ m : Nat, ((n : Int)).tdiv (m : Int) = ((n / m : Nat) : Int) := fun m => by rw [Int.tdiv_eq_ediv_of_nonneg (Int.natCast_nonneg _), Int.natCast_ediv]
  rw [show (16777216 : Int) = ((16777216 : Nat) : Int) from rfl, show (65536 : Int) = ((65536 : Nat) : Int) from rfl, show (256 : Int) = ((256 : Nat) : Int) from rfl, t, t, t, wrap64u, wrap64u, wrap64u,
    Int.tmod_eq_emod_of_nonneg (by omega), Int.tmod_eq_emod_of_nonneg (by omega), Int.tmod_eq_emod_of_nonneg (by omega)]
  simp only [ShaM.cast, List.map_cons, List.map_nil, List.cons.injEq, and_true]
  refine ⟨?_, ?_, ?_, ?_⟩ <;> omega
theorem out_eq (h : List Nat) (hs : Small h) (i : Nat) : bsN (outF (ShaM.cast h) i) = outN h i := by
  induction i with
  | zero => rfl
  | succ i ih => rw [outF, bsN_append, ih, outN, ShaM.cast_getD, by4, w4_eq _ (hs i), show strOfNums (ShaM.cast (numP (h.getD i 0) 4 4)) = strN (numP (h.getD i 0) 4 4) from rfl, bsN_strN _ (numP_lt _ _ _)]
theorem bsN_inj {a b : ByteArray} (h : bsN a = bsN b) : a = b := by
  have e : a.data.toList = b.data.toList := (List.map_inj_right (fun x y hxy => UInt8.toNat_inj.1 hxy)).1 h
  exact ByteArray.ext (Array.toList_inj.1 e)
theorem sha_eq (s : ByteArray) : bsN (sumF s) = shaN Kn Hn (bsN s) := by
  have hm : ∀ j, (bsN s ++ padB (s.size % 64) s.size).getD j 0 < 256 := by
    intro j
    rw [List.getD_eq_getElem?_getD]
    cases e : (bsN s ++ padB (s.size % 64) s.size)[j]? with
    | none => decide
    | some x =>
      have hx := List.mem_of_getElem? e
      rcases List.mem_append.1 hx with hx | hx
      · obtain ⟨b, _, rfl⟩ := List.mem_map.1 hx
        exact b.toNat_lt
      · unfold padB at hx
        rcases List.mem_append.1 hx with hx | hx
        · rcases List.mem_cons.1 hx with rfl | hx
          · decide
          · rw [(List.mem_replicate.1 hx).2]; decide
        · exact numP_lt _ _ _ _ hx
  have hr : ((bsN s).drop (64 * ((bsN s).length / 64))).length = s.size % 64 := by rw [List.length_drop, bsN_len]; omega
  unfold sumF shaN finN
  rw [msg_eq, hs_eq _ hm, out_eq _ (hsN_small Kn Hn _ hn_small _), hr, hs_two _ _ _ _ _ _ (by omega), padB_len, bsN_len]
  congr 2
  unfold padN
  omega
def TL : List Value := (arrW Kn).toList ++ (arrW Hn).toList
def TV : Array Value := TL.toArray
theorem tab_eq : Sha.tabA (Sha.prs 313) = TV := by kernel_rfl
theorem tl_len : TL.length = 72 := by rfl
theorem tv_size : TV.size = 72 := by rfl
theorem tl_k (i : Nat) (h : i < 64) : TL[i]? = some (.int .u32 ((Kn.getD i 0 : Nat) : Int)) := by
  unfold TL
  rw [List.getElem?_append_left (by rw [arrW_len]; exact h), ← arrW_get Kn i h, Array.getElem?_toList]
theorem tl_h : TL.drop 64 = (arrW Hn).toList := by rfl
theorem tl_one : ∀ v ∈ TL, v.oneCell' = true := by
  intro v hv
  rcases List.mem_append.1 hv with hv | hv
  · exact (Array.all_eq_true_iff_forall_mem.1 (arrW_one Kn)) v (by simpa using hv)
  · exact (Array.all_eq_true_iff_forall_mem.1 (arrW_one Hn)) v (by simpa using hv)
theorem make_c (w : World) : Calls Try.prog 16 #[] w fun e w' => e = .returned (.agg TV) ∧ Below w.heap.size w w' := by
  rw [← tab_eq]
  exact callsIn_wide.1 (Sha.make_in w)
theorem sha_c (b : ByteArray) (hb : b.size ≤ 1000000000) (w : World) : Calls Try.prog 58 #[.agg TV, .string b] w fun e w' => e = .returned (.string (sumF b)) ∧ Below w.heap.size w w' := by
  refine (sum_c TL Kn Hn b tl_len kn_len hn_len kn_small hn_small tl_k tl_one tl_h hb w).mono ?_
  rintro e w' ⟨S, rfl, hS, hB⟩
  rw [← sha_eq] at hS
  rw [bsN_inj hS]
  exact ⟨rfl, hB⟩
end Go.Proofs.Ytondnammkcgjpaa.ShaP
namespace Go.Proofs.Ytondnammkcgjpaa.Mk
open Go Go.RowKit Go.Proofs.YtondnammkcgjpaaW.PrintWords Go.Proofs.YtondnammkcgjpaaW.PrintLast Go.Proofs.YtondnammkcgjpaaW.PrintMore
open Go.Proofs.Ytondnammkcgjpaa.ShaP Go.Proofs.Ytondnammkcgjpaa.Ref01
theorem info_tab : (Try.prog.info? 31).map (·.size) = some TV.size := by rw [tv_size]; kernel_rfl
theorem info_tl : (Try.prog.info? 31).map (·.size) = some TL.length := by rw [tl_len]; kernel_rfl
theorem info_str : (Try.prog.info? 9).map (fun i => (i.zero, i.size, i.bytes)) = some (some (.string ⟨#[]⟩), 1, 16) := by kernel_rfl
def pairF (a b : ByteArray) : ByteArray := sumF ((⟨#[1]⟩ : ByteArray) ++ a ++ b)
theorem sumF_size (b : ByteArray) : (sumF b).size = 32 := outF_size _ 8
theorem pairF_size (a b : ByteArray) : (pairF a b).size = 32 := sumF_size _
theorem cat_size (a b : ByteArray) : ((⟨#[1]⟩ : ByteArray) ++ a ++ b).size = 1 + a.size + b.size := by
  rw [ByteArray.size_append, ByteArray.size_append]; rfl
theorem pair_c (a b : ByteArray) (ha : a.size ≤ 100000) (hb : b.size ≤ 100000) (w : World) :
    Calls Try.prog 62 #[.agg TV, .string a, .string b] w fun e w' => e = .returned (.string (pairF a b)) ∧ Below w.heap.size w w' := by
  have OW := Aside0.mk (Mem.Own.nil w)
  have HI := Aside0.mk info_tab
  have HS := Aside0.mk (fun W => sha_c ((⟨#[1]⟩ : ByteArray) ++ a ++ b) (by rw [cat_size]; omega) W)
  have z1 : (1 + a.size ≤ 9223372036854775807) = True := eq_true (by omega)
  have z2 : (((⟨#[1]⟩ : ByteArray) ++ a).size + b.size ≤ 9223372036854775807) = True := eq_true (by rw [ByteArray.size_append]; show 1 + a.size + b.size ≤ _; omega)
  have z3 : (9223372036854775807 < 1 + a.size) = False := eq_false (by omega)
  have z4 : (9223372036854775807 < ((⟨#[1]⟩ : ByteArray) ++ a).size + b.size) = False := eq_false (by rw [ByteArray.size_append]; show ¬ _ < 1 + a.size + b.size; omega)
  have z5 : (9223372036854775807 < 1 + a.size + b.size) = False := eq_false (by omega)
  go_enter Try.func62, Try.ntmps62
  go_wp2_with (first
    | ((with_reducible refine gate_dst (N := 3) rfl ?_); refine box_event ?hg (N := 3) ?hd (cs := TV) (t := 31) ?hr ?_; (case hd => rfl); (case hg => rfl); (case hr => first | (go_simp; done) | (go_simp; rfl)); intro gT hg W_ hb hbb; have n_ : Aside0 (Mem.Own w W_ [(gT, TV, 31)]) := ⟨OW.out.new hg hb hbb⟩; clear OW hb hbb hg; have OW := n_; clear n_)
    | ((with_reducible refine gate_dst (N := 7) rfl ?_); refine wpList_load_row rfl 31 (.tmp 3) rfl gT rfl 31 TV (0, 0) _ (OW.out.blk 0 rfl) Try.underlying31 rfl HI.out ?_)
    | (go_at_call 58; with_reducible refine (HS.out _).mono ?_; rintro e w_ ⟨rfl, hB⟩; have OB := Aside0.mk (below_step OW.out.below hB); clear OW hB))
  go_ret
  exact ⟨rfl, OB.out⟩
theorem rpair_c (a b : ByteArray) (ha : a.size ≤ 100000) (hb : b.size ≤ 100000) (w : World) :
    Calls Try.prog 60 #[.agg TV, .string a, .string b] w fun e w' => e = .returned (.string (pairF a b)) ∧ Below w.heap.size w w' := by
  have OW := Aside0.mk (Mem.Own.nil w)
  have HI := Aside0.mk info_tab
  have HS := Aside0.mk (fun W => sha_c ((⟨#[1]⟩ : ByteArray) ++ a ++ b) (by rw [cat_size]; omega) W)
  have z1 : (1 + a.size ≤ 9223372036854775807) = True := eq_true (by omega)
  have z2 : (((⟨#[1]⟩ : ByteArray) ++ a).size + b.size ≤ 9223372036854775807) = True := eq_true (by rw [ByteArray.size_append]; show 1 + a.size + b.size ≤ _; omega)
  have z3 : (9223372036854775807 < 1 + a.size) = False := eq_false (by omega)
  have z4 : (9223372036854775807 < ((⟨#[1]⟩ : ByteArray) ++ a).size + b.size) = False := eq_false (by rw [ByteArray.size_append]; show ¬ _ < 1 + a.size + b.size; omega)
  have z5 : (9223372036854775807 < 1 + a.size + b.size) = False := eq_false (by omega)
  go_enter Try.func60, Try.ntmps60
  go_wp2_with (first
    | ((with_reducible refine gate_dst (N := 3) rfl ?_); refine box_event ?hg (N := 3) ?hd (cs := TV) (t := 31) ?hr ?_; (case hd => rfl); (case hg => rfl); (case hr => first | (go_simp; done) | (go_simp; rfl)); intro gT hg W_ hb hbb; have n_ : Aside0 (Mem.Own w W_ [(gT, TV, 31)]) := ⟨OW.out.new hg hb hbb⟩; clear OW hb hbb hg; have OW := n_; clear n_)
    | ((with_reducible refine gate_dst (N := 7) rfl ?_); refine wpList_load_row rfl 31 (.tmp 3) rfl gT rfl 31 TV (0, 0) _ (OW.out.blk 0 rfl) Try.underlying31 rfl HI.out ?_)
    | (go_at_call 58; with_reducible refine (HS.out _).mono ?_; rintro e w_ ⟨rfl, hB⟩; have OB := Aside0.mk (below_step OW.out.below hB); clear OW hB))
  go_ret
  exact ⟨rfl, OB.out⟩
def spl : Nat → Nat → Nat → Nat
  | 0, k, _ => k
  | f + 1, k, n => if 2 * k < n then spl f (2 * k) n else k
def splitN (n : Nat) : Nat := spl n 1 n
theorem spl_bd : ∀ (f k n : Nat), 0 < k → k < n → n ≤ f + k → 0 < spl f k n ∧ spl f k n < n
  | 0, k, n, h0, h1, _ => ⟨h0, h1⟩
  | f + 1, k, n, h0, h1, h2 => by
    rw [spl]
    by_cases h : 2 * k < n
    · rw [if_pos h]; exact spl_bd f (2 * k) n (by omega) h (by omega)
    · rw [if_neg h]; exact ⟨h0, h1⟩
theorem splitN_bd (n : Nat) (h : 2 ≤ n) : 0 < splitN n ∧ splitN n < n := spl_bd n 1 n (by omega) (by omega) (by omega)
theorem split_c (n : Nat) (h2 : 2 ≤ n) (hn : n ≤ 1000000000) (w : World) :
    Calls Try.prog 61 #[.int .i64 (n : Int)] w fun e w' => e = .returned (.int .i64 (splitN n : Int)) ∧ w = w' := by
  go_enter Try.func61, Try.ntmps61
  go_wp2
  go_loop [3] (fun t => ∃ f k : Nat, t = .int .i64 k ∧ 0 < k ∧ k < n ∧ n ≤ f + k ∧ Aside0 (splitN n = spl f k n)) (fun t => n - (intOf t).toNat)
  case atStart => exact ⟨n, 1, rfl, by omega, by omega, by omega, ⟨rfl⟩⟩
  case round =>
    obtain ⟨f, k, rfl, h0, h1, hf, HS⟩ := hrel
    by_cases hlt : 2 * k < n
    · have hz : (2 : Int) * (k : Int) < (n : Int) := by omega
      obtain ⟨f, rfl⟩ : ∃ g, f = g + 1 := ⟨f - 1, by omega⟩
      have HS2 := Aside0.mk (HS.out.trans (by rw [spl, if_pos hlt]))
      clear HS
      go_wp2
      go_round
      case rel => exact ⟨f, 2 * k, by rw [show ((2 * k : Nat) : Int) = (k : Int) * 2 by omega], by omega, by omega, by omega, HS2⟩
      case measure => simp [intOf]; omega
    · have hz : (n : Int) ≤ (2 : Int) * (k : Int) := by omega
      have hk2 : (2 : Int) * (k : Int) ≤ 2000000000 := by omega
      have HS2 : Aside0 (splitN n = k) := ⟨HS.out.trans (by
        cases f with
        | zero => rfl
        | succ f => rw [spl, if_neg hlt])⟩
      clear HS
      go_wp2
      go_ret
      exact ⟨by rw [HS2.out]; rfl, rfl⟩
theorem cut_take (A : Option Addr) (c : Nat) (l : List ByteArray) (k : Nat) (hk : k ≤ l.length) (hc : l.length ≤ c) :
    (∀ W : World, (Instr.slice 22 (.slice A l.length c) none (some (.int .i64 (k : Int))) none).run Try.prog W = .ok (.slice A (l.take k).length c) W) ∧
      (∀ w : World, Kd.C Kd.string w A l.length l → Kd.C Kd.string w A (l.take k).length (l.take k)) ∧ (l.take k).length ≤ c := by
  obtain ⟨i0, hi0, _, hsz, _⟩ := info_parts info_str
  obtain ⟨h1, h2, h3⟩ := print_take_of (P := Try.prog) Value.string (⟨#[]⟩ : ByteArray) 22 9 .i64 Try.underlying22 hi0 hsz A c l (k : Int) (by omega) (by omega) hc
  rw [Int.toNat_natCast] at h1 h2 h3
  exact ⟨h1, fun w h => Kd.C_of_reads (h1 := fun _ => rfl) (h2 w (Kd.reads_of_C h)), h3⟩
theorem cut_drop (A : Option Addr) (c : Nat) (l : List ByteArray) (k : Nat) (hk : k ≤ l.length) (hc : l.length ≤ c) :
    ∃ A2 : Option Addr, (∀ W : World, (Instr.slice 22 (.slice A l.length c) (some (.int .i64 (k : Int))) none none).run Try.prog W = .ok (.slice A2 (l.drop k).length (c - k)) W) ∧
      (∀ w : World, Kd.C Kd.string w A l.length l → Kd.C Kd.string w A2 (l.drop k).length (l.drop k)) ∧ (l.drop k).length ≤ c - k := by
  obtain ⟨i0, hi0, _, hsz, _⟩ := info_parts info_str
  obtain ⟨A2, h1, h2, h3⟩ := print_drop_of (P := Try.prog) Value.string (⟨#[]⟩ : ByteArray) 22 9 .i64 Try.underlying22 hi0 hsz A c l (k : Int) (by omega) (by omega) hc
  simp only [Int.toNat_natCast] at h1 h2 h3
  exact ⟨A2, h1, fun w h => Kd.C_of_reads (h1 := fun _ => rfl) (h2 w (Kd.reads_of_C h)), h3⟩
theorem tab_range {W0 W : World} {g : Nat} {t : TypeId} (hb : W0.heap[g]? = some (.cells TV t (0, 0))) (hS : Below W0.heap.size W0 W) : W.rangeAt g 0 TL := fun j v hv => by
  rw [Nat.zero_add, blk_cell (blk_below hb hS) j]
  unfold TV
  rw [List.getElem?_toArray]
  exact hv
theorem yields_tab {ops : Array Oper} {S : World → Prop} {op : Oper} {a : Act} (hw : Region.wanted op (yielded ops a.tmps) = true) (x : Operand) (ho : op.op = .load 31 x) (g : Nat) (hx : a.eval x = .pointer (some ⟨g, 0, none⟩)) {W0 : World} {t : TypeId}
    (hS : ∀ w, S w → Below W0.heap.size W0 w) (hb : W0.heap[g]? = some (.cells TV t (0, 0))) : YieldsIf Try.prog ops S op (.agg TV) a :=
  yieldsIf_load_mid hw 31 x ho g 0 hx TL _ (fun w h => tab_range hb (hS w h)) Try.underlying31 rfl info_tl
def Sm (l : List ByteArray) : Prop := ∀ s ∈ l, s.size ≤ 1000
theorem Sm.take {l : List ByteArray} (h : Sm l) (k : Nat) : Sm (l.take k) := fun s hs => h s (List.mem_of_mem_take hs)
theorem Sm.drop {l : List ByteArray} (h : Sm l) (k : Nat) : Sm (l.drop k) := fun s hs => h s (List.mem_of_mem_drop hs)
def rootN : Nat → List ByteArray → ByteArray
  | 0, _ => ⟨#[]⟩
  | f + 1, l => if l.length = 0 then sumF ⟨#[]⟩ else if l.length = 1 then rdOf ByteArray.empty l 0 else pairF (rootN f (l.take (splitN l.length))) (rootN f (l.drop (splitN l.length)))
theorem rootN_size (f : Nat) (l : List ByteArray) (h : Sm l) : (rootN f l).size ≤ 1000 := by
  cases f with
  | zero => exact Nat.zero_le _
  | succ f =>
    rw [rootN]
    split
    · rw [sumF_size]; omega
    · split
      · match l with
        | [] => exact Nat.zero_le _
        | x :: r => exact h x (by simp)
      · rw [pairF_size]; omega
theorem root_c (f : Nat) : ∀ (A : Option Addr) (c : Nat) (l : List ByteArray) (w : World), l.length < f → f ≤ 1000000 → Sm l → l.length ≤ c → Kd.C Kd.string w A l.length l →
    Calls Try.prog 30 #[.agg TV, .slice A l.length c] w fun e w' => e = .returned (.string (rootN f l)) ∧ Below w.heap.size w w' := by
  induction f with
  | zero => intro A c l w h; omega
  | succ f ih =>
    intro A c l w hl hf hs hc hr
    have OW := Aside0.mk (Mem.Own.nil w)
    have HI := Aside0.mk info_tab
    by_cases h0 : l.length = 0
    · obtain rfl : l = [] := List.length_eq_zero_iff.1 h0
      have HR : Aside0 (rootN (f + 1) [] = sumF ⟨#[]⟩) := ⟨by simp [rootN]⟩
      have HS := Aside0.mk (fun W => sha_c ⟨#[]⟩ (by decide) W)
      clear ih hl hs hc hr h0 hf
      simp only [List.length_nil]
      go_enter Try.func30, Try.ntmps30
      go_wp2_with (first
        | ((with_reducible refine gate_dst (N := 2) rfl ?_); refine box_event ?hg (N := 2) ?hd (cs := TV) (t := 31) ?hr ?_; (case hd => rfl); (case hg => rfl); (case hr => first | (go_simp; done) | (go_simp; rfl)); intro gT hg W_ hb hbb; have n_ : Aside0 (Mem.Own w W_ [(gT, TV, 31)]) := ⟨OW.out.new hg hb hbb⟩; clear OW hb hbb hg; have OW := n_; clear n_)
        | ((with_reducible refine gate_dst (N := 10) rfl ?_); refine wpList_load_row rfl 31 (.tmp 2) rfl gT rfl 31 TV (0, 0) _ (OW.out.blk 0 rfl) Try.underlying31 rfl HI.out ?_)
        | (go_at_call 58; with_reducible refine (HS.out _).mono ?_; rintro e w_ ⟨rfl, hB⟩; have OB := Aside0.mk (below_step OW.out.below hB); clear OW hB))
      go_ret
      exact ⟨by rw [HR.out]; rfl, OB.out⟩
    by_cases h1 : l.length = 1
    · have HR : Aside0 (rootN (f + 1) l = rdOf ByteArray.empty l 0) := ⟨by rw [rootN, if_neg h0, if_pos h1]⟩
      obtain ⟨ad, e, hx⟩ := Kd.at_string hr 0 (by omega) (by omega)
      cases e
      have ha0 : ad.add (Int.toNat 0) = ad := by simp [Addr.add]
      rw [ha0] at hx
      generalize rdOf ByteArray.empty l 0 = x at HR hx
      have HX := Aside0.mk hx
      rw [h1] at hc ⊢
      clear ih hl hs hr h0 hf hx
      have h1 : True := trivial
      go_enter Try.func30, Try.ntmps30
      go_wp2_with (first
        | ((with_reducible refine gate_dst (N := 2) rfl ?_); refine box_event ?hg (N := 2) ?hd (cs := TV) (t := 31) ?hr ?_; (case hd => rfl); (case hg => rfl); (case hr => first | (go_simp; done) | (go_simp; rfl)); intro gT hg W_ hb hbb; have hx := HX.out; have hx2 := OW.out.old hx; have hx3 := pw_cell_below hbb hx2; have n_ : Aside0 (Mem.Own w W_ [(gT, TV, 31)]) := ⟨OW.out.new hg hb hbb⟩; clear OW hb hbb hg; have OW := n_; clear n_))
      go_ret
      exact ⟨by rw [HR.out]; rfl, OW.out.below⟩
    · have n0 : ((l.length : Int) == 0) = false := by simpa using h0
      have n1 : ((l.length : Int) == 1) = false := by rw [beq_eq_false_iff_ne]; omega
      have HR : Aside0 (rootN (f + 1) l = pairF (rootN f (l.take (splitN l.length))) (rootN f (l.drop (splitN l.length)))) := ⟨by rw [rootN, if_neg h0, if_neg h1]⟩
      have hk := splitN_bd l.length (by omega)
      have HSP := Aside0.mk (split_c l.length (by omega) (by omega))
      obtain ⟨k, ek⟩ : ∃ k, splitN l.length = k := ⟨_, rfl⟩
      rw [ek] at hk HSP HR
      obtain ⟨hcut1, hC1, hc1⟩ := cut_take A c l k (by omega) hc
      obtain ⟨A2, hcut2, hC2, hc2⟩ := cut_drop A c l k (by omega) hc
      have C1 := Aside0.mk (hC1 w hr)
      have C2 := Aside0.mk (hC2 w hr)
      have s1 := hs.take k
      have s2 := hs.drop k
      have e1 : (l.take k).length < f := by rw [List.length_take]; omega
      have e2 : (l.drop k).length < f := by rw [List.length_drop]; omega
      generalize l.take k = l1 at *
      generalize l.drop k = l2 at *
      have IH1 := Aside0.mk (fun W h => ih A c l1 W e1 (by omega) s1 hc1 h)
      have IH2 := Aside0.mk (fun W h => ih A2 (c - k) l2 W e2 (by omega) s2 hc2 h)
      have HP := Aside0.mk (fun W => pair_c (rootN f l1) (rootN f l2) (Nat.le_trans (rootN_size f l1 s1) (by omega)) (Nat.le_trans (rootN_size f l2 s2) (by omega)) W)
      clear ih hl hs hr h0 hf hk ek hC1 hC2 s1 s2 e1 e2 hc1 hc2 h1 hc
      go_enter Try.func30, Try.ntmps30
      go_wp2_with (first
        | ((with_reducible refine gate_dst (N := 2) rfl ?_); refine box_event ?hg (N := 2) ?hd (cs := TV) (t := 31) ?hr ?_; (case hd => rfl); (case hg => rfl); (case hr => first | (go_simp; done) | (go_simp; rfl)); intro gT hg W_ hb hbb; have n_ : Aside0 (Mem.Own w W_ [(gT, TV, 31)]) := ⟨OW.out.new hg hb hbb⟩; clear OW hb hbb hg; have OW := n_; clear n_)
        | (go_at_call 61; with_reducible refine (HSP.out _).mono ?_; rintro e w_ ⟨rfl, rfl⟩))
      have OD := Aside0.mk OW.out.drew
      clear OW
      refine start_ (n := 13) (S := fun w' => Below (W_).drew.heap.size (W_).drew w') (ds := []) #[false, false, false, false, false, false, false, false, false, false, false, false, false] (by kernel_rfl) rfl rfl (Below.refl _ _) (fun hHeld => ?_)
      generalize (W_).drew = W0 at *
      refine take_ (i := 0) (N := (some 20)) (a' := ?_) #[true, false, false, false, false, false, false, false, false, false, false, false, false] rfl rfl (by kernel_rfl) (fun _ _ _ h => h) (yields_tab (by rfl) (.tmp 2) rfl gT rfl (fun w' hS => hS) (OD.out.blk 0 rfl)) hHeld ?_ ?_
      rotate_left
      · simp only [Act.put, List.setIfInBounds_toArray, List.set_cons_zero, List.set_cons_succ, i64_w, i32_w]
        rfl
      refine take_ (i := 1) (N := (some 21)) (a' := ?_) #[true, true, false, false, false, false, false, false, false, false, false, false, false] rfl rfl (by kernel_rfl) (fun _ _ _ h => h) (yields_tab (by rfl) (.tmp 2) rfl gT rfl (fun w' hS => hS) (OD.out.blk 0 rfl)) hHeld ?_ ?_
      rotate_left
      · simp only [Act.put, List.setIfInBounds_toArray, List.set_cons_zero, List.set_cons_succ, i64_w, i32_w]
        rfl
      refine pure_ (i := 2) (N := (some 22)) (v := ?_) (a' := ?_) #[true, true, true, false, false, false, false, false, false, false, false, false, false] rfl rfl (by kernel_rfl) (fun _ _ _ h => h) (Or.inl ⟨by rfl, ?_⟩) ?_ ?_
      rotate_left
      · intro w'
        go_simp
        first | done | with_reducible rfl
      rotate_left
      · simp only [Act.put, List.setIfInBounds_toArray, List.set_cons_zero, List.set_cons_succ, i64_w, i32_w]
        rfl
      refine pure_ (i := 3) (N := (some 23)) (v := ?_) (a' := ?_) #[true, true, true, true, false, false, false, false, false, false, false, false, false] rfl rfl (by kernel_rfl) (fun _ _ _ h => h) (Or.inl ⟨by rfl, ?_⟩) ?_ ?_
      rotate_left
      · intro w'
        go_simp
        first | done | with_reducible rfl
      rotate_left
      · simp only [Act.put, List.setIfInBounds_toArray, List.set_cons_zero, List.set_cons_succ, i64_w, i32_w]
        rfl
      refine pure_ (i := 4) (N := (some 24)) (v := ?_) (a' := ?_) #[true, true, true, true, true, false, false, false, false, false, false, false, false] rfl rfl (by kernel_rfl) (fun _ _ _ h => h) (Or.inl ⟨by rfl, ?_⟩) ?_ ?_
      rotate_left
      · intro w'
        go_simp
        first | done | with_reducible rfl
      rotate_left
      · simp only [Act.put, List.setIfInBounds_toArray, List.set_cons_zero, List.set_cons_succ, i64_w, i32_w]
        rfl
      refine take_ (i := 6) (N := (some 26)) (a' := ?_) #[true, true, true, true, true, false, true, false, false, false, false, false, false] rfl rfl (by kernel_rfl) (fun _ _ _ h => h) (yields_tab (by rfl) (.tmp 2) rfl gT rfl (fun w' hS => hS) (OD.out.blk 0 rfl)) hHeld ?_ ?_
      rotate_left
      · simp only [Act.put, List.setIfInBounds_toArray, List.set_cons_zero, List.set_cons_succ, i64_w, i32_w]
        rfl
      refine pure_ (i := 7) (N := (some 27)) (v := ?_) (a' := ?_) #[true, true, true, true, true, false, true, true, false, false, false, false, false] rfl rfl (by kernel_rfl) (fun _ _ _ h => h) (Or.inl ⟨by rfl, ?_⟩) ?_ ?_
      rotate_left
      · intro w'
        go_simp
        first | done | with_reducible rfl
      rotate_left
      · simp only [Act.put, List.setIfInBounds_toArray, List.set_cons_zero, List.set_cons_succ, i64_w, i32_w]
        rfl
      refine pure_ (i := 8) (N := (some 28)) (v := ?_) (a' := ?_) #[true, true, true, true, true, false, true, true, true, false, false, false, false] rfl rfl (by kernel_rfl) (fun _ _ _ h => h) (Or.inl ⟨by rfl, ?_⟩) ?_ ?_
      rotate_left
      · intro w'
        go_simp
        first | done | with_reducible rfl
      rotate_left
      · simp only [Act.put, List.setIfInBounds_toArray, List.set_cons_zero, List.set_cons_succ, i64_w, i32_w]
        rfl
      refine pure_ (i := 9) (N := (some 29)) (v := ?_) (a' := ?_) #[true, true, true, true, true, false, true, true, true, true, false, false, false] rfl rfl (by kernel_rfl) (fun _ _ _ h => h) (Or.inl ⟨by rfl, ?_⟩) ?_ ?_
      rotate_left
      · intro w'
        go_simp
        first | done | with_reducible rfl
      rotate_left
      · simp only [Act.put, List.setIfInBounds_toArray, List.set_cons_zero, List.set_cons_succ, i64_w, i32_w]
        rfl
      refine one_ (i := 5) (N := (some 25)) #[true, true, true, true, true, true, true, true, true, true, false, false, false] rfl rfl (by kernel_rfl) (by decide) (fun K hK => ?_)
      refine goes_ Try.func30 (by kernel_rfl) rfl #[.agg TV, .slice A l1.length c] (by rfl) rfl rfl (by (try simp only [List.map_toArray, List.map_cons, List.map_nil]); first | done | rfl) ?_
      with_reducible refine (IH1.out _ (Kd.C_below C1.out OD.out.below)).mono ?_
      rintro e w1 ⟨rfl, hB⟩
      refine ⟨_, rfl, ?_⟩
      have hS2 : Below W0.heap.size W0 w1 := hB
      clear hB
      refine hK.out _ _ hS2 (fun hHeld => ?_)
      clear hK K
      refine norm_ (a' := ?_) ?_ ?_
      rotate_left
      · show Act.put _ (some 25) _ = _
        simp only [Act.put, List.setIfInBounds_toArray, List.set_cons_zero, List.set_cons_succ, i64_w, i32_w]
        rfl
      refine one_ (i := 10) (N := (some 30)) #[true, true, true, true, true, true, true, true, true, true, true, false, false] rfl rfl (by kernel_rfl) (by decide) (fun K hK => ?_)
      refine goes_ Try.func30 (by kernel_rfl) rfl #[.agg TV, .slice A2 l2.length (c - k)] (by rfl) rfl rfl (by (try simp only [List.map_toArray, List.map_cons, List.map_nil]); first | done | rfl) ?_
      with_reducible refine (IH2.out _ (Kd.C_below C2.out (OD.out.step hHeld).below)).mono ?_
      rintro e w2 ⟨rfl, hB⟩
      refine ⟨_, rfl, ?_⟩
      have hS2 : Below W0.heap.size W0 w2 := below_step hHeld hB
      clear hB hHeld
      refine hK.out _ _ hS2 (fun hHeld => ?_)
      clear hK K
      refine norm_ (a' := ?_) ?_ ?_
      rotate_left
      · show Act.put _ (some 30) _ = _
        simp only [Act.put, List.setIfInBounds_toArray, List.set_cons_zero, List.set_cons_succ, i64_w, i32_w]
        rfl
      refine one_ (i := 11) (N := (some 31)) #[true, true, true, true, true, true, true, true, true, true, true, true, false] rfl rfl (by kernel_rfl) (by decide) (fun K hK => ?_)
      refine goes_ Try.func62 (by kernel_rfl) rfl #[.agg TV, .string (rootN f l1), .string (rootN f l2)] (by rfl) rfl rfl (by (try simp only [List.map_toArray, List.map_cons, List.map_nil]); first | done | rfl) ?_
      with_reducible refine (HP.out _).mono ?_
      rintro e w3 ⟨rfl, hB⟩
      refine ⟨_, rfl, ?_⟩
      have hS2 : Below W0.heap.size W0 w3 := below_step hHeld hB
      clear hB hHeld
      refine hK.out _ _ hS2 (fun hHeld => ?_)
      clear hK K
      refine norm_ (a' := ?_) ?_ ?_
      rotate_left
      · show Act.put _ (some 31) _ = _
        simp only [Act.put, List.setIfInBounds_toArray, List.set_cons_zero, List.set_cons_succ, i64_w, i32_w]
        rfl
      refine pure_ (i := 12) (N := (some 4)) (v := ?_) (a' := ?_) #[true, true, true, true, true, true, true, true, true, true, true, true, true] rfl rfl (by kernel_rfl) (fun _ _ _ h => h) (Or.inl ⟨by rfl, ?_⟩) ?_ ?_
      rotate_left
      · intro w'
        go_simp
        first | done | with_reducible rfl
      rotate_left
      · simp only [Act.put, List.setIfInBounds_toArray, List.set_cons_zero, List.set_cons_succ, i64_w, i32_w]
        rfl
      refine done_ (by kernel_rfl) ?_
      have OB := Aside0.mk (OD.out.step hHeld).below
      clear hHeld
      go_wp2_with fail
      go_ret
      exact ⟨by rw [HR.out]; rfl, OB.out⟩
theorem tab_event {ops : Array Oper} {Q : Exit → Act → World → Prop} {rest : List Oper} {o1 o2 : Oper} {a : Act} {W : World} {N : Tmp} {x : Operand} (hd1 : o1.dst = some N) (hg1 : o1.guard = none) (ho1 : o1.op = .alloc 31)
    (hg2 : o2.guard = none) (hd2 : o2.dst = none) (ho2 : o2.op = .store 31 (.tmp N) x) (hN : ∀ v, (a.put (some N) v).eval (.tmp N) = v) (hx : ∀ v, (a.put (some N) v).eval x = .agg TV)
    (hK : ∀ g, g = W.heap.size → ∀ w1, w1.heap[g]? = some (.cells TV 31 (0, 0)) → Below W.heap.size W w1 → wpList Try.prog ops Q rest (a.put (some N) (.pointer (some ⟨g, 0, none⟩))) w1) : wpList Try.prog ops Q (o1 :: o2 :: rest) a W := by
  have hrun : (execOp a.eval o1).run Try.prog W = .ok (.value (.pointer (some ⟨W.heap.size, 0, none⟩))) (W.alloc (.cells Try.zeroCells31 31 (0, 0))) := by
    unfold execOp
    rw [ho1]
    go_simp
  refine Kd.event_run hg1 hrun ?_
  rw [hd1]
  have hb := blk_new W (.cells Try.zeroCells31 31 (0, 0))
  refine wpList_store_row hg2 31 (.tmp N) x ho2 W.heap.size TV (hN _) (hx _) 31 Try.zeroCells31 hb info_tab (by rw [tv_size]; kernel_rfl) ?_ ?_
  · exact Array.all_eq_true_iff_forall_mem.2 (fun v hv => tl_one v (by simpa [TV] using hv))
  · rw [hd2]
    exact hK _ rfl _ (setRow_heap _ _ _ _ _ _ hb) (Mem.below_row (below_alloc (Below.refl _ _) _) (Nat.le_refl _))
end Go.Proofs.Ytondnammkcgjpaa.Mk
namespace Go.Proofs.Ytondnammkcgjpaa.Rg
open Go Go.RowKit Go.Proofs.YtondnammkcgjpaaW.PrintWords Go.Proofs.YtondnammkcgjpaaW.PrintLast Go.Proofs.YtondnammkcgjpaaW.PrintMore
open Go.Proofs.Ytondnammkcgjpaa.ShaP Go.Proofs.Ytondnammkcgjpaa.Mk
abbrev SR (w : World) (base : Nat) (v : Value) (l : List ByteArray) : Prop := Kd.R Kd.string 9 w base (fun _ => True) v l
theorem clone_c (A : Option Addr) (c : Nat) (l : List ByteArray) (w : World) (hl : l.length ≤ 1000000000) (hr : Kd.C Kd.string w A l.length l) :
    Calls Try.prog 51 #[.slice A l.length c] w fun e w' => ∃ v, e = .returned v ∧ SR w' w.heap.size v l ∧ Below w.heap.size w w' := by
  have hsn := fun (W : World) (a : Option Addr) (n c : Nat) => Lib.run_eql_slice_nil (P := Try.prog) W 22 9 a n c 0 0 Try.underlying22
  rcases A with _ | ad
  · have h0 : l.length = 0 := by
      rcases Nat.eq_zero_or_pos l.length with h | h
      · exact h
      · obtain ⟨ad, e, _⟩ := hr.2.2 h
        cases e
    obtain rfl : l = [] := List.length_eq_zero_iff.1 h0
    clear hr h0 hl
    go_enter Try.func51, Try.ntmps51
    go_wp2
    go_ret
    exact ⟨_, rfl, Kd.R_nil _ _ _ _ _, Below.refl _ _⟩
  · have HR := Aside0.mk hr
    have HL := Aside0.mk hl
    clear hr hl
    have HB := Aside0.mk (Below.refl w.heap.size w)
    go_enter Try.func51, Try.ntmps51
    go_wp2_with (first
      | ((with_reducible refine gate_dst (N := 5) rfl ?_); refine Kd.R_lit Kd.string (w0 := w) w.heap.size 9 rfl (N := 5) rfl (xs := []) (inner := []) (ok := fun _ => True) (okp := fun _ => True) (by first | (go_simp; done) | (go_simp; rfl)) (Reps.none _ _) (fun _ _ => trivial) trivial HB.out (below_size HB.out) (by decide) ?_; intro v1 w1 hr1 hb1 hg1 hat1; have n_ := Aside0.mk hb1; have HR1 := Aside0.mk hr1; obtain ⟨A1, c1, rfl⟩ := Kd.R_slice hr1; clear HB hb1 hg1 hat1 hr1; have HB := n_; clear n_)
      | ((with_reducible refine gate_builtin (b := .append) (xs := #[.tmp 5, .tmp 6]) rfl ?_); at_builtin; refine Kd.R_append_row (P := Try.prog) Value.string (⟨#[]⟩ : ByteArray) (w0 := w) w.heap.size rfl (.tmp 5) (.tmp 6) 22 9 (.string ⟨#[]⟩) 16 rfl Try.underlying22 info_str rfl (by decide) _ [] l (some ad) l.length c (fun _ => True) rfl rfl (fun _ _ => trivial) HR1.out (Kd.C_below HR.out HB.out) HB.out (below_size HB.out) (by have := HL.out; simp only [List.length_nil]; omega) ?_; intro v2 w2 hr2 hb2 hg2 hat2; have HR2 := Aside0.mk hr2; have HB2 := Aside0.mk hb2; clear hr2 hb2 hg2 hat2))
    go_ret
    exact ⟨v2, rfl, by have h := HR2.out; rw [List.nil_append] at h; exact h, HB2.out⟩
def lenV : Value → Nat | .slice _ n _ => n | _ => 0
theorem rdOf_last (l0 : List ByteArray) (h : ByteArray) (q : Nat) (e : l0.length = q) : rdOf ByteArray.empty (l0 ++ [h]) (q : Int) = h := by
  unfold rdOf
  rw [Int.toNat_natCast, ← e]
  simp
end Go.Proofs.Ytondnammkcgjpaa.Rg
namespace Go.Proofs.Ytondnammkcgjpaa.Rng
open Go Go.Proofs Go.RowKit Go.Shelf
attribute [local go_sem] Oper.semAt_some

def blen : Nat → Nat → Nat
  | 0, _ => 0
  | f + 1, x => if x = 0 then 0 else 1 + blen f (x / 2)
def hp (m : Nat) : Nat := 2 ^ (blen 64 m - 1)
theorem blen_zero (f : Nat) : blen f 0 = 0 := by cases f <;> rfl
theorem blen_bd (f : Nat) : ∀ m, m < 2 ^ f → 0 < m → 1 ≤ blen f m ∧ blen f m ≤ f ∧ 2 ^ (blen f m - 1) ≤ m ∧ m < 2 ^ blen f m := by
  induction f with
  | zero => intro m h h0; simp at h; omega
  | succ f ih =>
    intro m h h0
    have e : blen (f + 1) m = 1 + blen f (m / 2) := by simp only [blen]; rw [if_neg (by omega)]
    rw [e]
    by_cases h2 : m / 2 = 0
    · rw [h2, blen_zero]
      obtain rfl : m = 1 := by omega
      exact ⟨by omega, by omega, by decide, by decide⟩
    · obtain ⟨i1, i2, i3, i4⟩ := ih (m / 2) (by rw [Nat.pow_succ] at h; omega) (by omega)
      refine ⟨by omega, by omega, ?_, ?_⟩
      · have : 2 ^ (1 + blen f (m / 2) - 1) = 2 * 2 ^ (blen f (m / 2) - 1) := by
          rw [← Nat.pow_succ']; congr 1; omega
        omega
      · rw [Nat.pow_add]; omega
theorem hp_bd (m : Nat) (h : m < 2 ^ 63) (h0 : 0 < m) : 1 ≤ hp m ∧ hp m ≤ m ∧ m < 2 * hp m := by
  obtain ⟨i1, i2, i3, i4⟩ := blen_bd 64 m (by omega) h0
  unfold hp
  refine ⟨Nat.one_le_two_pow, i3, ?_⟩
  rw [← Nat.pow_succ']
  have : (blen 64 m - 1).succ = blen 64 m := by omega
  rw [this]; exact i4
abbrev Pw := { p : Nat // p < 2 ^ 63 }
def mkPw (m : Nat) : Pw := ⟨hp m % 2 ^ 63, Nat.mod_lt _ (by decide)⟩
theorem mkPw_1 (m : Nat) (h : m < 2 ^ 63) (h0 : 0 < m) : (mkPw m).1 = hp m := Nat.mod_eq_of_lt (by have := hp_bd m h h0; omega)
def pws : Nat → Nat → List Pw
  | 0, _ => []
  | f + 1, m => if m = 0 then [] else mkPw m :: pws f (m - hp m)
theorem pws_zero (f : Nat) : pws f 0 = [] := by cases f <;> rfl

abbrev enc1 (x : Pw) : Array Value := #[.int .i64 (x.1 : Int)]
def Keep1 (Bn : Nat) (A B : World) : Prop := ∀ v, Boxed A Bn 3 v → Boxed B Bn 3 v
def LenC : Prop := ∀ (x : Nat) (w : World), x < 2 ^ 63 → Calls Try.prog 83 #[.int .u64 (x : Int)] w fun e w2 => e = .returned (.int .i64 (blen 64 x : Int)) ∧ w = w2
noncomputable def numAt (w : World) (Bn : Nat) : Nat := match w.cell? ⟨Bn, 0, none⟩ with
  | some v => (intOf v).toNat
  | none => 0
theorem numAt_boxed {w : World} {Bn : Nat} {m : Nat} (h : Boxed w Bn 3 (.int .i64 m)) : numAt w Bn = m := by
  unfold numAt; rw [h.cell]; simp [intOf]

theorem keep1_t {Bn : Nat} {A B C : World} (h : Keep1 Bn A B) (k : Keep1 Bn B C) : Keep1 Bn A C := fun v hv => k v (h v hv)
theorem keep1_b {Bn B0 : Nat} (hB : Bn < B0) (W : World) (l : Nat) (o o2 : Obj) (hl : B0 ≤ l) (_ : W.heap[l]? = some o) (_ : o.isCells = false) : Keep1 Bn W (W.putObj l o2) :=
  fun _ hv => (World.putObj_heap_other (by omega)).trans hv

theorem powers_c (n : Int) (w : World) : Calls Try.prog 54 #[.int .i64 n] w fun e w2 => e = .returned (.func (.func 82) #[] #[.pointer (some ⟨w.heap.size, 0, none⟩)]) ∧ w2 = w.alloc (.cells #[.int .i64 n] 3) := by
  go_enter Try.func54, Try.ntmps54
  go_wp2
  go_ret
  exact ⟨rfl, rfl⟩
theorem pws_len (f : Nat) : ∀ m, (pws f m).length ≤ f := by
  induction f with
  | zero => intro m; simp [pws]
  | succ f ih =>
    intro m
    simp only [pws]
    split
    · simp
    · have := ih (m - hp m); simp only [List.length_cons]; omega

theorem blen_lib (f : Nat) : ∀ x, blen f x = Lib.bitLenAux f x := by
  induction f with
  | zero => intro x; rfl
  | succ f ih => intro x; simp only [blen, Lib.bitLenAux, ih]
theorem lenC : LenC := fun x w hx => by
  refine (Try.bits_Len (x : Int) w (by omega) (by omega)).mono ?_
  rintro e w2 ⟨rfl, rfl⟩
  exact ⟨by rw [Int.toNat_natCast, blen_lib]; rfl, rfl⟩

def Texts (w : World) (A : Option Addr) (l : List ByteArray) : Prop := ∀ j (h : j < l.length), ∃ ad, A = some ad ∧ w.cell? (ad.add j) = some (.string l[j])
theorem notHash_c (s : ByteArray) (w : World) (b : Bool) (hb : (s.size != 32) = b) : Calls Try.prog 66 #[.string s] w fun e w2 => e = .returned (.bool b) ∧ w = w2 := by
  have HB := Lib.hid hb
  clear hb
  cases b with
  | false =>
    have e := HB.out
    have h32 : s.size = 32 := by simpa using e
    have hi : ((s.size : Int) != 32) = false := by rw [h32]; rfl
    clear e h32
    go_enter Try.func66, Try.ntmps66
    go_wp2
    go_ret
    exact ⟨rfl, rfl⟩
  | true =>
    have e := HB.out
    have h32 : s.size ≠ 32 := by simpa using e
    have hi : ((s.size : Int) != 32) = true := by rw [bne_iff_ne]; omega
    clear e h32
    go_enter Try.func66, Try.ntmps66
    go_wp2
    go_ret
    exact ⟨rfl, rfl⟩
theorem fnRight : ∀ args w, (callFunc 66 args).run Try.prog w = .ok (.enter 66 args) w := enters_of Try.func66 (by kernel_rfl) rfl
def firstBad : List ByteArray → Nat → Int
  | [], _ => -1
  | s :: l, i => if s.size != 32 then (i : Int) else firstBad l (i + 1)
theorem firstBad_lt (l : List ByteArray) : ∀ i, (l.all fun s => s.size == 32) = decide (firstBad l i < 0) := by
  induction l with
  | nil => intro i; rfl
  | cons s l ih =>
    intro i
    unfold firstBad
    by_cases h : s.size = 32
    · have h2 : (s.size != 32) = false := by simp [h]
      have h3 : (s.size == 32) = true := by simp [h]
      rw [List.all_cons, h3, Bool.true_and, ih (i + 1), h2]
      simp
    · have h2 : (s.size != 32) = true := by simp [h]
      have h3 : (s.size == 32) = false := by simp [h]
      rw [List.all_cons, h3, h2]
      simp
      try omega
theorem ixBad_c (A : Option Addr) (c : Nat) (l : List ByteArray) (w : World) (hl : l.length ≤ maxLen) (ht : Texts w A l) :
    Calls Try.prog 90 #[.slice A l.length c, .func (.func 66) #[] #[]] w fun e w2 => e = .returned (.int .i64 (firstBad l 0)) ∧ w = w2 := by
  have eg := fnRight
  have HT := Lib.hid ht
  clear ht
  unfold maxLen at hl
  obtain ⟨N, HN⟩ : ∃ N, Hid (l.length = N) := ⟨_, rfl⟩
  rw [HN.out] at hl ⊢
  go_enter Try.func90, Try.ntmps90
  go_wp2
  go_loop [5, 8] (fun _ s8 => ∃ k : Nat, k ≤ N ∧ s8 = .int .i64 k ∧ Hid (firstBad l 0 = firstBad (l.drop k) k)) (fun _ s8 => N - (intOf s8).toNat)
  case atStart => exact ⟨0, Nat.zero_le _, rfl, rfl⟩
  case round =>
    obtain ⟨k, hk, rfl, HF⟩ := hrel
    by_cases hlt : k < N
    · have hlx : k < l.length := by rw [HN.out]; exact hlt
      have hltz : (k : Int) < (N : Int) := by omega
      obtain ⟨ad, rfl, hc⟩ := HT.out k hlx
      have hd : firstBad (l.drop k) k = if l[k].size != 32 then (k : Int) else firstBad (l.drop (k + 1)) (k + 1) := by
        rw [List.drop_eq_getElem_cons hlx]; rfl
      generalize l[k] = s at hc hd
      cases hq : s.size != 32 with
      | true =>
        rw [hq, if_pos rfl] at hd
        have HF2 := Lib.hid (HF.out.trans hd)
        have hcall := notHash_c s w true hq
        clear hd hq
        go_wp2_with (go_at_fn 66; refine hcall.mono ?_; rintro e w2 ⟨rfl, rfl⟩)
        go_ret
        exact ⟨by rw [HF2.out]; rfl, rfl⟩
      | false =>
        rw [hq, if_neg (by decide)] at hd
        have HF2 := Lib.hid (HF.out.trans hd)
        have hcall := notHash_c s w false hq
        clear hd hq
        go_wp2_with (go_at_fn 66; refine hcall.mono ?_; rintro e w2 ⟨rfl, rfl⟩)
        go_round
        case rel => exact ⟨k + 1, by omega, by go_num, HF2⟩
        case measure => simp [intOf]; omega
    · have hltz : ¬ (k : Int) < (N : Int) := by omega
      obtain rfl : k = N := by omega
      have HF2 := Lib.hid (HF.out.trans (by rw [List.drop_of_length_le (by rw [HN.out]; exact Nat.le_refl _)]; rfl : firstBad (l.drop k) k = -1))
      go_wp2
      go_ret
      exact ⟨by rw [HF2.out]; rfl, rfl⟩
theorem anyBad_c (A : Option Addr) (c : Nat) (l : List ByteArray) (w : World) (hl : l.length ≤ maxLen) (ht : Texts w A l) (b : Bool) (hb : (!l.all fun s => s.size == 32) = b) :
    Calls Try.prog 65 #[.slice A l.length c, .func (.func 66) #[] #[]] w fun e w2 => e = .returned (.bool b) ∧ w2 = w := by
  have HX := Lib.hid (ixBad_c A c l w hl ht)
  have h2 := firstBad_lt l 0
  have HB := Lib.hid hb
  clear hb ht
  cases b with
  | false =>
    have h3 : 0 ≤ 0 := Nat.le_refl 0
    have hlt : firstBad l 0 < 0 := by have := HB.out; rw [h2] at this; simpa using this
    clear h2 h3
    generalize firstBad l 0 = x at HX hlt
    have hd : decide (0 ≤ x) = false := decide_eq_false (by omega)
    go_enter Try.func65, Try.ntmps65
    go_wp2_with fail
    refine HX.out.mono ?_
    rintro e w2 ⟨rfl, rfl⟩
    go_wp2
    go_ret
    exact ⟨rfl, rfl⟩
  | true =>
    have hlt : 0 ≤ firstBad l 0 := by have := HB.out; rw [h2] at this; simpa using this
    clear h2
    generalize firstBad l 0 = x at HX hlt
    go_enter Try.func65, Try.ntmps65
    go_wp2_with fail
    refine HX.out.mono ?_
    rintro e w2 ⟨rfl, rfl⟩
    go_wp2
    go_ret
    exact ⟨rfl, rfl⟩

theorem below_drawn {B : Nat} {a b : World} (h : Below B a b) (n : Nat) : Below B a (b.drewN n) := ⟨h.os, h.tape, h.output, h.size, h.block⟩
def OnesC (oc : Int → Int) : Prop := ∀ (a : Int) (w : World), Calls Try.prog 64 #[.int .u64 a] w fun e w2 => e = .returned (.int .i64 (oc a)) ∧ ∃ m, w2 = w.drewN m
theorem Texts.later {w : World} {A : Option Addr} {l : List ByteArray} (h : Texts w A l) (o : Obj) (n : Nat) : Texts ((w.alloc o).drewN n) A l := by
  intro j hj
  obtain ⟨ad, e, hc⟩ := h j hj
  exact ⟨ad, e, Lib.cell?_alloc_some o hc⟩
def rightB (oc : Int → Int) (size : Int) (l : List ByteArray) : Bool := decide (0 ≤ size ∧ size ≤ 1073741824) && (((l.length : Int) == oc size) && l.all fun s => s.size == 32)

theorem right_c (oc : Int → Int) (HO : OnesC oc) (size : Int) (A : Option Addr) (c : Nat) (l : List ByteArray) (w : World) (hl : l.length ≤ maxLen) (ht : Texts w A l) :
    Calls Try.prog 35 #[.agg #[.int .i64 size, .slice A l.length c]] w fun e w2 => e = .returned (.bool (rightB oc size l)) ∧ Below w.heap.size w w2 := by
  have hb : ∀ q, Below w.heap.size w ((w.alloc (.cells #[.int .i64 size, .slice A l.length c] 41)).drewN q) := fun q => below_drawn ((Below.refl _ w).alloc (Nat.le_refl _) _) q
  by_cases h0 : 0 ≤ size
  · by_cases h1 : size ≤ 1073741824
    · have hcall : ∀ q, Calls Try.prog 64 #[.int .u64 size] ((w.alloc (.cells #[.int .i64 size, .slice A l.length c] 41)).drewN q) fun e w2 => e = .returned (.int .i64 (oc size)) ∧ ∃ m, w2 = (w.alloc (.cells #[.int .i64 size, .slice A l.length c] 41)).drewN m := fun q => Calls.quiet_of (HO size _)
      have HC := Lib.hid hcall
      by_cases h2 : (l.length : Int) = oc size
      · obtain ⟨b, hbb⟩ : ∃ b, (!l.all fun s => s.size == 32) = b := ⟨_, rfl⟩
        have hcall2 : ∀ q, Calls Try.prog 65 #[.slice A l.length c, .func (.func 66) #[] #[]] ((w.alloc (.cells #[.int .i64 size, .slice A l.length c] 41)).drewN q) fun e w2 => e = .returned (.bool b) ∧ ∃ m, w2 = (w.alloc (.cells #[.int .i64 size, .slice A l.length c] 41)).drewN m := fun q => Calls.quiet_of_same (anyBad_c A c l _ hl (ht.later _ q) b hbb)
        have HC2 := Lib.hid hcall2
        have HR : Hid (rightB oc size l = !b) := Lib.hid (by unfold rightB; rw [← hbb, h2]; simp [h0, h1])
        have h2' : ((l.length : Int) == oc size) = true := by simp [h2]
        have HB := Lib.hid hb
        clear hcall hcall2 hbb ht hb h2
        unfold maxLen at hl
        go_enter Try.func35, Try.ntmps35
        go_wp2_with fail
        go_quiet ((first | (go_at_call 64; exact HC.out _) | (go_at_call 65; exact HC2.out _)))
        go_wp2
        go_ret
        cases b with
        | false => exact ⟨by rw [HR.out]; simp, HB.out _⟩
        | true => exact ⟨by rw [HR.out]; simp, HB.out _⟩
      · have HR : Hid (rightB oc size l = false) := Lib.hid (by unfold rightB; simp [h2])
        have h2' : ((l.length : Int) == oc size) = false := by simp [h2]
        have HB := Lib.hid hb
        clear hcall ht hb h2
        unfold maxLen at hl
        go_enter Try.func35, Try.ntmps35
        go_wp2_with fail
        go_quiet ((go_at_call 64; exact HC.out _))
        go_wp2
        go_ret
        exact ⟨by rw [HR.out]; simp, HB.out _⟩
    · have HR : Hid (rightB oc size l = false) := Lib.hid (by unfold rightB; simp [h1])
      have h1' : decide (size ≤ 1073741824) = false := decide_eq_false h1
      have HB := Lib.hid hb
      clear ht hb
      go_enter Try.func35, Try.ntmps35
      go_wp2_with fail
      go_quiet (fail)
      go_wp2
      go_ret
      exact ⟨by rw [HR.out]; simp, HB.out _⟩
  · have HR : Hid (rightB oc size l = false) := Lib.hid (by unfold rightB; simp [h0])
    have h1' : decide (0 ≤ size) = false := decide_eq_false h0
    have HB := Lib.hid hb
    clear ht hb
    go_enter Try.func35, Try.ntmps35
    go_wp2_with fail
    go_quiet (fail)
    go_wp2
    go_ret
    exact ⟨by rw [HR.out]; simp, HB.out _⟩
end Go.Proofs.Ytondnammkcgjpaa.Rng
namespace Go.Proofs.Ytondnammkcgjpaa.InR
open Go Go.Proofs.YtondnammkcgjpaaW.PrintLast
section
variable {P : Program} {ops : Array Oper} {Q : Exit → Act → World → Prop} {md : Region.Mode} {n l : Nat} {a : Act} {w : World}
theorem rows_in {row : String} {args : Array Value} {R : Value → World → Prop} (h : Rows P row args w R) : RowsIn (Fence.wide.inRound l) n P row args w R := fun c cs _ => by
  obtain ⟨v, w', hr, hs⟩ := h c cs
  exact ⟨v, w', hr, stepsIn_wide.2 hs⟩
theorem calls_in {f : FuncId} {args : Array Value} {R : Ending → World → Prop} (h : Calls P f args w R) : CallsIn (Fence.wide.inRound l) n P f args w R := CallsIn.inRound l (callsIn_wide.2 h)
theorem oper_in {o : Oper} {K : Act → World → Prop} (hd : ∀ c, o.op ≠ .defer c) (h : Oper.wp P o a w K Q) : Oper.wpIn (Fence.wide.inRound l) n P o a w K Q := by
  unfold Oper.wp at h
  refine ⟨fun _ _ => trivial, ?_⟩
  rw [Oper.semAt_plain _ _ _ hd]
  generalize (execOp a.eval o).run P w = r at h ⊢
  cases r with
  | ok x w' =>
    cases x <;> simp only [Oper.upon, Oper.uponIn] at h ⊢ <;>
      first
        | exact h
        | exact h.elim
        | exact ⟨fun h0 => by simp [Fence.inRound, Fence.wide] at h0, CallsIn.mono (calls_in h) (fun e w'' he => by cases e <;> exact he)⟩
        | exact ⟨fun h0 => by simp [Fence.inRound, Fence.wide] at h0, rows_in h⟩
  | halt x w' => cases x <;> simp only [Oper.upon, Oper.uponIn] at h ⊢ <;> exact h
def notDefer (o : Oper) : Bool := match o.op with | .defer _ => false | _ => true
theorem notDefer_spec {o : Oper} (h : notDefer o = true) : ∀ c, o.op ≠ .defer c := fun c e => by
  unfold notDefer at h
  rw [e] at h
  cases h
theorem list_in (hQ : ¬ LetsOut Q) : ∀ (rest : List Oper) (a : Act) (w : World), rest.all notDefer = true → wpList P ops Q rest a w → wpListIn (Fence.wide.inRound l) n P ops Q rest a w
  | [], a, w, _, h => h
  | o :: rest, a, w, hd, h => by
    rw [List.all_cons, Bool.and_eq_true] at hd
    unfold wpList at h
    unfold wpListIn
    split
    · rename_i hw
      rw [if_pos hw] at h
      rcases h with h | ⟨_, h⟩
      · exact Oper.wpIn_mono (fun a w hh => list_in hQ rest a w hd.2 hh) (oper_in (notDefer_spec hd.1) h)
      · exact absurd h hQ
    · rename_i hw
      rw [if_neg hw] at h
      exact ⟨fun _ _ => trivial, list_in hQ rest _ w hd.2 h⟩
theorem op_in {i : Nat} {K : Act → World → Prop} (hQ : ¬ LetsOut Q) (hd : ops.toList.all notDefer = true) (h : wpOp P ops Q i K a w) : wpOpIn (Fence.wide.inRound l) n P ops Q i K a w := by
  unfold wpOp at h
  unfold wpOpIn
  cases ho : ops[i]? with
  | none => rw [ho] at h; exact h
  | some o =>
    rw [ho] at h
    have hm : o ∈ ops.toList := by
      obtain ⟨h1, h2⟩ := Array.getElem?_eq_some_iff.1 ho
      rw [← h2]
      exact Array.getElem_mem_toList h1
    have hdo := notDefer_spec (List.all_eq_true.1 hd o hm)
    simp only at h ⊢
    split
    · rename_i hw
      rw [if_pos hw] at h
      rcases h with h | ⟨_, h⟩
      · exact oper_in hdo h
      · exact absurd h hQ
    · rename_i hw
      rw [if_neg hw] at h
      exact ⟨fun _ _ => trivial, h⟩
theorem any_in (hQ : ¬ LetsOut Q) (hd : ops.toList.all notDefer = true) : ∀ (fuel : Nat) (listed : Array Bool) (a : Act) (w : World), wpAny P md ops Q fuel listed a w → wpAnyIn (Fence.wide.inRound l) n P md ops Q fuel listed a w
  | 0, _, _, _, h => h
  | fuel + 1, _, _, _, h => ⟨h.1, fun i hi => wpOpIn_mono (fun a w hh => any_in hQ hd fuel _ a w hh) (op_in hQ hd (h.2 i hi))⟩
theorem drawn_in {id : Nat} (hm : P.follows .mixedOrders = true) (hQ : ¬ LetsOut Q) (hd : ops.toList.all notDefer = true) (h : wpAny P .any ops Q ops.size (Array.replicate ops.size false) a w.drew) : (Code.region id ops true).wpIn (Fence.wide.inRound l) n P Q a w :=
  wpIn_region_any hm (any_in hQ hd _ _ _ _ h)
theorem startIn_ {S : World → Prop} {ds : List Nat} {id m : Nat} (lst : Array Bool) (hm : P.follows .mixedOrders = true) (hQ : ¬ LetsOut Q) (hd : ops.toList.all notDefer = true) (hn : ops.size = m) (hl : Array.replicate m false = lst) (hS : S w.drew)
    (h : S w.drew → wpAnyLast P .any ops Q S ds m lst a w.drew) : (Code.region id ops true).wpIn (Fence.wide.inRound l) n P Q a w := by
  subst hn
  subst hl
  exact drawn_in hm hQ hd (wpAny_of_last _ _ _ _ (h hS))
end
end Go.Proofs.Ytondnammkcgjpaa.InR
namespace Go.Proofs.Ytondnammkcgjpaa
open Go Go.RowKit
variable {F : Fence} {n : Nat} {P : Program}
def CellSeqN {α : Type} (F : Fence) (n : Nat) (P : Program) (g : Nat) (lb : Array Value) (encs : α → Array Value) (Bn : Nat) (Kp : World → World → Prop) (S Sp : List α → Prop) (Nx : List α → α → Prop) (w : World) : Prop :=
  ∀ (l : Nat) (J Jx : List α → World → Prop) (W : World), Below w.heap.size w W →
    (∀ s A v, J s A → J s (A.setCell ⟨Bn, 0, none⟩ v)) →
    (∀ s A o, J s A → J s (A.alloc o)) → (∀ s A o, Jx s A → Jx s (A.alloc o)) →
    (∀ pre x W1, J pre W1 → Nx pre x → YieldAt F (n - 1) P l (encs x) W1 fun e W2 =>
      (e = .returned (.bool true) ∧ J (pre ++ [x]) W2 ∧ Kp W1 W2) ∨ (e = .returned (.bool false) ∧ Jx (pre ++ [x]) W2)) →
    J [] W →
    CallsIn F n P g (#[.func (.yield l) #[] #[]] ++ lb) W fun e W2 => (∃ v, e = .returned v) ∧ ((∃ xs, S xs ∧ J xs W2) ∨ (∃ pre, Sp pre ∧ Jx pre W2))

theorem range_cellN {α : Type} {g : Operand} {ps : Array Tmp} {assign body : Code} {Q : Exit → Act → World → Prop} {a : Act} {w : World}
    (hro : F.round = none) (h1 : 1 ≤ n) {gf : Nat} {lb : Array Value} (hg : a.eval g = .func (.func gf) #[] lb) (hF : F.fn gf) (eg : ∀ args w, (callFunc gf args).run P w = .ok (.enter gf args) w)
    {encs : α → Array Value} {Bn : Nat} {Kp : World → World → Prop} {S Sp : List α → Prop} {Nx : List α → α → Prop} {w0 : World} (hseq : CellSeqN F (n - 1) P gf lb encs Bn Kp S Sp Nx w0)
    (hKt : ∀ {A B C : World}, Kp A B → Kp B C → Kp A C)
    (hKb : ∀ (W : World) (l : Nat) (o o2 : Obj), w.heap.size ≤ l → W.heap[l]? = some o → o.isCells = false → Kp W (W.putObj l o2))
    (hb0 : Below w0.heap.size w0 w) (hps : ∀ x, (encs x).size = ps.size)
    (I : List α → World → Prop) (Ix : Code → List α → World → Prop) (hI : OwnFrom w.heap.size I) (hIx : ∀ c, OwnFrom w.heap.size (Ix c))
    (hIc : ∀ s A v, I s A → I s (A.setCell ⟨Bn, 0, none⟩ v)) (h0 : I [] w) (a1 : α → Act)
    (hassign : ∀ (l : Nat) (x : α) (W : World) (K : Act → World → Prop), K (a1 x) W →
      assign.wpIn (F.inRound l) (n - 1 - 1) P (Exit.then K (fun _ _ _ => False)) { tmps := (ps.zip (encs x)).foldl (fun t (p, v) => t.setIfInBounds p v) a.tmps, defers := [] } W)
    (hbody : ∀ (l : Nat) (pre : List α) (x : α) (W : World), I pre W → Nx pre x → body.wpIn (F.inRound l) (n - 1 - 1) P (bodyWay w.heap.size Kp I Ix (pre ++ [x]) W) (a1 x) W)
    (hdone : ∀ (D : Nat) (xs : List α) (W : World), w.heap.size ≤ D → S xs → I xs W → W.heap[D]? = some (.deferred (some [])) → Q .normal { a with defers := { target := .collected D, args := #[] } :: a.defers } W)
    (hstop : ∀ (D : Nat) (c : Code) (pre : List α) (W : World), w.heap.size ≤ D → Sp pre → Ix c pre W → W.heap[D]? = some (.deferred (some [])) → c.wpIn F n P Q { a with defers := { target := .collected D, args := #[] } :: a.defers } W) :
    (Code.rangeFunc g ps assign body).wpIn F n P Q a w := by
  refine wpIn_rangeFunc fun fn hfn => ?_
  rw [hro]
  obtain ⟨rec, hrec⟩ : ∃ r : LoopState → Option Code → Loop, r = fun st pe => { state := st, pending := pe, fn, tmps := a.tmps, params := ps, assign, body, defers := w.heap.size } := ⟨_, rfl⟩
  obtain ⟨V, hV⟩ : ∃ V, (w.alloc (.deferred (some []))).alloc (.loop (rec .ready none)) = V := ⟨_, rfl⟩
  have hD : V.heap[w.heap.size]? = some (.deferred (some [])) := by rw [← hV]; exact at_alloc _ (World.alloc_heap_new w _)
  have hR : V.heap[w.heap.size + 1]? = some (.loop (rec .ready none)) := by
    rw [← hV]; have h := World.alloc_heap_new (w.alloc (.deferred (some []))) (.loop (rec .ready none)); rwa [World.size_alloc] at h
  have hI0 : I [] V := by rw [← hV]; exact hI.alloc _ (hI.alloc _ h0)
  have hBV : Below w0.heap.size w0 V := by rw [← hV]; exact hb0.trans ((((Below.refl _ w).alloc (Nat.le_refl _) _).alloc (by simp) _).mono hb0.size)
  refine ⟨w.heap.size + 1, [{ target := .collected w.heap.size, args := #[] }], V, { target := .fn (.func gf) lb, args := #[.func (.yield (w.heap.size + 1)) #[] #[]] }, V, gf,
    #[.func (.yield (w.heap.size + 1)) #[] #[]] ++ lb, V, ?_, ?_, ?_, ?_, fun _ => h1, ?_⟩
  · rw [← hV, hrec]; exact run_enterLoop_outer _ _ _ _ _
  · simp only [resolve, hg]; simp [go_sem]
  · intro f2 h2; simp [Target.leads] at h2; subst h2; exact hF
  · simp [invoke, go_sem, eg]
  have hround : ∀ pre x W1, (I pre W1 ∧ W1.heap[w.heap.size + 1]? = some (.loop (rec .ready none)) ∧ W1.heap[w.heap.size]? = some (.deferred (some []))) → Nx pre x →
      YieldAt F (n - 1 - 1) P (w.heap.size + 1) (encs x) W1 fun e W2 =>
        (e = .returned (.bool true) ∧ (I (pre ++ [x]) W2 ∧ W2.heap[w.heap.size + 1]? = some (.loop (rec .ready none)) ∧ W2.heap[w.heap.size]? = some (.deferred (some []))) ∧ Kp W1 W2) ∨
        (e = .returned (.bool false) ∧ ∃ c, Ix c (pre ++ [x]) W2 ∧ W2.heap[w.heap.size + 1]? = some (.loop (rec .done (some c))) ∧ W2.heap[w.heap.size]? = some (.deferred (some []))) := by
    rintro pre x W1 ⟨hi, hl, hd⟩ hlen
    have hlt := (Array.getElem?_eq_some_iff.1 hl).1
    have hy := run_yield (P := P) (args := encs x) hl (by rw [hrec]; exact hps x)
    rw [hrec] at hy
    refine ⟨fn, _, assign, body, hy, roundIn_of_wpIn hfn (hassign _ x W1 _ ⟨_, run_beginRound hl (by rw [hrec]), ?_⟩)⟩
    generalize hW3 : W1.putObj (w.heap.size + 1) (.loop { rec .ready none with state := .busy }) = W3
    have hl3 : W3.heap[w.heap.size + 1]? = some (.loop { rec .ready none with state := .busy }) := by rw [← hW3]; exact World.putObj_heap_same hlt
    have hd3 : W3.heap[w.heap.size]? = some (.deferred (some [])) := by rw [← hW3]; exact (World.putObj_heap_other (by omega)).trans hd
    have hk3 : Kp W1 W3 := by rw [← hW3]; exact hKb _ _ _ _ (by omega) hl rfl
    have hi3 : I pre W3 := by rw [← hW3]; exact own_put hI hi (by omega) hl rfl
    have last : ∀ (j : Option Code) (W4 : World), KeepsFrom w.heap.size W3 W4 → ∃ W5, (Instr.endRound (w.heap.size + 1) j).run P W4 = .ok (.bool j.isNone) W5 ∧ W5 = W4.putObj (w.heap.size + 1) (.loop (rec (if j.isNone then .ready else .done) j)) ∧
        W4.heap[w.heap.size + 1]? = some (.loop { rec .ready none with state := .busy }) ∧
        W5.heap[w.heap.size + 1]? = some (.loop (rec (if j.isNone then .ready else .done) j)) ∧ W5.heap[w.heap.size]? = some (.deferred (some [])) := fun j W4 h4 => by
      have hl4 := h4.same _ _ (by omega) hl3 rfl
      have hd4 := h4.same _ _ (Nat.le_refl _) hd3 rfl
      have he := run_endRound (P := P) j hl4
      refine ⟨_, he, ?_, hl4, ?_, ?_⟩
      · rw [hrec]
      · rw [World.putObj_heap_same (Array.getElem?_eq_some_iff.1 hl4).1, hrec]
      · exact (World.putObj_heap_other (by omega)).trans hd4
    refine wpIn_mono (hbody _ pre x _ hi3 hlen) ?_
    rintro e a4 W4 hp
    cases e with
    | normal =>
      obtain ⟨h4, hk4, hi4⟩ := hp
      obtain ⟨W5, he, e5, hl4, hl5, hd5⟩ := last none W4 h4
      exact ⟨_, _, he, .inl ⟨rfl, ⟨by rw [e5]; exact own_put hI hi4 (by omega) hl4 rfl, hl5, hd5⟩, by rw [e5]; exact hKt (hKt hk3 hk4) (hKb _ _ _ _ (by omega) hl4 rfl)⟩⟩
    | ret =>
      obtain ⟨h4, hi4⟩ := hp
      obtain ⟨W5, he, e5, hl4, hl5, hd5⟩ := last (some .ret) W4 h4
      exact ⟨_, _, he, .inr ⟨rfl, .ret, by rw [e5]; exact own_put (hIx _) hi4 (by omega) hl4 rfl, hl5, hd5⟩⟩
    | exit i =>
      obtain ⟨h4, hi4⟩ := hp
      obtain ⟨W5, he, e5, hl4, hl5, hd5⟩ := last (some (.exit i)) W4 h4
      exact ⟨_, _, he, .inr ⟨rfl, .exit i, by rw [e5]; exact own_put (hIx _) hi4 (by omega) hl4 rfl, hl5, hd5⟩⟩
    | goto t =>
      obtain ⟨h4, hi4⟩ := hp
      obtain ⟨W5, he, e5, hl4, hl5, hd5⟩ := last (some (.goto t)) W4 h4
      exact ⟨_, _, he, .inr ⟨rfl, .goto t, by rw [e5]; exact own_put (hIx _) hi4 (by omega) hl4 rfl, hl5, hd5⟩⟩
    | panic ch => exact hp.elim
    | outgrown => exact hp.elim
  refine (hseq (w.heap.size + 1)
    (fun pre W => I pre W ∧ W.heap[w.heap.size + 1]? = some (.loop (rec .ready none)) ∧ W.heap[w.heap.size]? = some (.deferred (some [])))
    (fun pre W => ∃ c, Ix c pre W ∧ W.heap[w.heap.size + 1]? = some (.loop (rec .done (some c))) ∧ W.heap[w.heap.size]? = some (.deferred (some [])))
    V hBV (fun s A v h => ⟨hIc s A v h.1, at_other v h.2.1 rfl, at_other v h.2.2 rfl⟩)
    (fun s A o h => ⟨hI.alloc o h.1, at_alloc o h.2.1, at_alloc o h.2.2⟩)
    (fun s A o h => by obtain ⟨c, hc, hl, hd⟩ := h; exact ⟨c, (hIx c).alloc o hc, at_alloc o hl, at_alloc o hd⟩)
    hround ⟨hI0, hR, hD⟩).mono ?_
  rintro e W2 ⟨⟨v, rfl⟩, (⟨xs, hS, hi, hl, hd⟩ | ⟨pre, hSp, c, hi, hl, hd⟩)⟩
  · refine ⟨none, _, by have h := run_endLoop (P := P) hl (by rw [hrec]; simp); rw [hrec] at h; exact h, ?_⟩
    exact hdone _ xs _ (Nat.le_refl _) hS (own_put hI hi (by omega) hl rfl) ((World.putObj_heap_other (by omega)).trans hd)
  · refine ⟨some c, _, by have h := run_endLoop (P := P) hl (by rw [hrec]; simp); rw [hrec] at h; exact h, ?_⟩
    exact hstop _ c pre _ (Nat.le_refl _) hSp (own_put (hIx c) hi (by omega) hl rfl) ((World.putObj_heap_other (by omega)).trans hd)

end Go.Proofs.Ytondnammkcgjpaa
namespace Go.Proofs.Ytondnammkcgjpaa.Rng
open Go Go.Proofs Go.RowKit Go.Shelf
attribute [local go_sem] Oper.semAt_some
theorem powers1N (HL : LenC) (n : Nat) (hn : 1 ≤ n) (Bn : Nat) (m : Nat) (h1 : m < 2 ^ 62) (w : World) (hBn : Bn < w.heap.size) (hc : Boxed w Bn 3 (.int .i64 m)) :
    CellSeqN Fence.wide n Try.prog 82 #[.pointer (some ⟨Bn, 0, none⟩)] enc1 Bn (Keep1 Bn) (fun xs => xs = pws 64 m) (fun pre => pre <+: pws 64 m) (fun pre x => pre ++ [x] <+: pws 64 m) w := fun l J Jx W hW hJc _ _ hY hJ0 => by
  have hcW : Boxed W Bn 3 (.int .i64 m) := (hW.block Bn hBn).trans hc
  have HLH := Lib.hid HL
  clear HL
  refine callsIn_of_wp Try.func82 rfl trivial ?_ rfl
  simp only [Try.ntmps82, List.size_toArray, List.length_cons, List.length_nil, Nat.reduceAdd, Nat.reduceSub, Array.replicate_succ, Array.replicate_zero, List.push_toArray, List.append_toArray, List.nil_append, List.cons_append]
  gi_wp2
  gi_loopw [3] (fun _ wr => ∃ (f q : Nat) (pre : List Pw), f ≤ 64 ∧ q < 2 ^ f ∧ q < 2 ^ 62 ∧ Hid (pre ++ pws f q = pws 64 m) ∧ Hid (pre.length + f = 64) ∧ Boxed wr Bn 3 (.int .i64 (q : Int)) ∧ J pre wr) (fun _ wr => numAt wr Bn)
  case atStart => exact ⟨64, m, [], by omega, by omega, by omega, rfl, rfl, hcW, hJ0⟩
  case round =>
    obtain ⟨f, q, pre, hf, hq1, hq2, HP, HS, hb, hJ⟩ := hrel
    have hce := hb.cell
    by_cases hz : 0 < q
    · have hqi : (0 : Int) < (q : Int) := by omega
      have hqj : (q : Int) < 4611686018427387904 := by omega
      have hf1 : 1 ≤ f := by
        rcases Nat.eq_zero_or_pos f with h | h
        · subst h; simp at hq1; omega
        · exact h
      have hnx : pre ++ [mkPw q] <+: pws 64 m := by
        obtain ⟨f3, rfl⟩ : ∃ f2, f = f2 + 1 := ⟨f - 1, by omega⟩
        have e5 : pws (f3 + 1) q = mkPw q :: pws f3 (q - hp q) := by simp only [pws]; rw [if_neg (by omega)]
        have h6 := HP.out
        rw [e5] at h6
        exact ⟨pws f3 (q - hp q), by rw [← h6]; simp⟩
      have hq63 : q < 2 ^ 63 := by omega
      obtain ⟨fn, tmps, assign, body, hy, hR⟩ := hY pre (mkPw q) wr hJ hnx
      simp only [enc1, mkPw_1 q hq63 hz] at hy
      gi_wp2_with fail
      refine ⟨trivial, ?_⟩
      refine (callsIn_wide.2 (HLH.out q _ hq63)).mono ?_
      rintro e w2 ⟨rfl, rfl⟩
      have hsh : ∀ W2, (Op.shift .shl .i64 1 .i64 (wrap64 ((blen 64 q : Int) - 1))).run Try.prog W2 = .ok (.int .i64 (hp q : Int)) W2 := by
        intro W2
        obtain ⟨i1, i2, i3, i4⟩ := blen_bd 64 q (by omega) hz
        have hle : blen 64 q ≤ 63 := by
          rcases Nat.lt_or_ge 63 (blen 64 q) with h | h
          · have : 2 ^ 63 ≤ 2 ^ (blen 64 q - 1) := Nat.pow_le_pow_right (by decide) (by omega)
            omega
          · exact h
        have e1 : wrap64 ((blen 64 q : Int) - 1) = ((blen 64 q - 1 : Nat) : Int) := by unfold wrap64; omega
        rw [e1]
        unfold Op.shift
        have hb3 : min (((blen 64 q - 1 : Nat) : Int)).toNat IntKind.i64.bits = blen 64 q - 1 := by rw [Int.toNat_natCast]; show min _ 64 = _; omega
        have hhp := hp_bd q hq63 hz
        have e2 : IntKind.i64.wrap ((1 : Int) * 2 ^ (blen 64 q - 1)) = (hp q : Int) := by
          have e3 : (1 : Int) * 2 ^ (blen 64 q - 1) = (hp q : Int) := by rw [Int.one_mul]; exact (Int.natCast_pow 2 (blen 64 q - 1)).symm
          rw [e3]; exact IntWalk.i64_in _ (by omega)
        rw [if_neg (by omega)]
        simp only [hb3, e2]
        rfl
      have hhp := hp_bd q hq63 hz
      have g1 : (1 : Int) ≤ (hp q : Int) := by omega
      have g2 : (hp q : Int) ≤ (q : Int) := by omega
      have HH := Lib.hid hhp
      clear hhp
      gi_wp2_with fail
      refine hR.mono ?_
      rintro e W3 (⟨rfl, hJ3, hk3⟩ | ⟨rfl, hx3⟩)
      · have hb3 := hk3 _ hb
        have hc3 := hb3.cell
        have hf3 := hb3.frozen
        clear hsh
        gi_wp2_with fail
        go_roundw
        case rel =>
          obtain ⟨f, rfl⟩ : ∃ f2, f = f2 + 1 := ⟨f - 1, by omega⟩
          have hq0 : ¬ q = 0 := by omega
          have e5 : pws (f + 1) q = mkPw q :: pws f (q - hp q) := by simp only [pws]; rw [if_neg hq0]
          refine ⟨f, q - hp q, pre ++ [mkPw q], by omega, ?_, by omega, ?_, ?_, ?_, hJc _ _ _ hJ3⟩
          · have := HH.out
            rw [Nat.pow_succ] at hq1
            have h6 : hp q < 2 ^ (f + 1) := by rw [Nat.pow_succ]; omega
            obtain ⟨i1, i2, i3, i4⟩ := blen_bd 64 q (by omega) hz
            have h7 : 2 ^ (blen 64 q) ≤ 2 ^ (f + 1) := by
              unfold hp at h6
              have : blen 64 q - 1 < f + 1 := (Nat.pow_lt_pow_iff_right (by decide)).1 h6
              exact Nat.pow_le_pow_right (by decide) (by omega)
            have h8 : hp q ≤ 2 ^ f := by
              unfold hp
              have : blen 64 q ≤ f + 1 := (Nat.pow_le_pow_iff_right (by decide)).1 h7
              exact Nat.pow_le_pow_right (by decide) (by omega)
            omega
          · refine Lib.hid ?_
            have := HP.out; rw [e5] at this; rw [← this]; simp
          · refine Lib.hid ?_
            have := HS.out; rw [List.length_append]; simp; omega
          · rw [show ((q - hp q : Nat) : Int) = (q : Int) - (hp q : Int) by omega]; exact hb3.set _
        case measure =>
          rw [numAt_boxed hb, numAt_boxed (m := q - hp q) (by rw [show ((q - hp q : Nat) : Int) = (q : Int) - (hp q : Int) by omega]; exact hb3.set _)]
          have := HH.out
          omega
      · gi_wp2_with fail
        refine bodyPost_ret (results_none rfl _ _ _) rfl ?_
        obtain ⟨f, rfl⟩ : ∃ f2, f = f2 + 1 := ⟨f - 1, by omega⟩
        have e5 : pws (f + 1) q = mkPw q :: pws f (q - hp q) := by simp only [pws]; rw [if_neg (by omega)]
        exact ⟨⟨_, rfl⟩, .inr ⟨_, ⟨pws f (q - hp q), by have := HP.out; rw [e5] at this; rw [← this]; simp⟩, hx3⟩⟩
    · have hqz : (q : Int) ≤ 0 := by omega
      obtain rfl : q = 0 := by omega
      gi_wp2
      go_end0
      exact ⟨⟨_, rfl⟩, .inl ⟨_, by have := HP.out; rw [pws_zero, List.append_nil] at this; exact this, hJ⟩⟩

end Go.Proofs.Ytondnammkcgjpaa.Rng
namespace Go.Proofs.Ytondnammkcgjpaa.Fun
open Go Go.RowKit Go.Proofs.YtondnammkcgjpaaW.PrintWords
variable {w W V X : World} {l : List Mem.Blk} {row : Option Nat}
def Rec (W : World) (row : Option Nat) : Prop := ∀ r, row = some r → ∃ o : Obj, W.heap[r]? = some o ∧ o.isCells = false
theorem not_cells {W : World} {k : Nat} {o : Obj} {cs : Array Value} {t : TypeId} {fr : Nat × Nat} (h : W.heap[k]? = some o) (hc : o.isCells = false) (h2 : W.heap[k]? = some (.cells cs t fr)) : False := by
  rw [h2] at h
  cases h
  simp [Obj.isCells] at hc
theorem own_rec (h : Mem.Own w W l) (hg : W.grownBy V row) (hr : Rec W row) (hn : ∀ r, row = some r → w.heap.size ≤ r) : Mem.Own w V l :=
  h.grown hg hn (fun i b hb e => by
    obtain ⟨o, ho, hc⟩ := hr b.1 e.symm
    exact not_cells ho hc (h.2.1 i b hb).2)
theorem row_rec {α : Type} {d : Kd α} (hE : d.E = []) {e : Nat} {base : Nat} {ok : Nat → Prop} {v : Value} {xs : List α} (h : d.R e W base ok v xs) (hg : W.grownBy V row) (hr : Rec W row) : d.R e V base ok v xs :=
  Kd.R_grown2 h hE hg (fun k hk ev => by
    obtain ⟨o, ho, hc⟩ := hr k hk
    obtain ⟨cs, h2⟩ := Kd.R_typed h k ev.symm
    exact not_cells ho hc h2)
theorem own_put (h : Mem.Own w W l) {D : Nat} {o : Obj} (o2 : Obj) (hD : w.heap.size ≤ D) (hd : W.heap[D]? = some o) (hc : o.isCells = false) : Mem.Own w (W.putObj D o2) l :=
  own_rec h (grownBy_putObj' W D o2) (fun r e => by cases e; exact ⟨o, hd, hc⟩) (fun r e => by cases e; exact hD)
theorem row_put {α : Type} {d : Kd α} (hE : d.E = []) {e : Nat} {base : Nat} {ok : Nat → Prop} {v : Value} {xs : List α} (h : d.R e W base ok v xs) {D : Nat} {o : Obj} (o2 : Obj) (hd : W.heap[D]? = some o) (hc : o.isCells = false) : d.R e (W.putObj D o2) base ok v xs :=
  row_rec hE h (grownBy_putObj' W D o2) (fun r e => by cases e; exact ⟨o, hd, hc⟩)
theorem keeps_below (h : Below W.heap.size W V) : KeepsOthers W V := ⟨h.size, fun k _ hk _ => (h.block k (Array.getElem?_eq_some_iff.1 hk).1).trans hk⟩
theorem keeps_row {α : Type} {d : Kd α} {e : Nat} {base : Nat} {ok : Nat → Prop} {v : Value} {xs : List α} (h : d.R e W base ok v xs) (hg : W.grownBy V v.ownBlock) : KeepsOthers W V :=
  KeepsOthers.of_grownBy hg (fun j o hj ho => by
    obtain ⟨cs, h2⟩ := Kd.R_typed h j hj
    rw [h2] at ho
    cases ho
    rfl)
theorem def_set {k : Nat} (h : W.heap[k]? = some (.deferred (some []))) (a : Addr) (v : Value) : (W.setCell a v).heap[k]? = some (.deferred (some [])) := (KeepsOthers.setCell W a v).same k _ h rfl
theorem own_boxed {Bn : Nat} {u : Value} {t : TypeId} (h : Mem.Own w W l) (k : Nat) (e : l[k]? = some (Bn, #[u], t)) : Boxed W Bn t u := h.blk k e
end Go.Proofs.Ytondnammkcgjpaa.Fun
namespace Go.Proofs.Ytondnammkcgjpaa.Rg
open Go Go.RowKit Go.Proofs.YtondnammkcgjpaaW.PrintWords Go.Proofs.YtondnammkcgjpaaW.PrintLast Go.Proofs.YtondnammkcgjpaaW.PrintMore
open Go.Proofs.Ytondnammkcgjpaa.ShaP Go.Proofs.Ytondnammkcgjpaa.Mk Go.Proofs.Ytondnammkcgjpaa.Rng Go.Proofs.Ytondnammkcgjpaa.Fun
attribute [local go_sem] Oper.semAt_some
def rootF (l : List ByteArray) : ByteArray := rootN 100000 l
def sumP : List Pw → Nat
  | [] => 0
  | p :: r => p.1 + sumP r
theorem sumP_append (a b : List Pw) : sumP (a ++ b) = sumP a + sumP b := by
  induction a with
  | nil => simp [sumP]
  | cons p a ih => simp only [List.cons_append, sumP, ih]; omega
theorem sumP_pws (f : Nat) : ∀ m, m < 2 ^ 62 → sumP (pws f m) ≤ m := by
  induction f with
  | zero => intro m _; exact Nat.zero_le _
  | succ f ih =>
    intro m hm
    rw [pws]
    split
    · exact Nat.zero_le _
    · have h1 := hp_bd m (by omega) (by omega)
      have h2 := ih (m - hp m) (by omega)
      rw [sumP, mkPw_1 m (by omega) (by omega)]
      omega
theorem sumP_pre {pre : List Pw} {x : Pw} {m : Nat} (hm : m < 2 ^ 62) (h : pre ++ [x] <+: pws 64 m) : sumP pre + x.1 ≤ m := by
  obtain ⟨t, ht⟩ := h
  have h1 := sumP_pws 64 m hm
  rw [← ht, sumP_append, sumP_append] at h1
  simp only [sumP] at h1
  omega
def ofA (l : List ByteArray) : Nat → List Pw → List ByteArray
  | _, [] => []
  | a, p :: r => rootF ((l.take (a + p.1)).drop a) :: ofA l (a + p.1) r
theorem ofA_snoc (l : List ByteArray) (x : Pw) : ∀ (ps : List Pw) (a : Nat), ofA l a (ps ++ [x]) = ofA l a ps ++ [rootF ((l.take (a + sumP ps + x.1)).drop (a + sumP ps))]
  | [], a => by simp [ofA, sumP]
  | p :: ps, a => by
    rw [List.cons_append, ofA, ofA, ofA_snoc l x ps, List.cons_append]
    simp only [sumP, Nat.add_assoc]
theorem ofA_len (l : List ByteArray) : ∀ (ps : List Pw) (a : Nat), (ofA l a ps).length = ps.length
  | [], _ => rfl
  | p :: ps, a => by rw [ofA, List.length_cons, ofA_len l ps, List.length_cons]
def ofF (l : List ByteArray) : List ByteArray := ofA l 0 (pws 64 l.length)
theorem ofF_size (l : List ByteArray) : (ofF l).length ≤ 64 := by unfold ofF; rw [ofA_len]; exact pws_len 64 _
theorem pow_c (n : Int) (w : World) : Calls Try.prog 54 #[.int .i64 n] w fun e w2 => ∃ Bn, e = .returned (.func (.func 82) #[] #[.pointer (some ⟨Bn, 0, none⟩)]) ∧ Bn = w.heap.size ∧ w2.heap[Bn]? = some (.cells #[.int .i64 n] 3 (0, 0)) ∧ Below w.heap.size w w2 :=
  (powers_c n w).mono fun _ _ ⟨he, hw⟩ => ⟨w.heap.size, he, rfl, by rw [hw]; exact blk_new w _, by rw [hw]; exact below_alloc (Below.refl _ _) _⟩
theorem cut_mid (A : Option Addr) (c : Nat) (l : List ByteArray) (a b : Nat) (hab : a ≤ b) (hb : b ≤ l.length) (hc : l.length ≤ c) :
    ∃ A2 : Option Addr, (∀ W : World, (Instr.slice 22 (.slice A l.length c) (some (.int .i64 (a : Int))) (some (.int .i64 (b : Int))) none).run Try.prog W = .ok (.slice A2 ((l.take b).drop a).length (c - a)) W) ∧
      (∀ w : World, Kd.C Kd.string w A l.length l → Kd.C Kd.string w A2 ((l.take b).drop a).length ((l.take b).drop a)) ∧ ((l.take b).drop a).length ≤ c - a := by
  obtain ⟨i0, hi0, _, hsz, _⟩ := info_parts info_str
  obtain ⟨A2, h1, h2, h3⟩ := print_mid_of (P := Try.prog) Value.string (⟨#[]⟩ : ByteArray) 22 9 .i64 .i64 Try.underlying22 hi0 hsz A c l (a : Int) (b : Int) (by omega) (by omega) (by omega) hc
  simp only [Int.toNat_natCast] at h1 h2 h3
  exact ⟨A2, h1, fun w h => Kd.C_of_reads (h1 := fun _ => rfl) (h2 w (Kd.reads_of_C h)), h3⟩
def OfI (w : World) (gT gL gZ gX gA Bn : Nat) (A : Option Addr) (c : Nat) (l : List ByteArray) (pre : List Pw) (W : World) : Prop :=
  ∃ v u, Mem.Own w W [(gT, TV, 31), (gL, #[.slice A l.length c], 22), (gZ, #[.int .i64 0, .slice none 0 0], 41), (gX, #[.int .i64 (l.length : Int), v], 41), (gA, #[.int .i64 (sumP pre : Int)], 3), (Bn, #[u], 3)] ∧ SR W w.heap.size v (ofA l 0 pre)
theorem ofI_from {w : World} {gT gL gZ gX gA Bn : Nat} {A : Option Addr} {c : Nat} {l : List ByteArray} {B : Nat} (hB : w.heap.size ≤ B) : OwnFrom B (OfI w gT gL gZ gX gA Bn A c l) := fun pre W V row h hg hr => by
  obtain ⟨v, u, hO, hR⟩ := h
  have hrec : Rec W row := fun r e => (hr r e).2
  exact ⟨v, u, own_rec hO hg hrec (fun r e => Nat.le_trans hB (hr r e).1), row_rec rfl hR hg hrec⟩
theorem ofI_set {w : World} {gT gL gZ gX gA Bn : Nat} {A : Option Addr} {c : Nat} {l : List ByteArray} {pre : List Pw} {W : World} (h : OfI w gT gL gZ gX gA Bn A c l pre W) (z : Value) : OfI w gT gL gZ gX gA Bn A c l pre (W.setCell ⟨Bn, 0, none⟩ z) := by
  obtain ⟨v, u, hO, hR⟩ := h
  exact ⟨v, z, hO.put 5 rfl 0 z rfl, Kd.R_set hR (hO.blk 5 rfl) (by decide) 0 z⟩
theorem of_c (A : Option Addr) (c : Nat) (l : List ByteArray) (w : World) (hl : l.length ≤ 1000) (hs : Sm l) (hc : l.length ≤ c) (hr : Kd.C Kd.string w A l.length l) :
    Calls Try.prog 21 #[.agg TV, .slice A l.length c] w fun e w' => ∃ v, e = .returned (.agg #[.int .i64 (l.length : Int), v]) ∧ SR w' w.heap.size v (ofF l) ∧ Below w.heap.size w w' := by
  have OW := Aside0.mk (Mem.Own.nil w)
  have HR := Aside0.mk hr
  have HC := Aside0.mk hc
  have HL := Aside0.mk hl
  have HS := Aside0.mk hs
  have HPW := Aside0.mk (pow_c (l.length : Int))
  clear hr hc hl hs
  refine (callsIn_wide (n := 5)).1 ?_
  refine callsIn_of_wp_marks Try.func21 rfl trivial ?_ rfl
  simp only [Try.ntmps21, List.size_toArray, List.length_cons, List.length_nil, Nat.reduceAdd, Nat.reduceSub, Array.replicate_succ, Array.replicate_zero, List.push_toArray, List.append_toArray, List.nil_append, List.cons_append]
  refine wpIn_wide.2 ?_
  go_wp2_with (first
    | ((with_reducible refine gate_dst (N := 2) rfl ?_); refine box_event ?hg (N := 2) ?hd (cs := TV) (t := 31) ?hr ?_; (case hd => rfl); (case hg => rfl); (case hr => first | (go_simp; done) | (go_simp; rfl)); intro gT hg W_ hb hbb; have n_ : Aside0 (Mem.Own w W_ [(gT, TV, 31)]) := ⟨OW.out.new hg hb hbb⟩; clear OW hb hbb hg; have OW := n_; clear n_)
    | ((with_reducible refine gate_dst (N := 3) rfl ?_); refine box_event ?hg (N := 3) ?hd (cs := #[.slice A l.length c]) (t := 22) ?hr ?_; (case hd => rfl); (case hg => rfl); (case hr => first | (go_simp; done) | (go_simp; rfl)); intro gL hg W_ hb hbb; have n_ : Aside0 (Mem.Own w W_ [(gT, TV, 31), (gL, #[.slice A l.length c], 22)]) := ⟨OW.out.new hg hb hbb⟩; clear OW hb hbb hg; have OW := n_; clear n_)
    | ((with_reducible refine gate_dst (N := 4) rfl ?_); refine box_event ?hg (N := 4) ?hd (cs := #[.int .i64 0, .slice none 0 0]) (t := 41) ?hr ?_; (case hd => rfl); (case hg => rfl); (case hr => first | (go_simp; done) | (go_simp; rfl)); intro gZ hg W_ hb hbb; have cL := ((OW.out.step hbb).cell 1 rfl 0).trans rfl; have n_ : Aside0 (Mem.Own w W_ [(gT, TV, 31), (gL, #[.slice A l.length c], 22), (gZ, #[.int .i64 0, .slice none 0 0], 41)]) := ⟨OW.out.new hg hb hbb⟩; clear OW hb hbb hg; have OW := n_; clear n_)
    | ((with_reducible refine gate_dst (N := 5) rfl ?_); refine box_event ?hg (N := 5) ?hd (cs := #[.int .i64 0, .slice none 0 0]) (t := 41) ?hr ?_; (case hd => rfl); (case hg => rfl); (case hr => first | (go_simp; done) | (go_simp; rfl)); intro gX hg W_ hb hbb; have x0 := (blk_cell hb 0).trans rfl; have x1 := (blk_cell hb 1).trans rfl; have y0 := blk_frozen hb 0; have y1 := blk_frozen hb 1; have n_ : Aside0 (Mem.Own w W_ [(gT, TV, 31), (gL, #[.slice A l.length c], 22), (gZ, #[.int .i64 0, .slice none 0 0], 41), (gX, #[.int .i64 0, .slice none 0 0], 41)]) := ⟨OW.out.new hg hb hbb⟩; clear OW hb hbb hg; have OW := n_; clear n_)
    | ((with_reducible refine gate_dst (N := 6) rfl ?_); refine box_event ?hg (N := 6) ?hd (cs := #[.int .i64 0]) (t := 3) ?hr ?_; (case hd => rfl); (case hg => rfl); (case hr => first | (go_simp; done) | (go_simp; rfl)); intro gA hg W_ hb hbb; have o_ := Aside0.mk ((OW.out.put 3 rfl 0 (.int .i64 (l.length : Int)) rfl).put 3 rfl 1 (.slice none 0 0) rfl); clear OW x0 x1 y0 y1 cL; have OW := o_; clear o_; have cL := (((OW.out.new hg hb hbb).put 4 rfl 0 (.int .i64 0) rfl).cell 1 rfl 0).trans rfl; have a0 := (blk_cell hb 0).trans rfl; have b0 := blk_frozen hb 0; have n_ : Aside0 (Mem.Own w W_ [(gT, TV, 31), (gL, #[.slice A l.length c], 22), (gZ, #[.int .i64 0, .slice none 0 0], 41), (gX, #[.int .i64 (l.length : Int), .slice none 0 0], 41), (gA, #[.int .i64 0], 3)]) := ⟨OW.out.new hg hb hbb⟩; clear OW hb hbb hg; have OW := n_; clear n_)
    | (go_at_call 54; with_reducible refine (HPW.out _).mono ?_; rintro e w_ ⟨Bn, rfl, hBn, hbk, hB⟩; have n_ := Aside0.mk ((OW.out.put 4 rfl 0 (.int .i64 0) rfl).new hBn hbk hB); clear OW a0 b0 cL hBn hbk hB; have OW := n_; clear n_))
  have hBn : Bn < w_.heap.size := blk_lt (OW.out.blk 5 rfl)
  refine (wpIn_wide (n := 5)).1 ?_
  refine range_cellN (α := Pw) (encs := enc1) (Nx := fun pre x => pre ++ [x] <+: pws 64 l.length) (Bn := Bn) (Kp := Keep1 Bn) rfl (by omega) (gf := 82) (lb := #[.pointer (some ⟨Bn, 0, none⟩)]) rfl trivial (enters_of Try.func82 (by kernel_rfl) rfl)
    (powers1N lenC 4 (by omega) Bn l.length (by have := HL.out; omega) w_ hBn (OW.out.blk 5 rfl)) keep1_t (fun V lp o o2 hl h hc => keep1_b (Bn := Bn) (B0 := w_.heap.size) hBn V lp o o2 hl h hc) (Below.refl _ _) (fun _ => rfl)
    (OfI w gT gL gZ gX gA Bn A c l) (fun _ _ _ => False) (ofI_from OW.out.size) (fun _ _ _ _ _ hs _ _ => hs) (fun _ _ v hs => ofI_set hs v) ⟨_, _, OW.out, Kd.R_nil _ _ _ _ _⟩
    (fun x => { tmps := #[.agg TV, .slice A l.length c, .pointer (some ⟨gT, 0, none⟩), .pointer (some ⟨gL, 0, none⟩), .pointer (some ⟨gZ, 0, none⟩), .pointer (some ⟨gX, 0, none⟩), .pointer (some ⟨gA, 0, none⟩), .int .i64 (x.1 : Int), .slice A l.length c, .int .i64 (l.length : Int), .agg #[.int .i64 (l.length : Int), .slice none 0 0], .slice A l.length c, .int .i64 (l.length : Int), .func (.func 82) #[] #[.pointer (some ⟨Bn, 0, none⟩)], .int .i64 (x.1 : Int), undef, undef, undef, undef, undef, undef, undef, undef, undef, undef, undef, undef, undef, undef, undef, undef, undef], defers := [] }) ?assign ?body ?done ?stop
  case assign =>
    intro lp x W K hK
    gi_wp2
    exact hK
  case body =>
    have HSZ := Aside0.mk OW.out.size
    clear OW hBn
    rintro lp pre x W ⟨v, u, hO, hR⟩ hnx
    have hsum := sumP_pre (by have := HL.out; omega) hnx
    have hpl : pre.length + 1 ≤ 64 := by
      have h1 := hnx.length_le
      have h2 := pws_len 64 l.length
      rw [List.length_append, List.length_singleton] at h1
      omega
    have hol := ofA_len l pre 0
    have HSN := Aside0.mk (ofA_snoc l x pre 0)
    have HSP : Aside0 (sumP (pre ++ [x]) = sumP pre + x.1) := ⟨by rw [sumP_append]; simp [sumP]⟩
    obtain ⟨p, hp⟩ : ∃ p, x.1 = p := ⟨_, rfl⟩
    obtain ⟨a, ha⟩ : ∃ a, sumP pre = a := ⟨_, rfl⟩
    obtain ⟨b, hb⟩ : ∃ b, a + p = b := ⟨_, rfl⟩
    rw [Nat.zero_add] at HSN
    rw [hp, ha, hb] at HSN HSP hsum
    rw [ha] at hO
    rw [hp]
    obtain ⟨A2, hcut, hC2, hc2⟩ := cut_mid A c l a b (by omega) hsum HC.out
    have s2 : Sm ((l.take b).drop a) := (HS.out.take b).drop a
    have l2 : ((l.take b).drop a).length ≤ 1000 := by rw [List.length_drop, List.length_take]; have := HL.out; omega
    have CS := Aside0.mk (hC2 w HR.out)
    generalize (l.take b).drop a = seg at *
    have HRT := Aside0.mk (fun W h => root_c 100000 A2 (c - a) seg W (by omega) (by omega) s2 hc2 h)
    obtain ⟨A1, c1, rfl⟩ := Kd.R_slice hR
    rw [hol] at hO hR
    generalize ofA l 0 pre = ol at *
    have hab : (a : Int) + (p : Int) = (b : Int) := by omega
    have hwb : wrap64 (b : Int) = (b : Int) := by unfold wrap64; have := HL.out; omega
    have OD := Aside0.mk hO.drew
    have HKD := Aside0.mk (KeepsOthers.drew W)
    have OO := Aside0.mk hO
    have HT := Aside0.mk (Kd.R_drew hR)
    have HOL := Aside0.mk (show ol.length ≤ 64 by omega)
    have cX1 : W.drew.cell? ⟨gX, 1, none⟩ = some (.slice A1 pre.length c1) := (OD.out.cell 3 rfl 1).trans rfl
    have cL0 : W.drew.cell? ⟨gL, 0, none⟩ = some (.slice A l.length c) := (OD.out.cell 1 rfl 0).trans rfl
    have cA0 : W.drew.cell? ⟨gA, 0, none⟩ = some (.int .i64 (a : Int)) := (OD.out.cell 4 rfl 0).trans rfl
    clear hO hR hsum hpl hol hb hC2 s2 l2 hc2 hnx ha hp
    gi_wp2_with fail
    refine InR.startIn_ (m := 14) (S := fun w' => Below (W).drew.heap.size (W).drew w') (ds := [11, 13]) #[false, false, false, false, false, false, false, false, false, false, false, false, false, false] (by kernel_rfl) (by rintro ⟨_, _, h⟩; exact h) (by kernel_rfl) rfl rfl (Below.refl _ _) (fun hHeld => ?_)
    generalize (W).drew = W0 at *
    refine pure_ (i := 0) (N := (some 15)) (v := ?_) (a' := ?_) #[true, false, false, false, false, false, false, false, false, false, false, false, false, false] rfl rfl (by kernel_rfl) (fun _ _ _ h => h) (Or.inl ⟨by rfl, ?_⟩) ?_ ?_
    rotate_left
    · intro w'
      go_simp
      first | done | with_reducible rfl
    rotate_left
    · simp only [Act.put, List.setIfInBounds_toArray, List.set_cons_zero, List.set_cons_succ, i64_w, i32_w]
      rfl
    refine take_ (i := 1) (N := (some 16)) (v := ?_) (a' := ?_) #[true, true, false, false, false, false, false, false, false, false, false, false, false, false] rfl rfl (by kernel_rfl) (fun _ _ _ h => h) (Or.inl ⟨by rfl, ?_⟩) hHeld ?_ ?_
    rotate_left
    · intro w' hS
      have s0 := pw_cell_below hS cX1
      go_simp
      first | done | with_reducible rfl
    rotate_left
    · simp only [Act.put, List.setIfInBounds_toArray, List.set_cons_zero, List.set_cons_succ, i64_w, i32_w]
      rfl
    refine take_ (i := 2) (N := (some 17)) (a' := ?_) #[true, true, true, false, false, false, false, false, false, false, false, false, false, false] rfl rfl (by kernel_rfl) (fun _ _ _ h => h) (yields_tab (by rfl) (.tmp 2) rfl gT rfl (fun w' hS => hS) (OD.out.blk 0 rfl)) hHeld ?_ ?_
    rotate_left
    · simp only [Act.put, List.setIfInBounds_toArray, List.set_cons_zero, List.set_cons_succ, i64_w, i32_w]
      rfl
    refine take_ (i := 3) (N := (some 18)) (v := ?_) (a' := ?_) #[true, true, true, true, false, false, false, false, false, false, false, false, false, false] rfl rfl (by kernel_rfl) (fun _ _ _ h => h) (Or.inl ⟨by rfl, ?_⟩) hHeld ?_ ?_
    rotate_left
    · intro w' hS
      have s0 := pw_cell_below hS cL0
      go_simp
      first | done | with_reducible rfl
    rotate_left
    · simp only [Act.put, List.setIfInBounds_toArray, List.set_cons_zero, List.set_cons_succ, i64_w, i32_w]
      rfl
    refine take_ (i := 4) (N := (some 19)) (v := ?_) (a' := ?_) #[true, true, true, true, true, false, false, false, false, false, false, false, false, false] rfl rfl (by kernel_rfl) (fun _ _ _ h => h) (Or.inl ⟨by rfl, ?_⟩) hHeld ?_ ?_
    rotate_left
    · intro w' hS
      have s0 := pw_cell_below hS cA0
      go_simp
      first | done | with_reducible rfl
    rotate_left
    · simp only [Act.put, List.setIfInBounds_toArray, List.set_cons_zero, List.set_cons_succ, i64_w, i32_w]
      rfl
    refine take_ (i := 5) (N := (some 20)) (v := ?_) (a' := ?_) #[true, true, true, true, true, true, false, false, false, false, false, false, false, false] rfl rfl (by kernel_rfl) (fun _ _ _ h => h) (Or.inl ⟨by rfl, ?_⟩) hHeld ?_ ?_
    rotate_left
    · intro w' hS
      have s0 := pw_cell_below hS cA0
      go_simp
      first | done | with_reducible rfl
    rotate_left
    · simp only [Act.put, List.setIfInBounds_toArray, List.set_cons_zero, List.set_cons_succ, i64_w, i32_w]
      rfl
    refine pure_ (i := 6) (N := (some 21)) (v := ?_) (a' := ?_) #[true, true, true, true, true, true, true, false, false, false, false, false, false, false] rfl rfl (by kernel_rfl) (fun _ _ _ h => h) (Or.inl ⟨by rfl, ?_⟩) ?_ ?_
    rotate_left
    · intro w'
      go_simp
      first | done | with_reducible rfl
    rotate_left
    · simp only [Act.put, List.setIfInBounds_toArray, List.set_cons_zero, List.set_cons_succ, i64_w, i32_w]
      rfl
    refine pure_ (i := 7) (N := (some 22)) (v := ?_) (a' := ?_) #[true, true, true, true, true, true, true, true, false, false, false, false, false, false] rfl rfl (by kernel_rfl) (fun _ _ _ h => h) (Or.inl ⟨by rfl, ?_⟩) ?_ ?_
    rotate_left
    · intro w'
      go_simp
      first | done | with_reducible rfl
    rotate_left
    · simp only [Act.put, List.setIfInBounds_toArray, List.set_cons_zero, List.set_cons_succ, i64_w, i32_w]
      rfl
    refine pure_ (i := 8) (N := (some 23)) (v := ?_) (a' := ?_) #[true, true, true, true, true, true, true, true, true, false, false, false, false, false] rfl rfl (by kernel_rfl) (fun _ _ _ h => h) (Or.inl ⟨by rfl, ?_⟩) ?_ ?_
    rotate_left
    · intro w'
      go_simp
      first | done | with_reducible rfl
    rotate_left
    · simp only [Act.put, List.setIfInBounds_toArray, List.set_cons_zero, List.set_cons_succ, i64_w, i32_w]
      rfl
    refine one_ (i := 9) (N := (some 24)) #[true, true, true, true, true, true, true, true, true, true, false, false, false, false] rfl rfl (by kernel_rfl) (by decide) (fun K hK => ?_)
    refine goes_ Try.func30 (by kernel_rfl) rfl #[.agg TV, .slice A2 seg.length (c - a)] (by rfl) rfl rfl (by (try simp only [List.map_toArray, List.map_cons, List.map_nil]); first | done | rfl) ?_
    with_reducible refine (HRT.out _ (Kd.C_below CS.out OD.out.below)).mono ?_
    rintro e w1 ⟨rfl, hB⟩
    refine ⟨_, rfl, ?_⟩
    have hS2 : Below W0.heap.size W0 w1 := hB
    clear hB
    refine hK.out _ _ hS2 (fun hHeld => ?_)
    clear hK K
    refine norm_ (a' := ?_) ?_ ?_
    rotate_left
    · show Act.put _ (some 24) _ = _
      simp only [Act.put, List.setIfInBounds_toArray, List.set_cons_zero, List.set_cons_succ, i64_w, i32_w]
      rfl
    refine one_ (i := 10) (N := (some 25)) #[true, true, true, true, true, true, true, true, true, true, true, false, false, false] rfl rfl (by kernel_rfl) (by decide) (fun K hK => ?_)
    refine value_ (v := .slice (some ⟨w1.heap.size, 0, none⟩) 1 1) (w1 := w1.alloc (.cells #[.string (rootN 100000 seg)] 9)) (by rfl) rfl (by first | (go_simp; done) | (go_simp; rfl)) ?_
    have hS2 : Below W0.heap.size W0 (w1.alloc (.cells #[.string (rootN 100000 seg)] 9)) := below_alloc hHeld _
    have HH1 := Aside0.mk hHeld
    clear hHeld
    refine hK.out _ _ hS2 (fun hHeld => ?_)
    clear hK K
    refine norm_ (a' := ?_) ?_ ?_
    rotate_left
    · show Act.put _ (some 25) _ = _
      simp only [Act.put, List.setIfInBounds_toArray, List.set_cons_zero, List.set_cons_succ, i64_w, i32_w]
      rfl
    refine last_ (i := 11) (N := (some 26)) #[true, true, true, true, true, true, true, true, true, true, true, true, false, false] rfl rfl (by kernel_rfl) (by decide) (fun K hK => ?_)
    have O1 := Aside0.mk (OD.out.step HH1.out)
    have HT1 := Aside0.mk (Kd.R_below HT.out HH1.out)
    refine Kd.R_append_step (P := Try.prog) Kd.string (w0 := w) (W := w1) w.heap.size (by rfl) (.tmp 16) (.tmp 25) 22 9 (.string ⟨#[]⟩) 16 rfl Try.underlying22 info_str rfl (by decide) (by decide) (.slice A1 pre.length c1) ol (rootN 100000 seg) [.string (rootN 100000 seg)] (fun _ => True) (fun _ => False) rfl rfl rfl (fun _ h => h.elim) (fun _ _ => trivial) HT1.out O1.out.below O1.out.size (by have := HOL.out; omega) ?_
    intro v1 w2 hr1 hb1 hg1 hat1
    obtain ⟨A3, c3, e1⟩ := Kd.R_slice hr1
    generalize (ol ++ [rootN 100000 seg]).length = m1 at e1
    subst e1
    have OW := Aside0.mk (O1.out.grown hg1 (fun k hk => Kd.R_base HT1.out k hk) (fun i b hb => by
      rcases i with _ | _ | _ | _ | _ | _ | i
      · cases hb; exact fun e => Kd.R_ne HT1.out (O1.out.blk 0 rfl) (by decide) e
      · cases hb; exact fun e => Kd.R_ne HT1.out (O1.out.blk 1 rfl) (by decide) e
      · cases hb; exact fun e => Kd.R_ne HT1.out (O1.out.blk 2 rfl) (by decide) e
      · cases hb; exact fun e => Kd.R_ne HT1.out (O1.out.blk 3 rfl) (by decide) e
      · cases hb; exact fun e => Kd.R_ne HT1.out (O1.out.blk 4 rfl) (by decide) e
      · cases hb; exact fun e => Kd.R_ne HT1.out (O1.out.blk 5 rfl) (by decide) e
      · cases hb))
    have HV := Aside0.mk hr1
    have HK : Aside0 (KeepsOthers W w2) := ⟨(HKD.out.trans (keeps_below HH1.out)).trans (keeps_row HT1.out hg1)⟩
    have z1 := (OW.out.cell 3 rfl 1).trans rfl
    have y1 := OW.out.frozen 3 rfl 1
    clear hr1 hb1 hg1 hat1 OD O1 HT HT1 HH1 cX1 cL0 cA0
    refine hK.out _ _ ?_
    clear hK K
    refine norm_ (a' := ?_) ?_ ?_
    rotate_left
    · show Act.put _ (some 26) _ = _
      simp only [Act.put, List.setIfInBounds_toArray, List.set_cons_zero, List.set_cons_succ, i64_w, i32_w]
      rfl
    refine pure_ (i := 12) (N := (some 27)) (v := ?_) (a' := ?_) #[true, true, true, true, true, true, true, true, true, true, true, true, true, false] rfl rfl (by kernel_rfl) (fun _ _ _ h => h) (Or.inl ⟨by rfl, ?_⟩) ?_ ?_
    rotate_left
    · intro w'
      go_simp
      first | done | with_reducible rfl
    rotate_left
    · simp only [Act.put, List.setIfInBounds_toArray, List.set_cons_zero, List.set_cons_succ, i64_w, i32_w]
      rfl
    refine last_ (i := 13) (N := none) #[true, true, true, true, true, true, true, true, true, true, true, true, true, true] rfl rfl (by kernel_rfl) (by decide) (fun K hK => ?_)
    refine skip_ (by rfl) rfl (by first | (go_simp; done) | (go_simp; rfl)) ?_
    refine hK.out _ _ ?_
    clear hK K
    refine done_ (by kernel_rfl) ?_
    have O2 := Aside0.mk (OW.out.put 3 rfl 1 (.slice A3 m1 c3) rfl)
    have HV2 := Aside0.mk (Kd.R_set HV.out (OW.out.blk 3 rfl) (by decide) 1 (.slice A3 m1 c3))
    have aC := (O2.out.cell 4 rfl 0).trans rfl
    have aF := O2.out.frozen 4 rfl 0
    clear z1 y1
    gi_wp2_with fail
    have O3 := O2.out.put 4 rfl 0 (.int .i64 (b : Int)) rfl
    have HV3 := Kd.R_set HV2.out (O2.out.blk 4 rfl) (by decide) 0 (.int .i64 (b : Int))
    refine ⟨((HK.out.trans (KeepsOthers.setCell _ _ _)).trans (KeepsOthers.setCell _ _ _)).from _, ?_, ?_⟩
    · intro z hz
      have h1 : Boxed W Bn 3 u := OO.out.blk 5 rfl
      have h2 : z = u := by
        unfold Boxed at hz h1
        rw [hz] at h1
        injection h1 with h1
        injection h1 with h1
        simpa using h1
      rw [h2]
      exact O3.blk 5 rfl
    · exact ⟨_, u, by rw [HSP.out]; exact O3, by rw [HSN.out]; exact HV3⟩
  case done =>
    have HSZ := Aside0.mk OW.out.size
    clear OW hBn
    rintro D xs W hD rfl ⟨v, u, hO, hR⟩ hK
    obtain ⟨A1, c1, rfl⟩ := Kd.R_slice hR
    generalize (ofA l 0 (pws 64 l.length)).length = m1 at hO hR
    have OO := Aside0.mk hO
    have HK := Aside0.mk hK
    have x0 := (hO.cell 3 rfl 0).trans rfl
    have x1 := (hO.cell 3 rfl 1).trans rfl
    have z0 := (hO.cell 2 rfl 0).trans rfl
    have z1 := (hO.cell 2 rfl 1).trans rfl
    have y0 := hO.frozen 2 rfl 0
    have y1 := hO.frozen 2 rfl 1
    clear hO hK
    go_wp2_with fail
    have hD2 : w.heap.size ≤ D := Nat.le_trans HSZ.out hD
    have O2 := (OO.out.put 2 rfl 0 (.int .i64 (l.length : Int)) rfl).put 2 rfl 1 (.slice A1 m1 c1) rfl
    have R2 := Kd.R_set (Kd.R_set hR (OO.out.blk 2 rfl) (by decide) 0 (.int .i64 (l.length : Int))) ((OO.out.put 2 rfl 0 (.int .i64 (l.length : Int)) rfl).blk 2 rfl) (by decide) 1 (.slice A1 m1 c1)
    have hK2 := def_set (def_set HK.out ⟨gZ, 0, none⟩ (.int .i64 (l.length : Int))) ⟨gZ, 1, none⟩ (.slice A1 m1 c1)
    have O3 := Fun.own_put O2 (Obj.deferred none) hD2 hK2 rfl
    have R3 := Fun.row_put rfl R2 (Obj.deferred none) hK2 rfl
    refine ⟨by simp, .inl ⟨_, _, rfl, run_takeDeferred hK2, ?_⟩⟩
    exact ⟨_, results_cell_row (p := 4) (ty := 41) rfl _ _ gZ 41 _ _ _ rfl (O3.blk 2 rfl) Try.underlying41 rfl (by kernel_rfl), _, rfl, R3, O3.below⟩
  case stop =>
    rintro D c pre W _ _ h _
    exact h.elim
end Go.Proofs.Ytondnammkcgjpaa.Rg
namespace Go.Proofs.Ytondnammkcgjpaa.Rg
open Go Go.RowKit Go.Shelf Go.Proofs.YtondnammkcgjpaaW.PrintWords Go.Proofs.YtondnammkcgjpaaW.PrintLast Go.Proofs.YtondnammkcgjpaaW.PrintMore
open Go.Proofs.Ytondnammkcgjpaa.ShaP Go.Proofs.Ytondnammkcgjpaa.Mk Go.Proofs.Ytondnammkcgjpaa.Rng Go.Proofs.Ytondnammkcgjpaa.Fun
attribute [local go_sem] Oper.semAt_some
def bkN (l : List ByteArray) : Nat → List (Nat × ByteArray)
  | 0 => []
  | k + 1 => (k, l.getD k ByteArray.empty) :: bkN l k
abbrev enc2 (x : Nat × ByteArray) : Array Value := #[.int .i64 (x.1 : Int), .string x.2]
def KpB (Bn : Nat) (A : Option Addr) (c : Nat) (l : List ByteArray) (V W : World) : Prop :=
  (Boxed V Bn 22 (.slice A l.length c) ∧ Kd.C Kd.string V A l.length l) → (Boxed W Bn 22 (.slice A l.length c) ∧ Kd.C Kd.string W A l.length l)
theorem kpB_t {Bn : Nat} {A : Option Addr} {c : Nat} {l : List ByteArray} {U V W : World} (h : KpB Bn A c l U V) (k : KpB Bn A c l V W) : KpB Bn A c l U W := fun q => k (h q)
theorem c_put {W : World} {A : Option Addr} {l : List ByteArray} (h : Kd.C Kd.string W A l.length l) {D : Nat} {o : Obj} (o2 : Obj) (hd : W.heap[D]? = some o) (hc : o.isCells = false) : Kd.C Kd.string (W.putObj D o2) A l.length l := by
  have h1 := Kd.reads_of_C (enc := Value.string) (d := ByteArray.empty) (h1 := fun _ => rfl) h
  refine Kd.C_of_reads (enc := Value.string) (d := ByteArray.empty) (h1 := fun _ => rfl) ⟨h1.1, h1.2.1, fun hn => ?_⟩
  obtain ⟨ad, e, hcell⟩ := h1.2.2 hn
  refine ⟨ad, e, fun j hj => ?_⟩
  have hc2 := hcell j hj
  have hne : (ad.add j).block ≠ D := by
    intro e2
    unfold World.cell? at hc2
    rw [e2, hd] at hc2
    cases o <;> simp_all [Obj.isCells]
  unfold World.cell? at hc2 ⊢
  rw [World.putObj_heap_other hne]
  exact hc2
theorem kpB_b {Bn : Nat} {A : Option Addr} {c : Nat} {l : List ByteArray} (W : World) (D : Nat) (o o2 : Obj) (hd : W.heap[D]? = some o) (hc : o.isCells = false) : KpB Bn A c l W (W.putObj D o2) := fun ⟨h1, h2⟩ =>
  ⟨(World.putObj_heap_other (fun e => by
    unfold Boxed at h1
    rw [e] at h1
    exact not_cells hd hc h1)).trans h1, c_put h2 o2 hd hc⟩
theorem back_c (A : Option Addr) (n c : Nat) (w : World) : Calls Try.prog 59 #[.slice A n c] w fun e w2 => ∃ Bn, e = .returned (.func (.func 87) #[] #[.pointer (some ⟨Bn, 0, none⟩)]) ∧ Bn = w.heap.size ∧ w2.heap[Bn]? = some (.cells #[.slice A n c] 22 (0, 0)) ∧ Below w.heap.size w w2 := by
  go_enter Try.func59, Try.ntmps59
  go_wp2
  go_ret
  exact ⟨w.heap.size, rfl, rfl, blk_new w _, below_alloc (Below.refl _ _) _⟩
theorem backN (n : Nat) (hn : 1 ≤ n) (Bn : Nat) (A : Option Addr) (c : Nat) (l : List ByteArray) (w : World) (hl : l.length ≤ 1000000) (hBn : Bn < w.heap.size) (hb : Boxed w Bn 22 (.slice A l.length c)) (hr : Kd.C Kd.string w A l.length l) :
    CellSeqN Fence.wide n Try.prog 87 #[.pointer (some ⟨Bn, 0, none⟩)] enc2 Bn (KpB Bn A c l) (fun xs => xs = bkN l l.length) (fun pre => pre <+: bkN l l.length) (fun pre x => pre ++ [x] <+: bkN l l.length) w := fun lp J Jx W hW hJc _ _ hY hJ0 => by
  have hbW : Boxed W Bn 22 (.slice A l.length c) := (hW.block Bn hBn).trans hb
  have HCW := Aside0.mk (Kd.C_below hr hW)
  have hce := hbW.cell
  have HBW := Aside0.mk hbW
  have HL := Aside0.mk hl
  have hll : (l.length : Int) ≤ 1000000 := by omega
  clear hr hb hBn hW hl
  refine callsIn_of_wp Try.func87 rfl trivial ?_ rfl
  simp only [Try.ntmps87, List.size_toArray, List.length_cons, List.length_nil, Nat.reduceAdd, Nat.reduceSub, Array.replicate_succ, Array.replicate_zero, List.push_toArray, List.append_toArray, List.nil_append, List.cons_append]
  gi_wp2
  gi_loopw [3] (fun v3 wr => ∃ (k : Nat) (z : Int) (pre : List (Nat × ByteArray)), v3 = .int .i64 z ∧ k ≤ l.length ∧ Aside0 (z = (k : Int) - 1) ∧ Hid (pre ++ bkN l k = bkN l l.length) ∧ Aside0 (Boxed wr Bn 22 (.slice A l.length c) ∧ Kd.C Kd.string wr A l.length l) ∧ J pre wr) (fun v3 _ => (intOf v3 + 1).toNat)
  case atStart => exact ⟨l.length, (l.length : Int) - 1, [], rfl, Nat.le_refl _, ⟨rfl⟩, rfl, ⟨HBW.out, HCW.out⟩, hJ0⟩
  case round =>
    clear HBW HCW hce
    obtain ⟨k, z, pre, rfl, hk, HZ, HP, HB, hJ⟩ := hrel
    have hce := HB.out.1.cell
    by_cases h0 : 0 < k
    · obtain ⟨q, rfl⟩ : ∃ q, k = q + 1 := ⟨k - 1, by omega⟩
      obtain rfl : z = (q : Int) := by have := HZ.out; omega
      have hq1 : (q : Int) < (l.length : Int) := by omega
      obtain ⟨ad, e, hx⟩ := Kd.at_string HB.out.2 (q : Int) (by omega) hq1
      cases e
      rw [Int.toNat_natCast] at hx
      have hg : rdOf ByteArray.empty l (q : Int) = l.getD q ByteArray.empty := rfl
      rw [hg] at hx
      have hnx : pre ++ [(q, l.getD q ByteArray.empty)] <+: bkN l l.length := by
        have h6 := HP.out
        rw [bkN] at h6
        exact ⟨bkN l q, by rw [← h6]; simp⟩
      have HP2 := Lib.hid (show (pre ++ [(q, l.getD q ByteArray.empty)]) ++ bkN l q = bkN l l.length by have h6 := HP.out; rw [bkN] at h6; rw [← h6]; simp)
      generalize l.getD q ByteArray.empty = h at *
      obtain ⟨fn, tmps, assign, body, hy, hR⟩ := hY pre (q, h) wr hJ hnx
      have HNX := Aside0.mk hnx
      simp only [enc2] at hy
      clear hY HP HZ h0 hnx hg
      gi_wp2_with fail
      refine hR.mono ?_
      rintro e W3 (⟨rfl, hJ3, hk3⟩ | ⟨rfl, hx3⟩)
      · have hb3 := hk3 HB.out
        gi_wp2_with fail
        go_roundw
        case rel => exact ⟨q, (q : Int) - 1, pre ++ [(q, h)], rfl, by omega, ⟨rfl⟩, HP2, ⟨hb3⟩, hJ3⟩
        case measure => simp [intOf]
      · gi_wp2_with fail
        refine bodyPost_ret (results_none rfl _ _ _) rfl ?_
        exact ⟨⟨_, rfl⟩, .inr ⟨_, HNX.out, hx3⟩⟩
    · obtain rfl : k = 0 := by omega
      obtain rfl : z = -1 := by have := HZ.out; omega
      clear hY
      gi_wp2
      go_end0
      exact ⟨⟨_, rfl⟩, .inl ⟨_, by have := HP.out; rw [bkN, List.append_nil] at this; exact this, hJ⟩⟩
end Go.Proofs.Ytondnammkcgjpaa.Rg
