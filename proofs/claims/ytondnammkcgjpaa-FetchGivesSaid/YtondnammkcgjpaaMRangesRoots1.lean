/- Here is proved: a range over an iterator that keeps a number in a cell of its own goes round by round; what comes next is told to the body. Condition: the body leaves the cell as it was. -/
import Derived.Test.YtondnammkcgjpaaMRangesOf2
import Derived.RangeFuncKeeps
import Derived.Shelf.RegionOpen
namespace Go.Proofs.Ytondnammkcgjpaa
open Go Go.RowKit
variable {F : Fence} {n : Nat} {P : Program}
/-- what an iterator with a cell of its own (block Bn, one cell) does: J is carried on by the rounds, and by the iterator's own stores into that cell -/
def CellSeqN {α : Type} (F : Fence) (n : Nat) (P : Program) (g : Nat) (lb : Array Value) (encs : α → Array Value) (Bn : Nat) (Kp : World → World → Prop) (S Sp : List α → Prop) (Nx : List α → α → Prop) (w : World) : Prop :=
  ∀ (l : Nat) (J Jx : List α → World → Prop) (W : World), Below w.heap.size w W →
    (∀ s A v, J s A → J s (A.setCell ⟨Bn, 0, none⟩ v)) →
    (∀ s A o, J s A → J s (A.alloc o)) → (∀ s A o, Jx s A → Jx s (A.alloc o)) →
    (∀ pre x W1, J pre W1 → Nx pre x → YieldAt F (n - 1) P l (encs x) W1 fun e W2 =>
      (e = .returned (.bool true) ∧ J (pre ++ [x]) W2 ∧ Kp W1 W2) ∨ (e = .returned (.bool false) ∧ Jx (pre ++ [x]) W2)) →
    J [] W →
    CallsIn F n P g (#[.func (.yield l) #[] #[]] ++ lb) W fun e W2 => (∃ v, e = .returned v) ∧ ((∃ xs, S xs ∧ J xs W2) ∨ (∃ pre, Sp pre ∧ Jx pre W2))

theorem range_cellN {α : Type} {g : Operand} {ps : Array Tmp} {assign body : Code} {Q : Exit → Act → World → Prop} {a : Act} {w : World}
    (hro : F.round = none) (h1 : 1 ≤ n) {gf : Nat} {lb : Array Value} (hg : a.eval g = .func (.func gf) #[] lb) (hF : F.fn gf) (eg : ∀ args w, (callFunc gf args).run P w = .ok (.enter gf args) w)
    {encs : α → Array Value} {Bn : Nat} {Kp : World → World → Prop} {S Sp : List α → Prop} {Nx : List α → α → Prop} {w0 : World} (hseq : CellSeqN F (n - 1) P gf lb encs Bn Kp S Sp Nx w0)
    (hKt : ∀ {A B C : World}, Kp A B → Kp B C → Kp A C)
    (hKb : ∀ (W : World) (l : Nat) (o o2 : Obj), w.heap.size ≤ l → W.heap[l]? = some o → o.isCells = false → Kp W (W.putObj l o2))
    (hb0 : Below w0.heap.size w0 w) (hps : ∀ x, (encs x).size = ps.size)
    (I : List α → World → Prop) (Ix : Code → List α → World → Prop) (hI : OwnFrom w.heap.size I) (hIx : ∀ c, OwnFrom w.heap.size (Ix c))
    (hIc : ∀ s A v, I s A → I s (A.setCell ⟨Bn, 0, none⟩ v)) (h0 : I [] w) (a1 : α → Act)
    (hassign : ∀ (l : Nat) (x : α) (W : World) (K : Act → World → Prop), K (a1 x) W →
      assign.wpIn (F.inRound l) (n - 1 - 1) P (Exit.then K (fun _ _ _ => False)) { tmps := (ps.zip (encs x)).foldl (fun t (p, v) => t.setIfInBounds p v) a.tmps, defers := [] } W)
    (hbody : ∀ (l : Nat) (pre : List α) (x : α) (W : World), I pre W → Nx pre x → body.wpIn (F.inRound l) (n - 1 - 1) P (bodyWay w.heap.size Kp I Ix (pre ++ [x]) W) (a1 x) W)
    (hdone : ∀ (D : Nat) (xs : List α) (W : World), w.heap.size ≤ D → S xs → I xs W → W.heap[D]? = some (.deferred (some [])) → Q .normal { a with defers := { target := .collected D, args := #[] } :: a.defers } W)
    (hstop : ∀ (D : Nat) (c : Code) (pre : List α) (W : World), w.heap.size ≤ D → Sp pre → Ix c pre W → W.heap[D]? = some (.deferred (some [])) → c.wpIn F n P Q { a with defers := { target := .collected D, args := #[] } :: a.defers } W) :
    (Code.rangeFunc g ps assign body).wpIn F n P Q a w := by
  refine wpIn_rangeFunc fun fn hfn => ?_
  rw [hro]
  obtain ⟨rec, hrec⟩ : ∃ r : LoopState → Option Code → Loop, r = fun st pe => { state := st, pending := pe, fn, tmps := a.tmps, params := ps, assign, body, defers := w.heap.size } := ⟨_, rfl⟩
  obtain ⟨V, hV⟩ : ∃ V, (w.alloc (.deferred (some []))).alloc (.loop (rec .ready none)) = V := ⟨_, rfl⟩
  have hD : V.heap[w.heap.size]? = some (.deferred (some [])) := by rw [← hV]; exact at_alloc _ (World.alloc_heap_new w _)
  have hR : V.heap[w.heap.size + 1]? = some (.loop (rec .ready none)) := by
    rw [← hV]; have h := World.alloc_heap_new (w.alloc (.deferred (some []))) (.loop (rec .ready none)); rwa [World.size_alloc] at h
  have hI0 : I [] V := by rw [← hV]; exact hI.alloc _ (hI.alloc _ h0)
  have hBV : Below w0.heap.size w0 V := by rw [← hV]; exact hb0.trans ((((Below.refl _ w).alloc (Nat.le_refl _) _).alloc (by simp) _).mono hb0.size)
  refine ⟨w.heap.size + 1, [{ target := .collected w.heap.size, args := #[] }], V, { target := .fn (.func gf) lb, args := #[.func (.yield (w.heap.size + 1)) #[] #[]] }, V, gf,
    #[.func (.yield (w.heap.size + 1)) #[] #[]] ++ lb, V, ?_, ?_, ?_, ?_, fun _ => h1, ?_⟩
  · rw [← hV, hrec]; exact run_enterLoop_outer _ _ _ _ _
  · simp only [resolve, hg]; simp [go_sem]
  · intro f2 h2; simp [Target.leads] at h2; subst h2; exact hF
  · simp [invoke, go_sem, eg]
  have hround : ∀ pre x W1, (I pre W1 ∧ W1.heap[w.heap.size + 1]? = some (.loop (rec .ready none)) ∧ W1.heap[w.heap.size]? = some (.deferred (some []))) → Nx pre x →
      YieldAt F (n - 1 - 1) P (w.heap.size + 1) (encs x) W1 fun e W2 =>
        (e = .returned (.bool true) ∧ (I (pre ++ [x]) W2 ∧ W2.heap[w.heap.size + 1]? = some (.loop (rec .ready none)) ∧ W2.heap[w.heap.size]? = some (.deferred (some []))) ∧ Kp W1 W2) ∨
        (e = .returned (.bool false) ∧ ∃ c, Ix c (pre ++ [x]) W2 ∧ W2.heap[w.heap.size + 1]? = some (.loop (rec .done (some c))) ∧ W2.heap[w.heap.size]? = some (.deferred (some []))) := by
    rintro pre x W1 ⟨hi, hl, hd⟩ hlen
    have hlt := (Array.getElem?_eq_some_iff.1 hl).1
    have hy := run_yield (P := P) (args := encs x) hl (by rw [hrec]; exact hps x)
    rw [hrec] at hy
    refine ⟨fn, _, assign, body, hy, roundIn_of_wpIn hfn (hassign _ x W1 _ ⟨_, run_beginRound hl (by rw [hrec]), ?_⟩)⟩
    generalize hW3 : W1.putObj (w.heap.size + 1) (.loop { rec .ready none with state := .busy }) = W3
    have hl3 : W3.heap[w.heap.size + 1]? = some (.loop { rec .ready none with state := .busy }) := by rw [← hW3]; exact World.putObj_heap_same hlt
    have hd3 : W3.heap[w.heap.size]? = some (.deferred (some [])) := by rw [← hW3]; exact (World.putObj_heap_other (by omega)).trans hd
    have hk3 : Kp W1 W3 := by rw [← hW3]; exact hKb _ _ _ _ (by omega) hl rfl
    have hi3 : I pre W3 := by rw [← hW3]; exact own_put hI hi (by omega) hl rfl
    have last : ∀ (j : Option Code) (W4 : World), KeepsFrom w.heap.size W3 W4 → ∃ W5, (Instr.endRound (w.heap.size + 1) j).run P W4 = .ok (.bool j.isNone) W5 ∧ W5 = W4.putObj (w.heap.size + 1) (.loop (rec (if j.isNone then .ready else .done) j)) ∧
        W4.heap[w.heap.size + 1]? = some (.loop { rec .ready none with state := .busy }) ∧
        W5.heap[w.heap.size + 1]? = some (.loop (rec (if j.isNone then .ready else .done) j)) ∧ W5.heap[w.heap.size]? = some (.deferred (some [])) := fun j W4 h4 => by
      have hl4 := h4.same _ _ (by omega) hl3 rfl
      have hd4 := h4.same _ _ (Nat.le_refl _) hd3 rfl
      have he := run_endRound (P := P) j hl4
      refine ⟨_, he, ?_, hl4, ?_, ?_⟩
      · rw [hrec]
      · rw [World.putObj_heap_same (Array.getElem?_eq_some_iff.1 hl4).1, hrec]
      · exact (World.putObj_heap_other (by omega)).trans hd4
    refine wpIn_mono (hbody _ pre x _ hi3 hlen) ?_
    rintro e a4 W4 hp
    cases e with
    | normal =>
      obtain ⟨h4, hk4, hi4⟩ := hp
      obtain ⟨W5, he, e5, hl4, hl5, hd5⟩ := last none W4 h4
      exact ⟨_, _, he, .inl ⟨rfl, ⟨by rw [e5]; exact own_put hI hi4 (by omega) hl4 rfl, hl5, hd5⟩, by rw [e5]; exact hKt (hKt hk3 hk4) (hKb _ _ _ _ (by omega) hl4 rfl)⟩⟩
    | ret =>
      obtain ⟨h4, hi4⟩ := hp
      obtain ⟨W5, he, e5, hl4, hl5, hd5⟩ := last (some .ret) W4 h4
      exact ⟨_, _, he, .inr ⟨rfl, .ret, by rw [e5]; exact own_put (hIx _) hi4 (by omega) hl4 rfl, hl5, hd5⟩⟩
    | exit i =>
      obtain ⟨h4, hi4⟩ := hp
      obtain ⟨W5, he, e5, hl4, hl5, hd5⟩ := last (some (.exit i)) W4 h4
      exact ⟨_, _, he, .inr ⟨rfl, .exit i, by rw [e5]; exact own_put (hIx _) hi4 (by omega) hl4 rfl, hl5, hd5⟩⟩
    | goto t =>
      obtain ⟨h4, hi4⟩ := hp
      obtain ⟨W5, he, e5, hl4, hl5, hd5⟩ := last (some (.goto t)) W4 h4
      exact ⟨_, _, he, .inr ⟨rfl, .goto t, by rw [e5]; exact own_put (hIx _) hi4 (by omega) hl4 rfl, hl5, hd5⟩⟩
    | panic ch => exact hp.elim
    | outgrown => exact hp.elim
  refine (hseq (w.heap.size + 1)
    (fun pre W => I pre W ∧ W.heap[w.heap.size + 1]? = some (.loop (rec .ready none)) ∧ W.heap[w.heap.size]? = some (.deferred (some [])))
    (fun pre W => ∃ c, Ix c pre W ∧ W.heap[w.heap.size + 1]? = some (.loop (rec .done (some c))) ∧ W.heap[w.heap.size]? = some (.deferred (some [])))
    V hBV (fun s A v h => ⟨hIc s A v h.1, at_other v h.2.1 rfl, at_other v h.2.2 rfl⟩)
    (fun s A o h => ⟨hI.alloc o h.1, at_alloc o h.2.1, at_alloc o h.2.2⟩)
    (fun s A o h => by obtain ⟨c, hc, hl, hd⟩ := h; exact ⟨c, (hIx c).alloc o hc, at_alloc o hl, at_alloc o hd⟩)
    hround ⟨hI0, hR, hD⟩).mono ?_
  rintro e W2 ⟨⟨v, rfl⟩, (⟨xs, hS, hi, hl, hd⟩ | ⟨pre, hSp, c, hi, hl, hd⟩)⟩
  · refine ⟨none, _, by have h := run_endLoop (P := P) hl (by rw [hrec]; simp); rw [hrec] at h; exact h, ?_⟩
    exact hdone _ xs _ (Nat.le_refl _) hS (own_put hI hi (by omega) hl rfl) ((World.putObj_heap_other (by omega)).trans hd)
  · refine ⟨some c, _, by have h := run_endLoop (P := P) hl (by rw [hrec]; simp); rw [hrec] at h; exact h, ?_⟩
    exact hstop _ c pre _ (Nat.le_refl _) hSp (own_put (hIx c) hi (by omega) hl rfl) ((World.putObj_heap_other (by omega)).trans hd)

end Go.Proofs.Ytondnammkcgjpaa
namespace Go.Proofs.Ytondnammkcgjpaa.Rng
open Go Go.Proofs Go.RowKit Go.Shelf
attribute [local go_sem] Oper.semAt_some
set_option maxRecDepth 100000 in
set_option maxHeartbeats 1000000 in
theorem powers1N (HL : LenC) (n : Nat) (hn : 1 ≤ n) (Bn : Nat) (m : Nat) (h1 : m < 2 ^ 62) (w : World) (hBn : Bn < w.heap.size) (hc : Boxed w Bn 3 (.int .i64 m)) :
    CellSeqN Fence.wide n Try.prog 82 #[.pointer (some ⟨Bn, 0, none⟩)] enc1 Bn (Keep1 Bn) (fun xs => xs = pws 64 m) (fun pre => pre <+: pws 64 m) (fun pre x => pre ++ [x] <+: pws 64 m) w := fun l J Jx W hW hJc _ _ hY hJ0 => by
  have hcW : Boxed W Bn 3 (.int .i64 m) := (hW.block Bn hBn).trans hc
  have HLH := Lib.hid HL
  clear HL
  refine callsIn_of_wp Try.func82 rfl trivial ?_ rfl
  simp only [Try.ntmps82, List.size_toArray, List.length_cons, List.length_nil, Nat.reduceAdd, Nat.reduceSub, Array.replicate_succ, Array.replicate_zero, List.push_toArray, List.append_toArray, List.nil_append, List.cons_append]
  gi_wp2
  gi_loopw [3] (fun _ wr => ∃ (f q : Nat) (pre : List Pw), f ≤ 64 ∧ q < 2 ^ f ∧ q < 2 ^ 62 ∧ Hid (pre ++ pws f q = pws 64 m) ∧ Hid (pre.length + f = 64) ∧ Boxed wr Bn 3 (.int .i64 (q : Int)) ∧ J pre wr) (fun _ wr => numAt wr Bn)
  case atStart => exact ⟨64, m, [], by omega, by omega, by omega, rfl, rfl, hcW, hJ0⟩
  case round =>
    obtain ⟨f, q, pre, hf, hq1, hq2, HP, HS, hb, hJ⟩ := hrel
    have hce := hb.cell
    by_cases hz : 0 < q
    · have hqi : (0 : Int) < (q : Int) := by omega
      have hqj : (q : Int) < 4611686018427387904 := by omega
      have hf1 : 1 ≤ f := by
        rcases Nat.eq_zero_or_pos f with h | h
        · subst h; simp at hq1; omega
        · exact h
      have hnx : pre ++ [mkPw q] <+: pws 64 m := by
        obtain ⟨f3, rfl⟩ : ∃ f2, f = f2 + 1 := ⟨f - 1, by omega⟩
        have e5 : pws (f3 + 1) q = mkPw q :: pws f3 (q - hp q) := by simp only [pws]; rw [if_neg (by omega)]
        have h6 := HP.out
        rw [e5] at h6
        exact ⟨pws f3 (q - hp q), by rw [← h6]; simp⟩
      have hq63 : q < 2 ^ 63 := by omega
      obtain ⟨fn, tmps, assign, body, hy, hR⟩ := hY pre (mkPw q) wr hJ hnx
      simp only [enc1, mkPw_1 q hq63 hz] at hy
      gi_wp2_with fail
      refine ⟨trivial, ?_⟩
      refine (callsIn_wide.2 (HLH.out q _ hq63)).mono ?_
      rintro e w2 ⟨rfl, rfl⟩
      have hsh : ∀ W2, (Op.shift .shl .i64 1 .i64 (wrap64 ((blen 64 q : Int) - 1))).run Try.prog W2 = .ok (.int .i64 (hp q : Int)) W2 := by
        intro W2
        obtain ⟨i1, i2, i3, i4⟩ := blen_bd 64 q (by omega) hz
        have hle : blen 64 q ≤ 63 := by
          rcases Nat.lt_or_ge 63 (blen 64 q) with h | h
          · have : 2 ^ 63 ≤ 2 ^ (blen 64 q - 1) := Nat.pow_le_pow_right (by decide) (by omega)
            omega
          · exact h
        have e1 : wrap64 ((blen 64 q : Int) - 1) = ((blen 64 q - 1 : Nat) : Int) := by unfold wrap64; omega
        rw [e1]
        unfold Op.shift
        have hb3 : min (((blen 64 q - 1 : Nat) : Int)).toNat IntKind.i64.bits = blen 64 q - 1 := by rw [Int.toNat_natCast]; show min _ 64 = _; omega
        have hhp := hp_bd q hq63 hz
        have e2 : IntKind.i64.wrap ((1 : Int) * 2 ^ (blen 64 q - 1)) = (hp q : Int) := by
          have e3 : (1 : Int) * 2 ^ (blen 64 q - 1) = (hp q : Int) := by rw [Int.one_mul]; exact (Int.natCast_pow 2 (blen 64 q - 1)).symm
          rw [e3]; exact IntWalk.i64_in _ (by omega)
        rw [if_neg (by omega)]
        simp only [hb3, e2]
        rfl
      have hhp := hp_bd q hq63 hz
      have g1 : (1 : Int) ≤ (hp q : Int) := by omega
      have g2 : (hp q : Int) ≤ (q : Int) := by omega
      have HH := Lib.hid hhp
      clear hhp
      gi_wp2_with fail
      refine hR.mono ?_
      rintro e W3 (⟨rfl, hJ3, hk3⟩ | ⟨rfl, hx3⟩)
      · have hb3 := hk3 _ hb
        have hc3 := hb3.cell
        have hf3 := hb3.frozen
        clear hsh
        gi_wp2_with fail
        go_roundw
        case rel =>
          obtain ⟨f, rfl⟩ : ∃ f2, f = f2 + 1 := ⟨f - 1, by omega⟩
          have hq0 : ¬ q = 0 := by omega
          have e5 : pws (f + 1) q = mkPw q :: pws f (q - hp q) := by simp only [pws]; rw [if_neg hq0]
          refine ⟨f, q - hp q, pre ++ [mkPw q], by omega, ?_, by omega, ?_, ?_, ?_, hJc _ _ _ hJ3⟩
          · have := HH.out
            rw [Nat.pow_succ] at hq1
            have h6 : hp q < 2 ^ (f + 1) := by rw [Nat.pow_succ]; omega
            obtain ⟨i1, i2, i3, i4⟩ := blen_bd 64 q (by omega) hz
            have h7 : 2 ^ (blen 64 q) ≤ 2 ^ (f + 1) := by
              unfold hp at h6
              have : blen 64 q - 1 < f + 1 := (Nat.pow_lt_pow_iff_right (by decide)).1 h6
              exact Nat.pow_le_pow_right (by decide) (by omega)
            have h8 : hp q ≤ 2 ^ f := by
              unfold hp
              have : blen 64 q ≤ f + 1 := (Nat.pow_le_pow_iff_right (by decide)).1 h7
              exact Nat.pow_le_pow_right (by decide) (by omega)
            omega
          · refine Lib.hid ?_
            have := HP.out; rw [e5] at this; rw [← this]; simp
          · refine Lib.hid ?_
            have := HS.out; rw [List.length_append]; simp; omega
          · rw [show ((q - hp q : Nat) : Int) = (q : Int) - (hp q : Int) by omega]; exact hb3.set _
        case measure =>
          rw [numAt_boxed hb, numAt_boxed (m := q - hp q) (by rw [show ((q - hp q : Nat) : Int) = (q : Int) - (hp q : Int) by omega]; exact hb3.set _)]
          have := HH.out
          omega
      · gi_wp2_with fail
        refine bodyPost_ret (results_none rfl _ _ _) rfl ?_
        obtain ⟨f, rfl⟩ : ∃ f2, f = f2 + 1 := ⟨f - 1, by omega⟩
        have e5 : pws (f + 1) q = mkPw q :: pws f (q - hp q) := by simp only [pws]; rw [if_neg (by omega)]
        exact ⟨⟨_, rfl⟩, .inr ⟨_, ⟨pws f (q - hp q), by have := HP.out; rw [e5] at this; rw [← this]; simp⟩, hx3⟩⟩
    · have hqz : (q : Int) ≤ 0 := by omega
      obtain rfl : q = 0 := by omega
      gi_wp2
      go_end0
      exact ⟨⟨_, rfl⟩, .inl ⟨_, by have := HP.out; rw [pws_zero, List.append_nil] at this; exact this, hJ⟩⟩

set_option maxRecDepth 100000 in
set_option maxHeartbeats 1000000 in
theorem powers0N (n : Nat) (_ : 1 ≤ n) (Bn : Nat) (z : Int) (hz : z ≤ 0) (w : World) (hBn : Bn < w.heap.size) (hc : Boxed w Bn 3 (.int .i64 z)) :
    CellSeqN Fence.wide n Try.prog 82 #[.pointer (some ⟨Bn, 0, none⟩)] enc1 Bn (Keep1 Bn) (fun xs => xs = []) (fun _ => True) (fun _ _ => True) w := fun l J Jx W hW hJc _ _ hY hJ0 => by
  have hcW : Boxed W Bn 3 (.int .i64 z) := (hW.block Bn hBn).trans hc
  have hce := hcW.cell
  refine callsIn_of_wp Try.func82 rfl trivial ?_ rfl
  simp only [Try.ntmps82, List.size_toArray, List.length_cons, List.length_nil, Nat.reduceAdd, Nat.reduceSub, Array.replicate_succ, Array.replicate_zero, List.push_toArray, List.append_toArray, List.nil_append, List.cons_append]
  gi_wp2
  gi_loopw [3] (fun _ wr => wr = W) (fun _ _ => 0)
  case atStart => rfl
  case round =>
    subst hrel
    gi_wp2
    go_end0
    exact ⟨⟨_, rfl⟩, .inl ⟨_, rfl, hJ0⟩⟩

end Go.Proofs.Ytondnammkcgjpaa.Rng
namespace Go.Proofs.Ytondnammkcgjpaa.Fun
open Go Go.RowKit Go.Proofs.YtondnammkcgjpaaW.PrintWords
variable {w W V X : World} {l : List Mem.Blk} {row : Option Nat}
/-- a record of a loop, or a list of deferred calls, is written; nothing else -/
def Rec (W : World) (row : Option Nat) : Prop := ∀ r, row = some r → ∃ o : Obj, W.heap[r]? = some o ∧ o.isCells = false
theorem not_cells {W : World} {k : Nat} {o : Obj} {cs : Array Value} {t : TypeId} {fr : Nat × Nat} (h : W.heap[k]? = some o) (hc : o.isCells = false) (h2 : W.heap[k]? = some (.cells cs t fr)) : False := by
  rw [h2] at h
  cases h
  simp [Obj.isCells] at hc
theorem own_rec (h : Mem.Own w W l) (hg : W.grownBy V row) (hr : Rec W row) (hn : ∀ r, row = some r → w.heap.size ≤ r) : Mem.Own w V l :=
  h.grown hg hn (fun i b hb e => by
    obtain ⟨o, ho, hc⟩ := hr b.1 e.symm
    exact not_cells ho hc (h.2.1 i b hb).2)
theorem row_rec {α : Type} {d : Kd α} (hE : d.E = []) {e : Nat} {base : Nat} {ok : Nat → Prop} {v : Value} {xs : List α} (h : d.R e W base ok v xs) (hg : W.grownBy V row) (hr : Rec W row) : d.R e V base ok v xs :=
  Kd.R_grown2 h hE hg (fun k hk ev => by
    obtain ⟨o, ho, hc⟩ := hr k hk
    obtain ⟨cs, h2⟩ := Kd.R_typed h k ev.symm
    exact not_cells ho hc h2)
theorem own_put (h : Mem.Own w W l) {D : Nat} {o : Obj} (o2 : Obj) (hD : w.heap.size ≤ D) (hd : W.heap[D]? = some o) (hc : o.isCells = false) : Mem.Own w (W.putObj D o2) l :=
  own_rec h (grownBy_putObj' W D o2) (fun r e => by cases e; exact ⟨o, hd, hc⟩) (fun r e => by cases e; exact hD)
theorem row_put {α : Type} {d : Kd α} (hE : d.E = []) {e : Nat} {base : Nat} {ok : Nat → Prop} {v : Value} {xs : List α} (h : d.R e W base ok v xs) {D : Nat} {o : Obj} (o2 : Obj) (hd : W.heap[D]? = some o) (hc : o.isCells = false) : d.R e (W.putObj D o2) base ok v xs :=
  row_rec hE h (grownBy_putObj' W D o2) (fun r e => by cases e; exact ⟨o, hd, hc⟩)
theorem keeps_below (h : Below W.heap.size W V) : KeepsOthers W V := ⟨h.size, fun k _ hk _ => (h.block k (Array.getElem?_eq_some_iff.1 hk).1).trans hk⟩
theorem keeps_row {α : Type} {d : Kd α} {e : Nat} {base : Nat} {ok : Nat → Prop} {v : Value} {xs : List α} (h : d.R e W base ok v xs) (hg : W.grownBy V v.ownBlock) : KeepsOthers W V :=
  KeepsOthers.of_grownBy hg (fun j o hj ho => by
    obtain ⟨cs, h2⟩ := Kd.R_typed h j hj
    rw [h2] at ho
    cases ho
    rfl)
theorem def_set {k : Nat} (h : W.heap[k]? = some (.deferred (some []))) (a : Addr) (v : Value) : (W.setCell a v).heap[k]? = some (.deferred (some [])) := (KeepsOthers.setCell W a v).same k _ h rfl
/-- the cell of the iterator's own, told out of the list of blocks -/
theorem own_boxed {Bn : Nat} {u : Value} {t : TypeId} (h : Mem.Own w W l) (k : Nat) (e : l[k]? = some (Bn, #[u], t)) : Boxed W Bn t u := h.blk k e
end Go.Proofs.Ytondnammkcgjpaa.Fun
namespace Go.Proofs.Ytondnammkcgjpaa.Rg
open Go Go.RowKit Go.Proofs.YtondnammkcgjpaaW.PrintWords Go.Proofs.YtondnammkcgjpaaW.PrintLast Go.Proofs.YtondnammkcgjpaaW.PrintMore
open Go.Proofs.Ytondnammkcgjpaa.ShaP Go.Proofs.Ytondnammkcgjpaa.Mk Go.Proofs.Ytondnammkcgjpaa.Rng Go.Proofs.Ytondnammkcgjpaa.Fun
set_option linter.unusedVariables false
set_option linter.unusedSimpArgs false
attribute [local go_sem] Oper.semAt_some
def rootF (l : List ByteArray) : ByteArray := rootN 100000 l
def sumP : List Pw → Nat
  | [] => 0
  | p :: r => p.1 + sumP r
theorem sumP_append (a b : List Pw) : sumP (a ++ b) = sumP a + sumP b := by
  induction a with
  | nil => simp [sumP]
  | cons p a ih => simp only [List.cons_append, sumP, ih]; omega
theorem sumP_pws (f : Nat) : ∀ m, m < 2 ^ 62 → sumP (pws f m) ≤ m := by
  induction f with
  | zero => intro m _; exact Nat.zero_le _
  | succ f ih =>
    intro m hm
    rw [pws]
    split
    · exact Nat.zero_le _
    · have h1 := hp_bd m (by omega) (by omega)
      have h2 := ih (m - hp m) (by omega)
      rw [sumP, mkPw_1 m (by omega) (by omega)]
      omega
theorem sumP_pre {pre : List Pw} {x : Pw} {m : Nat} (hm : m < 2 ^ 62) (h : pre ++ [x] <+: pws 64 m) : sumP pre + x.1 ≤ m := by
  obtain ⟨t, ht⟩ := h
  have h1 := sumP_pws 64 m hm
  rw [← ht, sumP_append, sumP_append] at h1
  simp only [sumP] at h1
  omega
/-- the roots of stretches, from a place on -/
def ofA (l : List ByteArray) : Nat → List Pw → List ByteArray
  | _, [] => []
  | a, p :: r => rootF ((l.take (a + p.1)).drop a) :: ofA l (a + p.1) r
theorem ofA_snoc (l : List ByteArray) (x : Pw) : ∀ (ps : List Pw) (a : Nat), ofA l a (ps ++ [x]) = ofA l a ps ++ [rootF ((l.take (a + sumP ps + x.1)).drop (a + sumP ps))]
  | [], a => by simp [ofA, sumP]
  | p :: ps, a => by
    rw [List.cons_append, ofA, ofA, ofA_snoc l x ps, List.cons_append]
    simp only [sumP, Nat.add_assoc]
theorem ofA_len (l : List ByteArray) : ∀ (ps : List Pw) (a : Nat), (ofA l a ps).length = ps.length
  | [], _ => rfl
  | p :: ps, a => by rw [ofA, List.length_cons, ofA_len l ps, List.length_cons]
def ofF (l : List ByteArray) : List ByteArray := ofA l 0 (pws 64 l.length)
theorem ofF_size (l : List ByteArray) : (ofF l).length ≤ 64 := by unfold ofF; rw [ofA_len]; exact pws_len 64 _
theorem pow_c (n : Int) (w : World) : Calls Try.prog 54 #[.int .i64 n] w fun e w2 => ∃ Bn, e = .returned (.func (.func 82) #[] #[.pointer (some ⟨Bn, 0, none⟩)]) ∧ Bn = w.heap.size ∧ w2.heap[Bn]? = some (.cells #[.int .i64 n] 3 (0, 0)) ∧ Below w.heap.size w w2 :=
  (powers_c n w).mono fun _ _ ⟨he, hw⟩ => ⟨w.heap.size, he, rfl, by rw [hw]; exact blk_new w _, by rw [hw]; exact below_alloc (Below.refl _ _) _⟩
theorem cut_mid (A : Option Addr) (c : Nat) (l : List ByteArray) (a b : Nat) (hab : a ≤ b) (hb : b ≤ l.length) (hc : l.length ≤ c) :
    ∃ A2 : Option Addr, (∀ W : World, (Instr.slice 22 (.slice A l.length c) (some (.int .i64 (a : Int))) (some (.int .i64 (b : Int))) none).run Try.prog W = .ok (.slice A2 ((l.take b).drop a).length (c - a)) W) ∧
      (∀ w : World, Kd.C Kd.string w A l.length l → Kd.C Kd.string w A2 ((l.take b).drop a).length ((l.take b).drop a)) ∧ ((l.take b).drop a).length ≤ c - a := by
  obtain ⟨i0, hi0, _, hsz, _⟩ := info_parts info_str
  obtain ⟨A2, h1, h2, h3⟩ := print_mid_of (P := Try.prog) Value.string (⟨#[]⟩ : ByteArray) 22 9 .i64 .i64 Try.underlying22 hi0 hsz A c l (a : Int) (b : Int) (by omega) (by omega) (by omega) hc
  simp only [Int.toNat_natCast] at h1 h2 h3
  exact ⟨A2, h1, fun w h => Kd.C_of_reads (h1 := fun _ => rfl) (h2 w (Kd.reads_of_C h)), h3⟩
/-- what holds ahead of each round -/
def OfI (w : World) (gT gL gZ gX gA Bn : Nat) (A : Option Addr) (c : Nat) (l : List ByteArray) (pre : List Pw) (W : World) : Prop :=
  ∃ v u, Mem.Own w W [(gT, TV, 31), (gL, #[.slice A l.length c], 22), (gZ, #[.int .i64 0, .slice none 0 0], 41), (gX, #[.int .i64 (l.length : Int), v], 41), (gA, #[.int .i64 (sumP pre : Int)], 3), (Bn, #[u], 3)] ∧ SR W w.heap.size v (ofA l 0 pre)
theorem ofI_from {w : World} {gT gL gZ gX gA Bn : Nat} {A : Option Addr} {c : Nat} {l : List ByteArray} {B : Nat} (hB : w.heap.size ≤ B) : OwnFrom B (OfI w gT gL gZ gX gA Bn A c l) := fun pre W V row h hg hr => by
  obtain ⟨v, u, hO, hR⟩ := h
  have hrec : Rec W row := fun r e => (hr r e).2
  exact ⟨v, u, own_rec hO hg hrec (fun r e => Nat.le_trans hB (hr r e).1), row_rec rfl hR hg hrec⟩
theorem ofI_set {w : World} {gT gL gZ gX gA Bn : Nat} {A : Option Addr} {c : Nat} {l : List ByteArray} {pre : List Pw} {W : World} (h : OfI w gT gL gZ gX gA Bn A c l pre W) (z : Value) : OfI w gT gL gZ gX gA Bn A c l pre (W.setCell ⟨Bn, 0, none⟩ z) := by
  obtain ⟨v, u, hO, hR⟩ := h
  exact ⟨v, z, hO.put 5 rfl 0 z rfl, Kd.R_set hR (hO.blk 5 rfl) (by decide) 0 z⟩
set_option maxRecDepth 100000 in
set_option maxHeartbeats 8000000 in
theorem of_c (A : Option Addr) (c : Nat) (l : List ByteArray) (w : World) (hl : l.length ≤ 1000) (hs : Sm l) (hc : l.length ≤ c) (hr : Kd.C Kd.string w A l.length l) :
    Calls Try.prog 21 #[.agg TV, .slice A l.length c] w fun e w' => ∃ v, e = .returned (.agg #[.int .i64 (l.length : Int), v]) ∧ SR w' w.heap.size v (ofF l) ∧ Below w.heap.size w w' := by
  have OW := Aside0.mk (Mem.Own.nil w)
  have HR := Aside0.mk hr
  have HC := Aside0.mk hc
  have HL := Aside0.mk hl
  have HS := Aside0.mk hs
  have HPW := Aside0.mk (pow_c (l.length : Int))
  clear hr hc hl hs
  refine (callsIn_wide (n := 5)).1 ?_
  refine callsIn_of_wp_marks Try.func21 rfl trivial ?_ rfl
  simp only [Try.ntmps21, List.size_toArray, List.length_cons, List.length_nil, Nat.reduceAdd, Nat.reduceSub, Array.replicate_succ, Array.replicate_zero, List.push_toArray, List.append_toArray, List.nil_append, List.cons_append]
  refine wpIn_wide.2 ?_
  go_wp2_with (first
    | ((with_reducible refine gate_dst (N := 2) rfl ?_); refine box_event ?hg (N := 2) ?hd (cs := TV) (t := 31) ?hr ?_; (case hd => rfl); (case hg => rfl); (case hr => first | (go_simp; done) | (go_simp; rfl)); intro gT hg W_ hb hbb; have n_ : Aside0 (Mem.Own w W_ [(gT, TV, 31)]) := ⟨OW.out.new hg hb hbb⟩; clear OW hb hbb hg; have OW := n_; clear n_)
    | ((with_reducible refine gate_dst (N := 3) rfl ?_); refine box_event ?hg (N := 3) ?hd (cs := #[.slice A l.length c]) (t := 22) ?hr ?_; (case hd => rfl); (case hg => rfl); (case hr => first | (go_simp; done) | (go_simp; rfl)); intro gL hg W_ hb hbb; have n_ : Aside0 (Mem.Own w W_ [(gT, TV, 31), (gL, #[.slice A l.length c], 22)]) := ⟨OW.out.new hg hb hbb⟩; clear OW hb hbb hg; have OW := n_; clear n_)
    | ((with_reducible refine gate_dst (N := 4) rfl ?_); refine box_event ?hg (N := 4) ?hd (cs := #[.int .i64 0, .slice none 0 0]) (t := 41) ?hr ?_; (case hd => rfl); (case hg => rfl); (case hr => first | (go_simp; done) | (go_simp; rfl)); intro gZ hg W_ hb hbb; have cL := ((OW.out.step hbb).cell 1 rfl 0).trans rfl; have n_ : Aside0 (Mem.Own w W_ [(gT, TV, 31), (gL, #[.slice A l.length c], 22), (gZ, #[.int .i64 0, .slice none 0 0], 41)]) := ⟨OW.out.new hg hb hbb⟩; clear OW hb hbb hg; have OW := n_; clear n_)
    | ((with_reducible refine gate_dst (N := 5) rfl ?_); refine box_event ?hg (N := 5) ?hd (cs := #[.int .i64 0, .slice none 0 0]) (t := 41) ?hr ?_; (case hd => rfl); (case hg => rfl); (case hr => first | (go_simp; done) | (go_simp; rfl)); intro gX hg W_ hb hbb; have x0 := (blk_cell hb 0).trans rfl; have x1 := (blk_cell hb 1).trans rfl; have y0 := blk_frozen hb 0; have y1 := blk_frozen hb 1; have n_ : Aside0 (Mem.Own w W_ [(gT, TV, 31), (gL, #[.slice A l.length c], 22), (gZ, #[.int .i64 0, .slice none 0 0], 41), (gX, #[.int .i64 0, .slice none 0 0], 41)]) := ⟨OW.out.new hg hb hbb⟩; clear OW hb hbb hg; have OW := n_; clear n_)
    | ((with_reducible refine gate_dst (N := 6) rfl ?_); refine box_event ?hg (N := 6) ?hd (cs := #[.int .i64 0]) (t := 3) ?hr ?_; (case hd => rfl); (case hg => rfl); (case hr => first | (go_simp; done) | (go_simp; rfl)); intro gA hg W_ hb hbb; have o_ := Aside0.mk ((OW.out.put 3 rfl 0 (.int .i64 (l.length : Int)) rfl).put 3 rfl 1 (.slice none 0 0) rfl); clear OW x0 x1 y0 y1 cL; have OW := o_; clear o_; have cL := (((OW.out.new hg hb hbb).put 4 rfl 0 (.int .i64 0) rfl).cell 1 rfl 0).trans rfl; have a0 := (blk_cell hb 0).trans rfl; have b0 := blk_frozen hb 0; have n_ : Aside0 (Mem.Own w W_ [(gT, TV, 31), (gL, #[.slice A l.length c], 22), (gZ, #[.int .i64 0, .slice none 0 0], 41), (gX, #[.int .i64 (l.length : Int), .slice none 0 0], 41), (gA, #[.int .i64 0], 3)]) := ⟨OW.out.new hg hb hbb⟩; clear OW hb hbb hg; have OW := n_; clear n_)
    | (go_at_call 54; with_reducible refine (HPW.out _).mono ?_; rintro e w_ ⟨Bn, rfl, hBn, hbk, hB⟩; have n_ := Aside0.mk ((OW.out.put 4 rfl 0 (.int .i64 0) rfl).new hBn hbk hB); clear OW a0 b0 cL hBn hbk hB; have OW := n_; clear n_))
  have hBn : Bn < w_.heap.size := blk_lt (OW.out.blk 5 rfl)
  refine (wpIn_wide (n := 5)).1 ?_
  refine range_cellN (α := Pw) (encs := enc1) (Nx := fun pre x => pre ++ [x] <+: pws 64 l.length) (Bn := Bn) (Kp := Keep1 Bn) rfl (by omega) (gf := 82) (lb := #[.pointer (some ⟨Bn, 0, none⟩)]) rfl trivial (enters_of Try.func82 (by kernel_rfl) rfl)
    (powers1N lenC 4 (by omega) Bn l.length (by have := HL.out; omega) w_ hBn (OW.out.blk 5 rfl)) keep1_t (fun V lp o o2 hl h hc => keep1_b (Bn := Bn) (B0 := w_.heap.size) hBn V lp o o2 hl h hc) (Below.refl _ _) (fun _ => rfl)
    (OfI w gT gL gZ gX gA Bn A c l) (fun _ _ _ => False) (ofI_from OW.out.size) (fun _ _ _ _ _ hs _ _ => hs) (fun _ _ v hs => ofI_set hs v) ⟨_, _, OW.out, Kd.R_nil _ _ _ _ _⟩
    (fun x => { tmps := #[.agg TV, .slice A l.length c, .pointer (some ⟨gT, 0, none⟩), .pointer (some ⟨gL, 0, none⟩), .pointer (some ⟨gZ, 0, none⟩), .pointer (some ⟨gX, 0, none⟩), .pointer (some ⟨gA, 0, none⟩), .int .i64 (x.1 : Int), .slice A l.length c, .int .i64 (l.length : Int), .agg #[.int .i64 (l.length : Int), .slice none 0 0], .slice A l.length c, .int .i64 (l.length : Int), .func (.func 82) #[] #[.pointer (some ⟨Bn, 0, none⟩)], .int .i64 (x.1 : Int), undef, undef, undef, undef, undef, undef, undef, undef, undef, undef, undef, undef, undef, undef, undef, undef, undef], defers := [] }) ?assign ?body ?done ?stop
  case assign =>
    intro lp x W K hK
    gi_wp2
    exact hK
  case body =>
    have HSZ := Aside0.mk OW.out.size
    clear OW hBn
    rintro lp pre x W ⟨v, u, hO, hR⟩ hnx
    have hsum := sumP_pre (by have := HL.out; omega) hnx
    have hpl : pre.length + 1 ≤ 64 := by
      have h1 := hnx.length_le
      have h2 := pws_len 64 l.length
      rw [List.length_append, List.length_singleton] at h1
      omega
    have hol := ofA_len l pre 0
    have HSN := Aside0.mk (ofA_snoc l x pre 0)
    have HSP : Aside0 (sumP (pre ++ [x]) = sumP pre + x.1) := ⟨by rw [sumP_append]; simp [sumP]⟩
    obtain ⟨p, hp⟩ : ∃ p, x.1 = p := ⟨_, rfl⟩
    obtain ⟨a, ha⟩ : ∃ a, sumP pre = a := ⟨_, rfl⟩
    obtain ⟨b, hb⟩ : ∃ b, a + p = b := ⟨_, rfl⟩
    rw [Nat.zero_add] at HSN
    rw [hp, ha, hb] at HSN HSP hsum
    rw [ha] at hO
    rw [hp]
    obtain ⟨A2, hcut, hC2, hc2⟩ := cut_mid A c l a b (by omega) hsum HC.out
    have s2 : Sm ((l.take b).drop a) := (HS.out.take b).drop a
    have l2 : ((l.take b).drop a).length ≤ 1000 := by rw [List.length_drop, List.length_take]; have := HL.out; omega
    have CS := Aside0.mk (hC2 w HR.out)
    generalize (l.take b).drop a = seg at *
    have HRT := Aside0.mk (fun W h => root_c 100000 A2 (c - a) seg W (by omega) (by omega) s2 hc2 h)
    obtain ⟨A1, c1, rfl⟩ := Kd.R_slice hR
    rw [hol] at hO hR
    generalize ofA l 0 pre = ol at *
    have hab : (a : Int) + (p : Int) = (b : Int) := by omega
    have hwb : wrap64 (b : Int) = (b : Int) := by unfold wrap64; have := HL.out; omega
    have OD := Aside0.mk hO.drew
    have HKD := Aside0.mk (KeepsOthers.drew W)
    have OO := Aside0.mk hO
    have HT := Aside0.mk (Kd.R_drew hR)
    have HOL := Aside0.mk (show ol.length ≤ 64 by omega)
    have cX1 : W.drew.cell? ⟨gX, 1, none⟩ = some (.slice A1 pre.length c1) := (OD.out.cell 3 rfl 1).trans rfl
    have cL0 : W.drew.cell? ⟨gL, 0, none⟩ = some (.slice A l.length c) := (OD.out.cell 1 rfl 0).trans rfl
    have cA0 : W.drew.cell? ⟨gA, 0, none⟩ = some (.int .i64 (a : Int)) := (OD.out.cell 4 rfl 0).trans rfl
    clear hO hR hsum hpl hol hb hC2 s2 l2 hc2 hnx ha hp
    gi_wp2_with fail
    refine InR.startIn_ (m := 14) (S := fun w' => Below (W).drew.heap.size (W).drew w') (ds := [11, 13]) #[false, false, false, false, false, false, false, false, false, false, false, false, false, false] (by kernel_rfl) (by rintro ⟨_, _, h⟩; exact h) (by kernel_rfl) rfl rfl (Below.refl _ _) (fun hHeld => ?_)
    generalize (W).drew = W0 at *
    refine pure_ (i := 0) (N := (some 15)) (v := ?_) (a' := ?_) #[true, false, false, false, false, false, false, false, false, false, false, false, false, false] rfl rfl (by kernel_rfl) (fun _ _ _ h => h) (Or.inl ⟨by rfl, ?_⟩) ?_ ?_
    rotate_left
    · intro w'
      go_simp
      first | done | with_reducible rfl
    rotate_left
    · simp only [Act.put, List.setIfInBounds_toArray, List.set_cons_zero, List.set_cons_succ, i64_w, i32_w]
      rfl
    refine take_ (i := 1) (N := (some 16)) (v := ?_) (a' := ?_) #[true, true, false, false, false, false, false, false, false, false, false, false, false, false] rfl rfl (by kernel_rfl) (fun _ _ _ h => h) (Or.inl ⟨by rfl, ?_⟩) hHeld ?_ ?_
    rotate_left
    · intro w' hS
      have s0 := pw_cell_below hS cX1
      go_simp
      first | done | with_reducible rfl
    rotate_left
    · simp only [Act.put, List.setIfInBounds_toArray, List.set_cons_zero, List.set_cons_succ, i64_w, i32_w]
      rfl
    refine take_ (i := 2) (N := (some 17)) (a' := ?_) #[true, true, true, false, false, false, false, false, false, false, false, false, false, false] rfl rfl (by kernel_rfl) (fun _ _ _ h => h) (yields_tab (by rfl) (.tmp 2) rfl gT rfl (fun w' hS => hS) (OD.out.blk 0 rfl)) hHeld ?_ ?_
    rotate_left
    · simp only [Act.put, List.setIfInBounds_toArray, List.set_cons_zero, List.set_cons_succ, i64_w, i32_w]
      rfl
    refine take_ (i := 3) (N := (some 18)) (v := ?_) (a' := ?_) #[true, true, true, true, false, false, false, false, false, false, false, false, false, false] rfl rfl (by kernel_rfl) (fun _ _ _ h => h) (Or.inl ⟨by rfl, ?_⟩) hHeld ?_ ?_
    rotate_left
    · intro w' hS
      have s0 := pw_cell_below hS cL0
      go_simp
      first | done | with_reducible rfl
    rotate_left
    · simp only [Act.put, List.setIfInBounds_toArray, List.set_cons_zero, List.set_cons_succ, i64_w, i32_w]
      rfl
    refine take_ (i := 4) (N := (some 19)) (v := ?_) (a' := ?_) #[true, true, true, true, true, false, false, false, false, false, false, false, false, false] rfl rfl (by kernel_rfl) (fun _ _ _ h => h) (Or.inl ⟨by rfl, ?_⟩) hHeld ?_ ?_
    rotate_left
    · intro w' hS
      have s0 := pw_cell_below hS cA0
      go_simp
      first | done | with_reducible rfl
    rotate_left
    · simp only [Act.put, List.setIfInBounds_toArray, List.set_cons_zero, List.set_cons_succ, i64_w, i32_w]
      rfl
    refine take_ (i := 5) (N := (some 20)) (v := ?_) (a' := ?_) #[true, true, true, true, true, true, false, false, false, false, false, false, false, false] rfl rfl (by kernel_rfl) (fun _ _ _ h => h) (Or.inl ⟨by rfl, ?_⟩) hHeld ?_ ?_
    rotate_left
    · intro w' hS
      have s0 := pw_cell_below hS cA0
      go_simp
      first | done | with_reducible rfl
    rotate_left
    · simp only [Act.put, List.setIfInBounds_toArray, List.set_cons_zero, List.set_cons_succ, i64_w, i32_w]
      rfl
    refine pure_ (i := 6) (N := (some 21)) (v := ?_) (a' := ?_) #[true, true, true, true, true, true, true, false, false, false, false, false, false, false] rfl rfl (by kernel_rfl) (fun _ _ _ h => h) (Or.inl ⟨by rfl, ?_⟩) ?_ ?_
    rotate_left
    · intro w'
      go_simp
      first | done | with_reducible rfl
    rotate_left
    · simp only [Act.put, List.setIfInBounds_toArray, List.set_cons_zero, List.set_cons_succ, i64_w, i32_w]
      rfl
    refine pure_ (i := 7) (N := (some 22)) (v := ?_) (a' := ?_) #[true, true, true, true, true, true, true, true, false, false, false, false, false, false] rfl rfl (by kernel_rfl) (fun _ _ _ h => h) (Or.inl ⟨by rfl, ?_⟩) ?_ ?_
    rotate_left
    · intro w'
      go_simp
      first | done | with_reducible rfl
    rotate_left
    · simp only [Act.put, List.setIfInBounds_toArray, List.set_cons_zero, List.set_cons_succ, i64_w, i32_w]
      rfl
    refine pure_ (i := 8) (N := (some 23)) (v := ?_) (a' := ?_) #[true, true, true, true, true, true, true, true, true, false, false, false, false, false] rfl rfl (by kernel_rfl) (fun _ _ _ h => h) (Or.inl ⟨by rfl, ?_⟩) ?_ ?_
    rotate_left
    · intro w'
      go_simp
      first | done | with_reducible rfl
    rotate_left
    · simp only [Act.put, List.setIfInBounds_toArray, List.set_cons_zero, List.set_cons_succ, i64_w, i32_w]
      rfl
    refine one_ (i := 9) (N := (some 24)) #[true, true, true, true, true, true, true, true, true, true, false, false, false, false] rfl rfl (by kernel_rfl) (by decide) (fun K hK => ?_)
    refine goes_ Try.func30 (by kernel_rfl) rfl #[.agg TV, .slice A2 seg.length (c - a)] (by rfl) rfl rfl (by (try simp only [List.map_toArray, List.map_cons, List.map_nil]); first | done | rfl) ?_
    with_reducible refine (HRT.out _ (Kd.C_below CS.out OD.out.below)).mono ?_
    rintro e w1 ⟨rfl, hB⟩
    refine ⟨_, rfl, ?_⟩
    have hS2 : Below W0.heap.size W0 w1 := hB
    clear hB
    refine hK.out _ _ hS2 (fun hHeld => ?_)
    clear hK K
    refine norm_ (a' := ?_) ?_ ?_
    rotate_left
    · show Act.put _ (some 24) _ = _
      simp only [Act.put, List.setIfInBounds_toArray, List.set_cons_zero, List.set_cons_succ, i64_w, i32_w]
      rfl
    refine one_ (i := 10) (N := (some 25)) #[true, true, true, true, true, true, true, true, true, true, true, false, false, false] rfl rfl (by kernel_rfl) (by decide) (fun K hK => ?_)
    refine value_ (v := .slice (some ⟨w1.heap.size, 0, none⟩) 1 1) (w1 := w1.alloc (.cells #[.string (rootN 100000 seg)] 9)) (by rfl) rfl (by first | (go_simp; done) | (go_simp; rfl)) ?_
    have hS2 : Below W0.heap.size W0 (w1.alloc (.cells #[.string (rootN 100000 seg)] 9)) := below_alloc hHeld _
    have HH1 := Aside0.mk hHeld
    clear hHeld
    refine hK.out _ _ hS2 (fun hHeld => ?_)
    clear hK K
    refine norm_ (a' := ?_) ?_ ?_
    rotate_left
    · show Act.put _ (some 25) _ = _
      simp only [Act.put, List.setIfInBounds_toArray, List.set_cons_zero, List.set_cons_succ, i64_w, i32_w]
      rfl
    refine last_ (i := 11) (N := (some 26)) #[true, true, true, true, true, true, true, true, true, true, true, true, false, false] rfl rfl (by kernel_rfl) (by decide) (fun K hK => ?_)
    have O1 := Aside0.mk (OD.out.step HH1.out)
    have HT1 := Aside0.mk (Kd.R_below HT.out HH1.out)
    refine Kd.R_append_step (P := Try.prog) Kd.string (w0 := w) (W := w1) w.heap.size (by rfl) (.tmp 16) (.tmp 25) 22 9 (.string ⟨#[]⟩) 16 rfl Try.underlying22 info_str rfl (by decide) (by decide) (.slice A1 pre.length c1) ol (rootN 100000 seg) [.string (rootN 100000 seg)] (fun _ => True) (fun _ => False) rfl rfl rfl (fun _ h => h.elim) (fun _ _ => trivial) HT1.out O1.out.below O1.out.size (by have := HOL.out; omega) ?_
    intro v1 w2 hr1 hb1 hg1 hat1
    obtain ⟨A3, c3, e1⟩ := Kd.R_slice hr1
    generalize (ol ++ [rootN 100000 seg]).length = m1 at e1
    subst e1
    have OW := Aside0.mk (O1.out.grown hg1 (fun k hk => Kd.R_base HT1.out k hk) (fun i b hb => by
      rcases i with _ | _ | _ | _ | _ | _ | i
      · cases hb; exact fun e => Kd.R_ne HT1.out (O1.out.blk 0 rfl) (by decide) e
      · cases hb; exact fun e => Kd.R_ne HT1.out (O1.out.blk 1 rfl) (by decide) e
      · cases hb; exact fun e => Kd.R_ne HT1.out (O1.out.blk 2 rfl) (by decide) e
      · cases hb; exact fun e => Kd.R_ne HT1.out (O1.out.blk 3 rfl) (by decide) e
      · cases hb; exact fun e => Kd.R_ne HT1.out (O1.out.blk 4 rfl) (by decide) e
      · cases hb; exact fun e => Kd.R_ne HT1.out (O1.out.blk 5 rfl) (by decide) e
      · cases hb))
    have HV := Aside0.mk hr1
    have HK : Aside0 (KeepsOthers W w2) := ⟨(HKD.out.trans (keeps_below HH1.out)).trans (keeps_row HT1.out hg1)⟩
    have z1 := (OW.out.cell 3 rfl 1).trans rfl
    have y1 := OW.out.frozen 3 rfl 1
    clear hr1 hb1 hg1 hat1 OD O1 HT HT1 HH1 cX1 cL0 cA0
    refine hK.out _ _ ?_
    clear hK K
    refine norm_ (a' := ?_) ?_ ?_
    rotate_left
    · show Act.put _ (some 26) _ = _
      simp only [Act.put, List.setIfInBounds_toArray, List.set_cons_zero, List.set_cons_succ, i64_w, i32_w]
      rfl
    refine pure_ (i := 12) (N := (some 27)) (v := ?_) (a' := ?_) #[true, true, true, true, true, true, true, true, true, true, true, true, true, false] rfl rfl (by kernel_rfl) (fun _ _ _ h => h) (Or.inl ⟨by rfl, ?_⟩) ?_ ?_
    rotate_left
    · intro w'
      go_simp
      first | done | with_reducible rfl
    rotate_left
    · simp only [Act.put, List.setIfInBounds_toArray, List.set_cons_zero, List.set_cons_succ, i64_w, i32_w]
      rfl
    refine last_ (i := 13) (N := none) #[true, true, true, true, true, true, true, true, true, true, true, true, true, true] rfl rfl (by kernel_rfl) (by decide) (fun K hK => ?_)
    refine skip_ (by rfl) rfl (by first | (go_simp; done) | (go_simp; rfl)) ?_
    refine hK.out _ _ ?_
    clear hK K
    refine done_ (by kernel_rfl) ?_
    have O2 := Aside0.mk (OW.out.put 3 rfl 1 (.slice A3 m1 c3) rfl)
    have HV2 := Aside0.mk (Kd.R_set HV.out (OW.out.blk 3 rfl) (by decide) 1 (.slice A3 m1 c3))
    have aC := (O2.out.cell 4 rfl 0).trans rfl
    have aF := O2.out.frozen 4 rfl 0
    clear z1 y1
    gi_wp2_with fail
    have O3 := O2.out.put 4 rfl 0 (.int .i64 (b : Int)) rfl
    have HV3 := Kd.R_set HV2.out (O2.out.blk 4 rfl) (by decide) 0 (.int .i64 (b : Int))
    refine ⟨((HK.out.trans (KeepsOthers.setCell _ _ _)).trans (KeepsOthers.setCell _ _ _)).from _, ?_, ?_⟩
    · intro z hz
      have h1 : Boxed W Bn 3 u := OO.out.blk 5 rfl
      have h2 : z = u := by
        unfold Boxed at hz h1
        rw [hz] at h1
        injection h1 with h1
        injection h1 with h1
        simpa using h1
      rw [h2]
      exact O3.blk 5 rfl
    · exact ⟨_, u, by rw [HSP.out]; exact O3, by rw [HSN.out]; exact HV3⟩
  case done =>
    have HSZ := Aside0.mk OW.out.size
    clear OW hBn
    rintro D xs W hD rfl ⟨v, u, hO, hR⟩ hK
    obtain ⟨A1, c1, rfl⟩ := Kd.R_slice hR
    generalize (ofA l 0 (pws 64 l.length)).length = m1 at hO hR
    have OO := Aside0.mk hO
    have HK := Aside0.mk hK
    have x0 := (hO.cell 3 rfl 0).trans rfl
    have x1 := (hO.cell 3 rfl 1).trans rfl
    have z0 := (hO.cell 2 rfl 0).trans rfl
    have z1 := (hO.cell 2 rfl 1).trans rfl
    have y0 := hO.frozen 2 rfl 0
    have y1 := hO.frozen 2 rfl 1
    clear hO hK
    go_wp2_with fail
    have hD2 : w.heap.size ≤ D := Nat.le_trans HSZ.out hD
    have O2 := (OO.out.put 2 rfl 0 (.int .i64 (l.length : Int)) rfl).put 2 rfl 1 (.slice A1 m1 c1) rfl
    have R2 := Kd.R_set (Kd.R_set hR (OO.out.blk 2 rfl) (by decide) 0 (.int .i64 (l.length : Int))) ((OO.out.put 2 rfl 0 (.int .i64 (l.length : Int)) rfl).blk 2 rfl) (by decide) 1 (.slice A1 m1 c1)
    have hK2 := def_set (def_set HK.out ⟨gZ, 0, none⟩ (.int .i64 (l.length : Int))) ⟨gZ, 1, none⟩ (.slice A1 m1 c1)
    have O3 := Fun.own_put O2 (Obj.deferred none) hD2 hK2 rfl
    have R3 := Fun.row_put rfl R2 (Obj.deferred none) hK2 rfl
    refine ⟨by simp, .inl ⟨_, _, rfl, run_takeDeferred hK2, ?_⟩⟩
    exact ⟨_, results_cell_row (p := 4) (ty := 41) rfl _ _ gZ 41 _ _ _ rfl (O3.blk 2 rfl) Try.underlying41 rfl (by kernel_rfl), _, rfl, R3, O3.below⟩
  case stop =>
    rintro D c pre W _ _ h _
    exact h.elim
end Go.Proofs.Ytondnammkcgjpaa.Rg
namespace Go.Proofs.Ytondnammkcgjpaa.Rg
open Go Go.RowKit Go.Shelf Go.Proofs.YtondnammkcgjpaaW.PrintWords Go.Proofs.YtondnammkcgjpaaW.PrintLast Go.Proofs.YtondnammkcgjpaaW.PrintMore
open Go.Proofs.Ytondnammkcgjpaa.ShaP Go.Proofs.Ytondnammkcgjpaa.Mk Go.Proofs.Ytondnammkcgjpaa.Rng Go.Proofs.Ytondnammkcgjpaa.Fun
set_option linter.unusedVariables false
set_option linter.unusedSimpArgs false
attribute [local go_sem] Oper.semAt_some
/-- the texts from the end, each with its place -/
def bkN (l : List ByteArray) : Nat → List (Nat × ByteArray)
  | 0 => []
  | k + 1 => (k, l.getD k ByteArray.empty) :: bkN l k
abbrev enc2 (x : Nat × ByteArray) : Array Value := #[.int .i64 (x.1 : Int), .string x.2]
/-- what a round must leave as it was -/
def KpB (Bn : Nat) (A : Option Addr) (c : Nat) (l : List ByteArray) (V W : World) : Prop :=
  (Boxed V Bn 22 (.slice A l.length c) ∧ Kd.C Kd.string V A l.length l) → (Boxed W Bn 22 (.slice A l.length c) ∧ Kd.C Kd.string W A l.length l)
theorem kpB_t {Bn : Nat} {A : Option Addr} {c : Nat} {l : List ByteArray} {U V W : World} (h : KpB Bn A c l U V) (k : KpB Bn A c l V W) : KpB Bn A c l U W := fun q => k (h q)
theorem c_put {W : World} {A : Option Addr} {l : List ByteArray} (h : Kd.C Kd.string W A l.length l) {D : Nat} {o : Obj} (o2 : Obj) (hd : W.heap[D]? = some o) (hc : o.isCells = false) : Kd.C Kd.string (W.putObj D o2) A l.length l := by
  have h1 := Kd.reads_of_C (enc := Value.string) (d := ByteArray.empty) (h1 := fun _ => rfl) h
  refine Kd.C_of_reads (enc := Value.string) (d := ByteArray.empty) (h1 := fun _ => rfl) ⟨h1.1, h1.2.1, fun hn => ?_⟩
  obtain ⟨ad, e, hcell⟩ := h1.2.2 hn
  refine ⟨ad, e, fun j hj => ?_⟩
  have hc2 := hcell j hj
  have hne : (ad.add j).block ≠ D := by
    intro e2
    unfold World.cell? at hc2
    rw [e2, hd] at hc2
    cases o <;> simp_all [Obj.isCells]
  unfold World.cell? at hc2 ⊢
  rw [World.putObj_heap_other hne]
  exact hc2
theorem kpB_b {Bn : Nat} {A : Option Addr} {c : Nat} {l : List ByteArray} (W : World) (D : Nat) (o o2 : Obj) (hd : W.heap[D]? = some o) (hc : o.isCells = false) : KpB Bn A c l W (W.putObj D o2) := fun ⟨h1, h2⟩ =>
  ⟨(World.putObj_heap_other (fun e => by
    unfold Boxed at h1
    rw [e] at h1
    exact not_cells hd hc h1)).trans h1, c_put h2 o2 hd hc⟩
set_option maxRecDepth 100000 in
set_option maxHeartbeats 1000000 in
theorem back_c (A : Option Addr) (n c : Nat) (w : World) : Calls Try.prog 59 #[.slice A n c] w fun e w2 => ∃ Bn, e = .returned (.func (.func 87) #[] #[.pointer (some ⟨Bn, 0, none⟩)]) ∧ Bn = w.heap.size ∧ w2.heap[Bn]? = some (.cells #[.slice A n c] 22 (0, 0)) ∧ Below w.heap.size w w2 := by
  go_enter Try.func59, Try.ntmps59
  go_wp2
  go_ret
  exact ⟨w.heap.size, rfl, rfl, blk_new w _, below_alloc (Below.refl _ _) _⟩
set_option maxRecDepth 100000 in
set_option maxHeartbeats 2000000 in
theorem backN (n : Nat) (hn : 1 ≤ n) (Bn : Nat) (A : Option Addr) (c : Nat) (l : List ByteArray) (w : World) (hl : l.length ≤ 1000000) (hBn : Bn < w.heap.size) (hb : Boxed w Bn 22 (.slice A l.length c)) (hr : Kd.C Kd.string w A l.length l) :
    CellSeqN Fence.wide n Try.prog 87 #[.pointer (some ⟨Bn, 0, none⟩)] enc2 Bn (KpB Bn A c l) (fun xs => xs = bkN l l.length) (fun pre => pre <+: bkN l l.length) (fun pre x => pre ++ [x] <+: bkN l l.length) w := fun lp J Jx W hW hJc _ _ hY hJ0 => by
  have hbW : Boxed W Bn 22 (.slice A l.length c) := (hW.block Bn hBn).trans hb
  have HCW := Aside0.mk (Kd.C_below hr hW)
  have hce := hbW.cell
  have HBW := Aside0.mk hbW
  have HL := Aside0.mk hl
  have hll : (l.length : Int) ≤ 1000000 := by omega
  clear hr hb hBn hW hl
  refine callsIn_of_wp Try.func87 rfl trivial ?_ rfl
  simp only [Try.ntmps87, List.size_toArray, List.length_cons, List.length_nil, Nat.reduceAdd, Nat.reduceSub, Array.replicate_succ, Array.replicate_zero, List.push_toArray, List.append_toArray, List.nil_append, List.cons_append]
  gi_wp2
  gi_loopw [3] (fun v3 wr => ∃ (k : Nat) (z : Int) (pre : List (Nat × ByteArray)), v3 = .int .i64 z ∧ k ≤ l.length ∧ Aside0 (z = (k : Int) - 1) ∧ Hid (pre ++ bkN l k = bkN l l.length) ∧ Aside0 (Boxed wr Bn 22 (.slice A l.length c) ∧ Kd.C Kd.string wr A l.length l) ∧ J pre wr) (fun v3 _ => (intOf v3 + 1).toNat)
  case atStart => exact ⟨l.length, (l.length : Int) - 1, [], rfl, Nat.le_refl _, ⟨rfl⟩, rfl, ⟨HBW.out, HCW.out⟩, hJ0⟩
  case round =>
    clear HBW HCW hce
    obtain ⟨k, z, pre, rfl, hk, HZ, HP, HB, hJ⟩ := hrel
    have hce := HB.out.1.cell
    by_cases h0 : 0 < k
    · obtain ⟨q, rfl⟩ : ∃ q, k = q + 1 := ⟨k - 1, by omega⟩
      obtain rfl : z = (q : Int) := by have := HZ.out; omega
      have hq1 : (q : Int) < (l.length : Int) := by omega
      obtain ⟨ad, e, hx⟩ := Kd.at_string HB.out.2 (q : Int) (by omega) hq1
      cases e
      rw [Int.toNat_natCast] at hx
      have hg : rdOf ByteArray.empty l (q : Int) = l.getD q ByteArray.empty := rfl
      rw [hg] at hx
      have hnx : pre ++ [(q, l.getD q ByteArray.empty)] <+: bkN l l.length := by
        have h6 := HP.out
        rw [bkN] at h6
        exact ⟨bkN l q, by rw [← h6]; simp⟩
      have HP2 := Lib.hid (show (pre ++ [(q, l.getD q ByteArray.empty)]) ++ bkN l q = bkN l l.length by have h6 := HP.out; rw [bkN] at h6; rw [← h6]; simp)
      generalize l.getD q ByteArray.empty = h at *
      obtain ⟨fn, tmps, assign, body, hy, hR⟩ := hY pre (q, h) wr hJ hnx
      have HNX := Aside0.mk hnx
      simp only [enc2] at hy
      clear hY HP HZ h0 hnx hg
      gi_wp2_with fail
      refine hR.mono ?_
      rintro e W3 (⟨rfl, hJ3, hk3⟩ | ⟨rfl, hx3⟩)
      · have hb3 := hk3 HB.out
        gi_wp2_with fail
        go_roundw
        case rel => exact ⟨q, (q : Int) - 1, pre ++ [(q, h)], rfl, by omega, ⟨rfl⟩, HP2, ⟨hb3⟩, hJ3⟩
        case measure => simp [intOf]
      · gi_wp2_with fail
        refine bodyPost_ret (results_none rfl _ _ _) rfl ?_
        exact ⟨⟨_, rfl⟩, .inr ⟨_, HNX.out, hx3⟩⟩
    · obtain rfl : k = 0 := by omega
      obtain rfl : z = -1 := by have := HZ.out; omega
      clear hY
      gi_wp2
      go_end0
      exact ⟨⟨_, rfl⟩, .inl ⟨_, by have := HP.out; rw [bkN, List.append_nil] at this; exact this, hJ⟩⟩
end Go.Proofs.Ytondnammkcgjpaa.Rg
namespace Go.Proofs.Ytondnammkcgjpaa.InR
open Go Go.Proofs.YtondnammkcgjpaaW.PrintLast
/-- a region in the order of its text, written out -/
theorem lit_in {P : Program} {Q : Exit → Act → World → Prop} {n l : Nat} {a : Act} {w : World} {id : Nat} {ops : List Oper} (hQ : ¬ LetsOut Q) (hd : ops.all notDefer = true) (h : wpList P ops.toArray Q ops a w) : (Code.region id ops.toArray false).wpIn (Fence.wide.inRound l) n P Q a w :=
  wpIn_region_lit (list_in hQ ops a w hd h)
end Go.Proofs.Ytondnammkcgjpaa.InR
namespace Go.Proofs.Ytondnammkcgjpaa.Rg
open Go Go.RowKit Go.Shelf Go.Proofs.YtondnammkcgjpaaW.PrintWords Go.Proofs.YtondnammkcgjpaaW.PrintLast Go.Proofs.YtondnammkcgjpaaW.PrintMore
open Go.Proofs.Ytondnammkcgjpaa.ShaP Go.Proofs.Ytondnammkcgjpaa.Mk Go.Proofs.Ytondnammkcgjpaa.Rng Go.Proofs.Ytondnammkcgjpaa.Fun
set_option linter.unusedVariables false
set_option linter.unusedSimpArgs false
attribute [local go_sem] Oper.semAt_some
/-- the roots put together, from the end on: those that come (the last one first) onto x -/
def backF : List (Nat × ByteArray) → ByteArray → ByteArray
  | [], x => x
  | p :: r, x => backF r (pairF p.2 x)
theorem backF_snoc (a : List (Nat × ByteArray)) (p : Nat × ByteArray) : ∀ x, backF (a ++ [p]) x = pairF p.2 (backF a x) := by
  induction a with
  | nil => intro x; rfl
  | cons q a ih => intro x; exact ih (pairF q.2 x)
theorem backF_size (a : List (Nat × ByteArray)) : ∀ x : ByteArray, x.size ≤ 1000 → (backF a x).size ≤ 1000 := by
  induction a with
  | nil => intro x h; exact h
  | cons q a ih => intro x _; exact ih _ (by rw [pairF_size]; omega)
def rootR (L : List ByteArray) : ByteArray := match L.getLast? with
  | none => Ref01.sumF ⟨#[]⟩
  | some x => backF (bkN L.dropLast L.dropLast.length) x
theorem bkN_mem (l : List ByteArray) (hs : Sm l) : ∀ k, ∀ p ∈ bkN l k, p.2.size ≤ 1000
  | 0, p, h => by simp [bkN] at h
  | k + 1, p, h => by
    rw [bkN] at h
    rcases List.mem_cons.1 h with rfl | h
    · show (l.getD k ByteArray.empty).size ≤ 1000
      rw [List.getD_eq_getElem?_getD]
      cases hk : l[k]? with
      | none => exact Nat.zero_le _
      | some y => exact hs y (List.mem_of_getElem? hk)
    · exact bkN_mem l hs k p h
def RtI (w : World) (gT gR gX Bn : Nat) (A : Option Addr) (R : Int) (n c : Nat) (l0 : List ByteArray) (x : ByteArray) (pre : List (Nat × ByteArray)) (W : World) : Prop :=
  ∃ u, Mem.Own w W [(gT, TV, 31), (gR, #[.int .i64 R, .slice A n c], 41), (gX, #[.string (backF pre x)], 9), (Bn, #[u], 22)]
theorem rtI_from {w : World} {gT gR gX Bn : Nat} {A : Option Addr} {R : Int} {n c : Nat} {l0 : List ByteArray} {x : ByteArray} {B : Nat} (hB : w.heap.size ≤ B) : OwnFrom B (RtI w gT gR gX Bn A R n c l0 x) := fun pre W V row h hg hr => by
  obtain ⟨u, hO⟩ := h
  exact ⟨u, own_rec hO hg (fun r e => (hr r e).2) (fun r e => Nat.le_trans hB (hr r e).1)⟩
theorem rtI_set {w : World} {gT gR gX Bn : Nat} {A : Option Addr} {R : Int} {n c : Nat} {l0 : List ByteArray} {x : ByteArray} {pre : List (Nat × ByteArray)} {W : World} (h : RtI w gT gR gX Bn A R n c l0 x pre W) (z : Value) : RtI w gT gR gX Bn A R n c l0 x pre (W.setCell ⟨Bn, 0, none⟩ z) := by
  obtain ⟨u, hO⟩ := h
  exact ⟨z, hO.put 3 rfl 0 z rfl⟩
set_option maxRecDepth 100000 in
set_option maxHeartbeats 4000000 in
theorem rroot_nil (R : Int) (A : Option Addr) (c : Nat) (w : World) :
    Calls Try.prog 29 #[.agg TV, .agg #[.int .i64 R, .slice A 0 c]] w fun e w' => e = .returned (.string (rootR [])) ∧ Below w.heap.size w w' := by
  have OW := Aside0.mk (Mem.Own.nil w)
  have HI := Aside0.mk info_tab
  have HS := Aside0.mk (fun W => sha_c ⟨#[]⟩ (by decide) W)
  go_enter Try.func29, Try.ntmps29
  go_wp2_with (first
    | ((with_reducible refine gate_dst (N := 2) rfl ?_); refine box_event ?hg (N := 2) ?hd (cs := TV) (t := 31) ?hr ?_; (case hd => rfl); (case hg => rfl); (case hr => first | (go_simp; done) | (go_simp; rfl)); intro gT hg W_ hb hbb; have n_ : Aside0 (Mem.Own w W_ [(gT, TV, 31)]) := ⟨OW.out.new hg hb hbb⟩; clear OW hb hbb hg; have OW := n_; clear n_)
    | ((with_reducible refine gate_dst (N := 3) rfl ?_); refine box_event ?hg (N := 3) ?hd (cs := #[.int .i64 R, .slice A 0 c]) (t := 41) ?hr ?_; (case hd => rfl); (case hg => rfl); (case hr => first | (go_simp; done) | (go_simp; rfl)); intro gR hg W_ hb hbb; have c1 := (blk_cell hb 1).trans rfl; have n_ : Aside0 (Mem.Own w W_ [(gT, TV, 31), (gR, #[.int .i64 R, .slice A 0 c], 41)]) := ⟨OW.out.new hg hb hbb⟩; clear OW hb hbb hg; have OW := n_; clear n_)
    | ((with_reducible refine gate_dst (N := 12) rfl ?_); refine wpList_load_row rfl 31 (.tmp 2) rfl gT rfl 31 TV (0, 0) _ (OW.out.blk 0 rfl) Try.underlying31 rfl HI.out ?_)
    | (go_at_call 58; with_reducible refine (HS.out _).mono ?_; rintro e w_ ⟨rfl, hB⟩; have OB := Aside0.mk (below_step OW.out.below hB); clear OW hB))
  go_ret
  exact ⟨rfl, OB.out⟩
set_option maxRecDepth 100000 in
set_option maxHeartbeats 8000000 in
theorem rroot_c (R : Int) (A : Option Addr) (c q : Nat) (l0 : List ByteArray) (x : ByteArray) (w : World) (hq : l0.length = q) (hl : q ≤ 1000) (hs : Sm (l0 ++ [x])) (hc : q + 1 ≤ c) (hr : Kd.C Kd.string w A (q + 1) (l0 ++ [x])) :
    Calls Try.prog 29 #[.agg TV, .agg #[.int .i64 R, .slice A ((q + 1 : Nat)) c]] w fun e w' => e = .returned (.string (rootR (l0 ++ [x]))) ∧ Below w.heap.size w w' := by
  have OW := Aside0.mk (Mem.Own.nil w)
  have HI := Aside0.mk info_tab
  have HX : Aside0 (rootR (l0 ++ [x]) = backF (bkN l0 q) x) := ⟨by unfold rootR; rw [List.getLast?_concat]; simp only [List.dropLast_concat, hq]⟩
  have hlen : (l0 ++ [x]).length = q + 1 := by rw [List.length_append, hq]; rfl
  have hr2 : Kd.C Kd.string w A (l0 ++ [x]).length (l0 ++ [x]) := by rw [hlen]; exact hr
  obtain ⟨ad, e, hx⟩ := Kd.at_string hr2 (q : Int) (by omega) (by rw [hlen]; omega)
  cases e
  rw [rdOf_last l0 x q hq, Int.toNat_natCast] at hx
  obtain ⟨hcut, hC, hc2⟩ := cut_take (some ad) c (l0 ++ [x]) q (by rw [hlen]; omega) (by rw [hlen]; exact hc)
  have htk : (l0 ++ [x]).take q = l0 := by rw [← hq]; simp
  have HCL := hC w hr2
  rw [htk] at hcut HCL
  rw [hlen, hq] at hcut
  obtain ⟨m, hm⟩ : ∃ m, q + 1 = m := ⟨_, rfl⟩
  rw [hm] at hcut ⊢
  have hmq : (m : Int) - 1 = (q : Int) := by omega
  have hwq : wrap64 (q : Int) = (q : Int) := by unfold wrap64; omega
  have hq1 : (q : Int) < (m : Int) := by omega
  have m0 : ((m : Int) == 0) = false := by rw [beq_eq_false_iff_ne]; omega
  have HC := Aside0.mk HCL
  have HXA := Aside0.mk hx
  have HXS : Aside0 (x.size ≤ 1000) := ⟨hs x (by simp)⟩
  have HS0 : Aside0 (Sm l0) := ⟨fun s h => hs s (by simp [h])⟩
  have HQ := Aside0.mk hq
  have HL := Aside0.mk hl
  have HBK := Aside0.mk (fun W => back_c (some ad) q c W)
  clear hr hr2 hlen hC hc2 htk HCL hm hx hs hc hq hl
  refine (callsIn_wide (n := 5)).1 ?_
  refine callsIn_of_wp_marks Try.func29 rfl trivial ?_ rfl
  simp only [Try.ntmps29, List.size_toArray, List.length_cons, List.length_nil, Nat.reduceAdd, Nat.reduceSub, Array.replicate_succ, Array.replicate_zero, List.push_toArray, List.append_toArray, List.nil_append, List.cons_append]
  refine wpIn_wide.2 ?_
  go_wp2_with (first
    | ((with_reducible refine gate_dst (N := 2) rfl ?_); refine box_event ?hg (N := 2) ?hd (cs := TV) (t := 31) ?hr ?_; (case hd => rfl); (case hg => rfl); (case hr => first | (go_simp; done) | (go_simp; rfl)); intro gT hg W_ hb hbb; have n_ : Aside0 (Mem.Own w W_ [(gT, TV, 31)]) := ⟨OW.out.new hg hb hbb⟩; clear OW hb hbb hg; have OW := n_; clear n_)
    | ((with_reducible refine gate_dst (N := 3) rfl ?_); refine box_event ?hg (N := 3) ?hd (cs := #[.int .i64 R, .slice (some ad) m c]) (t := 41) ?hr ?_; (case hd => rfl); (case hg => rfl); (case hr => first | (go_simp; done) | (go_simp; rfl)); intro gR hg W_ hb hbb; have c1 := (blk_cell hb 1).trans rfl; have cx := pw_cell_below ((OW.out.step hbb).below) HXA.out; have n_ : Aside0 (Mem.Own w W_ [(gT, TV, 31), (gR, #[.int .i64 R, .slice (some ad) m c], 41)]) := ⟨OW.out.new hg hb hbb⟩; clear OW hb hbb hg; have OW := n_; clear n_)
    | ((with_reducible refine gate_dst (N := 5) rfl ?_); refine box_event ?hg (N := 5) ?hd (cs := #[.string ⟨#[]⟩]) (t := 9) ?hr ?_; (case hd => rfl); (case hg => rfl); (case hr => first | (go_simp; done) | (go_simp; rfl)); intro gX hg W_ hb hbb; clear c1 cx; have x0 := (blk_cell hb 0).trans rfl; have y0 := blk_frozen hb 0; have c1 := (((OW.out.new hg hb hbb).put 2 rfl 0 (.string x) rfl).cell 1 rfl 1).trans rfl; have n_ : Aside0 (Mem.Own w W_ [(gT, TV, 31), (gR, #[.int .i64 R, .slice (some ad) m c], 41), (gX, #[.string ⟨#[]⟩], 9)]) := ⟨OW.out.new hg hb hbb⟩; clear OW hb hbb hg; have OW := n_; clear n_)
    | (go_at_call 59; with_reducible refine (HBK.out _).mono ?_; rintro e w_ ⟨Bn, rfl, hBn, hbk, hB⟩; have n_ := Aside0.mk ((OW.out.put 2 rfl 0 (.string x) rfl).new hBn hbk hB); clear OW x0 y0 c1 hBn hbk hB; have OW := n_; clear n_))
  have hBn : Bn < w_.heap.size := blk_lt (OW.out.blk 3 rfl)
  have HCW := Aside0.mk (Kd.C_below HC.out OW.out.below)
  have HBX : Aside0 (Boxed w_ Bn 22 (.slice (some ad) l0.length c)) := ⟨by rw [HQ.out]; exact OW.out.blk 3 rfl⟩
  refine (wpIn_wide (n := 5)).1 ?_
  refine range_cellN (α := Nat × ByteArray) (encs := enc2) (Nx := fun pre x => pre ++ [x] <+: bkN l0 l0.length) (Bn := Bn) (Kp := KpB Bn (some ad) c l0) rfl (by omega) (gf := 87) (lb := #[.pointer (some ⟨Bn, 0, none⟩)]) rfl trivial (enters_of Try.func87 (by kernel_rfl) rfl)
    (backN 4 (by omega) Bn (some ad) c l0 w_ (by have := HQ.out; have := HL.out; omega) hBn HBX.out HCW.out) kpB_t (fun V lp o o2 hl h hc => kpB_b V lp o o2 h hc) (Below.refl _ _) (fun _ => rfl)
    (RtI w gT gR gX Bn (some ad) R m c l0 x) (fun _ _ _ => False) (rtI_from OW.out.size) (fun _ _ _ _ _ hs _ _ => hs) (fun _ _ v hs => rtI_set hs v) ⟨_, OW.out⟩
    (fun y => { tmps := #[.agg TV, .agg #[.int .i64 R, .slice (some ad) m c], .pointer (some ⟨gT, 0, none⟩), .pointer (some ⟨gR, 0, none⟩), .string ⟨#[]⟩, .pointer (some ⟨gX, 0, none⟩), undef, .string y.2, .pointer (some ⟨gR, 1, none⟩), .slice (some ad) m c, .int .i64 (m : Int), .bool false, undef, undef, .pointer (some ⟨gR, 1, none⟩), .slice (some ad) m c, .pointer (some ⟨gR, 1, none⟩), .slice (some ad) m c, .int .i64 (m : Int), .int .i64 (q : Int), .pointer (some (ad.add q)), .string x,
      .pointer (some ⟨gR, 1, none⟩), .slice (some ad) m c, .pointer (some ⟨gR, 1, none⟩), .slice (some ad) m c, .int .i64 (m : Int), .int .i64 (q : Int), .slice (some ad) q c, .func (.func 87) #[] #[.pointer (some ⟨Bn, 0, none⟩)], .int .i64 (y.1 : Int), .string y.2, undef, undef, undef, undef, undef], defers := [] }) ?assign ?body ?done ?stop
  case assign =>
    intro lp y W K hK
    gi_wp2
    exact hK
  case body =>
    have HSZ := Aside0.mk OW.out.size
    clear OW hBn HBX hcut
    rintro lp pre ⟨yi, y⟩ W ⟨u, hO⟩ hnx
    have hy : y.size ≤ 1000 := by
      obtain ⟨t, ht⟩ := hnx
      exact bkN_mem l0 HS0.out l0.length (yi, y) (by rw [← ht]; simp)
    have hz := backF_size pre x HXS.out
    have HSN : Aside0 (backF (pre ++ [(yi, y)]) x = pairF y (backF pre x)) := ⟨backF_snoc pre (yi, y) x⟩
    generalize backF pre x = z at *
    have HP := Aside0.mk (fun W => rpair_c y z (by omega) (by omega) W)
    have OO := Aside0.mk hO
    have OW := Aside0.mk (Mem.Own.of_below (Below.refl W.heap.size W))
    have x0 := (hO.cell 2 rfl 0).trans rfl
    clear hy hz hnx HCW
    dsimp only
    refine wpIn_block ?_
    refine InR.lit_in (by rintro ⟨_, _, h⟩; exact h) (by kernel_rfl) ?_
    go_wp2_with (first
      | ((with_reducible refine gate_dst (N := 32) rfl ?_); refine wpList_load_row rfl 31 (.tmp 2) rfl gT rfl 31 TV (0, 0) _ (hO.blk 0 rfl) Try.underlying31 rfl HI.out ?_)
      | (go_at_call 60; with_reducible refine (HP.out _).mono ?_; rintro e w1 ⟨rfl, hB⟩; have HB := Aside0.mk hB; have O1 := Aside0.mk (OO.out.step hB); have x1 := (O1.out.cell 2 rfl 0).trans rfl; have y1 := O1.out.frozen 2 rfl 0; clear x0 hB))
    have O2 := O1.out.put 2 rfl 0 (.string (pairF y z)) rfl
    refine ⟨((keeps_below HB.out).trans (KeepsOthers.setCell _ _ _)).from _, ?_, ?_⟩
    · rintro ⟨h1, _⟩
      have h2 : Boxed W Bn 22 u := OO.out.blk 3 rfl
      have h3 : Value.slice (some ad) l0.length c = u := by
        unfold Boxed at h1 h2
        rw [h1] at h2
        injection h2 with h2
        injection h2 with h2
        simpa using h2
      rw [h3]
      exact ⟨O2.blk 3 rfl, Kd.C_below HC.out O2.below⟩
    · exact ⟨u, by rw [HSN.out]; exact O2⟩
  case done =>
    have HSZ := Aside0.mk OW.out.size
    clear OW hBn HBX hcut HCW
    rintro D xs W hD rfl ⟨u, hO⟩ hK
    have OO := Aside0.mk hO
    have x0 := (hO.cell 2 rfl 0).trans rfl
    clear hO
    go_wp2_with fail
    have hD2 : w.heap.size ≤ D := Nat.le_trans HSZ.out hD
    have O3 := Fun.own_put OO.out (Obj.deferred none) hD2 hK rfl
    refine ⟨by simp, .inl ⟨_, _, rfl, run_takeDeferred hK, ?_⟩⟩
    exact ⟨_, results_tmp rfl _ _ _, by rw [HX.out, ← HQ.out]; rfl, O3.below⟩
  case stop =>
    rintro D c pre W _ _ h _
    exact h.elim
end Go.Proofs.Ytondnammkcgjpaa.Rg
namespace Go.Proofs.Ytondnammkcgjpaa.Rg
open Go Go.RowKit Go.Shelf Go.Proofs.YtondnammkcgjpaaW.PrintWords Go.Proofs.YtondnammkcgjpaaW.PrintLast Go.Proofs.YtondnammkcgjpaaW.PrintMore
open Go.Proofs.Ytondnammkcgjpaa.ShaP Go.Proofs.Ytondnammkcgjpaa.Mk Go.Proofs.Ytondnammkcgjpaa.Rng Go.Proofs.Ytondnammkcgjpaa.Fun
set_option linter.unusedVariables false
set_option linter.unusedSimpArgs false
attribute [local go_sem] Oper.semAt_some
/-- the last bit of a number -/
def lowB (R : Nat) : Int := Go.bits .and .i64 (R : Int) (-(R : Int))
def jstep (l2 : List ByteArray) (s : Option (Nat × List ByteArray × Nat)) (p : Pw) : Option (Nat × List ByteArray × Nat) := s.bind fun t => match l2[t.2.2]? with
  | none => none
  | some x => (growN 30 t.1 p.1 t.2.1 x).map fun r => (t.1 + p.1, r, t.2.2 + 1)
def joinS (R : Nat) (l l2 : List ByteArray) (pre : List Pw) : Option (Nat × List ByteArray × Nat) := pre.foldl (jstep l2) (some (R, l, 0))
theorem jnone (l2 : List ByteArray) : ∀ ps : List Pw, ps.foldl (jstep l2) none = none
  | [] => rfl
  | p :: ps => jnone l2 ps
theorem joinS_snoc (R : Nat) (l l2 : List ByteArray) (pre : List Pw) (x : Pw) : joinS R l l2 (pre ++ [x]) = jstep l2 (joinS R l l2 pre) x := by
  unfold joinS
  rw [List.foldl_append]
  rfl
theorem joinS_pre {R : Nat} {l l2 : List ByteArray} {pre L : List Pw} {s : Nat × List ByteArray × Nat} (h : joinS R l l2 L = some s) (hp : pre <+: L) : ∃ s2, joinS R l l2 pre = some s2 := by
  obtain ⟨t, rfl⟩ := hp
  unfold joinS at h ⊢
  rw [List.foldl_append] at h
  cases hq : pre.foldl (jstep l2) (some (R, l, 0)) with
  | none => rw [hq, jnone] at h; cases h
  | some s2 => exact ⟨s2, rfl⟩
theorem growN_len (f : Nat) : ∀ (R n : Nat) (l : List ByteArray) (x : ByteArray) (r : List ByteArray), growN f R n l x = some r → Sm l → x.size ≤ 1000 → r.length ≤ l.length + 1 ∧ Sm r := by
  induction f with
  | zero => intro R n l x r h; rw [growN] at h; cases h
  | succ f ih =>
    intro R n l x r h hs hx
    rw [growN] at h
    split at h
    · cases h
      exact ⟨by simp, fun s hm => by
        rcases List.mem_append.1 hm with hm | hm
        · exact hs s hm
        · rw [List.mem_singleton.1 hm]; exact hx⟩
    · split at h
      · cases h
      · obtain ⟨h1, h2⟩ := ih _ _ _ _ _ h (fun s hm => hs s (List.dropLast_subset _ hm)) (by rw [pairF_size]; omega)
        exact ⟨by rw [List.length_dropLast] at h1; omega, h2⟩
/-- a list that came in, or a row of the call's own -/
def Src (w W : World) (A : Option Addr) (m c : Nat) (l : List ByteArray) : Prop := Kd.C Kd.string w A m l ∨ SR W w.heap.size (.slice A m c) l
theorem Src.read {w W : World} {A : Option Addr} {c : Nat} {l : List ByteArray} (h : Src w W A l.length c l) (hb : Below w.heap.size w W) : Kd.C Kd.string W A l.length l := by
  rcases h with h | h
  · exact Kd.C_below h hb
  · exact (Kd.R_reads' h).2.2
/-- what holds ahead of each round -/
def JnI (w : World) (gT gA gB gZ gI Bn R1 R2 : Nat) (l1 l2 : List ByteArray) (B : Option Addr) (cB : Nat) (pre : List Pw) (W : World) : Prop :=
  ∃ (A : Option Addr) (m c : Nat) (l : List ByteArray) (u : Value), Mem.Own w W [(gT, TV, 31), (gA, #[.int .i64 ((R1 + sumP pre : Nat) : Int), .slice A m c], 41), (gB, #[.int .i64 (R2 : Int), .slice B l2.length cB], 41), (gZ, #[.int .i64 0, .slice none 0 0], 41), (gI, #[.int .i64 (pre.length : Int)], 3), (Bn, #[u], 3)]
    ∧ Src w W A m c l ∧ l.length = m ∧ m ≤ c ∧ l.length ≤ l1.length + pre.length ∧ Sm l ∧ joinS R1 l1 l2 pre = some (R1 + sumP pre, l, pre.length)
theorem src_rec {w W V : World} {A : Option Addr} {m c : Nat} {l : List ByteArray} {row : Option Nat} (h : Src w W A m c l) (hg : W.grownBy V row) (hr : Rec W row) : Src w V A m c l := by
  rcases h with h | h
  · exact .inl h
  · exact .inr (row_rec rfl h hg hr)
theorem src_below {w W V : World} {A : Option Addr} {m c : Nat} {l : List ByteArray} (h : Src w W A m c l) (hb : Below W.heap.size W V) : Src w V A m c l := by
  rcases h with h | h
  · exact .inl h
  · exact .inr (Kd.R_below h hb)
theorem src_set {w W : World} {A : Option Addr} {m c : Nat} {l : List ByteArray} (h : Src w W A m c l) {g t : Nat} {cells : Array Value} (hb : W.heap[g]? = some (.cells cells t (0, 0))) (ht : ∀ q, q ∈ 9 :: Kd.string.E → q ≠ t) (j : Nat) (z : Value) : Src w (W.setCell ⟨g, j, none⟩ z) A m c l := by
  rcases h with h | h
  · exact .inl h
  · exact .inr (Kd.R_set h hb ht j z)
theorem jnI_from {w : World} {gT gA gB gZ gI Bn R1 R2 : Nat} {l1 l2 : List ByteArray} {B : Option Addr} {cB N : Nat} (hB : w.heap.size ≤ N) : OwnFrom N (JnI w gT gA gB gZ gI Bn R1 R2 l1 l2 B cB) := fun pre W V row h hg hr => by
  obtain ⟨A, m, c, l, u, hO, hS, h1, h2, h3, h4, h5⟩ := h
  have hrec : Rec W row := fun r e => (hr r e).2
  exact ⟨A, m, c, l, u, own_rec hO hg hrec (fun r e => Nat.le_trans hB (hr r e).1), src_rec hS hg hrec, h1, h2, h3, h4, h5⟩
theorem jnI_set {w : World} {gT gA gB gZ gI Bn R1 R2 : Nat} {l1 l2 : List ByteArray} {B : Option Addr} {cB : Nat} {pre : List Pw} {W : World} (h : JnI w gT gA gB gZ gI Bn R1 R2 l1 l2 B cB pre W) (z : Value) : JnI w gT gA gB gZ gI Bn R1 R2 l1 l2 B cB pre (W.setCell ⟨Bn, 0, none⟩ z) := by
  obtain ⟨A, m, c, l, u, hO, hS, h1, h2, h3, h4, h5⟩ := h
  exact ⟨A, m, c, l, z, hO.put 5 rfl 0 z rfl, src_set hS (hO.blk 5 rfl) (by decide) 0 z, h1, h2, h3, h4, h5⟩
set_option maxRecDepth 100000 in
set_option maxHeartbeats 4000000 in
theorem join_bad (R1 R2 : Nat) (A B : Option Addr) (n1 c1 n2 c2 : Nat) (w : World) (h1 : R1 ≤ 1000) (h2 : R2 ≤ 1000) (h0 : 0 < R1) (hb : lowB R1 < (R2 : Int)) :
    Calls Try.prog 20 #[.agg TV, .agg #[.int .i64 (R1 : Int), .slice A n1 c1], .agg #[.int .i64 (R2 : Int), .slice B n2 c2]] w fun e w' => e = .returned (.tuple #[.agg #[.int .i64 0, .slice none 0 0], .int .i64 5]) ∧ Below w.heap.size w w' := by
  have OW := Aside0.mk (Mem.Own.nil w)
  have hz : (0 : Int) < (R1 : Int) := by omega
  have hr1 : (R1 : Int) ≤ 1000 := by omega
  have hr2 : (R2 : Int) ≤ 1000 := by omega
  obtain ⟨lw, hlw⟩ : ∃ z, Go.bits .and .i64 (R1 : Int) (-(R1 : Int)) = z := ⟨_, rfl⟩
  have hlt : lw < (R2 : Int) := by rw [← hlw]; exact hb
  clear hb h1 h2 h0
  go_enter Try.func20, Try.ntmps20
  go_wp2_with (first
    | ((with_reducible refine gate_dst (N := 3) rfl ?_); refine box_event ?hg (N := 3) ?hd (cs := TV) (t := 31) ?hr ?_; (case hd => rfl); (case hg => rfl); (case hr => first | (go_simp; done) | (go_simp; rfl)); intro gT hg W_ hb hbb; have n_ : Aside0 (Mem.Own w W_ [(gT, TV, 31)]) := ⟨OW.out.new hg hb hbb⟩; clear OW hb hbb hg; have OW := n_; clear n_)
    | ((with_reducible refine gate_dst (N := 4) rfl ?_); refine box_event ?hg (N := 4) ?hd (cs := #[.int .i64 (R1 : Int), .slice A n1 c1]) (t := 41) ?hr ?_; (case hd => rfl); (case hg => rfl); (case hr => first | (go_simp; done) | (go_simp; rfl)); intro gA hg W_ hb hbb; have n_ : Aside0 (Mem.Own w W_ [(gT, TV, 31), (gA, #[.int .i64 (R1 : Int), .slice A n1 c1], 41)]) := ⟨OW.out.new hg hb hbb⟩; clear OW hb hbb hg; have OW := n_; clear n_)
    | ((with_reducible refine gate_dst (N := 5) rfl ?_); refine box_event ?hg (N := 5) ?hd (cs := #[.int .i64 (R2 : Int), .slice B n2 c2]) (t := 41) ?hr ?_; (case hd => rfl); (case hg => rfl); (case hr => first | (go_simp; done) | (go_simp; rfl)); intro gB hg W_ hb hbb; have n_ : Aside0 (Mem.Own w W_ [(gT, TV, 31), (gA, #[.int .i64 (R1 : Int), .slice A n1 c1], 41), (gB, #[.int .i64 (R2 : Int), .slice B n2 c2], 41)]) := ⟨OW.out.new hg hb hbb⟩; clear OW hb hbb hg; have OW := n_; clear n_)
    | ((with_reducible refine gate_dst (N := 6) rfl ?_); refine box_event ?hg (N := 6) ?hd (cs := #[.int .i64 0, .slice none 0 0]) (t := 41) ?hr ?_; (case hd => rfl); (case hg => rfl); (case hr => first | (go_simp; done) | (go_simp; rfl)); intro gZ hg W_ hb hbb; have a0 := ((OW.out.step hbb).cell 1 rfl 0).trans rfl; have b0 := ((OW.out.step hbb).cell 2 rfl 0).trans rfl; have z0 := (blk_cell hb 0).trans rfl; have z1 := (blk_cell hb 1).trans rfl; have y0 := blk_frozen hb 0; have y1 := blk_frozen hb 1; have n_ : Aside0 (Mem.Own w W_ [(gT, TV, 31), (gA, #[.int .i64 (R1 : Int), .slice A n1 c1], 41), (gB, #[.int .i64 (R2 : Int), .slice B n2 c2], 41), (gZ, #[.int .i64 0, .slice none 0 0], 41)]) := ⟨OW.out.new hg hb hbb⟩; clear OW hb hbb hg; have OW := n_; clear n_))
  have O2 := (OW.out.put 3 rfl 0 (.int .i64 0) rfl).put 3 rfl 1 (.slice none 0 0) rfl
  refine bodyPost_ret (results_ct (p := 6) (u := 7) (ty := 41) rfl _ _ gZ 41 _ _ _ rfl (O2.blk 3 rfl) Try.underlying41 rfl (by kernel_rfl)) rfl ⟨rfl, O2.below⟩
set_option maxRecDepth 100000 in
set_option maxHeartbeats 8000000 in
theorem join_ok (R1 R2 : Nat) (A B : Option Addr) (c1 c2 : Nat) (l1 l2 : List ByteArray) (s : Nat × List ByteArray × Nat) (w : World) (h1 : R1 ≤ 1000) (h2 : R2 ≤ 1000) (hb : R1 = 0 ∨ (R2 : Int) ≤ lowB R1) (hj : joinS R1 l1 l2 (pws 64 R2) = some s)
    (hl1 : l1.length ≤ 1000) (hl2 : l2.length ≤ 1000) (hc1 : l1.length ≤ c1) (hs1 : Sm l1) (hs2 : Sm l2) (hr1 : Kd.C Kd.string w A l1.length l1) (hr2 : Kd.C Kd.string w B l2.length l2) :
    Calls Try.prog 20 #[.agg TV, .agg #[.int .i64 (R1 : Int), .slice A l1.length c1], .agg #[.int .i64 (R2 : Int), .slice B l2.length c2]] w fun e w' => ∃ v, e = .returned (.tuple #[.agg #[.int .i64 ((R1 + sumP (pws 64 R2) : Nat) : Int), v], .int .i64 0]) ∧ (∃ A3 c3, v = .slice A3 s.2.1.length c3 ∧ s.2.1.length ≤ c3 ∧ Kd.C Kd.string w' A3 s.2.1.length s.2.1) ∧ Below w.heap.size w w' := by
  have OW := Aside0.mk (Mem.Own.nil w)
  have HJ := Aside0.mk hj
  have HB1 := Aside0.mk (show R1 ≤ 1000 ∧ R2 ≤ 1000 ∧ l1.length ≤ 1000 ∧ l2.length ≤ 1000 ∧ l1.length ≤ c1 from ⟨h1, h2, hl1, hl2, hc1⟩)
  have HS := Aside0.mk (show Sm l1 ∧ Sm l2 from ⟨hs1, hs2⟩)
  have HR1 := Aside0.mk hr1
  have HR2 := Aside0.mk hr2
  have HPW := Aside0.mk (pow_c (R2 : Int))
  have hi1 : (R1 : Int) ≤ 1000 := by omega
  have hi2 : (R2 : Int) ≤ 1000 := by omega
  obtain ⟨lw, hlw⟩ : ∃ z, Go.bits .and .i64 (R1 : Int) (-(R1 : Int)) = z := ⟨_, rfl⟩
  have hbb : ((0 : Int) < (R1 : Int) ∧ (R2 : Int) ≤ lw) ∨ (R1 : Int) ≤ 0 := by
    rw [← hlw]
    rcases hb with hb | hb
    · exact .inr (by omega)
    · rcases Nat.eq_zero_or_pos R1 with h0 | h0
      · exact .inr (by omega)
      · exact .inl ⟨by omega, hb⟩
  clear hb h1 h2 hl1 hl2 hc1 hs1 hs2 hr1 hr2 hj
  refine (callsIn_wide (n := 5)).1 ?_
  refine callsIn_of_wp_marks Try.func20 rfl trivial ?_ rfl
  simp only [Try.ntmps20, List.size_toArray, List.length_cons, List.length_nil, Nat.reduceAdd, Nat.reduceSub, Array.replicate_succ, Array.replicate_zero, List.push_toArray, List.append_toArray, List.nil_append, List.cons_append]
  refine wpIn_wide.2 ?_
  rcases hbb with ⟨hz1, hz2⟩ | hz1
  all_goals
    go_wp2_with (first
      | ((with_reducible refine gate_dst (N := 3) rfl ?_); refine box_event ?hg (N := 3) ?hd (cs := TV) (t := 31) ?hr ?_; (case hd => rfl); (case hg => rfl); (case hr => first | (go_simp; done) | (go_simp; rfl)); intro gT hg W_ hb hbb; have n_ : Aside0 (Mem.Own w W_ [(gT, TV, 31)]) := ⟨OW.out.new hg hb hbb⟩; clear OW hb hbb hg; have OW := n_; clear n_)
      | ((with_reducible refine gate_dst (N := 4) rfl ?_); refine box_event ?hg (N := 4) ?hd (cs := #[.int .i64 (R1 : Int), .slice A l1.length c1]) (t := 41) ?hr ?_; (case hd => rfl); (case hg => rfl); (case hr => first | (go_simp; done) | (go_simp; rfl)); intro gA hg W_ hb hbb; have n_ : Aside0 (Mem.Own w W_ [(gT, TV, 31), (gA, #[.int .i64 (R1 : Int), .slice A l1.length c1], 41)]) := ⟨OW.out.new hg hb hbb⟩; clear OW hb hbb hg; have OW := n_; clear n_)
      | ((with_reducible refine gate_dst (N := 5) rfl ?_); refine box_event ?hg (N := 5) ?hd (cs := #[.int .i64 (R2 : Int), .slice B l2.length c2]) (t := 41) ?hr ?_; (case hd => rfl); (case hg => rfl); (case hr => first | (go_simp; done) | (go_simp; rfl)); intro gB hg W_ hb hbb; have n_ : Aside0 (Mem.Own w W_ [(gT, TV, 31), (gA, #[.int .i64 (R1 : Int), .slice A l1.length c1], 41), (gB, #[.int .i64 (R2 : Int), .slice B l2.length c2], 41)]) := ⟨OW.out.new hg hb hbb⟩; clear OW hb hbb hg; have OW := n_; clear n_)
      | ((with_reducible refine gate_dst (N := 6) rfl ?_); refine box_event ?hg (N := 6) ?hd (cs := #[.int .i64 0, .slice none 0 0]) (t := 41) ?hr ?_; (case hd => rfl); (case hg => rfl); (case hr => first | (go_simp; done) | (go_simp; rfl)); intro gZ hg W_ hb hbb; have a0 := ((OW.out.step hbb).cell 1 rfl 0).trans rfl; have b0 := ((OW.out.step hbb).cell 2 rfl 0).trans rfl; have n_ : Aside0 (Mem.Own w W_ [(gT, TV, 31), (gA, #[.int .i64 (R1 : Int), .slice A l1.length c1], 41), (gB, #[.int .i64 (R2 : Int), .slice B l2.length c2], 41), (gZ, #[.int .i64 0, .slice none 0 0], 41)]) := ⟨OW.out.new hg hb hbb⟩; clear OW hb hbb hg; have OW := n_; clear n_)
      | ((with_reducible refine gate_dst (N := 8) rfl ?_); refine box_event ?hg (N := 8) ?hd (cs := #[.int .i64 0]) (t := 3) ?hr ?_; (case hd => rfl); (case hg => rfl); (case hr => first | (go_simp; done) | (go_simp; rfl)); intro gI hg W_ hb hbb; clear a0 b0; have i0 := (blk_cell hb 0).trans rfl; have j0 := blk_frozen hb 0; have b0 := (((OW.out.new hg hb hbb).put 4 rfl 0 (.int .i64 0) rfl).cell 2 rfl 0).trans rfl; have n_ : Aside0 (Mem.Own w W_ [(gT, TV, 31), (gA, #[.int .i64 (R1 : Int), .slice A l1.length c1], 41), (gB, #[.int .i64 (R2 : Int), .slice B l2.length c2], 41), (gZ, #[.int .i64 0, .slice none 0 0], 41), (gI, #[.int .i64 0], 3)]) := ⟨OW.out.new hg hb hbb⟩; clear OW hb hbb hg; have OW := n_; clear n_)
      | (go_at_call 54; with_reducible refine (HPW.out _).mono ?_; rintro e w_ ⟨Bn, rfl, hBn, hbk, hB⟩; have n_ := Aside0.mk ((OW.out.put 4 rfl 0 (.int .i64 0) rfl).new hBn hbk hB); clear OW i0 j0 b0 hBn hbk hB; have OW := n_; clear n_))
    have hBn : Bn < w_.heap.size := blk_lt (OW.out.blk 5 rfl)
    refine (wpIn_wide (n := 5)).1 ?_
    refine' range_cellN (α := Pw) (encs := enc1) (Nx := fun pre x => pre ++ [x] <+: pws 64 R2) (Bn := Bn) (Kp := Keep1 Bn) rfl (by omega) (gf := 82) (lb := #[.pointer (some ⟨Bn, 0, none⟩)]) rfl trivial (enters_of Try.func82 (by kernel_rfl) rfl)
      (powers1N lenC 4 (by omega) Bn R2 (by have := HB1.out; omega) w_ hBn (OW.out.blk 5 rfl)) keep1_t (fun V lp o o2 hl h hc => keep1_b (Bn := Bn) (B0 := w_.heap.size) hBn V lp o o2 hl h hc) (Below.refl _ _) (fun _ => rfl)
      (JnI w gT gA gB gZ gI Bn R1 R2 l1 l2 B c2) (fun _ _ _ => False) (jnI_from OW.out.size) (fun _ _ _ _ _ hs _ _ => hs) (fun _ _ v hs => jnI_set hs v) ⟨A, l1.length, c1, l1, _, OW.out, .inl HR1.out, rfl, HB1.out.2.2.2.2, Nat.le_refl _, HS.out.1, rfl⟩ _ ?assign ?body ?done ?stop
    case assign =>
      intro lp x W K hK
      gi_wp2
      exact hK
    case body =>
      have HSZ := Aside0.mk OW.out.size
      clear OW hBn
      rintro lp pre x W ⟨A1, m1, c3, l, u, hO, hS, e1, e2, e3, e4, e5⟩ hnx
      have hsum := sumP_pre (by have := HB1.out; omega) hnx
      obtain ⟨s2, hs2⟩ := joinS_pre HJ.out hnx
      have hpl : pre.length + 1 ≤ 64 := by
        have h1 := hnx.length_le
        have h2 := pws_len 64 R2
        rw [List.length_append, List.length_singleton] at h1
        omega
      have HSP : Aside0 (sumP (pre ++ [x]) = sumP pre + x.1) := ⟨by rw [sumP_append]; simp [sumP]⟩
      have HJS := Aside0.mk (hs2)
      rw [joinS_snoc, e5] at hs2
      simp only [jstep, Option.bind_some] at hs2
      cases hg : l2[pre.length]? with
      | none => rw [hg] at hs2; cases hs2
      | some h =>
        rw [hg] at hs2
        obtain ⟨r, hgr, hs3⟩ := Option.map_eq_some_iff.1 hs2
        rw [← hs3] at HJS
        have HJ2 : Aside0 (joinS R1 l1 l2 (pre ++ [x]) = some (R1 + sumP (pre ++ [x]), r, (pre ++ [x]).length)) := ⟨by rw [HJS.out, HSP.out, List.length_append, List.length_singleton, Nat.add_assoc]⟩
        have HLN : Aside0 ((pre ++ [x]).length = pre.length + 1) := ⟨by rw [List.length_append, List.length_singleton]⟩
        clear HJS
        obtain ⟨hil, hih⟩ := List.getElem?_eq_some_iff.1 hg
        have hC2 := HR2.out
        obtain ⟨ad, e, hx⟩ := Kd.at_string hC2 (pre.length : Int) (by omega) (by omega)
        cases e
        have hgd : rdOf ByteArray.empty l2 (pre.length : Int) = h := by
          unfold rdOf
          rw [Int.toNat_natCast, List.getD_eq_getElem?_getD, hg]
          rfl
        rw [hgd, Int.toNat_natCast] at hx
        have hhs : h.size ≤ 1000 := HS.out.2 h (by rw [← hih]; exact List.getElem_mem hil)
        obtain ⟨q, hq⟩ : ∃ q, x.1 = q := ⟨_, rfl⟩
        obtain ⟨a, ha⟩ : ∃ a, R1 + sumP pre = a := ⟨_, rfl⟩
        obtain ⟨b, hb2⟩ : ∃ b, a + q = b := ⟨_, rfl⟩
        obtain ⟨i, hi⟩ : ∃ i, pre.length = i := ⟨_, rfl⟩
        have hgl := growN_len _ _ _ _ _ _ hgr e4 hhs
        rw [ha, hq] at hgr
        rw [ha, hi] at hO
        rw [hq] at HSP
        rw [hi] at hx hpl hil HLN
        have hab2 : R1 + (sumP pre + q) = b := by omega
        have hqb : q ≤ 1000 ∧ a ≤ 2000 := by have := HB1.out; omega
        have hlb : l.length ≤ 2000 := by have := HB1.out; omega
        have HG := Aside0.mk (fun W hC => grow_c 30 a q A1 c3 l h r W hgr (by omega) (by have := hqb.1; omega) hhs e4 (by omega) (by omega) hC)
        have HE := Aside0.mk (show l.length = m1 ∧ r.length ≤ l1.length + (i + 1) ∧ Sm r from ⟨e1, by omega, hgl.2⟩)
        have hbq : (a : Int) + (q : Int) = (b : Int) := by omega
        have hi1q : (i : Int) ≤ 1000 := by omega
        have hil2 : (i : Int) < (l2.length : Int) := by omega
        rw [e1] at HG
        have OO := Aside0.mk hO
        have OD := Aside0.mk hO.drew
        have HKD := Aside0.mk (KeepsOthers.drew W)
        have HSR := Aside0.mk (by have h6 := hS; rw [← e1] at h6; have h7 := Src.read h6 hO.below; rw [e1] at h7; exact h7 : Kd.C Kd.string W A1 m1 l)
        have HSD := Aside0.mk (Kd.C_drew HSR.out)
        have cA0 : W.drew.cell? ⟨gA, 0, none⟩ = some (.int .i64 (a : Int)) := (OD.out.cell 1 rfl 0).trans rfl
        have cA1 : W.drew.cell? ⟨gA, 1, none⟩ = some (.slice A1 m1 c3) := (OD.out.cell 1 rfl 1).trans rfl
        have cB1 : W.drew.cell? ⟨gB, 1, none⟩ = some (.slice (some ad) l2.length c2) := (OD.out.cell 2 rfl 1).trans rfl
        have cI : W.drew.cell? ⟨gI, 0, none⟩ = some (.int .i64 (i : Int)) := (OD.out.cell 4 rfl 0).trans rfl
        have cX : W.drew.cell? (ad.add i) = some (.string h) := pw_cell_below OD.out.below hx
        rw [hq]
        clear hO hS e1 e2 e3 e4 e5 hsum hnx hs2 hs3 hg hgr hil hih hC2 hgd hhs hgl hqb hlb hb2 hx
        gi_wp2_with fail
        refine InR.startIn_ (m := 10) (S := fun w' => Below (W).drew.heap.size (W).drew w') (ds := [9]) #[false, false, false, false, false, false, false, false, false, false] (by kernel_rfl) (by rintro ⟨_, _, h⟩; exact h) (by kernel_rfl) rfl rfl (Below.refl _ _) (fun hHeld => ?_)
        generalize (W).drew = W0 at *
        refine take_ (i := 0) (N := (some 37)) (a' := ?_) #[true, false, false, false, false, false, false, false, false, false] rfl rfl (by kernel_rfl) (fun _ _ _ h => h) (yields_tab (by rfl) (.tmp 3) rfl gT rfl (fun w' hS => hS) (OD.out.blk 0 rfl)) hHeld ?_ ?_
        rotate_left
        · simp only [Act.put, List.setIfInBounds_toArray, List.set_cons_zero, List.set_cons_succ, i64_w, i32_w]
          rfl
        refine take_ (i := 1) (N := (some 38)) (v := ?_) (a' := ?_) #[true, true, false, false, false, false, false, false, false, false] rfl rfl (by kernel_rfl) (fun _ _ _ h => h) (Or.inl ⟨by rfl, ?_⟩) hHeld ?_ ?_
        rotate_left
        · intro w' hS
          have s0 := pw_cell_below hS cA0
          have s1 := pw_cell_below hS cA1
          go_simp
          first | done | with_reducible rfl
        rotate_left
        · simp only [Act.put, List.setIfInBounds_toArray, List.set_cons_zero, List.set_cons_succ, i64_w, i32_w]
          rfl
        refine pure_ (i := 2) (N := (some 39)) (v := ?_) (a' := ?_) #[true, true, true, false, false, false, false, false, false, false] rfl rfl (by kernel_rfl) (fun _ _ _ h => h) (Or.inl ⟨by rfl, ?_⟩) ?_ ?_
        rotate_left
        · intro w'
          go_simp
          first | done | with_reducible rfl
        rotate_left
        · simp only [Act.put, List.setIfInBounds_toArray, List.set_cons_zero, List.set_cons_succ, i64_w, i32_w]
          rfl
        refine pure_ (i := 3) (N := (some 40)) (v := ?_) (a' := ?_) #[true, true, true, true, false, false, false, false, false, false] rfl rfl (by kernel_rfl) (fun _ _ _ h => h) (Or.inl ⟨by rfl, ?_⟩) ?_ ?_
        rotate_left
        · intro w'
          go_simp
          first | done | with_reducible rfl
        rotate_left
        · simp only [Act.put, List.setIfInBounds_toArray, List.set_cons_zero, List.set_cons_succ, i64_w, i32_w]
          rfl
        refine take_ (i := 4) (N := (some 41)) (v := ?_) (a' := ?_) #[true, true, true, true, true, false, false, false, false, false] rfl rfl (by kernel_rfl) (fun _ _ _ h => h) (Or.inl ⟨by rfl, ?_⟩) hHeld ?_ ?_
        rotate_left
        · intro w' hS
          have s0 := pw_cell_below hS cB1
          go_simp
          first | done | with_reducible rfl
        rotate_left
        · simp only [Act.put, List.setIfInBounds_toArray, List.set_cons_zero, List.set_cons_succ, i64_w, i32_w]
          rfl
        refine take_ (i := 5) (N := (some 42)) (v := ?_) (a' := ?_) #[true, true, true, true, true, true, false, false, false, false] rfl rfl (by kernel_rfl) (fun _ _ _ h => h) (Or.inl ⟨by rfl, ?_⟩) hHeld ?_ ?_
        rotate_left
        · intro w' hS
          have s0 := pw_cell_below hS cI
          go_simp
          first | done | with_reducible rfl
        rotate_left
        · simp only [Act.put, List.setIfInBounds_toArray, List.set_cons_zero, List.set_cons_succ, i64_w, i32_w]
          rfl
        refine pure_ (i := 6) (N := (some 43)) (v := ?_) (a' := ?_) #[true, true, true, true, true, true, true, false, false, false] rfl rfl (by kernel_rfl) (fun _ _ _ h => h) (Or.inl ⟨by rfl, ?_⟩) ?_ ?_
        rotate_left
        · intro w'
          go_simp
          first | done | with_reducible rfl
        rotate_left
        · simp only [Act.put, List.setIfInBounds_toArray, List.set_cons_zero, List.set_cons_succ, i64_w, i32_w]
          rfl
        refine take_ (i := 7) (N := (some 44)) (v := ?_) (a' := ?_) #[true, true, true, true, true, true, true, true, false, false] rfl rfl (by kernel_rfl) (fun _ _ _ h => h) (Or.inl ⟨by rfl, ?_⟩) hHeld ?_ ?_
        rotate_left
        · intro w' hS
          have s0 := pw_cell_below hS cX
          go_simp
          first | done | with_reducible rfl
        rotate_left
        · simp only [Act.put, List.setIfInBounds_toArray, List.set_cons_zero, List.set_cons_succ, i64_w, i32_w]
          rfl
        refine one_ (i := 8) (N := (some 45)) #[true, true, true, true, true, true, true, true, true, false] rfl rfl (by kernel_rfl) (by decide) (fun K hK => ?_)
        refine goes_ Try.func55 (by kernel_rfl) rfl #[.agg TV, .agg #[.int .i64 (a : Int), .slice A1 m1 c3], .int .i64 (q : Int), .string h] (by rfl) rfl rfl (by (try simp only [List.map_toArray, List.map_cons, List.map_nil]); first | done | rfl) ?_
        with_reducible refine (HG.out _ HSD.out).mono ?_
        rintro e w1 ⟨v, rfl, hr1, hB⟩
        refine ⟨_, rfl, ?_⟩
        have hS2 : Below W0.heap.size W0 w1 := hB
        have HV := Aside0.mk (Kd.R_lower hr1 OD.out.size)
        have HCC := Aside0.mk (Kd.R_reads hr1)
        clear hB hr1
        refine hK.out _ _ hS2 (fun hHeld => ?_)
        clear hK K
        refine norm_ (a' := ?_) ?_ ?_
        rotate_left
        · show Act.put _ (some 45) _ = _
          simp only [Act.put, List.setIfInBounds_toArray, List.set_cons_zero, List.set_cons_succ, i64_w, i32_w]
          rfl
        refine last_ (i := 9) (N := none) #[true, true, true, true, true, true, true, true, true, true] rfl rfl (by kernel_rfl) (by decide) (fun K hK => ?_)
        obtain ⟨A5, c5, rfl, h5, _⟩ := HCC.out
        have O1 := Aside0.mk (OD.out.step hHeld)
        have HK : Aside0 (KeepsOthers W w1) := ⟨HKD.out.trans (keeps_below hHeld)⟩
        have z0 := (O1.out.cell 1 rfl 0).trans rfl
        have z1 := (O1.out.cell 1 rfl 1).trans rfl
        have y0 := O1.out.frozen 1 rfl 0
        have y1 := O1.out.frozen 1 rfl 1
        have HC5 := Aside0.mk h5
        clear hHeld OD HKD cA0 cA1 cB1 cI cX HCC
        obtain ⟨m5, hm5⟩ : ∃ m, r.length = m := ⟨_, rfl⟩
        rw [hm5] at HV HC5 ⊢
        refine skip_ (by rfl) rfl (by first | (go_simp; done) | (go_simp; rfl)) ?_
        refine hK.out _ _ ?_
        clear hK K
        refine done_ (by kernel_rfl) ?_
        have O2 := Aside0.mk ((O1.out.put 1 rfl 0 (.int .i64 (b : Int)) rfl).put 1 rfl 1 (.slice A5 m5 c5) rfl)
        have V2 := Aside0.mk (Kd.R_set (Kd.R_set HV.out (O1.out.blk 1 rfl) (by decide) 0 (.int .i64 (b : Int))) ((O1.out.put 1 rfl 0 (.int .i64 (b : Int)) rfl).blk 1 rfl) (by decide) 1 (.slice A5 m5 c5))
        have iC := (O2.out.cell 4 rfl 0).trans rfl
        have iF := O2.out.frozen 4 rfl 0
        clear z0 z1 y0 y1
        gi_wp2_with fail
        have O3 := O2.out.put 4 rfl 0 (.int .i64 ((i : Int) + 1)) rfl
        have V3 := Kd.R_set V2.out (O2.out.blk 4 rfl) (by decide) 0 (.int .i64 ((i : Int) + 1))
        refine ⟨(((HK.out.trans (KeepsOthers.setCell _ _ _)).trans (KeepsOthers.setCell _ _ _)).trans (KeepsOthers.setCell _ _ _)).from _, ?_, ?_⟩
        · intro z hz
          have h1 : Boxed W Bn 3 u := OO.out.blk 5 rfl
          have h2 : z = u := by
            unfold Boxed at hz h1
            rw [hz] at h1
            injection h1 with h1
            injection h1 with h1
            simpa using h1
          rw [h2]
          exact O3.blk 5 rfl
        · have eB : R1 + sumP (pre ++ [x]) = b := by have := HSP.out; omega
          have eI : ((pre ++ [x]).length : Int) = (i : Int) + 1 := by have := HLN.out; omega
          exact ⟨A5, m5, c5, r, u, by rw [eB, eI]; exact O3, .inr V3, hm5, HC5.out, by rw [HLN.out]; exact HE.out.2.1, HE.out.2.2, HJ2.out⟩
    case done =>
      have HSZ := Aside0.mk OW.out.size
      clear OW hBn
      rintro D xs W hD rfl ⟨A1, m1, c3, l, u, hO, hS, e1, e2, e3, e4, e5⟩ hK
      have hs : s = (R1 + sumP (pws 64 R2), l, (pws 64 R2).length) := Option.some.inj (HJ.out.symm.trans e5)
      subst hs
      have OO := Aside0.mk hO
      have HK := Aside0.mk hK
      have HE := Aside0.mk (show l.length = m1 ∧ m1 ≤ c3 from ⟨e1, e2⟩)
      have HSR := Aside0.mk hS
      have a0 := (hO.cell 1 rfl 0).trans rfl
      have a1 := (hO.cell 1 rfl 1).trans rfl
      have z0 := (hO.cell 3 rfl 0).trans rfl
      have z1 := (hO.cell 3 rfl 1).trans rfl
      have y0 := hO.frozen 3 rfl 0
      have y1 := hO.frozen 3 rfl 1
      obtain ⟨T, hT⟩ : ∃ T, R1 + sumP (pws 64 R2) = T := ⟨_, rfl⟩
      have HT := Aside0.mk hT
      rw [hT] at a0 OO
      clear hO hK hS e1 e2 e3 e4 e5 HJ hT
      go_wp2_with fail
      have hD2 : w.heap.size ≤ D := Nat.le_trans HSZ.out hD
      have O2 := (OO.out.put 3 rfl 0 (.int .i64 (T : Int)) rfl).put 3 rfl 1 (.slice A1 m1 c3) rfl
      have S2 := src_set (src_set HSR.out (OO.out.blk 3 rfl) (by decide) 0 (.int .i64 (T : Int))) ((OO.out.put 3 rfl 0 (.int .i64 (T : Int)) rfl).blk 3 rfl) (by decide) 1 (.slice A1 m1 c3)
      have hK2 := def_set (def_set HK.out ⟨gZ, 0, none⟩ (.int .i64 (T : Int))) ⟨gZ, 1, none⟩ (.slice A1 m1 c3)
      have O3 := Fun.own_put O2 (Obj.deferred none) hD2 hK2 rfl
      have S3 := src_rec S2 (grownBy_putObj' _ D (Obj.deferred none)) (fun r e => by cases e; exact ⟨_, hK2, rfl⟩)
      obtain ⟨hm, hle⟩ := HE.out
      subst hm
      have hc2 : (R1 : Int) + (sumP (pws 64 R2) : Int) = (T : Int) := by have := HT.out; omega
      refine ⟨by simp, .inl ⟨_, _, rfl, run_takeDeferred hK2, ?_⟩⟩
      exact ⟨_, results_ct (p := 6) (u := 7) (ty := 41) rfl _ _ gZ 41 _ _ _ rfl (O3.blk 3 rfl) Try.underlying41 rfl (by kernel_rfl), .slice A1 l.length c3, by first | (rw [HT.out]; rfl) | (rw [← hc2]; rfl) | (simp only [Int.natCast_add, hc2]; rfl), ⟨A1, c3, rfl, hle, Src.read S3 O3.below⟩, O3.below⟩
    case stop =>
      rintro D c pre W _ _ h _
      exact h.elim
end Go.Proofs.Ytondnammkcgjpaa.Rg
namespace Go.Proofs.Ytondnammkcgjpaa.Rf
open Go Go.RowKit Go.Shelf Go.Proofs.YtondnammkcgjpaaW.PrintWords Go.Proofs.YtondnammkcgjpaaW.PrintLast Go.Proofs.YtondnammkcgjpaaW.PrintMore
open Go.Proofs.Ytondnammkcgjpaa.ShaP Go.Proofs.Ytondnammkcgjpaa.Mk Go.Proofs.Ytondnammkcgjpaa.Rg
set_option linter.unusedVariables false
set_option linter.unusedSimpArgs false
theorem rdOf_at (l : List ByteArray) (k : Nat) (h : k < l.length) : rdOf ByteArray.empty l (k : Int) = l[k] := by
  unfold rdOf
  rw [Int.toNat_natCast]
  simp [h]
theorem toList_inj {a b : ByteArray} (h : a.toList = b.toList) : a = b := by
  rw [ByteArray.toList_eq, ByteArray.toList_eq] at h
  cases a
  cases b
  congr 1
  exact Array.toList_inj.1 h
/-- texts of a size that is looked at -/
def fewB (l : List ByteArray) (n sz : Nat) : Bool := ((l.take 300).all fun s => decide (s.size ≤ sz)) && decide (l.length ≤ n)
set_option maxRecDepth 100000 in
set_option maxHeartbeats 2000000 in
theorem few_c (A : Option Addr) (c : Nat) (l : List ByteArray) (n sz : Nat) (w : World) (hn : n ≤ 1000000) (hz : sz ≤ 1000000) (hr : Kd.C Kd.string w A l.length l) :
    Calls Try.prog 15 #[.slice A l.length c, .int .i64 (n : Int), .int .i64 (sz : Int)] w fun e w' => e = .returned (.bool (fewB l n sz)) ∧ w = w' := by
  have HR := Aside0.mk hr
  have hm := hr.2.1
  clear hr
  go_enter Try.func15, Try.ntmps15
  go_wp2
  go_loop [7] (fun t => ∃ k : Nat, t = .int .i64 k ∧ k ≤ l.length ∧ k ≤ 300 ∧ Aside0 (((l.take k).all fun s => decide (s.size ≤ sz)) = true)) (fun t => 300 - (intOf t).toNat)
  case atStart => exact ⟨0, rfl, Nat.zero_le _, by omega, ⟨rfl⟩⟩
  case round =>
    obtain ⟨k, rfl, hk1, hk2, HA⟩ := hrel
    by_cases h1 : k < l.length
    · have h1i : (k : Int) < (l.length : Int) := by omega
      by_cases h2 : k < 300
      · have h2i : (k : Int) < 300 := by omega
        obtain ⟨ad, e, hx⟩ := Kd.at_string HR.out (k : Int) (by omega) h1i
        cases e
        have hg : rdOf ByteArray.empty l (k : Int) = l[k] := rdOf_at l k h1
        rw [hg, Int.toNat_natCast] at hx
        by_cases h3 : l[k].size ≤ sz
        · have HA2 : Aside0 (((l.take (k + 1)).all fun s => decide (s.size ≤ sz)) = true) := ⟨by
            rw [List.take_succ_eq_append_getElem h1, List.all_append, HA.out]
            simp [h3]⟩
          generalize l[k] = s at *
          have h3i : ¬ (sz : Int) < (s.size : Int) := by omega
          clear HA hg h3
          go_wp2
          go_round
          case rel => exact ⟨k + 1, by go_num, by omega, by omega, HA2⟩
          case measure => simp [intOf]; omega
        · have HF : Aside0 (fewB l n sz = false) := ⟨by
            unfold fewB
            rw [Bool.and_eq_false_iff]
            left
            rw [List.all_eq_false]
            exact ⟨l[k], List.mem_iff_getElem.2 ⟨k, by rw [List.length_take]; omega, by rw [List.getElem_take]⟩, by simpa using h3⟩⟩
          generalize l[k] = s at *
          have h3i : (sz : Int) < (s.size : Int) := by omega
          clear HA hg h3
          go_wp2
          go_ret
          exact ⟨by rw [HF.out]; rfl, rfl⟩
      · have h2i : ¬ (k : Int) < 300 := by omega
        have HF : Aside0 (fewB l n sz = decide (l.length ≤ n)) := ⟨by
          obtain rfl : k = 300 := by omega
          unfold fewB
          rw [HA.out, Bool.true_and]⟩
        clear HA
        go_wp2
        go_ret
        exact ⟨by rw [HF.out]; rfl, rfl⟩
    · have h1i : ¬ (k : Int) < (l.length : Int) := by omega
      have HF : Aside0 (fewB l n sz = decide (l.length ≤ n)) := ⟨by
        obtain rfl : k = l.length := by omega
        unfold fewB
        have h := HA.out
        rw [List.take_length] at h
        rw [List.take_of_length_le hk2, h, Bool.true_and]⟩
      clear HA
      go_wp2
      go_ret
      exact ⟨by rw [HF.out]; rfl, rfl⟩
set_option maxRecDepth 100000 in
set_option maxHeartbeats 2000000 in
theorem same_c (A B : Option Addr) (c1 c2 : Nat) (l1 l2 : List ByteArray) (w : World) (hr1 : Kd.C Kd.string w A l1.length l1) (hr2 : Kd.C Kd.string w B l2.length l2) :
    Calls Try.prog 23 #[.slice A l1.length c1, .slice B l2.length c2] w fun e w' => e = .returned (.bool (decide (l1 = l2))) ∧ Below w.heap.size w w' := by
  have HR1 := Aside0.mk hr1
  have HR2 := Aside0.mk hr2
  have hm := hr1.2.1
  have hm2 := hr2.2.1
  clear hr1 hr2
  by_cases hl : l1.length = l2.length
  · have hli : ((l1.length : Int) != (l2.length : Int)) = false := by rw [hl]; simp
    have HL := Aside0.mk hl
    clear hl
    go_enter Try.func23, Try.ntmps23
    go_wp2
    go_loopw [5] (fun t wr => ∃ k : Nat, t = .int .i64 k ∧ k ≤ l1.length ∧ Aside0 (l1.take k = l2.take k) ∧ Aside0 (Below w.heap.size w wr)) (fun t _ => l1.length - (intOf t).toNat)
    case atStart => exact ⟨0, rfl, Nat.zero_le _, ⟨rfl⟩, ⟨Below.refl _ _⟩⟩
    case round =>
      obtain ⟨k, rfl, hk1, HA, HB⟩ := hrel
      by_cases h1 : k < l1.length
      · have h1i : (k : Int) < (l1.length : Int) := by omega
        have h12 : k < l2.length := by have := HL.out; omega
        have h12i : (k : Int) < (l2.length : Int) := by omega
        obtain ⟨a1, e, hx⟩ := Kd.at_string (Kd.C_below HR1.out HB.out) (k : Int) (by omega) h1i
        cases e
        obtain ⟨a2, e, hy⟩ := Kd.at_string (Kd.C_below HR2.out HB.out) (k : Int) (by omega) h12i
        cases e
        have hg : rdOf ByteArray.empty l1 (k : Int) = l1[k] := rdOf_at l1 k h1
        have hg2 : rdOf ByteArray.empty l2 (k : Int) = l2[k] := rdOf_at l2 k h12
        rw [hg, Int.toNat_natCast] at hx
        rw [hg2, Int.toNat_natCast] at hy
        by_cases h3 : l1[k] = l2[k]
        · have HA2 : Aside0 (l1.take (k + 1) = l2.take (k + 1)) := ⟨by rw [List.take_succ_eq_append_getElem h1, List.take_succ_eq_append_getElem h12, HA.out, h3]⟩
          rw [h3] at hx
          generalize l2[k] = s at *
          clear HA hg hg2
          go_wp2_with fail
          go_quiet (fail)
          go_wp2
          go_roundw
          case rel => exact ⟨k + 1, by go_num, by omega, HA2, ⟨pw_below_drewN HB.out _⟩⟩
          case measure => simp [intOf]; omega
        · have HF : Aside0 (decide (l1 = l2) = false) := ⟨decide_eq_false (fun e => h3 (by simp only [e]))⟩
          have h3b : (l1[k].toList != l2[k].toList) = true := bne_iff_ne.2 (fun e => h3 (toList_inj e))
          have h3c : (l1[k].toList == l2[k].toList) = false := beq_eq_false_iff_ne.2 (fun e => h3 (toList_inj e))
          generalize l1[k] = s1 at *
          generalize l2[k] = s2 at *
          clear HA hg hg2
          go_wp2_with fail
          go_quiet (fail)
          go_wp2
          go_ret
          exact ⟨by rw [HF.out]; rfl, pw_below_drewN HB.out _⟩
      · have h1i : ¬ (k : Int) < (l1.length : Int) := by omega
        have HF : Aside0 (decide (l1 = l2) = true) := ⟨decide_eq_true (by
          obtain rfl : k = l1.length := by omega
          have h := HA.out
          rwa [List.take_length, HL.out, List.take_length] at h)⟩
        clear HA
        go_wp2
        go_ret
        exact ⟨by rw [HF.out]; rfl, HB.out⟩
  · have hli : ((l1.length : Int) != (l2.length : Int)) = true := by rw [bne_iff_ne]; omega
    have HF : Aside0 (decide (l1 = l2) = false) := ⟨decide_eq_false (fun e => hl (by rw [e]))⟩
    clear hl
    go_enter Try.func23, Try.ntmps23
    go_wp2
    go_ret
    exact ⟨by rw [HF.out]; rfl, Below.refl _ _⟩
theorem h_c (s : ByteArray) (hs : s.size ≤ 100000) (w : World) : Calls Try.prog 38 #[.string s] w fun e w' => e = .returned (.string (Ref01.sumF s)) ∧ Below w.heap.size w w' := by
  have HC := Aside0.mk (Ref01.sum_c s (by omega) w)
  go_enter Try.func38, Try.ntmps38
  go_wp2_with (go_at_call 68; with_reducible refine HC.out.mono ?_; rintro e w_ ⟨rfl, hB⟩; have HB := Aside0.mk hB; clear hB)
  go_ret
  exact ⟨rfl, HB.out⟩
/-- the hashes of leaves -/
def leafF (s : ByteArray) : ByteArray := Ref01.sumF ((⟨#[0]⟩ : ByteArray) ++ s)
def leavesF (l : List ByteArray) : List ByteArray := l.map leafF
theorem leaf_size (s : ByteArray) : (leafF s).size = 32 := sumF_size _
theorem leaves_sm (l : List ByteArray) : Sm (leavesF l) := fun s hs => by
  obtain ⟨x, _, rfl⟩ := List.mem_map.1 hs
  rw [leaf_size]; omega
set_option maxRecDepth 100000 in
set_option maxHeartbeats 4000000 in
theorem leaves_c (A : Option Addr) (c : Nat) (l : List ByteArray) (w : World) (hl : l.length ≤ 100000) (hs : ∀ s ∈ l, s.size ≤ 10000) (hr : Kd.C Kd.string w A l.length l) :
    Calls Try.prog 17 #[.slice A l.length c] w fun e w' => ∃ v, e = .returned v ∧ SR w' w.heap.size v (leavesF l) ∧ Below w.heap.size w w' := by
  have HR := Aside0.mk hr
  have HS := Aside0.mk hs
  have hli : (l.length : Int) ≤ 100000 := by omega
  clear hr hs hl
  go_enter Try.func17, Try.ntmps17
  go_wp2
  go_loopw [3, 4] (fun v3 v4 wr => ∃ (k : Nat) (A3 : Option Addr) (c3 : Nat), v4 = .int .i64 k ∧ v3 = .slice A3 k c3 ∧ k ≤ l.length ∧ Aside0 (SR wr w.heap.size (.slice A3 k c3) (leavesF (l.take k))) ∧ Aside0 (Below w.heap.size w wr)) (fun _ v4 _ => l.length - (intOf v4).toNat)
  case atStart => exact ⟨0, none, 0, rfl, rfl, Nat.zero_le _, ⟨Kd.R_nil _ _ _ _ _⟩, ⟨Below.refl _ _⟩⟩
  case round =>
    obtain ⟨k, A3, c3, rfl, rfl, hk, HO, HB⟩ := hrel
    by_cases h1 : k < l.length
    · have h1i : (k : Int) < (l.length : Int) := by omega
      obtain ⟨ad, e, hx⟩ := Kd.at_string (Kd.C_below HR.out HB.out) (k : Int) (by omega) h1i
      cases e
      rw [rdOf_at l k h1, Int.toNat_natCast] at hx
      have HT : Aside0 (leavesF (l.take (k + 1)) = leavesF (l.take k) ++ [leafF l[k]]) := ⟨by unfold leavesF; rw [List.take_succ_eq_append_getElem h1, List.map_append]; rfl⟩
      have hsz : l[k].size ≤ 10000 := HS.out _ (List.getElem_mem h1)
      have hlt : (leavesF (l.take k)).length = k := by unfold leavesF; rw [List.length_map, List.length_take]; omega
      generalize l[k] = s at *
      have HH := Aside0.mk (fun W => h_c ((⟨#[0]⟩ : ByteArray) ++ s) (by rw [ByteArray.size_append]; show 1 + s.size ≤ _; omega) W)
      have z1 : (1 + s.size ≤ 9223372036854775807) = True := eq_true (by omega)
      have z3 : (9223372036854775807 < 1 + s.size) = False := eq_false (by omega)
      have HLT := Aside0.mk hlt
      generalize leavesF (l.take k) = ol at *
      have hfold : Ref01.sumF ((⟨#[0]⟩ : ByteArray) ++ s) = leafF s := rfl
      rw [hfold] at HH
      clear hlt hsz hfold
      go_wp2_with (first
        | (go_at_call 38; with_reducible refine (HH.out _).mono ?_; rintro e w1 ⟨rfl, hB⟩; have HB1 := Aside0.mk (below_step HB.out hB); have HO1 := Aside0.mk (Kd.R_below HO.out hB); clear hB HB HO hx)
        | ((with_reducible refine gate_builtin (b := .append) (xs := #[.tmp 11, .tmp 18]) rfl ?_); at_builtin; refine Kd.R_append (P := Try.prog) Kd.string (w0 := w) (W := w1) w.heap.size rfl (.tmp 11) (.tmp 18) 22 9 (.string ⟨#[]⟩) 16 rfl Try.underlying22 info_str rfl (by decide) (by decide) (.slice A3 k c3) ol (leafF s) [.string (leafF s)] (fun _ => True) (fun _ => False) rfl rfl rfl (fun _ h => h.elim) (fun _ _ => trivial) HO1.out HB1.out HB1.out.size (by rw [HLT.out]; omega) ?_; intro v2 w2 hr2 hb2 hg2 hat2; obtain ⟨A4, c4, e4⟩ := Kd.R_slice hr2; have e5 : (ol ++ [leafF s]).length = k + 1 := (by rw [List.length_append, HLT.out]; rfl); rw [e5] at e4; subst e4; have HR2 := Aside0.mk hr2; have HB2 := Aside0.mk hb2; clear hr2 hb2 hg2 hat2 e5))
      go_roundw
      case rel => exact ⟨k + 1, A4, c4, by go_num, rfl, by omega, by rw [HT.out]; exact HR2, HB2⟩
      case measure => simp [intOf]; omega
    · have h1i : ¬ (k : Int) < (l.length : Int) := by omega
      obtain rfl : k = l.length := by omega
      go_wp2
      go_ret
      exact ⟨_, rfl, by have h := HO.out; rw [List.take_length] at h; exact h, HB.out⟩
end Go.Proofs.Ytondnammkcgjpaa.Rf
namespace Go.Proofs.Ytondnammkcgjpaa.Rf
open Go Go.RowKit Go.Shelf Go.Proofs.YtondnammkcgjpaaW.PrintWords Go.Proofs.YtondnammkcgjpaaW.PrintLast Go.Proofs.YtondnammkcgjpaaW.PrintMore
open Go.Proofs.Ytondnammkcgjpaa.ShaP Go.Proofs.Ytondnammkcgjpaa.Mk Go.Proofs.Ytondnammkcgjpaa.Rg Go.Proofs.Ytondnammkcgjpaa.Rng
set_option linter.unusedVariables false
set_option linter.unusedSimpArgs false
/-- halved while it is no less -/
def hv : Nat → Nat → Nat → Nat
  | 0, k, _ => k
  | f + 1, k, n => if n ≤ k then hv f (k / 2) n else k
theorem hv_split : ∀ n, n < 65 → 2 ≤ n → hv 64 64 n = splitN n := by decide +kernel
set_option maxRecDepth 100000 in
set_option maxHeartbeats 2000000 in
theorem half_c (n : Nat) (h2 : 2 ≤ n) (hn : n ≤ 64) (w : World) : Calls Try.prog 67 #[.int .i64 (n : Int)] w fun e w' => e = .returned (.int .i64 (splitN n : Int)) ∧ w = w' := by
  have HV := Aside0.mk (hv_split n (by omega) h2)
  go_enter Try.func67, Try.ntmps67
  go_wp2
  go_loop [3] (fun t => ∃ f k : Nat, t = .int .i64 k ∧ k ≤ 64 ∧ k ≤ f ∧ Aside0 (splitN n = hv f k n)) (fun t => (intOf t).toNat)
  case atStart => exact ⟨64, 64, rfl, by omega, by omega, ⟨HV.out.symm⟩⟩
  case round =>
    obtain ⟨f, k, rfl, h0, hf, HS⟩ := hrel
    by_cases hlt : n ≤ k
    · have hz : (n : Int) ≤ (k : Int) := by omega
      obtain ⟨f, rfl⟩ : ∃ g, f = g + 1 := ⟨f - 1, by omega⟩
      have HS2 := Aside0.mk (HS.out.trans (by rw [hv, if_pos hlt]))
      clear HS
      go_wp2
      go_round
      case rel => exact ⟨f, k / 2, by go_num, by omega, by omega, HS2⟩
      case measure => simp [intOf]; omega
    · have hz : ¬ (n : Int) ≤ (k : Int) := by omega
      have HS2 : Aside0 (splitN n = k) := ⟨HS.out.trans (by
        cases f with
        | zero => rfl
        | succ f => rw [hv, if_neg hlt])⟩
      clear HS
      go_wp2
      go_ret
      exact ⟨by rw [HS2.out]; rfl, rfl⟩
set_option maxRecDepth 100000 in
set_option maxHeartbeats 4000000 in
theorem rfroot_c (f : Nat) : ∀ (A : Option Addr) (c : Nat) (l : List ByteArray) (w : World), l.length < f → l.length ≤ 64 → Sm l → l.length ≤ c → Kd.C Kd.string w A l.length l →
    Calls Try.prog 36 #[.slice A l.length c] w fun e w' => e = .returned (.string (rootN f l)) ∧ Below w.heap.size w w' := by
  induction f with
  | zero => intro A c l w h; omega
  | succ f ih =>
    intro A c l w hl hf hs hc hr
    by_cases h0 : l.length = 0
    · obtain rfl : l = [] := List.length_eq_zero_iff.1 h0
      have HR : Aside0 (rootN (f + 1) [] = Ref01.sumF ⟨#[]⟩) := ⟨by simp [rootN]⟩
      have HS := Aside0.mk (fun W => h_c ⟨#[]⟩ (by decide) W)
      clear ih hl hs hc hr h0 hf
      simp only [List.length_nil]
      go_enter Try.func36, Try.ntmps36
      go_wp2_with (go_at_call 38; with_reducible refine (HS.out _).mono ?_; rintro e w_ ⟨rfl, hB⟩; have OB := Aside0.mk hB; clear hB)
      go_ret
      exact ⟨by rw [HR.out]; rfl, OB.out⟩
    by_cases h1 : l.length = 1
    · have HR : Aside0 (rootN (f + 1) l = rdOf ByteArray.empty l 0) := ⟨by rw [rootN, if_neg h0, if_pos h1]⟩
      obtain ⟨ad, e, hx⟩ := Kd.at_string hr 0 (by omega) (by omega)
      cases e
      have ha0 : ad.add (Int.toNat 0) = ad := by simp [Addr.add]
      rw [ha0] at hx
      generalize rdOf ByteArray.empty l 0 = x at HR hx
      rw [h1] at hc ⊢
      clear ih hl hs hr h0 hf
      have h1 : True := trivial
      go_enter Try.func36, Try.ntmps36
      go_wp2
      go_ret
      exact ⟨by rw [HR.out]; rfl, Below.refl _ _⟩
    · have n0 : ((l.length : Int) == 0) = false := by simpa using h0
      have n1 : ((l.length : Int) == 1) = false := by rw [beq_eq_false_iff_ne]; omega
      have HR : Aside0 (rootN (f + 1) l = pairF (rootN f (l.take (splitN l.length))) (rootN f (l.drop (splitN l.length)))) := ⟨by rw [rootN, if_neg h0, if_neg h1]⟩
      have hk := splitN_bd l.length (by omega)
      have HSP := Aside0.mk (half_c l.length (by omega) (by omega))
      obtain ⟨k, ek⟩ : ∃ k, splitN l.length = k := ⟨_, rfl⟩
      rw [ek] at hk HSP HR
      obtain ⟨hcut1, hC1, hc1⟩ := cut_take A c l k (by omega) hc
      obtain ⟨A2, hcut2, hC2, hc2⟩ := cut_drop A c l k (by omega) hc
      have C1 := Aside0.mk (hC1 w hr)
      have C2 := Aside0.mk (hC2 w hr)
      have s1 := hs.take k
      have s2 := hs.drop k
      have e1 : (l.take k).length < f ∧ (l.take k).length ≤ 64 := by rw [List.length_take]; omega
      have e2 : (l.drop k).length < f ∧ (l.drop k).length ≤ 64 := by rw [List.length_drop]; omega
      generalize l.take k = l1 at *
      generalize l.drop k = l2 at *
      have IH1 := Aside0.mk (fun W h => ih A c l1 W e1.1 e1.2 s1 hc1 h)
      have IH2 := Aside0.mk (fun W h => ih A2 (c - k) l2 W e2.1 e2.2 s2 hc2 h)
      have g1 := rootN_size f l1 s1
      have g2 := rootN_size f l2 s2
      have hfold : Ref01.sumF ((⟨#[1]⟩ : ByteArray) ++ rootN f l1 ++ rootN f l2) = pairF (rootN f l1) (rootN f l2) := rfl
      generalize rootN f l1 = r1 at *
      generalize rootN f l2 = r2 at *
      have HP := Aside0.mk (fun W => h_c ((⟨#[1]⟩ : ByteArray) ++ r1 ++ r2) (by rw [cat_size]; omega) W)
      rw [hfold] at HP
      have z1 : (1 + r1.size ≤ 9223372036854775807) = True := eq_true (by omega)
      have z2 : (((⟨#[1]⟩ : ByteArray) ++ r1).size + r2.size ≤ 9223372036854775807) = True := eq_true (by rw [ByteArray.size_append]; show 1 + r1.size + r2.size ≤ _; omega)
      have z3 : (9223372036854775807 < 1 + r1.size) = False := eq_false (by omega)
      have z4 : (9223372036854775807 < ((⟨#[1]⟩ : ByteArray) ++ r1).size + r2.size) = False := eq_false (by rw [ByteArray.size_append]; show ¬ _ < 1 + r1.size + r2.size; omega)
      have z5 : (9223372036854775807 < 1 + r1.size + r2.size) = False := eq_false (by omega)
      clear ih hl hs hr h0 hf hk ek hC1 hC2 s1 s2 e1 e2 hc1 hc2 h1 hc g1 g2 hfold
      go_enter Try.func36, Try.ntmps36
      go_wp2_with (go_at_call 67; with_reducible refine (HSP.out _).mono ?_; rintro e w_ ⟨rfl, rfl⟩)
      have OD := Aside0.mk (below_drew (Below.refl w.heap.size w))
      refine start_ (n := 12) (S := fun w' => Below (w).drew.heap.size (w).drew w') (ds := []) #[false, false, false, false, false, false, false, false, false, false, false, false] (by kernel_rfl) rfl rfl (Below.refl _ _) (fun hHeld => ?_)
      generalize (w).drew = W0 at *
      refine pure_ (i := 0) (N := (some 17)) (v := ?_) (a' := ?_) #[true, false, false, false, false, false, false, false, false, false, false, false] rfl rfl (by kernel_rfl) (fun _ _ _ h => h) (Or.inl ⟨by rfl, ?_⟩) ?_ ?_
      rotate_left
      · intro w'
        go_simp
        first | done | with_reducible rfl
      rotate_left
      · simp only [Act.put, List.setIfInBounds_toArray, List.set_cons_zero, List.set_cons_succ, i64_w, i32_w]
        rfl
      refine pure_ (i := 1) (N := (some 18)) (v := ?_) (a' := ?_) #[true, true, false, false, false, false, false, false, false, false, false, false] rfl rfl (by kernel_rfl) (fun _ _ _ h => h) (Or.inl ⟨by rfl, ?_⟩) ?_ ?_
      rotate_left
      · intro w'
        go_simp
        first | done | with_reducible rfl
      rotate_left
      · simp only [Act.put, List.setIfInBounds_toArray, List.set_cons_zero, List.set_cons_succ, i64_w, i32_w]
        rfl
      refine pure_ (i := 2) (N := (some 19)) (v := ?_) (a' := ?_) #[true, true, true, false, false, false, false, false, false, false, false, false] rfl rfl (by kernel_rfl) (fun _ _ _ h => h) (Or.inl ⟨by rfl, ?_⟩) ?_ ?_
      rotate_left
      · intro w'
        go_simp
        first | done | with_reducible rfl
      rotate_left
      · simp only [Act.put, List.setIfInBounds_toArray, List.set_cons_zero, List.set_cons_succ, i64_w, i32_w]
        rfl
      refine pure_ (i := 5) (N := (some 22)) (v := ?_) (a' := ?_) #[true, true, true, false, false, true, false, false, false, false, false, false] rfl rfl (by kernel_rfl) (fun _ _ _ h => h) (Or.inl ⟨by rfl, ?_⟩) ?_ ?_
      rotate_left
      · intro w'
        go_simp
        first | done | with_reducible rfl
      rotate_left
      · simp only [Act.put, List.setIfInBounds_toArray, List.set_cons_zero, List.set_cons_succ, i64_w, i32_w]
        rfl
      refine pure_ (i := 6) (N := (some 23)) (v := ?_) (a' := ?_) #[true, true, true, false, false, true, true, false, false, false, false, false] rfl rfl (by kernel_rfl) (fun _ _ _ h => h) (Or.inl ⟨by rfl, ?_⟩) ?_ ?_
      rotate_left
      · intro w'
        go_simp
        first | done | with_reducible rfl
      rotate_left
      · simp only [Act.put, List.setIfInBounds_toArray, List.set_cons_zero, List.set_cons_succ, i64_w, i32_w]
        rfl
      refine pure_ (i := 7) (N := (some 24)) (v := ?_) (a' := ?_) #[true, true, true, false, false, true, true, true, false, false, false, false] rfl rfl (by kernel_rfl) (fun _ _ _ h => h) (Or.inl ⟨by rfl, ?_⟩) ?_ ?_
      rotate_left
      · intro w'
        go_simp
        first | done | with_reducible rfl
      rotate_left
      · simp only [Act.put, List.setIfInBounds_toArray, List.set_cons_zero, List.set_cons_succ, i64_w, i32_w]
        rfl
      refine one_ (i := 3) (N := (some 20)) #[true, true, true, true, false, true, true, true, false, false, false, false] rfl rfl (by kernel_rfl) (by decide) (fun K hK => ?_)
      refine goes_ Try.func36 (by kernel_rfl) rfl #[.slice A l1.length c] (by rfl) rfl rfl (by (try simp only [List.map_toArray, List.map_cons, List.map_nil]); first | done | rfl) ?_
      with_reducible refine (IH1.out _ (Kd.C_below C1.out OD.out)).mono ?_
      rintro e w1 ⟨rfl, hB⟩
      refine ⟨_, rfl, ?_⟩
      have hS2 : Below W0.heap.size W0 w1 := hB
      clear hB
      refine hK.out _ _ hS2 (fun hHeld => ?_)
      clear hK K
      refine norm_ (a' := ?_) ?_ ?_
      rotate_left
      · show Act.put _ (some 20) _ = _
        simp only [Act.put, List.setIfInBounds_toArray, List.set_cons_zero, List.set_cons_succ, i64_w, i32_w]
        rfl
      refine pure_ (i := 4) (N := (some 21)) (v := ?_) (a' := ?_) #[true, true, true, true, true, true, true, true, false, false, false, false] rfl rfl (by kernel_rfl) (fun _ _ _ h => h) (Or.inl ⟨by rfl, ?_⟩) ?_ ?_
      rotate_left
      · intro w'
        go_simp
        first | done | with_reducible rfl
      rotate_left
      · simp only [Act.put, List.setIfInBounds_toArray, List.set_cons_zero, List.set_cons_succ, i64_w, i32_w]
        rfl
      refine one_ (i := 8) (N := (some 25)) #[true, true, true, true, true, true, true, true, true, false, false, false] rfl rfl (by kernel_rfl) (by decide) (fun K hK => ?_)
      refine goes_ Try.func36 (by kernel_rfl) rfl #[.slice A2 l2.length (c - k)] (by rfl) rfl rfl (by (try simp only [List.map_toArray, List.map_cons, List.map_nil]); first | done | rfl) ?_
      with_reducible refine (IH2.out _ (Kd.C_below C2.out (below_step OD.out hHeld))).mono ?_
      rintro e w2 ⟨rfl, hB⟩
      refine ⟨_, rfl, ?_⟩
      have hS2 : Below W0.heap.size W0 w2 := below_step hHeld hB
      clear hB hHeld
      refine hK.out _ _ hS2 (fun hHeld => ?_)
      clear hK K
      refine norm_ (a' := ?_) ?_ ?_
      rotate_left
      · show Act.put _ (some 25) _ = _
        simp only [Act.put, List.setIfInBounds_toArray, List.set_cons_zero, List.set_cons_succ, i64_w, i32_w]
        rfl
      refine pure_ (i := 9) (N := (some 26)) (v := ?_) (a' := ?_) #[true, true, true, true, true, true, true, true, true, true, false, false] rfl rfl (by kernel_rfl) (fun _ _ _ h => h) (Or.inl ⟨by rfl, ?_⟩) ?_ ?_
      rotate_left
      · intro w'
        go_simp
        first | done | with_reducible rfl
      rotate_left
      · simp only [Act.put, List.setIfInBounds_toArray, List.set_cons_zero, List.set_cons_succ, i64_w, i32_w]
        rfl
      refine one_ (i := 10) (N := (some 27)) #[true, true, true, true, true, true, true, true, true, true, true, false] rfl rfl (by kernel_rfl) (by decide) (fun K hK => ?_)
      refine goes_ Try.func38 (by kernel_rfl) rfl #[.string ((⟨#[1]⟩ : ByteArray) ++ r1 ++ r2)] (by rfl) rfl rfl (by (try simp only [List.map_toArray, List.map_cons, List.map_nil]); first | done | rfl) ?_
      with_reducible refine (HP.out _).mono ?_
      rintro e w3 ⟨rfl, hB⟩
      refine ⟨_, rfl, ?_⟩
      have hS2 : Below W0.heap.size W0 w3 := below_step hHeld hB
      clear hB hHeld
      refine hK.out _ _ hS2 (fun hHeld => ?_)
      clear hK K
      refine norm_ (a' := ?_) ?_ ?_
      rotate_left
      · show Act.put _ (some 27) _ = _
        simp only [Act.put, List.setIfInBounds_toArray, List.set_cons_zero, List.set_cons_succ, i64_w, i32_w]
        rfl
      refine pure_ (i := 11) (N := (some 2)) (v := ?_) (a' := ?_) #[true, true, true, true, true, true, true, true, true, true, true, true] rfl rfl (by kernel_rfl) (fun _ _ _ h => h) (Or.inl ⟨by rfl, ?_⟩) ?_ ?_
      rotate_left
      · intro w'
        go_simp
        first | done | with_reducible rfl
      rotate_left
      · simp only [Act.put, List.setIfInBounds_toArray, List.set_cons_zero, List.set_cons_succ, i64_w, i32_w]
        rfl
      refine done_ (by kernel_rfl) ?_
      have OB := Aside0.mk (below_step OD.out hHeld)
      clear hHeld
      go_wp2_with fail
      go_ret
      exact ⟨by rw [HR.out]; rfl, OB.out⟩
/-- the powers of two that a number is made of -/
def szN : Nat → Nat → Nat → List Nat
  | 0, _, _ => []
  | f + 1, p, n => if p = 0 then [] else if p ≤ n then p :: szN f (p / 2) (n - p) else szN f (p / 2) n
theorem sz_pws : ∀ n, n < 129 → szN 42 1099511627776 n = (pws 64 n).map (·.1) := by decide +kernel
theorem szN_len (f : Nat) : ∀ p n, (szN f p n).length ≤ f := by
  induction f with
  | zero => intro p n; simp [szN]
  | succ f ih =>
    intro p n
    rw [szN]
    split
    · simp
    · split
      · have := ih (p / 2) (n - p); simp only [List.length_cons]; omega
      · have := ih (p / 2) n; omega
theorem info_int : (Try.prog.info? 3).map (fun i => (i.zero, i.size, i.bytes)) = some (some (.int .i64 0), 1, 8) := by kernel_rfl
def natsI (l : List Nat) : List Int := l.map fun (n : Nat) => (n : Int)
abbrev IR (w : World) (base : Nat) (v : Value) (l : List Int) : Prop := Kd.R (Kd.int .i64) 3 w base (fun _ => True) v l
set_option maxRecDepth 100000 in
set_option maxHeartbeats 4000000 in
theorem sizes_c (n : Nat) (hn : n < 129) (w : World) : Calls Try.prog 22 #[.int .i64 (n : Int)] w fun e w' => ∃ v, e = .returned v ∧ IR w' w.heap.size v (natsI ((pws 64 n).map (·.1))) ∧ Below w.heap.size w w' := by
  have HSZ := Aside0.mk (sz_pws n hn)
  rw [← HSZ.out]
  have hni : (n : Int) < 129 := by omega
  go_enter Try.func22, Try.ntmps22
  go_wp2
  go_loopw [0, 3, 4] (fun v0 v3 v4 wr => ∃ (f p m k : Nat) (ol : List Nat) (A3 : Option Addr) (c3 : Nat), v0 = .int .i64 m ∧ v3 = .slice A3 k c3 ∧ v4 = .int .i64 p ∧ p ≤ 1099511627776 ∧ m ≤ 128 ∧ Aside0 (ol.length = k ∧ k + f ≤ 42 ∧ p < 2 ^ f) ∧ Aside0 (ol ++ szN f p m = szN 42 1099511627776 n) ∧ Aside0 (IR wr w.heap.size (.slice A3 k c3) (natsI ol)) ∧ Aside0 (Below w.heap.size w wr)) (fun _ _ v4 _ => (intOf v4).toNat)
  case atStart => exact ⟨42, 1099511627776, n, 0, [], none, 0, rfl, rfl, rfl, by omega, by omega, ⟨rfl, by omega, by decide⟩, ⟨rfl⟩, ⟨Kd.R_nil _ _ _ _ _⟩, ⟨Below.refl _ _⟩⟩
  case round =>
    obtain ⟨f, p, m, k, ol, A3, c3, rfl, rfl, rfl, hp, hm, HK, HE, HO, HB⟩ := hrel
    by_cases h0 : 0 < p
    · have h0i : (0 : Int) < (p : Int) := by omega
      obtain ⟨f, rfl⟩ : ∃ g, f = g + 1 := by
        cases f with
        | zero => have := HK.out.2.2; simp at this; omega
        | succ g => exact ⟨g, rfl⟩
      have hp2 : p / 2 < 2 ^ f := by have := HK.out.2.2; rw [Nat.pow_succ] at this; omega
      have hk : k ≤ 41 := by have := HK.out.2.1; omega
      by_cases h1 : p ≤ m
      · have h1i : (p : Int) ≤ (m : Int) := by omega
        have HE2 : Aside0 ((ol ++ [p]) ++ szN f (p / 2) (m - p) = szN 42 1099511627776 n) := ⟨by have h := HE.out; rw [szN, if_neg (by omega), if_pos h1] at h; rw [← h]; simp⟩
        have HN : Aside0 (natsI (ol ++ [p]) = natsI ol ++ [(p : Int)]) := ⟨by simp [natsI]⟩
        have HLN : Aside0 ((natsI ol).length = k) := ⟨by unfold natsI; rw [List.length_map]; exact HK.out.1⟩
        have HK2 : Aside0 ((ol ++ [p]).length = k + 1 ∧ k + 1 + f ≤ 42 ∧ p / 2 < 2 ^ f) := ⟨by rw [List.length_append, HK.out.1]; rfl, by have := HK.out.2.1; omega, hp2⟩
        clear HE HK hp2
        generalize natsI ol = il at *
        go_wp2_with ((with_reducible refine gate_builtin (b := .append) (xs := #[.tmp 12, .tmp 14]) rfl ?_); at_builtin; refine Kd.R_append (P := Try.prog) (Kd.int .i64) (w0 := w) (W := wr) w.heap.size rfl (.tmp 12) (.tmp 14) 45 3 (.int .i64 0) 8 rfl Try.underlying45 info_int rfl (by decide) (by decide) (.slice A3 k c3) il (p : Int) [.int .i64 (p : Int)] (fun _ => True) (fun _ => False) rfl rfl rfl (fun _ h => h.elim) (fun _ _ => trivial) HO.out HB.out HB.out.size (by rw [HLN.out]; omega) ?_; intro v2 w2 hr2 hb2 hg2 hat2; obtain ⟨A4, c4, e4⟩ := Kd.R_slice hr2; have e5 : (il ++ [(p : Int)]).length = k + 1 := (by rw [List.length_append, HLN.out]; rfl); rw [e5] at e4; subst e4; have HR2 := Aside0.mk hr2; have HB2 := Aside0.mk hb2; clear hr2 hb2 hg2 hat2 e5)
        go_roundw
        case rel => exact ⟨f, p / 2, m - p, k + 1, ol ++ [p], A4, c4, by rw [show ((m - p : Nat) : Int) = (m : Int) - (p : Int) by omega], rfl, by go_num, by omega, by omega, HK2, HE2, by rw [HN.out]; exact HR2, HB2⟩
        case measure => simp [intOf]; omega
      · have h1i : ¬ (p : Int) ≤ (m : Int) := by omega
        have HE2 : Aside0 (ol ++ szN f (p / 2) m = szN 42 1099511627776 n) := ⟨by have h := HE.out; rw [szN, if_neg (by omega), if_neg h1] at h; exact h⟩
        have HK2 : Aside0 (ol.length = k ∧ k + f ≤ 42 ∧ p / 2 < 2 ^ f) := ⟨HK.out.1, by have := HK.out.2.1; omega, hp2⟩
        clear HE HK hp2
        go_wp2
        go_roundw
        case rel => exact ⟨f, p / 2, m, k, ol, A3, c3, rfl, rfl, by go_num, by omega, by omega, HK2, HE2, HO, HB⟩
        case measure => simp [intOf]; omega
    · have h0i : ¬ (0 : Int) < (p : Int) := by omega
      obtain rfl : p = 0 := by omega
      have HE2 : Aside0 (ol = szN 42 1099511627776 n) := ⟨by
        have h := HE.out
        cases f with
        | zero => rw [szN, List.append_nil] at h; exact h
        | succ f => rw [szN, if_pos rfl, List.append_nil] at h; exact h⟩
      clear HE HK
      go_wp2
      go_ret
      exact ⟨_, rfl, by rw [← HE2.out]; exact HO.out, HB.out⟩
theorem int_at {W : World} {base : Nat} {ad : Addr} {n c : Nat} {xs : List Int} (h : IR W base (.slice (some ad) n c) xs) (k : Nat) (hk : k < xs.length) : W.cell? (ad.add k) = some (.int .i64 (rd xs (k : Int))) := by
  obtain ⟨ad2, e, hx⟩ := Kd.at_int (Kd.R_reads' h).2.2 (k : Int) (by omega) (by omega)
  cases e
  exact hx
theorem rd_nats (P : List Pw) (k : Nat) (h : k < P.length) : rd (natsI (P.map (·.1))) (k : Int) = ((P[k].1 : Nat) : Int) := by
  unfold rd natsI
  rw [Int.toNat_natCast]
  simp [h]
set_option maxRecDepth 100000 in
set_option maxHeartbeats 4000000 in
theorem rfof_c (A : Option Addr) (c : Nat) (l : List ByteArray) (w : World) (hl : l.length ≤ 64) (hs : Sm l) (hc : l.length ≤ c) (hr : Kd.C Kd.string w A l.length l) :
    Calls Try.prog 24 #[.slice A l.length c] w fun e w' => ∃ v, e = .returned v ∧ SR w' w.heap.size v (ofF l) ∧ Below w.heap.size w w' := by
  have HR := Aside0.mk hr
  have HS := Aside0.mk (show Sm l ∧ l.length ≤ 64 ∧ l.length ≤ c from ⟨hs, hl, hc⟩)
  have HSZ := Aside0.mk (fun W => sizes_c l.length (by omega) W)
  have hli : (l.length : Int) ≤ 64 := by omega
  clear hr hs hl hc
  obtain ⟨P, hP⟩ : ∃ P, pws 64 l.length = P := ⟨_, rfl⟩
  have HPL : Aside0 (P.length ≤ 64) := ⟨by rw [← hP]; exact pws_len 64 _⟩
  have HPP := Aside0.mk hP
  rw [hP] at HSZ
  have hPl : (P.length : Int) ≤ 64 := by have := HPL.out; omega
  clear hP
  go_enter Try.func24, Try.ntmps24
  go_wp2_with (go_at_call 22; with_reducible refine (HSZ.out _).mono ?_; rintro e w1 ⟨v4, rfl, hr4, hB⟩; obtain ⟨A4, c4, e4⟩ := Kd.R_slice hr4; have e5 : (natsI (P.map (·.1))).length = P.length := (by simp [natsI]); rw [e5] at e4; subst e4; have HC4 := Aside0.mk hr4; have HB := Aside0.mk hB; clear hr4 hB e5)
  go_loopw [3, 5, 6] (fun v3 v5 v6 wr => ∃ (k a : Nat) (A3 : Option Addr) (c3 : Nat), v6 = .int .i64 k ∧ v5 = .int .i64 a ∧ v3 = .slice A3 k c3 ∧ k ≤ P.length ∧ Aside0 (sumP (P.take k) = a) ∧ Aside0 (SR wr w.heap.size (.slice A3 k c3) (ofA l 0 (P.take k))) ∧ Aside0 (Below w.heap.size w wr) ∧ Aside0 (IR wr w.heap.size (.slice A4 P.length c4) (natsI (P.map (·.1))))) (fun _ _ v6 _ => P.length - (intOf v6).toNat)
  case atStart => exact ⟨0, 0, none, 0, rfl, rfl, rfl, Nat.zero_le _, ⟨rfl⟩, ⟨Kd.R_nil _ _ _ _ _⟩, HB, HC4⟩
  case round =>
    clear HC4 HB
    obtain ⟨k, a, A3, c3, rfl, rfl, rfl, hk, HA, HO, HB, HC4⟩ := hrel
    by_cases h1 : k < P.length
    · have h1i : (k : Int) < (P.length : Int) := by omega
      have hnl : (natsI (P.map (·.1))).length = P.length := by simp [natsI]
      obtain ⟨ad, e, _⟩ := Kd.at_int (Kd.R_reads' HC4.out).2.2 (k : Int) (by omega) (by rw [hnl]; exact h1i)
      cases e
      have HIA := Aside0.mk (fun W (h : IR W w.heap.size (.slice (some ad) P.length c4) (natsI (P.map (·.1)))) => (int_at h k (by rw [hnl]; exact h1)).trans (by rw [rd_nats P k h1]))
      have hx := HIA.out _ HC4.out
      have htk : P.take (k + 1) = P.take k ++ [P[k]] := List.take_succ_eq_append_getElem h1
      have hpre : P.take k ++ [P[k]] <+: pws 64 l.length := by rw [← htk, HPP.out]; exact List.take_prefix _ _
      have hsum := sumP_pre (by have := HS.out.2.1; omega) hpre
      have HSP : Aside0 (sumP (P.take (k + 1)) = sumP (P.take k) + P[k].1) := ⟨by rw [htk, sumP_append]; simp [sumP]⟩
      have HSN : Aside0 (ofA l 0 (P.take (k + 1)) = ofA l 0 (P.take k) ++ [rootF ((l.take (0 + sumP (P.take k) + P[k].1)).drop (0 + sumP (P.take k)))]) := ⟨by rw [htk, ofA_snoc]⟩
      rw [Nat.zero_add] at HSN
      have hlt : (ofA l 0 (P.take k)).length = k := by rw [ofA_len, List.length_take]; omega
      obtain ⟨p, hp⟩ : ∃ p, P[k].1 = p := ⟨_, rfl⟩
      rw [hp] at hx hsum HSP HSN HIA
      rw [HA.out] at hsum HSP HSN
      obtain ⟨b, hb⟩ : ∃ b, a + p = b := ⟨_, rfl⟩
      rw [hb] at HSN HSP hsum
      obtain ⟨A2, hcut, hC2, hc2⟩ := cut_mid A c l a b (by omega) hsum HS.out.2.2
      have s2 : Sm ((l.take b).drop a) := (HS.out.1.take b).drop a
      have l2 : ((l.take b).drop a).length ≤ 64 := by rw [List.length_drop, List.length_take]; have := HS.out.2.1; omega
      have CS := Aside0.mk (hC2 w HR.out)
      generalize (l.take b).drop a = seg at *
      have HRT := Aside0.mk (fun W h => rfroot_c 100000 A2 (c - a) seg W (by omega) l2 s2 hc2 h)
      have hfold : rootN 100000 seg = rootF seg := rfl
      rw [hfold] at HRT
      have HLT := Aside0.mk hlt
      generalize ofA l 0 (P.take k) = ol at *
      have hab : (a : Int) + (p : Int) = (b : Int) := by omega
      have hwb : wrap64 (b : Int) = (b : Int) := by unfold wrap64; have := HS.out.2.1; omega
      clear hnl hlt hfold hsum hpre htk l2 s2 hc2 hC2 hb hp HA
      go_wp2_with (first
        | (go_at_call 36; with_reducible refine (HRT.out _ (Kd.C_below CS.out HB.out)).mono ?_; rintro e w2 ⟨rfl, hB⟩; have HB1 := Aside0.mk (below_step HB.out hB); have HO1 := Aside0.mk (Kd.R_below HO.out hB); have HC5 := Aside0.mk (Kd.R_below HC4.out hB); clear hB HB HO hx HC4)
        | ((with_reducible refine gate_builtin (b := .append) (xs := #[.tmp 16, .tmp 27]) rfl ?_); at_builtin; refine Kd.R_append (P := Try.prog) Kd.string (w0 := w) (W := w2) w.heap.size rfl (.tmp 16) (.tmp 27) 22 9 (.string ⟨#[]⟩) 16 rfl Try.underlying22 info_str rfl (by decide) (by decide) (.slice A3 k c3) ol (rootF seg) [.string (rootF seg)] (fun _ => True) (fun _ => False) rfl rfl rfl (fun _ h => h.elim) (fun _ _ => trivial) HO1.out HB1.out HB1.out.size (by rw [HLT.out]; have := HPL.out; omega) ?_; intro v2 w3 hr2 hb2 hg2 hat2; obtain ⟨A5, c5, e4⟩ := Kd.R_slice hr2; have e5 : (ol ++ [rootF seg]).length = k + 1 := (by rw [List.length_append, HLT.out]; rfl); rw [e5] at e4; subst e4; have HR2 := Aside0.mk hr2; have HB2 := Aside0.mk hb2; have HC6 := Aside0.mk (Kd.R_over HC5.out HO1.out (by decide) hg2); have hx := HIA.out _ HC6.out; clear hr2 hb2 hg2 hat2 e5 HC5 HO1 HB1))
      go_roundw
      case rel => exact ⟨k + 1, b, A5, c5, by go_num, by rw [hwb], rfl, by omega, HSP, by rw [HSN.out]; exact HR2, HB2, HC6⟩
      case measure => simp [intOf]; omega
    · have h1i : ¬ (k : Int) < (P.length : Int) := by omega
      obtain rfl : k = P.length := by omega
      go_wp2
      go_ret
      exact ⟨_, rfl, by have h := HO.out; rw [List.take_length] at h; unfold ofF; rw [HPP.out]; exact h, HB.out⟩
end Go.Proofs.Ytondnammkcgjpaa.Rf
namespace Go.Proofs.Ytondnammkcgjpaa.Rf
open Go Go.RowKit Go.Shelf Go.Proofs.YtondnammkcgjpaaW.PrintWords Go.Proofs.YtondnammkcgjpaaW.PrintLast Go.Proofs.YtondnammkcgjpaaW.PrintMore
open Go.Proofs.Ytondnammkcgjpaa.Rng
set_option linter.unusedVariables false
def oc1 (x : Int) : Int := IntKind.u64.wrap (Go.bits .and .u64 (x / 2) 6148914691236517205 + Go.bits .and .u64 x 6148914691236517205)
def oc2 (x : Int) : Int := IntKind.u64.wrap (Go.bits .and .u64 (x / 4) 3689348814741910323 + Go.bits .and .u64 x 3689348814741910323)
def oc3 (x : Int) : Int := Go.bits .and .u64 (IntKind.u64.wrap (x / 16 + x)) 1085102592571150095
def oc4 (x : Int) : Int := IntKind.u64.wrap (x + x / 256)
def oc5 (x : Int) : Int := IntKind.u64.wrap (x + x / 65536)
def oc6 (x : Int) : Int := IntKind.u64.wrap (x + x / 4294967296)
def oc7 (x : Int) : Int := Go.bits .and .i64 (wrap64 x) 127
def ocF (x : Int) : Int := oc7 (oc6 (oc5 (oc4 (oc3 (oc2 (oc1 x))))))
set_option maxRecDepth 100000 in
theorem oc64 (x : Int) (w : World) : Calls Try.prog 89 #[.int .u64 x] w fun e w' => e = .returned (.int .i64 (ocF x)) ∧ w = w' := by
  go_enter Try.func89, Try.ntmps89
  go_wp2
  go_ret
  exact ⟨rfl, rfl⟩
theorem oc_c : OnesC ocF := fun x w => by
  go_enter Try.func64, Try.ntmps64
  go_wp2_with (go_at_call 89; with_reducible refine (oc64 _ _).mono ?_; rintro e w2 ⟨rfl, rfl⟩)
  go_ret
  exact ⟨rfl, 0, rfl⟩
theorem oc_pws : ∀ n, n < 129 → ocF (n : Nat) = ((pws 64 n).length : Int) := by decide +kernel
theorem own_some {w : World} {b e s n : Nat} {v : Value} {xs : List Value} (h : w.ownsRow b e s v n xs) (hn : 0 < n) : ∃ g cap, v = .slice (some ⟨g, 0, none⟩) n cap := by
  rcases h.2 with ⟨_, h0⟩ | ⟨g, cap, cur, e, _⟩
  · omega
  · exact ⟨g, cap, e⟩
theorem str5 : ints (stretch 5) = [.int .i64 4, .int .i64 1] := by kernel_rfl
theorem str5_len : (stretch 5).length = 2 := by decide +kernel
set_option maxRecDepth 100000 in
set_option maxHeartbeats 4000000 in
theorem awake6_c (w : World) : Calls Try.prog 19 #[] w fun e w' => e = .returned (.bool true) ∧ Below w.heap.size w w' := by
  have HS := Aside0.mk (fun W => stretches_c lenC 5 (by omega) W)
  rw [str5, str5_len] at HS
  go_enter Try.func19, Try.ntmps19
  go_wp2_with (go_at_call 53; (with_reducible refine (HS.out _).mono ?_); rintro e w2 ⟨v, rfl, ho, hB⟩; have HB := Aside0.mk hB; obtain ⟨g, cap, rfl⟩ := own_some ho (by decide); have c0 : w2.cell? ⟨g, 0, none⟩ = some (.int .i64 4) := ho.cells (g := g) rfl 0 _ rfl; have c1 : w2.cell? ⟨g, 1, none⟩ = some (.int .i64 1) := ho.cells (g := g) rfl 1 _ rfl; clear hB ho)
  go_ret
  exact ⟨rfl, HB.out⟩
end Go.Proofs.Ytondnammkcgjpaa.Rf
namespace Go.Proofs.Ytondnammkcgjpaa.RgP
open Go Go.RowKit Go.Shelf Go.Proofs.YtondnammkcgjpaaW.PrintWords
open Go.Proofs.Ytondnammkcgjpaa.Mk Go.Proofs.Ytondnammkcgjpaa.Rg Go.Proofs.Ytondnammkcgjpaa.Rng Go.Proofs.Ytondnammkcgjpaa.Rf
set_option linter.unusedVariables false
/-- the same over numbers -/
def ofB (l : List ByteArray) : Nat → List Nat → List ByteArray
  | _, [] => []
  | a, p :: r => rootF ((l.take (a + p)).drop a) :: ofB l (a + p) r
def pn (n : Nat) : List Nat := (pws 64 n).map (·.1)
def sumN : List Nat → Nat
  | [] => 0
  | p :: r => p + sumN r
theorem ofA_B (l : List ByteArray) : ∀ (ps : List Pw) (a : Nat), ofA l a ps = ofB l a (ps.map (·.1))
  | [], _ => rfl
  | p :: ps, a => by rw [ofA, ofA_B l ps]; rfl
theorem ofF_B (l : List ByteArray) : ofF l = ofB l 0 (pn l.length) := ofA_B l _ 0
theorem sumP_N : ∀ ps : List Pw, sumP ps = sumN (ps.map (·.1))
  | [] => rfl
  | p :: ps => by rw [sumP, sumP_N ps]; rfl
theorem ofB_snoc (l : List ByteArray) (x : Nat) : ∀ (ps : List Nat) (a : Nat), ofB l a (ps ++ [x]) = ofB l a ps ++ [rootF ((l.take (a + sumN ps + x)).drop (a + sumN ps))]
  | [], a => by simp [ofB, sumN]
  | p :: ps, a => by
    rw [List.cons_append, ofB, ofB, ofB_snoc l x ps, List.cons_append]
    simp only [sumN, Nat.add_assoc]
theorem ofB_len (l : List ByteArray) : ∀ (ps : List Nat) (a : Nat), (ofB l a ps).length = ps.length
  | [], _ => rfl
  | p :: ps, a => by rw [ofB, List.length_cons, ofB_len l ps, List.length_cons]
theorem ofB_take (l : List ByteArray) (q : Nat) : ∀ (ps : List Nat) (a : Nat), a + sumN ps ≤ q → ofB (l.take q) a ps = ofB l a ps
  | [], _, _ => rfl
  | p :: ps, a, h => by
    rw [sumN] at h
    rw [ofB, ofB, ofB_take l q ps (a + p) (by omega), List.take_take, Nat.min_eq_left (by omega)]
theorem ofB_drop (l : List ByteArray) (b : Nat) : ∀ (ps : List Nat) (a : Nat), ofB (l.drop b) a ps = ofB l (b + a) ps
  | [], _ => rfl
  | p :: ps, a => by
    rw [ofB, ofB, ofB_drop l b ps (a + p), Nat.add_assoc]
    congr 1
    rw [List.take_drop, List.drop_drop]
theorem rootN_fuel (f : Nat) : ∀ (g : Nat) (l : List ByteArray), l.length < f → l.length < g → rootN f l = rootN g l := by
  induction f with
  | zero => intro g l h; omega
  | succ f ih =>
    intro g l hf hg
    obtain ⟨g, rfl⟩ : ∃ k, g = k + 1 := ⟨g - 1, by omega⟩
    rw [rootN, rootN]
    by_cases h0 : l.length = 0
    · rw [if_pos h0, if_pos h0]
    · rw [if_neg h0, if_neg h0]
      by_cases h1 : l.length = 1
      · rw [if_pos h1, if_pos h1]
      · rw [if_neg h1, if_neg h1]
        have hk := splitN_bd l.length (by omega)
        rw [ih g (l.take _) (by rw [List.length_take]; omega) (by rw [List.length_take]; omega), ih g (l.drop _) (by rw [List.length_drop]; omega) (by rw [List.length_drop]; omega)]
theorem rootF_split (l : List ByteArray) (h2 : 2 ≤ l.length) (h : l.length ≤ 1000) : rootF l = pairF (rootF (l.take (splitN l.length))) (rootF (l.drop (splitN l.length))) := by
  have hk := splitN_bd l.length h2
  unfold rootF
  rw [rootN_fuel 100000 (99999 + 1) l (by omega) (by omega), rootN, if_neg (by omega), if_neg (by omega),
    rootN_fuel 99999 100000 (l.take _) (by rw [List.length_take]; omega) (by rw [List.length_take]; omega), rootN_fuel 99999 100000 (l.drop _) (by rw [List.length_drop]; omega) (by rw [List.length_drop]; omega)]
theorem rootF_nil : rootF [] = Ref01.sumF ⟨#[]⟩ := by
  unfold rootF
  rw [rootN_fuel 100000 (0 + 1) [] (by decide) (by decide), rootN]
  rfl
theorem rootF_one (x : ByteArray) : rootF [x] = x := by
  unfold rootF
  rw [rootN_fuel 100000 (1 + 1) [x] (by simp) (by simp), rootN]
  rfl
def A32 (l : List ByteArray) : Prop := ∀ s ∈ l, s.size = 32
theorem rootF_32 (l : List ByteArray) (h : A32 l) (hl : l.length ≤ 1000) : (rootF l).size = 32 := by
  by_cases h2 : 2 ≤ l.length
  · rw [rootF_split l h2 hl, pairF_size]
  · match l, h2 with
    | [], _ => rw [rootF_nil, sumF_size]
    | [x], _ => rw [rootF_one]; exact h x (by simp)
    | x :: y :: r, h2 => exact (h2 (by simp)).elim
theorem ofB_32 (l : List ByteArray) (h : A32 l) (hl : l.length ≤ 1000) : ∀ (ps : List Nat) (a : Nat), A32 (ofB l a ps)
  | [], _, s, hs => by simp [ofB] at hs
  | p :: ps, a, s, hs => by
    rw [ofB] at hs
    rcases List.mem_cons.1 hs with rfl | hs
    · exact rootF_32 _ (fun s hs => h s (List.mem_of_mem_take (List.mem_of_mem_drop hs))) (by rw [List.length_drop, List.length_take]; omega)
    · exact ofB_32 l h hl ps _ s hs
theorem ofF_32 (l : List ByteArray) (h : A32 l) (hl : l.length ≤ 1000) : A32 (ofF l) := by rw [ofF_B]; exact ofB_32 l h hl _ _
theorem A32.sm {l : List ByteArray} (h : A32 l) : Sm l := fun s hs => by rw [h s hs]; omega
/-- numbers: the first power, and what is left -/
theorem pn_cons : ∀ n, n < 129 → 0 < n → pn n = hp n :: pn (n - hp n) ∧ hp n ≤ n ∧ 0 < hp n ∧ (hp n < n → splitN n = hp n) := by decide +kernel
theorem sum_pn : ∀ n, n < 129 → sumN (pn n) = n := by decide +kernel
theorem pn_one : ∀ R, R < 65 → ∀ j, j < 8 → (R &&& 2 ^ j = 0 → pn (R / 2 ^ j * 2 ^ j + 2 ^ j) = pn (R / 2 ^ j * 2 ^ j) ++ [2 ^ j]) ∧
    (R &&& 2 ^ j ≠ 0 → j < 7 ∧ R / 2 ^ j * 2 ^ j = R / 2 ^ (j + 1) * 2 ^ (j + 1) + 2 ^ j ∧ pn (R / 2 ^ j * 2 ^ j) = pn (R / 2 ^ (j + 1) * 2 ^ (j + 1)) ++ [2 ^ j] ∧ R / 2 ^ (j + 1) * 2 ^ (j + 1) ≤ 64) := by decide +kernel
theorem split_two : ∀ j, j < 8 → splitN (2 ^ (j + 1)) = 2 ^ j := by decide +kernel
theorem backF_cons (x : ByteArray) (L : List ByteArray) : ∀ (k : Nat) (z : ByteArray), backF (bkN (x :: L) (k + 1)) z = pairF x (backF (bkN L k) z)
  | 0, z => rfl
  | k + 1, z => by
    rw [bkN, backF, backF_cons x L k, bkN, backF]
    rfl
theorem rootR_cons (x y : ByteArray) (L : List ByteArray) : rootR (x :: y :: L) = pairF x (rootR (y :: L)) := by
  unfold rootR
  rw [List.getLast?_cons_cons]
  cases h : (y :: L).getLast? with
  | none => simp at h
  | some z =>
    simp only [List.dropLast_cons_cons, List.length_cons]
    exact backF_cons x _ _ z
theorem root_of (f : Nat) : ∀ l : List ByteArray, l.length < f → l.length ≤ 128 → rootR (ofF l) = rootF l := by
  induction f with
  | zero => intro l h; omega
  | succ f ih =>
    intro l hf hl
    by_cases h0 : l.length = 0
    · obtain rfl := List.length_eq_zero_iff.1 h0
      rw [rootF_nil]
      rfl
    · obtain ⟨h1, h2, h3, h4⟩ := pn_cons l.length (by omega) (by omega)
      have e : ofF l = rootF (l.take (hp l.length)) :: ofF (l.drop (hp l.length)) := by
        rw [ofF_B, h1, ofB, ofF_B, List.length_drop, ofB_drop]
        simp
      by_cases hlt : hp l.length < l.length
      · have i1 := ih (l.drop (hp l.length)) (by rw [List.length_drop]; omega) (by rw [List.length_drop]; omega)
        rw [e]
        have hne : (ofF (l.drop (hp l.length))).length ≠ 0 := by
          obtain ⟨g1, _⟩ := pn_cons (l.drop (hp l.length)).length (by rw [List.length_drop]; omega) (by rw [List.length_drop]; omega)
          rw [ofF_B, ofB_len, g1]
          simp
        match hq : ofF (l.drop (hp l.length)), hne with
        | y :: L, _ =>
          rw [rootR_cons, ← hq, i1, rootF_split l (by omega) (by omega), h4 hlt]
      · have he : hp l.length = l.length := by omega
        rw [e, he, List.take_length, List.drop_length]
        rfl
theorem right_of (l : List ByteArray) (h : A32 l) (hl : l.length ≤ 64) : rightB ocF (l.length : Int) (ofF l) = true := by
  unfold rightB
  rw [oc_pws l.length (by omega)]
  have h1 : (ofF l).length = (pws 64 l.length).length := by unfold ofF; rw [ofA_len]
  have h2 : ((ofF l).all fun s => s.size == 32) = true := List.all_eq_true.2 (fun s hs => by rw [ofF_32 l h (by omega) s hs]; rfl)
  rw [h1, h2]
  simp
  omega
theorem ofF_one (l : List ByteArray) (q n : Nat) (hl : l.length = q + n) (hq : q ≤ 128) (h : pn (q + n) = pn q ++ [n]) : ofF l = ofF (l.take q) ++ [rootF (l.drop q)] := by
  have hs := sum_pn q (by omega)
  rw [ofF_B, hl, h, ofB_snoc, ofF_B, List.length_take, Nat.min_eq_left (by omega), hs, Nat.zero_add, ofB_take l q _ 0 (by rw [hs]; omega), ← hl, List.take_length]
theorem grow_of (f : Nat) : ∀ (R j : Nat) (l : List ByteArray), R < 65 → j < 8 → R / 2 ^ j < 2 ^ f → l.length = R / 2 ^ j * 2 ^ j + 2 ^ j → growN (f + 1) R (2 ^ j) (ofF (l.take (R / 2 ^ j * 2 ^ j))) (rootF (l.drop (R / 2 ^ j * 2 ^ j))) = some (ofF l) := by
  induction f with
  | zero =>
    intro R j l hR hj hf hl
    obtain ⟨n1, n2⟩ := pn_one R hR j hj
    by_cases hz : R &&& 2 ^ j = 0
    · rw [growN, if_pos hz, ← ofF_one l _ _ hl (by have := Nat.div_mul_le_self R (2 ^ j); omega) (n1 hz)]
    · obtain ⟨g1, g2, g3, g4⟩ := n2 hz
      have : R / 2 ^ j = 0 := Nat.lt_one_iff.1 hf
      rw [this] at g2
      have := Nat.two_pow_pos j
      omega
  | succ f ih =>
    intro R j l hR hj hf hl
    obtain ⟨n1, n2⟩ := pn_one R hR j hj
    rw [growN]
    by_cases hz : R &&& 2 ^ j = 0
    · rw [if_pos hz, ← ofF_one l _ _ hl (by have := Nat.div_mul_le_self R (2 ^ j); omega) (n1 hz)]
    · rw [if_neg hz]
      obtain ⟨g1, g2, g3, g4⟩ := n2 hz
      have hp2 : 2 ^ (j + 1) = 2 * 2 ^ j := by rw [Nat.pow_succ]; omega
      have hd : R / 2 ^ (j + 1) = R / 2 ^ j / 2 := by rw [Nat.pow_succ, Nat.div_div_eq_div_mul]
      obtain ⟨q2, hq2⟩ : ∃ q, R / 2 ^ (j + 1) * 2 ^ (j + 1) = q := ⟨_, rfl⟩
      rw [hq2] at g2 g3 g4
      rw [g2] at hl ⊢
      have h1 := ofF_one (l.take (q2 + 2 ^ j)) q2 (2 ^ j) (by rw [List.length_take]; omega) (by omega) (by rw [← g2]; exact g3)
      rw [List.take_take, Nat.min_eq_left (by omega)] at h1
      rw [h1, List.getLast?_concat]
      simp only [List.dropLast_concat]
      have hs2 := split_two j hj
      have h5 : pairF (rootF ((l.take (q2 + 2 ^ j)).drop q2)) (rootF (l.drop (q2 + 2 ^ j))) = rootF (l.drop q2) := by
        have hlen : (l.drop q2).length = 2 ^ (j + 1) := by rw [List.length_drop, hl, hp2]; omega
        have hj1 : 2 ^ (j + 1) ≤ 256 := by
          have : 2 ^ (j + 1) ≤ 2 ^ 8 := Nat.pow_le_pow_right (by decide) (by omega)
          exact this
        have hj0 := Nat.two_pow_pos j
        rw [rootF_split (l.drop q2) (by rw [hlen]; omega) (by rw [hlen]; omega), hlen, hs2, List.drop_drop, List.take_drop]
      rw [h5]
      have i1 := ih R (j + 1) l hR (by omega) (by rw [hd]; rw [Nat.pow_succ] at hf; omega) (by rw [hq2, hl, hp2]; omega)
      rw [hq2, hp2] at i1
      exact i1
end Go.Proofs.Ytondnammkcgjpaa.RgP
namespace Go.Proofs.Ytondnammkcgjpaa.RgL
open Go Go.RowKit Go.Shelf Go.Proofs.YtondnammkcgjpaaW.PrintWords Go.Proofs.YtondnammkcgjpaaW.PrintLast Go.Proofs.YtondnammkcgjpaaW.PrintMore
open Go.Proofs.Ytondnammkcgjpaa.ShaP Go.Proofs.Ytondnammkcgjpaa.Mk Go.Proofs.Ytondnammkcgjpaa.Rg Go.Proofs.Ytondnammkcgjpaa.Rng Go.Proofs.Ytondnammkcgjpaa.Rf Go.Proofs.Ytondnammkcgjpaa.RgP
set_option linter.unusedVariables false
set_option linter.unusedSimpArgs false
theorem rroot_any (R : Int) (A : Option Addr) (c : Nat) (L : List ByteArray) (w : World) (hl : L.length ≤ 1000) (hs : Sm L) (hc : L.length ≤ c) (hr : Kd.C Kd.string w A L.length L) :
    Calls Try.prog 29 #[.agg TV, .agg #[.int .i64 R, .slice A L.length c]] w fun e w' => e = .returned (.string (rootR L)) ∧ Below w.heap.size w w' := by
  rcases List.eq_nil_or_concat L with rfl | ⟨l0, x, rfl⟩
  · exact rroot_nil R A c w
  · simp only [List.concat_eq_append] at *
    have h := hr
    have e : (l0 ++ [x]).length = l0.length + 1 := by simp
    rw [e] at h hc hl ⊢
    exact rroot_c R A c l0.length l0 x w rfl (by omega) hs hc h
theorem texts_C {w : World} {A : Option Addr} {l : List ByteArray} (h : Kd.C Kd.string w A l.length l) : Texts w A l := fun j hj => by
  obtain ⟨ad, e, hx⟩ := Kd.at_string h (j : Int) (by omega) (by omega)
  rw [rdOf_at l j hj, Int.toNat_natCast] at hx
  exact ⟨ad, e, hx⟩
theorem few64 (A : Option Addr) (c : Nat) (l : List ByteArray) (w : World) (hr : Kd.C Kd.string w A l.length l) :
    Calls Try.prog 15 #[.slice A l.length c, .int .i64 64, .int .i64 60] w fun e w' => e = .returned (.bool (fewB l 64 60)) ∧ w = w' := few_c A c l 64 60 w (by omega) (by omega) hr
theorem few_yes {l : List ByteArray} {n sz : Nat} (h : fewB l n sz = true) (hn : n ≤ 300) : l.length ≤ n ∧ ∀ s ∈ l, s.size ≤ sz := by
  unfold fewB at h
  rw [Bool.and_eq_true] at h
  have h1 := of_decide_eq_true h.2
  refine ⟨h1, fun s hs => ?_⟩
  rw [List.take_of_length_le (by omega)] at h
  exact of_decide_eq_true (List.all_eq_true.1 h.1 s hs)
theorem leaves_32 (l : List ByteArray) : A32 (leavesF l) := fun s hs => by
  obtain ⟨x, _, rfl⟩ := List.mem_map.1 hs
  exact leaf_size x
theorem leaves_len (l : List ByteArray) : (leavesF l).length = l.length := List.length_map _
set_option maxRecDepth 100000 in
set_option maxHeartbeats 8000000 in
theorem law_of (A : Option Addr) (c : Nat) (l : List ByteArray) (w : World) (hc : l.length ≤ c) (hr : Kd.C Kd.string w A l.length l) :
    Calls Try.prog 9 #[.slice A l.length c] w fun e w' => e = .returned (.bool true) ∧ Below w.heap.size w w' := by
  have OW := Aside0.mk (Mem.Own.nil w)
  have HI := Aside0.mk info_tab
  have HR := Aside0.mk hr
  have HAW := Aside0.mk awake6_c
  have HF := Aside0.mk (fun W h => few64 A c l W h)
  cases hb : fewB l 64 60 with
  | false =>
    rw [hb] at HF
    clear hb hr hc
    go_enter Try.func9, Try.ntmps9
    go_wp2_with (first
      | (go_at_call 19; (with_reducible refine (HAW.out _).mono ?_); rintro e w_ ⟨rfl, hB⟩; have n_ := Aside0.mk (OW.out.step hB); clear OW hB; have OW := n_; clear n_)
      | (go_at_call 15; (with_reducible refine (HF.out _ (Kd.C_below HR.out OW.out.below)).mono ?_); rintro e w_ ⟨rfl, rfl⟩))
    go_ret
    exact ⟨rfl, OW.out.below⟩
  | true =>
    rw [hb] at HF
    obtain ⟨hl, hs⟩ := few_yes hb (by omega)
    have hll := leaves_len l
    have h32 := leaves_32 l
    have HLV := Aside0.mk (fun W h => leaves_c A c l W (by omega) (fun s hs2 => Nat.le_trans (hs s hs2) (by omega)) h)
    generalize leavesF l = L at *
    have hL : L.length ≤ 64 := by omega
    have hRO := root_of 200 L (by omega) (by omega)
    have hRT := right_of L h32 hL
    have hOL := ofF_size L
    have hO32 := ofF_32 L h32 (by omega)
    have HOF := Aside0.mk (fun (A4 : Option Addr) (c4 : Nat) (h4 : L.length ≤ c4) (W : World) h => of_c A4 c4 L W (by omega) h32.sm h4 h)
    have HRO := Aside0.mk (fun (A4 : Option Addr) (c4 : Nat) (h4 : L.length ≤ c4) (W : World) h => rfof_c A4 c4 L W hL h32.sm h4 h)
    have HRR := Aside0.mk (fun (A4 : Option Addr) (c4 : Nat) (h4 : L.length ≤ c4) (W : World) h => rfroot_c 100000 A4 c4 L W (by omega) hL h32.sm h4 h)
    have hfold : rootN 100000 L = rootF L := rfl
    rw [hfold] at HRR
    generalize rootF L = r0 at *
    generalize ofF L = O at *
    have HSM := Aside0.mk (fun (A4 A5 : Option Addr) (c4 c5 : Nat) (W : World) h h2 => same_c A4 A5 c4 c5 O O W h h2)
    have hdec : decide (O = O) = true := decide_eq_true rfl
    rw [hdec] at HSM
    have HRG := Aside0.mk (fun (A4 : Option Addr) (c4 : Nat) (W : World) (h : Kd.C Kd.string W A4 O.length O) => right_c ocF oc_c (L.length : Int) A4 c4 O W (by unfold maxLen; omega) (texts_C h))
    rw [hRT] at HRG
    have HRB := Aside0.mk (fun (A4 : Option Addr) (c4 : Nat) (h4 : O.length ≤ c4) (W : World) h => rroot_any (L.length : Int) A4 c4 O W (by omega) hO32.sm h4 h)
    rw [hRO] at HRB
    clear hb hr hc hl hs hll h32 hRO hRT hOL hO32 hfold hdec
    go_enter Try.func9, Try.ntmps9
    go_wp2_with (first
      | (go_at_call 19; (with_reducible refine (HAW.out _).mono ?_); rintro e w_ ⟨rfl, hB⟩; have n_ := Aside0.mk (OW.out.step hB); clear OW hB; have OW := n_; clear n_)
      | (go_at_call 15; (with_reducible refine (HF.out _ (Kd.C_below HR.out OW.out.below)).mono ?_); rintro e w_ ⟨rfl, rfl⟩)
      | (go_at_call 16; (with_reducible refine (make_c _).mono ?_); rintro e w_ ⟨rfl, hB⟩; have n_ := Aside0.mk (OW.out.step hB); clear OW hB; have OW := n_; clear n_)
      | ((with_reducible refine gate_dst (N := 3) rfl ?_); refine tab_event (N := 3) rfl rfl rfl rfl rfl rfl (fun _ => rfl) (fun _ => rfl) ?_; intro gT hg W_ hb hbb; have n_ : Aside0 (Mem.Own w (W_) [(gT, TV, 31)]) := ⟨OW.out.new hg hb hbb⟩; clear OW hb hbb hg; have OW := n_; clear n_)
      | (go_at_call 17; (with_reducible refine (HLV.out _ (Kd.C_below HR.out OW.out.below)).mono ?_); rintro e w_ ⟨v4, rfl, hr4, hB⟩; obtain ⟨A4, c4, rfl, h4, _⟩ := Kd.R_reads hr4; have HC4 := Aside0.mk hr4; have H4 := Aside0.mk h4; have n_ := Aside0.mk (OW.out.step hB); clear OW hB hr4 h4; have OW := n_; clear n_)
      | ((with_reducible refine gate_dst (N := 17) rfl ?_); refine wpList_load_row rfl 31 (.tmp 3) rfl gT rfl 31 TV (0, 0) _ (OW.out.blk 0 rfl) Try.underlying31 rfl HI.out ?_)
      | (go_at_call 21; (with_reducible refine (HOF.out A4 c4 H4.out _ (Kd.R_reads' HC4.out).2.2).mono ?_); rintro e w_ ⟨v5, rfl, hr5, hB⟩; obtain ⟨A5, c5, rfl, h5, _⟩ := Kd.R_reads hr5; have HC5 := Aside0.mk hr5; have H5 := Aside0.mk h5; have n_ := Aside0.mk (OW.out.step hB); have m_ := Aside0.mk (Kd.R_below HC4.out hB); clear OW hB hr5 h5 HC4; have OW := n_; have HC4 := m_; clear n_ m_)
      | ((with_reducible refine gate_dst (N := 5) rfl ?_); refine box_event ?hg (N := 5) ?hd (cs := #[.int .i64 0, .slice none 0 0]) (t := 41) ?hr ?_; (case hd => rfl); (case hg => rfl); (case hr => first | (go_simp; done) | (go_simp; rfl)); intro gR hg W_ hb hbb; have x0 := (blk_cell hb 0).trans rfl; have x1 := (blk_cell hb 1).trans rfl; have y0 := blk_frozen hb 0; have y1 := blk_frozen hb 1; have m4 := Aside0.mk (Kd.R_below HC4.out hbb); have m5 := Aside0.mk (Kd.R_below HC5.out hbb); clear HC4 HC5; have HC4 := m4; have HC5 := m5; clear m4 m5; have n_ : Aside0 (Mem.Own w W_ [(gT, TV, 31), (gR, #[.int .i64 0, .slice none 0 0], 41)]) := ⟨OW.out.new hg hb hbb⟩; clear OW hb hbb hg; have OW := n_; clear n_))
    have O2 := Aside0.mk ((OW.out.put 1 rfl 0 (.int .i64 (L.length : Int)) rfl).put 1 rfl 1 (.slice A5 O.length c5) rfl)
    have S4 := Aside0.mk (Kd.R_set (Kd.R_set HC4.out (OW.out.blk 1 rfl) (by decide) 0 (.int .i64 (L.length : Int))) ((OW.out.put 1 rfl 0 (.int .i64 (L.length : Int)) rfl).blk 1 rfl) (by decide) 1 (.slice A5 O.length c5))
    have S5 := Aside0.mk (Kd.R_set (Kd.R_set HC5.out (OW.out.blk 1 rfl) (by decide) 0 (.int .i64 (L.length : Int))) ((OW.out.put 1 rfl 0 (.int .i64 (L.length : Int)) rfl).blk 1 rfl) (by decide) 1 (.slice A5 O.length c5))
    clear HC4 HC5 OW x0 x1 y0 y1
    generalize (W_.setCell ⟨gR, 0, none⟩ (.int .i64 (L.length : Int))).setCell ⟨gR, 1, none⟩ (.slice A5 O.length c5) = W1 at *
    have OD := Aside0.mk O2.out.drew
    have K4 := Aside0.mk (Kd.R_reads' (Kd.R_drew S4.out)).2.2
    have K5 := Aside0.mk (Kd.R_reads' (Kd.R_drew S5.out)).2.2
    have cR0 : W1.drew.cell? ⟨gR, 0, none⟩ = some (.int .i64 (L.length : Int)) := (OD.out.cell 1 rfl 0).trans rfl
    have cR1 : W1.drew.cell? ⟨gR, 1, none⟩ = some (.slice A5 O.length c5) := (OD.out.cell 1 rfl 1).trans rfl
    clear S4 S5 O2
    refine start_ (n := 25) (S := fun w' => Below (W1).drew.heap.size (W1).drew w') (ds := []) #[false, false, false, false, false, false, false, false, false, false, false, false, false, false, false, false, false, false, false, false, false, false, false, false, false] (by kernel_rfl) rfl rfl (Below.refl _ _) (fun hHeld => ?_)
    generalize (W1).drew = W0 at *
    refine pure_ (i := 0) (N := (some 20)) (v := ?_) (a' := ?_) #[true, false, false, false, false, false, false, false, false, false, false, false, false, false, false, false, false, false, false, false, false, false, false, false, false] rfl rfl (by kernel_rfl) (fun _ _ _ h => h) (Or.inl ⟨by rfl, ?_⟩) ?_ ?_
    rotate_left
    · intro w'
      go_simp
      first | done | with_reducible rfl
    rotate_left
    · simp only [Act.put, List.setIfInBounds_toArray, List.set_cons_zero, List.set_cons_succ, i64_w, i32_w]
      rfl
    refine take_ (i := 1) (N := (some 21)) (v := ?_) (a' := ?_) #[true, true, false, false, false, false, false, false, false, false, false, false, false, false, false, false, false, false, false, false, false, false, false, false, false] rfl rfl (by kernel_rfl) (fun _ _ _ h => h) (Or.inl ⟨by rfl, ?_⟩) hHeld ?_ ?_
    rotate_left
    · intro w' hS
      have s0 := pw_cell_below hS cR0
      go_simp
      first | done | with_reducible rfl
    rotate_left
    · simp only [Act.put, List.setIfInBounds_toArray, List.set_cons_zero, List.set_cons_succ, i64_w, i32_w]
      rfl
    refine pure_ (i := 2) (N := (some 22)) (v := ?_) (a' := ?_) #[true, true, true, false, false, false, false, false, false, false, false, false, false, false, false, false, false, false, false, false, false, false, false, false, false] rfl rfl (by kernel_rfl) (fun _ _ _ h => h) (Or.inl ⟨by rfl, ?_⟩) ?_ ?_
    rotate_left
    · intro w'
      go_simp
      first | done | with_reducible rfl
    rotate_left
    · simp only [Act.put, List.setIfInBounds_toArray, List.set_cons_zero, List.set_cons_succ, i64_w, i32_w]
      rfl
    refine pure_ (i := 3) (N := (some 23)) (v := ?_) (a' := ?_) #[true, true, true, true, false, false, false, false, false, false, false, false, false, false, false, false, false, false, false, false, false, false, false, false, false] rfl rfl (by kernel_rfl) (fun _ _ _ h => h) (Or.inl ⟨by rfl, ?_⟩) ?_ ?_
    rotate_left
    · intro w'
      go_simp
      first | done | with_reducible rfl
    rotate_left
    · simp only [Act.put, List.setIfInBounds_toArray, List.set_cons_zero, List.set_cons_succ, i64_w, i32_w]
      rfl
    refine pure_ (i := 4) (N := (some 24)) (v := ?_) (a' := ?_) #[true, true, true, true, true, false, false, false, false, false, false, false, false, false, false, false, false, false, false, false, false, false, false, false, false] rfl rfl (by kernel_rfl) (fun _ _ _ h => h) (Or.inl ⟨by rfl, ?_⟩) ?_ ?_
    rotate_left
    · intro w'
      go_simp
      first | done | with_reducible rfl
    rotate_left
    · simp only [Act.put, List.setIfInBounds_toArray, List.set_cons_zero, List.set_cons_succ, i64_w, i32_w]
      rfl
    refine pure_ (i := 5) (N := (some 25)) (v := ?_) (a' := ?_) #[true, true, true, true, true, true, false, false, false, false, false, false, false, false, false, false, false, false, false, false, false, false, false, false, false] rfl rfl (by kernel_rfl) (fun _ _ _ h => h) (Or.inl ⟨by rfl, ?_⟩) ?_ ?_
    rotate_left
    · intro w'
      go_simp
      first | done | with_reducible rfl
    rotate_left
    · simp only [Act.put, List.setIfInBounds_toArray, List.set_cons_zero, List.set_cons_succ, i64_w, i32_w]
      rfl
    refine pure_ (i := 6) (N := (some 26)) (v := ?_) (a' := ?_) #[true, true, true, true, true, true, true, false, false, false, false, false, false, false, false, false, false, false, false, false, false, false, false, false, false] rfl rfl (by kernel_rfl) (fun _ _ _ h => h) (Or.inl ⟨by rfl, ?_⟩) ?_ ?_
    rotate_left
    · intro w'
      go_simp
      first | done | with_reducible rfl
    rotate_left
    · simp only [Act.put, List.setIfInBounds_toArray, List.set_cons_zero, List.set_cons_succ, i64_w, i32_w]
      rfl
    refine take_ (i := 7) (N := (some 27)) (v := ?_) (a' := ?_) #[true, true, true, true, true, true, true, true, false, false, false, false, false, false, false, false, false, false, false, false, false, false, false, false, false] rfl rfl (by kernel_rfl) (fun _ _ _ h => h) (Or.inl ⟨by rfl, ?_⟩) hHeld ?_ ?_
    rotate_left
    · intro w' hS
      have s0 := pw_cell_below hS cR1
      go_simp
      first | done | with_reducible rfl
    rotate_left
    · simp only [Act.put, List.setIfInBounds_toArray, List.set_cons_zero, List.set_cons_succ, i64_w, i32_w]
      rfl
    refine pure_ (i := 8) (N := (some 28)) (v := ?_) (a' := ?_) #[true, true, true, true, true, true, true, true, true, false, false, false, false, false, false, false, false, false, false, false, false, false, false, false, false] rfl rfl (by kernel_rfl) (fun _ _ _ h => h) (Or.inl ⟨by rfl, ?_⟩) ?_ ?_
    rotate_left
    · intro w'
      go_simp
      first | done | with_reducible rfl
    rotate_left
    · simp only [Act.put, List.setIfInBounds_toArray, List.set_cons_zero, List.set_cons_succ, i64_w, i32_w]
      rfl
    refine one_ (i := 9) (N := (some 29)) #[true, true, true, true, true, true, true, true, true, true, false, false, false, false, false, false, false, false, false, false, false, false, false, false, false] rfl rfl (by kernel_rfl) (by decide) (fun K hK => ?_)
    refine goes_ Try.func24 (by kernel_rfl) rfl #[.slice A4 L.length c4] (by rfl) rfl rfl (by (try simp only [List.map_toArray, List.map_cons, List.map_nil]); first | done | rfl) ?_
    (with_reducible refine (HRO.out A4 c4 H4.out _ K4.out).mono ?_)
    rintro e w1 ⟨v6, rfl, hr6, hB⟩
    refine ⟨_, rfl, ?_⟩
    obtain ⟨A6, c6, rfl, _, hC6⟩ := Kd.R_reads hr6
    have HC6 := Aside0.mk hC6
    have hS2 : Below W0.heap.size W0 w1 := hB
    clear hr6 hB hC6
    refine hK.out _ _ hS2 (fun hHeld => ?_)
    clear hK K
    refine norm_ (a' := ?_) ?_ ?_
    rotate_left
    · show Act.put _ (some 29) _ = _
      simp only [Act.put, List.setIfInBounds_toArray, List.set_cons_zero, List.set_cons_succ, i64_w, i32_w]
      rfl
    refine one_ (i := 10) (N := (some 30)) #[true, true, true, true, true, true, true, true, true, true, true, false, false, false, false, false, false, false, false, false, false, false, false, false, false] rfl rfl (by kernel_rfl) (by decide) (fun K hK => ?_)
    refine goes_ Try.func23 (by kernel_rfl) rfl #[.slice A5 O.length c5, .slice A6 O.length c6] (by rfl) rfl rfl (by (try simp only [List.map_toArray, List.map_cons, List.map_nil]); first | done | rfl) ?_
    (with_reducible refine (HSM.out A5 A6 c5 c6 _ (Kd.C_below K5.out hHeld) HC6.out).mono ?_)
    rintro e w2 ⟨rfl, hB⟩
    refine ⟨_, rfl, ?_⟩
    have hS2 : Below W0.heap.size W0 w2 := below_step hHeld hB
    clear hB hHeld HC6
    refine hK.out _ _ hS2 (fun hHeld => ?_)
    clear hK K
    refine norm_ (a' := ?_) ?_ ?_
    rotate_left
    · show Act.put _ (some 30) _ = _
      simp only [Act.put, List.setIfInBounds_toArray, List.set_cons_zero, List.set_cons_succ, i64_w, i32_w]
      rfl
    refine pure_ (i := 11) (N := (some 31)) (v := ?_) (a' := ?_) #[true, true, true, true, true, true, true, true, true, true, true, true, false, false, false, false, false, false, false, false, false, false, false, false, false] rfl rfl (by kernel_rfl) (fun _ _ _ h => h) (Or.inl ⟨by rfl, ?_⟩) ?_ ?_
    rotate_left
    · intro w'
      go_simp
      first | done | with_reducible rfl
    rotate_left
    · simp only [Act.put, List.setIfInBounds_toArray, List.set_cons_zero, List.set_cons_succ, i64_w, i32_w]
      rfl
    refine pure_ (i := 12) (N := (some 32)) (v := ?_) (a' := ?_) #[true, true, true, true, true, true, true, true, true, true, true, true, true, false, false, false, false, false, false, false, false, false, false, false, false] rfl rfl (by kernel_rfl) (fun _ _ _ h => h) (Or.inl ⟨by rfl, ?_⟩) ?_ ?_
    rotate_left
    · intro w'
      go_simp
      first | done | with_reducible rfl
    rotate_left
    · simp only [Act.put, List.setIfInBounds_toArray, List.set_cons_zero, List.set_cons_succ, i64_w, i32_w]
      rfl
    refine take_ (i := 13) (N := (some 33)) (v := ?_) (a' := ?_) #[true, true, true, true, true, true, true, true, true, true, true, true, true, true, false, false, false, false, false, false, false, false, false, false, false] rfl rfl (by kernel_rfl) (fun _ _ _ h => h) (Or.inl ⟨by rfl, ?_⟩) hHeld ?_ ?_
    rotate_left
    · intro w' hS
      have s0 := pw_cell_below hS cR0
      have s1 := pw_cell_below hS cR1
      go_simp
      first | done | with_reducible rfl
    rotate_left
    · simp only [Act.put, List.setIfInBounds_toArray, List.set_cons_zero, List.set_cons_succ, i64_w, i32_w]
      rfl
    refine one_ (i := 14) (N := (some 34)) #[true, true, true, true, true, true, true, true, true, true, true, true, true, true, true, false, false, false, false, false, false, false, false, false, false] rfl rfl (by kernel_rfl) (by decide) (fun K hK => ?_)
    refine goes_ Try.func35 (by kernel_rfl) rfl #[.agg #[.int .i64 (L.length : Int), .slice A5 O.length c5]] (by rfl) rfl rfl (by (try simp only [List.map_toArray, List.map_cons, List.map_nil]); first | done | rfl) ?_
    (with_reducible refine (HRG.out A5 c5 _ (Kd.C_below K5.out hHeld)).mono ?_)
    rintro e w3 ⟨rfl, hB⟩
    refine ⟨_, rfl, ?_⟩
    have hS2 : Below W0.heap.size W0 w3 := below_step hHeld hB
    clear hB hHeld
    refine hK.out _ _ hS2 (fun hHeld => ?_)
    clear hK K
    refine norm_ (a' := ?_) ?_ ?_
    rotate_left
    · show Act.put _ (some 34) _ = _
      simp only [Act.put, List.setIfInBounds_toArray, List.set_cons_zero, List.set_cons_succ, i64_w, i32_w]
      rfl
    refine pure_ (i := 15) (N := (some 35)) (v := ?_) (a' := ?_) #[true, true, true, true, true, true, true, true, true, true, true, true, true, true, true, true, false, false, false, false, false, false, false, false, false] rfl rfl (by kernel_rfl) (fun _ _ _ h => h) (Or.inl ⟨by rfl, ?_⟩) ?_ ?_
    rotate_left
    · intro w'
      go_simp
      first | done | with_reducible rfl
    rotate_left
    · simp only [Act.put, List.setIfInBounds_toArray, List.set_cons_zero, List.set_cons_succ, i64_w, i32_w]
      rfl
    refine pure_ (i := 16) (N := (some 36)) (v := ?_) (a' := ?_) #[true, true, true, true, true, true, true, true, true, true, true, true, true, true, true, true, true, false, false, false, false, false, false, false, false] rfl rfl (by kernel_rfl) (fun _ _ _ h => h) (Or.inl ⟨by rfl, ?_⟩) ?_ ?_
    rotate_left
    · intro w'
      go_simp
      first | done | with_reducible rfl
    rotate_left
    · simp only [Act.put, List.setIfInBounds_toArray, List.set_cons_zero, List.set_cons_succ, i64_w, i32_w]
      rfl
    refine take_ (i := 17) (N := (some 37)) (a' := ?_) #[true, true, true, true, true, true, true, true, true, true, true, true, true, true, true, true, true, true, false, false, false, false, false, false, false] rfl rfl (by kernel_rfl) (fun _ _ _ h => h) (yields_tab (by rfl) (.tmp 3) rfl gT rfl (fun w' hS => hS) (OD.out.blk 0 rfl)) hHeld ?_ ?_
    rotate_left
    · simp only [Act.put, List.setIfInBounds_toArray, List.set_cons_zero, List.set_cons_succ, i64_w, i32_w]
      rfl
    refine take_ (i := 18) (N := (some 38)) (v := ?_) (a' := ?_) #[true, true, true, true, true, true, true, true, true, true, true, true, true, true, true, true, true, true, true, false, false, false, false, false, false] rfl rfl (by kernel_rfl) (fun _ _ _ h => h) (Or.inl ⟨by rfl, ?_⟩) hHeld ?_ ?_
    rotate_left
    · intro w' hS
      have s0 := pw_cell_below hS cR0
      have s1 := pw_cell_below hS cR1
      go_simp
      first | done | with_reducible rfl
    rotate_left
    · simp only [Act.put, List.setIfInBounds_toArray, List.set_cons_zero, List.set_cons_succ, i64_w, i32_w]
      rfl
    refine pure_ (i := 20) (N := (some 40)) (v := ?_) (a' := ?_) #[true, true, true, true, true, true, true, true, true, true, true, true, true, true, true, true, true, true, true, false, true, false, false, false, false] rfl rfl (by kernel_rfl) (fun _ _ _ h => h) (Or.inl ⟨by rfl, ?_⟩) ?_ ?_
    rotate_left
    · intro w'
      go_simp
      first | done | with_reducible rfl
    rotate_left
    · simp only [Act.put, List.setIfInBounds_toArray, List.set_cons_zero, List.set_cons_succ, i64_w, i32_w]
      rfl
    refine one_ (i := 19) (N := (some 39)) #[true, true, true, true, true, true, true, true, true, true, true, true, true, true, true, true, true, true, true, true, true, false, false, false, false] rfl rfl (by kernel_rfl) (by decide) (fun K hK => ?_)
    refine goes_ Try.func29 (by kernel_rfl) rfl #[.agg TV, .agg #[.int .i64 (L.length : Int), .slice A5 O.length c5]] (by rfl) rfl rfl (by (try simp only [List.map_toArray, List.map_cons, List.map_nil]); first | done | rfl) ?_
    (with_reducible refine (HRB.out A5 c5 H5.out _ (Kd.C_below K5.out hHeld)).mono ?_)
    rintro e w4 ⟨rfl, hB⟩
    refine ⟨_, rfl, ?_⟩
    have hS2 : Below W0.heap.size W0 w4 := below_step hHeld hB
    clear hB hHeld
    refine hK.out _ _ hS2 (fun hHeld => ?_)
    clear hK K
    refine norm_ (a' := ?_) ?_ ?_
    rotate_left
    · show Act.put _ (some 39) _ = _
      simp only [Act.put, List.setIfInBounds_toArray, List.set_cons_zero, List.set_cons_succ, i64_w, i32_w]
      rfl
    refine one_ (i := 21) (N := (some 41)) #[true, true, true, true, true, true, true, true, true, true, true, true, true, true, true, true, true, true, true, true, true, true, false, false, false] rfl rfl (by kernel_rfl) (by decide) (fun K hK => ?_)
    refine goes_ Try.func36 (by kernel_rfl) rfl #[.slice A4 L.length c4] (by rfl) rfl rfl (by (try simp only [List.map_toArray, List.map_cons, List.map_nil]); first | done | rfl) ?_
    (with_reducible refine (HRR.out A4 c4 H4.out _ (Kd.C_below K4.out hHeld)).mono ?_)
    rintro e w5 ⟨rfl, hB⟩
    refine ⟨_, rfl, ?_⟩
    have hS2 : Below W0.heap.size W0 w5 := below_step hHeld hB
    clear hB hHeld
    refine hK.out _ _ hS2 (fun hHeld => ?_)
    clear hK K
    refine norm_ (a' := ?_) ?_ ?_
    rotate_left
    · show Act.put _ (some 41) _ = _
      simp only [Act.put, List.setIfInBounds_toArray, List.set_cons_zero, List.set_cons_succ, i64_w, i32_w]
      rfl
    refine pure_ (i := 22) (N := (some 42)) (v := ?_) (a' := ?_) #[true, true, true, true, true, true, true, true, true, true, true, true, true, true, true, true, true, true, true, true, true, true, true, false, false] rfl rfl (by kernel_rfl) (fun _ _ _ h => h) (Or.inl ⟨by rfl, ?_⟩) ?_ ?_
    rotate_left
    · intro w'
      go_simp
      first | done | with_reducible rfl
    rotate_left
    · simp only [Act.put, List.setIfInBounds_toArray, List.set_cons_zero, List.set_cons_succ, i64_w, i32_w]
      rfl
    refine pure_ (i := 23) (N := (some 43)) (v := ?_) (a' := ?_) #[true, true, true, true, true, true, true, true, true, true, true, true, true, true, true, true, true, true, true, true, true, true, true, true, false] rfl rfl (by kernel_rfl) (fun _ _ _ h => h) (Or.inl ⟨by rfl, ?_⟩) ?_ ?_
    rotate_left
    · intro w'
      go_simp
      first | done | with_reducible rfl
    rotate_left
    · simp only [Act.put, List.setIfInBounds_toArray, List.set_cons_zero, List.set_cons_succ, i64_w, i32_w]
      rfl
    refine pure_ (i := 24) (N := (some 2)) (v := ?_) (a' := ?_) #[true, true, true, true, true, true, true, true, true, true, true, true, true, true, true, true, true, true, true, true, true, true, true, true, true] rfl rfl (by kernel_rfl) (fun _ _ _ h => h) (Or.inl ⟨by rfl, ?_⟩) ?_ ?_
    rotate_left
    · intro w'
      go_simp
      first | done | with_reducible rfl
    rotate_left
    · simp only [Act.put, List.setIfInBounds_toArray, List.set_cons_zero, List.set_cons_succ, i64_w, i32_w]
      rfl
    refine done_ (by kernel_rfl) ?_
    have OB := Aside0.mk (OD.out.step hHeld).below
    clear hHeld
    go_wp2_with fail
    go_ret
    exact ⟨rfl, OB.out⟩

end Go.Proofs.Ytondnammkcgjpaa.RgL
namespace Go.Proofs.Ytondnammkcgjpaa.RgL
open Go Go.RowKit Go.Shelf Go.Proofs.YtondnammkcgjpaaW.PrintWords Go.Proofs.YtondnammkcgjpaaW.PrintLast Go.Proofs.YtondnammkcgjpaaW.PrintMore
open Go.Proofs.Ytondnammkcgjpaa.ShaP Go.Proofs.Ytondnammkcgjpaa.Mk Go.Proofs.Ytondnammkcgjpaa.Rg Go.Proofs.Ytondnammkcgjpaa.Rng Go.Proofs.Ytondnammkcgjpaa.Rf Go.Proofs.Ytondnammkcgjpaa.RgP
set_option linter.unusedVariables false
set_option linter.unusedSimpArgs false
section
variable {ops : Array Oper} {o : Oper} {a : Act} {Q : Exit → Act → World → Prop} {Kc : Act → World → Prop} {W0 W : World}
/-- a list of texts written out -/
theorem lit_step (base : Nat) (hw : Region.wanted o (yielded ops a.tmps) = true) {N : Tmp} (hd : o.dst = some N) (xs : List ByteArray)
    (hrun : (execOp a.eval o).run Try.prog W = .ok (.value (.slice (some ⟨W.heap.size, 0, none⟩) xs.length xs.length)) (W.alloc (.cells (encs Value.string xs).toArray 9)))
    (HB : Below base W0 W) (hbase : base ≤ W.heap.size) (hm : xs.length ≤ 1000000)
    (h : ∀ v1 w1, SR w1 base v1 xs → Below base W0 w1 → Kc (a.put o.dst v1) w1) : if Region.wanted o (yielded ops a.tmps) = true then Oper.wp Try.prog o a W Kc Q else Kc (a.put o.dst undef) W :=
  Kd.R_lit_step Kd.string (w0 := W0) base 9 hw hd (xs := xs) (inner := encs Value.string xs) (ok := fun _ => True) (okp := fun _ => True) hrun (Kd.reps_scalar xs) (fun _ _ => trivial) trivial HB hbase (by omega) (fun v1 w1 h1 h2 _ _ => h v1 w1 h1 h2)
/-- texts appended to a row of the call's own -/
theorem app_step (base : Nat) (hw : Region.wanted o (yielded ops a.tmps) = true) (s x : Operand) (ho : o.op = .call { callee := .builtin .append, args := #[s, x], argTypes := #[22, 22] })
    (v : Value) (xs ys : List ByteArray) (A : Option Addr) (c : Nat) (hs : a.eval s = v) (hx : a.eval x = .slice A ys.length c) (HO : SR W base v xs) (HR : Kd.C Kd.string W A ys.length ys) (HB : Below base W0 W) (hbase : base ≤ W.heap.size) (hl : xs.length + ys.length ≤ 1000000)
    (h : ∀ v1 w1, SR w1 base v1 (xs ++ ys) → Below base W0 w1 → Kc (a.put o.dst v1) w1) : if Region.wanted o (yielded ops a.tmps) = true then Oper.wp Try.prog o a W Kc Q else Kc (a.put o.dst undef) W :=
  Kd.R_append_rows_step (P := Try.prog) Kd.string (Rr := Kd.string.K W) (w0 := W0) base hw s x 22 9 (.string ⟨#[]⟩) 16 ho Try.underlying22 info_str rfl (by decide) (by decide) v xs ys A ys.length c (fun _ => True) (fun _ => False) hs hx HO HR (fun _ _ h => h) (fun _ h => h.elim) (fun _ _ => trivial) HB hbase (by omega) (fun v1 w1 h1 h2 _ _ => h v1 w1 h1 h2)
/-- a list of texts written out: a row that is newer than all that was -/
theorem lit_step2 (hw : Region.wanted o (yielded ops a.tmps) = true) {N : Tmp} (hd : o.dst = some N) (xs : List ByteArray)
    (hrun : (execOp a.eval o).run Try.prog W = .ok (.value (.slice (some ⟨W.heap.size, 0, none⟩) xs.length xs.length)) (W.alloc (.cells (encs Value.string xs).toArray 9)))
    (hm : xs.length ≤ 1000000) (h : ∀ v1 w1, SR w1 W.heap.size v1 xs → Below W.heap.size W w1 → Kc (a.put o.dst v1) w1) : if Region.wanted o (yielded ops a.tmps) = true then Oper.wp Try.prog o a W Kc Q else Kc (a.put o.dst undef) W :=
  lit_step W.heap.size hw hd xs hrun (Below.refl _ _) (Nat.le_refl _) hm h
/-- texts appended to a row of the call's own, with what is kept beside it -/
theorem app_step2 (base : Nat) (hw : Region.wanted o (yielded ops a.tmps) = true) (s x : Operand) (ho : o.op = .call { callee := .builtin .append, args := #[s, x], argTypes := #[22, 22] })
    (v : Value) (xs ys : List ByteArray) (A : Option Addr) (c : Nat) (hs : a.eval s = v) (hx : a.eval x = .slice A ys.length c) (HO : SR W base v xs) (HR : Kd.C Kd.string W A ys.length ys) (HB : Below base W0 W) (hbase : base ≤ W.heap.size) (hl : xs.length + ys.length ≤ 1000000)
    (h : ∀ v1 w1, SR w1 base v1 (xs ++ ys) → Below base W0 w1 → W.grownBy w1 v.ownBlock → (v1.ownBlock = v.ownBlock ∨ ∃ b, v1.ownBlock = some b ∧ W.heap.size ≤ b) → Kc (a.put o.dst v1) w1) : if Region.wanted o (yielded ops a.tmps) = true then Oper.wp Try.prog o a W Kc Q else Kc (a.put o.dst undef) W :=
  Kd.R_append_rows_step (P := Try.prog) Kd.string (Rr := Kd.string.K W) (w0 := W0) base hw s x 22 9 (.string ⟨#[]⟩) 16 ho Try.underlying22 info_str rfl (by decide) (by decide) v xs ys A ys.length c (fun _ => True) (fun _ => False) hs hx HO HR (fun _ _ h => h) (fun _ h => h.elim) (fun _ _ => trivial) HB hbase (by omega) h
theorem ne_rows {w1 : World} {b : Nat} {v v' : Value} {xs ys : List ByteArray} (h1 : SR w1 W.heap.size v xs) (h : SR W b v' ys) : NeRow v v' := ne_below (Kd.own_of_R h1) (Kd.own_of_R h)
theorem ne_app {b : Nat} {v v1 v' : Value} {ys : List ByteArray} (h : NeRow v v') (hat : v1.ownBlock = v.ownBlock ∨ ∃ b, v1.ownBlock = some b ∧ W.heap.size ≤ b) (ho : SR W b v' ys) : NeRow v1 v' := ne_append h hat (Kd.own_of_R ho)
theorem row_beside {w1 : World} {b : Nat} {v v' : Value} {ys : List ByteArray} (ho : SR W b v' ys) (h : NeRow v v') (hg : W.grownBy w1 v.ownBlock) : SR w1 b v' ys := Kd.R_grown2 ho rfl hg (fun k hk e => h k hk e.symm)
end
set_option maxRecDepth 100000 in
set_option maxHeartbeats 4000000 in
theorem add_c (R : Nat) (A : Option Addr) (c : Nat) (l : List ByteArray) (x : ByteArray) (r : List ByteArray) (w : World) (h : growN 30 R 1 l x = some r) (hR : R ≤ 1000000) (hx : x.size ≤ 1000) (hs : Sm l)
    (hl : l.length ≤ 1000000) (hc : l.length ≤ c) (hr : Kd.C Kd.string w A l.length l) :
    Calls Try.prog 28 #[.agg TV, .agg #[.int .i64 (R : Int), .slice A l.length c], .string x] w fun e w' => ∃ v, e = .returned (.agg #[.int .i64 ((R + 1 : Nat) : Int), v]) ∧ SR w' w.heap.size v r ∧ Below w.heap.size w w' := by
  have OW := Aside0.mk (Mem.Own.nil w)
  have HI := Aside0.mk info_tab
  have HR := Aside0.mk hr
  have HG := Aside0.mk (fun W hC => grow_c 30 R 1 A c l x r W h (by omega) (by decide) hx hs hl hc hC)
  have hR1 : (R : Int) ≤ 1000000 := by omega
  have e1 : ((1 : Nat) : Int) = 1 := rfl
  simp only [e1] at HG
  clear hr h hx hs hl hc e1
  go_enter Try.func28, Try.ntmps28
  go_wp2_with (first
    | ((with_reducible refine gate_dst (N := 3) rfl ?_); refine box_event ?hg (N := 3) ?hd (cs := TV) (t := 31) ?hr ?_; (case hd => rfl); (case hg => rfl); (case hr => first | (go_simp; done) | (go_simp; rfl)); intro gT hg W_ hb hbb; have n_ : Aside0 (Mem.Own w W_ [(gT, TV, 31)]) := ⟨OW.out.new hg hb hbb⟩; clear OW hb hbb hg; have OW := n_; clear n_)
    | ((with_reducible refine gate_dst (N := 4) rfl ?_); refine box_event ?hg (N := 4) ?hd (cs := #[.int .i64 (R : Int), .slice A l.length c]) (t := 41) ?hr ?_; (case hd => rfl); (case hg => rfl); (case hr => first | (go_simp; done) | (go_simp; rfl)); intro gR hg W_ hb hbb; have n_ : Aside0 (Mem.Own w W_ [(gT, TV, 31), (gR, #[.int .i64 (R : Int), .slice A l.length c], 41)]) := ⟨OW.out.new hg hb hbb⟩; clear OW hb hbb hg; have OW := n_; clear n_)
    | ((with_reducible refine gate_dst (N := 6) rfl ?_); refine box_event ?hg (N := 6) ?hd (cs := #[.int .i64 0, .slice none 0 0]) (t := 41) ?hr ?_; (case hd => rfl); (case hg => rfl); (case hr => first | (go_simp; done) | (go_simp; rfl)); intro gZ hg W_ hb hbb; have a0 := ((OW.out.step hbb).cell 1 rfl 0).trans rfl; have a1 := ((OW.out.step hbb).cell 1 rfl 1).trans rfl; have n_ : Aside0 (Mem.Own w W_ [(gT, TV, 31), (gR, #[.int .i64 (R : Int), .slice A l.length c], 41), (gZ, #[.int .i64 0, .slice none 0 0], 41)]) := ⟨OW.out.new hg hb hbb⟩; clear OW hb hbb hg; have OW := n_; clear n_)
    | ((with_reducible refine gate_dst (N := 7) rfl ?_); refine wpList_load_row rfl 31 (.tmp 3) rfl gT rfl 31 TV (0, 0) _ (OW.out.blk 0 rfl) Try.underlying31 rfl HI.out ?_)
    | (go_at_call 55; (with_reducible refine (HG.out _ (Kd.C_below HR.out OW.out.below)).mono ?_); rintro e wz ⟨v, rfl, hr1, hB⟩; have HV := Aside0.mk (Kd.R_lower hr1 OW.out.size); obtain ⟨A1, c1, e1⟩ := Kd.R_slice hr1; generalize r.length = m1 at e1; subst e1; have n_ := Aside0.mk (OW.out.step hB); clear OW hB hr1 a0 a1; have OW := n_; clear n_; have z0 := (OW.out.cell 2 rfl 0).trans rfl; have z1 := (OW.out.cell 2 rfl 1).trans rfl; have y0 := OW.out.frozen 2 rfl 0; have y1 := OW.out.frozen 2 rfl 1))
  have O2 := (OW.out.put 2 rfl 0 (.int .i64 ((R : Int) + 1)) rfl).put 2 rfl 1 (.slice A1 m1 c1) rfl
  have V2 := Kd.R_set (Kd.R_set HV.out (OW.out.blk 2 rfl) (by decide) 0 (.int .i64 ((R : Int) + 1))) ((OW.out.put 2 rfl 0 (.int .i64 ((R : Int) + 1)) rfl).blk 2 rfl) (by decide) 1 (.slice A1 m1 c1)
  refine bodyPost_ret (results_cell_row (p := 6) (ty := 41) rfl _ _ gZ 41 _ _ _ rfl (O2.blk 2 rfl) Try.underlying41 rfl (by kernel_rfl)) rfl ⟨_, rfl, V2, O2.below⟩
/-- one leaf more -/
theorem grow_one (L : List ByteArray) (x : ByteArray) (hL : L.length ≤ 64) : growN 30 L.length 1 (ofF L) x = some (ofF (L ++ [x])) := by
  have h := grow_of 29 L.length 0 (L ++ [x]) (by omega) (by omega) (by simp; omega) (by simp)
  simp only [Nat.pow_zero, Nat.div_one, Nat.mul_one] at h
  rw [List.take_left', List.drop_left', rootF_one] at h
  · exact h
  · rfl
  · rfl
end Go.Proofs.Ytondnammkcgjpaa.RgL
