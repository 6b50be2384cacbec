/- Here is proved: what sha.Make makes: always the same table. Conditions: none. -/
import Derived.Test.YtolapikiflodfaaSha3
namespace Go.Proofs.Ytolapikiflodfaa.Sha
open Go Go.Proofs Go.RowKit Go.Shelf
attribute [local go_sem] Oper.semAt_some

section
variable {F : Fence} {n : Nat} {P : Program}
theorem load_row_in {ops : Array Oper} {rest : List Oper} {o : Oper} {a : Act} {w : World} {Q : Exit → Act → World → Prop} (hgd : o.guard = none) (ty : TypeId) (x : Operand) (ho : o.op = .load ty x)
    (g : Nat) (hx : a.eval x = .pointer (some ⟨g, 0, none⟩)) (t : TypeId) (cs : Array Value) (fr : Nat × Nat) (d : TypeDesc) (hg : w.heap[g]? = some (.cells cs t fr))
    (hu : P.underlying ty = some d) (hd : (match d with | .struct _ | .array _ _ => true | _ => false) = true) (hi : (P.info? ty).map (·.size) = some cs.size)
    (h : wpListIn F n P ops Q rest (a.put o.dst (.agg cs)) w) : wpListIn F n P ops Q (o :: rest) a w := by
  refine wpListIn_plain hgd fun K hK2 => ?_
  unfold Oper.wpIn
  refine ⟨by simp [Oper.about, ho], ?_⟩
  rw [Oper.semAt_plain F _ _ (by rw [ho]; intro c hc; cases hc)]
  unfold execOp
  simp only [ho, hx, Instr.loadAt, Instr.sureAddr, Sem.run_bind, Sem.run_pure, Result.andThen_ok, run_loadVar_row w g t ty cs fr d hg hu hd hi]
  exact hK2 _ _ h
theorem store_row_in {ops : Array Oper} {rest : List Oper} {o : Oper} {a : Act} {w : World} {Q : Exit → Act → World → Prop} (hgd : o.guard = none) (ty : TypeId) (x y : Operand) (ho : o.op = .store ty x y)
    (g : Nat) (cells : Array Value) (hx : a.eval x = .pointer (some ⟨g, 0, none⟩)) (hy : a.eval y = .agg cells)
    (t : TypeId) (old : Array Value) (hg : w.heap[g]? = some (.cells old t (0, 0))) (hi : (P.info? ty).map (·.size) = some cells.size)
    (hold : old.size = cells.size) (h1 : cells.all (·.oneCell') = true)
    (h : wpListIn F n P ops Q rest (a.put o.dst undef) (w.setRow g cells)) : wpListIn F n P ops Q (o :: rest) a w := by
  refine wpListIn_plain hgd fun K hK2 => ?_
  unfold Oper.wpIn
  refine ⟨by simp [Oper.about, ho], ?_⟩
  rw [Oper.semAt_plain F _ _ (by rw [ho]; intro c hc; cases hc)]
  unfold execOp
  simp only [ho, hx, hy, Instr.storeAt, Instr.sureAddr, Sem.run_bind, Sem.run_pure, Result.andThen_ok, run_storeVar_row w g t ty old cells hg hi hold h1]
  exact hK2 _ _ h
end

def u32 (n : Nat) : Value := .int .u32 ((n % 4294967296 : Nat) : Int)
/-- the table that is made so far, and how many primes it is of -/
def tabStep (s : Array Value × Nat) (p : Nat) : Array Value × Nat :=
  (let A := s.1.setIfInBounds s.2 (u32 (cuV p)); if s.2 < 8 then A.setIfInBounds (64 + s.2) (u32 (sqV p)) else A, s.2 + 1)
def zeros : Array Value := Array.replicate 72 (.int .u32 0)
def tabS (l : List Nat) : Array Value × Nat := l.foldl tabStep (zeros, 0)
def vals (l : List Pm) : List Nat := l.map (·.1)
def tabA (l : List Nat) : Array Value := (tabS l).1
theorem tabS_2 (l : List Nat) : (tabS l).2 = l.length := by
  suffices h : ∀ (l : List Nat) s, (l.foldl tabStep s).2 = s.2 + l.length by have := h l (zeros, 0); simpa [tabS] using this
  intro l; induction l with
  | nil => intro s; rfl
  | cons x l ih => intro s; rw [List.foldl_cons, ih]; simp only [tabStep, List.length_cons]; omega
theorem tabA_app (l : List Nat) (p : Nat) : tabA (l ++ [p]) = (let A := (tabA l).setIfInBounds l.length (u32 (cuV p)); if l.length < 8 then A.setIfInBounds (64 + l.length) (u32 (sqV p)) else A) := by
  show (tabS (l ++ [p])).1 = _
  rw [tabS, List.foldl_append]
  show (tabStep (tabS l) p).1 = _
  unfold tabStep
  rw [tabS_2]; rfl
theorem tabA_size (l : List Nat) : (tabA l).size = 72 := by
  suffices h : ∀ (l : List Nat) s, s.1.size = 72 → (l.foldl tabStep s).1.size = 72 from h l (zeros, 0) (by simp [zeros])
  intro l; induction l with
  | nil => intro s h; exact h
  | cons x l ih => intro s h; rw [List.foldl_cons]; refine ih _ ?_; simp only [tabStep]; split <;> simpa using h
theorem tabA_one (l : List Nat) : (tabA l).all (·.oneCell') = true := by
  suffices h : ∀ (l : List Nat) s, (∀ v ∈ s.1, v.oneCell' = true) → ∀ v ∈ (l.foldl tabStep s).1, v.oneCell' = true by
    rw [Array.all_eq_true_iff_forall_mem]
    exact h l (zeros, 0) (by intro v hv; simp only [zeros, Array.mem_replicate] at hv; rw [hv.2]; rfl)
  intro l; induction l with
  | nil => intro s h; exact h
  | cons x l ih =>
    intro s h; rw [List.foldl_cons]; refine ih _ ?_
    intro v hv
    simp only [tabStep] at hv
    split at hv
    · rcases Array.mem_or_eq_of_mem_setIfInBounds hv with hv | rfl
      · rcases Array.mem_or_eq_of_mem_setIfInBounds hv with hv | rfl
        · exact h _ hv
        · rfl
      · rfl
    · rcases Array.mem_or_eq_of_mem_setIfInBounds hv with hv | rfl
      · exact h _ hv
      · rfl

theorem fnE113 : ∀ args w, (callFunc 113 args).run Try.prog w = .ok (.enter 113 args) w := enters_of Try.func113 (by kernel_rfl) rfl
set_option maxHeartbeats 1000000 in
theorem primes_c (w : World) : Calls Try.prog 85 #[] w fun e w' => e = .returned (.func (.func 113) #[] #[]) ∧ w' = w := by
  go_enter Try.func85, Try.ntmps85
  go_wp2
  go_ret
  exact ⟨rfl, rfl⟩

theorem zeros_eq : Try.zeroCells80 = tabA [] := by kernel_rfl
theorem prs_314_eq : prs 314 = prs 313 ++ [313] := by decide +kernel
theorem vals_pms (L : List Nat) (h : ∀ p ∈ L, p < 314) : vals (pms L) = L := by
  unfold vals pms
  rw [List.map_map]
  conv => rhs; rw [← List.map_id L]
  exact List.map_congr_left fun p hp => mkP_val p (h p hp)
theorem stepT_at {b : Nat} {A B : World} (h : StepT b A B) {k : Nat} {cs : Array Value} {t : TypeId} {fr : Nat × Nat} (hk : A.heap[k]? = some (.cells cs t fr)) (ht : t ≠ 145) : B.heap[k]? = some (.cells cs t fr) := by
  obtain ⟨row, hg, hr⟩ := h
  refine (hg.block k (Array.getElem?_eq_some_iff.1 hk).1 (fun e => ?_)).trans hk
  obtain ⟨_, cs2, h2⟩ := hr k e.symm
  rw [hk] at h2; cases h2; exact ht rfl
theorem stepT_not (b : Nat) (A B : World) (k : Nat) (o : Obj) (h : StepT b A B) (hk : A.heap[k]? = some o) (ho : o.isCells = false) : B.heap[k]? = some o := by
  obtain ⟨row, hg, hr⟩ := h
  refine (hg.block k (Array.getElem?_eq_some_iff.1 hk).1 (fun e => ?_)).trans hk
  obtain ⟨_, cs2, h2⟩ := hr k e.symm
  rw [hk] at h2; cases h2; cases ho
theorem stepT_below {w A B : World} (h : StepT w.heap.size A B) (hb : Below w.heap.size w A) : Below w.heap.size w B := by
  obtain ⟨row, hg, hr⟩ := h
  exact hb.grown hg hb.size (fun k e => (hr k e).1)
theorem keep_t {A B C : World} (h : Keep145 A B) (k : Keep145 B C) : Keep145 A C := fun i cs hi => k i cs (h i cs hi)
theorem keep_b (W : World) (l : Nat) (o o2 : Obj) (h : W.heap[l]? = some o) (ho : o.isCells = false) : Keep145 W (W.putObj l o2) := fun i cs hi =>
  (World.putObj_heap_other (fun e => by subst e; rw [h] at hi; cases hi; cases ho)).trans hi
theorem keep_alloc (W : World) (o : Obj) : Keep145 W (W.alloc o) := fun i _ hi => (Below.heap_alloc W o i (Array.getElem?_eq_some_iff.1 hi).1).trans hi
theorem keep_set {W : World} {b : Nat} {cs : Array Value} {t : TypeId} {fr : Nat × Nat} (h : W.heap[b]? = some (.cells cs t fr)) (ht : t ≠ 145) (i : Nat) (v : Value) : Keep145 W (W.setCell ⟨b, i, none⟩ v) := fun k cs2 hk =>
  (heap_setCell_other W ⟨b, i, none⟩ k v (fun e => by subst e; rw [h] at hk; cases hk; exact ht rfl)).trans hk

/-- what a step in the body keeps -/
def Ok (w W V : World) : Prop := KeepsOthers W V ∧ Keep145 W V ∧ Below w.heap.size w V
theorem ok_new {w W : World} (p : Nat) (hb : Below w.heap.size w W) : Ok w W (W.drew.alloc (box p)) :=
  ⟨(KeepsOthers.drew W).trans (KeepsOthers.alloc _ _), fun k cs h => keep_alloc W.drew (box p) k cs h, (hb.drew).alloc hb.size _⟩
theorem Ok.set {w W V : World} (h : Ok w W V) {b : Nat} {cs : Array Value} {t : TypeId} {fr : Nat × Nat} (hc : V.heap[b]? = some (.cells cs t fr)) (ht : t ≠ 145) (hb : w.heap.size ≤ b) (i : Nat) (v : Value) : Ok w W (V.setCell ⟨b, i, none⟩ v) :=
  ⟨h.1.trans (KeepsOthers.setCell _ _ _), keep_t h.2.1 (keep_set hc ht i v), h.2.2.setCell (p := ⟨b, i, none⟩) hb v⟩
theorem Ok.trans {w W V U : World} (h : Ok w W V) (k : Ok w V U) : Ok w W U := ⟨h.1.trans k.1, keep_t h.2.1 k.2.1, k.2.2⟩

/-- what stands while the table is made -/
def Inv (w : World) (l : List Nat) (W : World) : Prop :=
  W.heap[w.heap.size]? = some (.cells Try.zeroCells80 80 (0, 0)) ∧ W.heap[w.heap.size + 1]? = some (.cells (tabA l) 80 (0, 0)) ∧ Boxed W (w.heap.size + 1 + 1) 3 (.int .i64 (l.length : Int)) ∧ Below w.heap.size w W
theorem Inv.step {w A B : World} {l : List Nat} (h : StepT w.heap.size A B) (hi : Inv w l A) : Inv w l B :=
  ⟨stepT_at h hi.1 (by decide), stepT_at h hi.2.1 (by decide), stepT_at h hi.2.2.1 (by decide), stepT_below h hi.2.2.2⟩
theorem Inv.own (w : World) (B0 : Nat) (hB : w.heap.size ≤ B0) {A A2 : World} {row : Option Nat} {l : List Nat} (hi : Inv w l A) (hg : A.grownBy A2 row) (hr : ∀ r, row = some r → B0 ≤ r ∧ ∃ o : Obj, A.heap[r]? = some o ∧ o.isCells = false) : Inv w l A2 := by
  have hk : ∀ (k : Nat) (cs : Array Value) (t : TypeId), A.heap[k]? = some (.cells cs t (0, 0)) → A2.heap[k]? = some (.cells cs t (0, 0)) := fun k cs t h =>
    (hg.block k (Array.getElem?_eq_some_iff.1 h).1 (fun e => by obtain ⟨_, o, ho, hc⟩ := hr k e.symm; rw [h] at ho; cases ho; cases hc)).trans h
  exact ⟨hk _ _ _ hi.1, hk _ _ _ hi.2.1, hk _ _ _ hi.2.2.1, hi.2.2.2.grown hg hi.2.2.2.size (fun k e => Nat.le_trans hB (hr k e).1)⟩

theorem fin_round {w W V : World} {pre : List Pm} {x : Pm} {i B0 : Nat} (T : Array Value) (hO : Ok w W V) (v0 : V.heap[w.heap.size]? = some (.cells Try.zeroCells80 80 (0, 0))) (v1 : V.heap[w.heap.size + 1]? = some (.cells T 80 (0, 0))) (v2 : Boxed V (w.heap.size + 1 + 1) 3 (.int .i64 (i : Int)))
    (hT : tabA (vals (pre ++ [x])) = T) (hi : pre.length = i) (hlt : i < 64) :
    KeepsFrom B0 W (V.setCell ⟨w.heap.size + 1 + 1, 0, none⟩ (.int .i64 ((i : Int) + 1))) ∧ (pre ++ [x]).length < 65 ∧ Keep145 W (V.setCell ⟨w.heap.size + 1 + 1, 0, none⟩ (.int .i64 ((i : Int) + 1))) ∧ Inv w (vals (pre ++ [x])) (V.setCell ⟨w.heap.size + 1 + 1, 0, none⟩ (.int .i64 ((i : Int) + 1))) := by
  have hO2 := hO.set v2 (by decide) (by omega) 0 (.int .i64 ((i : Int) + 1))
  refine ⟨hO2.1.from _, by simp [hi]; omega, hO2.2.1, ?_, ?_, ?_, hO2.2.2⟩
  · exact (heap_setCell_other _ _ _ _ (by show w.heap.size ≠ w.heap.size + 1 + 1; omega)).trans v0
  · rw [hT]; exact (heap_setCell_other _ _ _ _ (by show w.heap.size + 1 ≠ w.heap.size + 1 + 1; omega)).trans v1
  · have e : (((vals (pre ++ [x])).length : Nat) : Int) = (i : Int) + 1 := by simp [vals, hi]
    rw [e]; exact v2.set _
/-- how the loop is left -/
def Out (w : World) (c : Code) (pre : List Pm) (W : World) : Prop := c = .exit 0 ∧ ∃ (l : List Pm) (x : Pm), pre = l ++ [x] ∧ l.length = 64 ∧ Inv w (vals l) W

set_option maxRecDepth 100000 in
set_option maxHeartbeats 4000000 in
theorem make_in (w : World) : CallsIn Fence.wide 6 Try.prog 47 #[] w fun e w' => e = .returned (.agg (tabA (prs 313))) ∧ Below w.heap.size w w' := by
  refine callsIn_of_wp_marks Try.func47 rfl trivial ?_ rfl
  simp only [Try.ntmps47, List.size_toArray, List.length_nil, Nat.reduceSub, Array.replicate_succ, Array.replicate_zero, List.push_toArray, List.append_toArray, List.nil_append, List.cons_append]
  gi_wp2_with (refine ⟨trivial, ?_⟩; gi_at_call 85; refine (callsIn_wide.2 (primes_c _)).mono ?_; rintro e w' ⟨rfl, rfl⟩)
  have hB0 : Below w.heap.size w (((w.alloc (.cells Try.zeroCells80 80)).alloc (.cells Try.zeroCells80 80)).alloc (.cells #[.int .i64 0] 3)) := (((Below.refl _ w).alloc (Nat.le_refl _) _).alloc (by simp) _).alloc (by simp <;> omega) _
  have hb0 : (((w.alloc (.cells Try.zeroCells80 80)).alloc (.cells Try.zeroCells80 80)).alloc (.cells #[.int .i64 0] 3)).heap[w.heap.size]? = some (.cells Try.zeroCells80 80 (0, 0)) :=
    (Below.heap_alloc _ _ _ (by simp <;> omega)).trans ((Below.heap_alloc _ _ _ (by simp)).trans (World.alloc_heap_new w _))
  have hb1 : (((w.alloc (.cells Try.zeroCells80 80)).alloc (.cells Try.zeroCells80 80)).alloc (.cells #[.int .i64 0] 3)).heap[w.heap.size + 1]? = some (.cells (tabA []) 80 (0, 0)) := by
    rw [← zeros_eq]
    refine (Below.heap_alloc _ _ _ (by simp)).trans ?_
    have h := World.alloc_heap_new (w.alloc (.cells Try.zeroCells80 80)) (.cells Try.zeroCells80 80)
    rwa [World.size_alloc] at h
  have hb2 : Boxed (((w.alloc (.cells Try.zeroCells80 80)).alloc (.cells Try.zeroCells80 80)).alloc (.cells #[.int .i64 0] 3)) (w.heap.size + 1 + 1) 3 (.int .i64 0) := by
    have h := Boxed.new ((w.alloc (.cells Try.zeroCells80 80)).alloc (.cells Try.zeroCells80 80)) 3 (.int .i64 0)
    rwa [World.size_alloc, World.size_alloc] at h
  have hsz : (((w.alloc (.cells Try.zeroCells80 80)).alloc (.cells Try.zeroCells80 80)).alloc (.cells #[.int .i64 0] 3)).heap.size = w.heap.size + 3 := by simp
  obtain ⟨W0, hW0⟩ : ∃ W0, ((w.alloc (.cells Try.zeroCells80 80)).alloc (.cells Try.zeroCells80 80)).alloc (.cells #[.int .i64 0] 3) = W0 := ⟨_, rfl⟩
  rw [hW0] at hB0 hb0 hb1 hb2 hsz ⊢
  have hI0 : Inv w [] W0 := ⟨hb0, hb1, hb2, hB0⟩
  clear hW0 hb0 hb1 hb2
  refine range_step (α := Pm) (encs := fun (p : Pm) => #[.int .u64 (p.1 : Int)]) (N := 65) (Kp := Keep145) (T := StepT w.heap.size) (G := fun l => l.length < 65) rfl (Nat.le_add_left 1 5) (gf := 113) (lb := #[]) rfl trivial fnE113
    (primes1 Fence.wide 5 trivial rfl (by omega) w) (stepT_not _) keep_t (fun V l o o2 _ h hc => keep_b V l o o2 h hc) hB0 (fun _ => rfl)
    (fun (pre : List Pm) W => Inv w (vals pre) W)
    (Out w)
    (fun s A A2 row hs hg hr => hs.own w _ (by rw [hsz]; omega) hg hr)
    (fun c s A A2 row hs hg hr => by obtain ⟨hc, l, x, e1, e2, h⟩ := hs; exact ⟨hc, l, x, e1, e2, h.own w _ (by rw [hsz]; omega) hg hr⟩)
    (fun s A B hT h => h.step hT) (fun c s A B hT hs => by obtain ⟨hc, l, x, e1, e2, h⟩ := hs; exact ⟨hc, l, x, e1, e2, h.step hT⟩)
    hI0
    (fun x => { tmps := #[.pointer (some ⟨w.heap.size, 0, none⟩), .pointer (some ⟨w.heap.size + 1, 0, none⟩), .pointer (some ⟨w.heap.size + 1 + 1, 0, none⟩), .int .u64 (x.1 : Int), .func (.func 113) #[] #[], .int .u64 (x.1 : Int), undef, undef, undef, undef, undef, undef, undef, undef, undef, undef, undef, undef, undef, undef, undef, undef, undef], defers := [] }) ?assign ?body ?done ?stop
  case assign =>
    intro l x W K hK
    gi_wp2
    exact hK
  case body =>
    rintro l pre x W ⟨h0, h1, h2, hB⟩ hlen
    have hp := x.2
    have HX : Hid (tabA (vals (pre ++ [x])) = (let A := (tabA (vals pre)).setIfInBounds (vals pre).length (u32 (cuV x.1)); if (vals pre).length < 8 then A.setIfInBounds (64 + (vals pre).length) (u32 (sqV x.1)) else A)) := Lib.hid (by rw [vals, List.map_append]; exact tabA_app (vals pre) x.1)
    have hvl : (vals (pre ++ [x])).length = (vals pre).length + 1 := by simp [vals]
    have HVL := Lib.hid hvl
    have hl2 : (vals pre).length = pre.length := by simp [vals]
    obtain ⟨i, hi⟩ : ∃ i, pre.length = i := ⟨_, rfl⟩
    rw [hi] at hl2 hlen
    have HI := Lib.hid hi
    have HL2 := Lib.hid hl2
    rw [hl2] at h2
    clear hi hl2 hvl
    have hc2 := h2.cell
    by_cases h64 : i = 64
    · subst h64
      gi_wp2
      exact ⟨KeepsFrom.refl _ _, rfl, pre, x, rfl, HI.out, h0, h1, by rw [HL2.out]; exact h2, hB⟩
    · obtain ⟨W1, hW1⟩ : ∃ W1, W.drew.alloc (box x.1) = W1 := ⟨_, rfl⟩
      have HC : Hid (Calls Try.prog 86 #[.int .u64 x.1] W.drew fun e w' => e = .returned (.int .u32 (cuV x.1 % 4294967296 : Nat)) ∧ w' = W1) := Lib.hid (by rw [← hW1]; exact cube_c x.1 hp W.drew)
      have hal : ∀ k o, W.heap[k]? = some o → W1.heap[k]? = some o := fun k o h => by rw [← hW1]; exact (Below.heap_alloc _ _ _ (Array.getElem?_eq_some_iff.1 h).1).trans h
      have a0 := hal _ _ h0
      have a1 := hal _ _ h1
      have a2 : Boxed W1 (w.heap.size + 1 + 1) 3 (.int .i64 (i : Int)) := hal _ _ h2
      have ac : W1.cell? ⟨w.heap.size + 1, i, none⟩ = some ((tabA (vals pre))[i]'(by rw [tabA_size]; omega)) := by
        rw [cell_of_row W1 _ i _ _ _ a1]; simp [tabA_size, show i < 72 by omega]
      have af := frozen_of_row W1 (w.heap.size + 1) i _ _ a1
      have ac2 := a2.cell
      have af2 := a2.frozen
      generalize (tabA (vals pre))[i]'(by rw [tabA_size]; omega) = old at ac
      obtain ⟨cv, hcv⟩ : ∃ cv, cuV x.1 % 4294967296 = cv := ⟨_, rfl⟩
      have HCV : Hid (u32 (cuV x.1) = .int .u32 (cv : Int)) := Lib.hid (by unfold u32; rw [hcv])
      rw [hcv] at HC
      clear hcv
      obtain ⟨sv, hsv⟩ : ∃ sv, sqV x.1 % 4294967296 = sv := ⟨_, rfl⟩
      have HSV : Hid (u32 (sqV x.1) = .int .u32 (sv : Int)) := Lib.hid (by unfold u32; rw [hsv])
      have HSC : Hid (∀ W, Calls Try.prog 87 #[.int .u64 x.1] W fun e w' => e = .returned (.int .u32 (sv : Int)) ∧ w' = W.alloc (box x.1)) := Lib.hid (fun W => by rw [← hsv]; exact square_c x.1 hp W)
      clear hsv
      gi_wp2_with fail
      gi_region_with (refine ⟨trivial, ?_⟩; gi_at_call 86; refine (CallsIn.inRound l (callsIn_wide.2 HC.out)).mono ?_; rintro e w' ⟨rfl, rfl⟩)
      all_goals
        obtain ⟨W2, hW2⟩ : ∃ W2, w'.setCell ⟨w.heap.size + 1, i, none⟩ (.int .u32 (cv : Int)) = W2 := ⟨_, rfl⟩
        rw [hW2]
        have hO2 : Ok w W W2 := by rw [← hW2, ← hW1]; rw [← hW1] at a1; exact (ok_new x.1 hB).set a1 (by decide) (by omega) _ _
        have b0 : W2.heap[w.heap.size]? = some (.cells Try.zeroCells80 80 (0, 0)) := by rw [← hW2]; exact (heap_setCell_other _ _ _ _ (by show w.heap.size ≠ w.heap.size + 1; omega)).trans a0
        have b1 : W2.heap[w.heap.size + 1]? = some (.cells ((tabA (vals pre)).setIfInBounds i (.int .u32 (cv : Int))) 80 (0, 0)) := by rw [← hW2]; exact heap_setCell_same _ _ _ _ _ _ a1
        have b2 : Boxed W2 (w.heap.size + 1 + 1) 3 (.int .i64 (i : Int)) := by rw [← hW2]; exact (heap_setCell_other _ _ _ _ (by show w.heap.size + 1 + 1 ≠ w.heap.size + 1; omega)).trans a2
        have bc2 := b2.cell
        have bf2 := b2.frozen
        clear HC hal a0 a1 a2 af ac2 af2 ac hW2 hW1
        by_cases h8 : i < 8
        · obtain ⟨W3, hW3⟩ : ∃ W3, W2.drew.alloc (box x.1) = W3 := ⟨_, rfl⟩
          have HC3 : Hid (Calls Try.prog 87 #[.int .u64 x.1] W2.drew fun e w' => e = .returned (.int .u32 (sv : Int)) ∧ w' = W3) := Lib.hid (by rw [← hW3]; exact HSC.out _)
          have hal : ∀ k o, W2.heap[k]? = some o → W3.heap[k]? = some o := fun k o h => by rw [← hW3]; exact (Below.heap_alloc _ _ _ (Array.getElem?_eq_some_iff.1 h).1).trans h
          have c0 := hal _ _ b0
          have c1 := hal _ _ b1
          have c2 : Boxed W3 (w.heap.size + 1 + 1) 3 (.int .i64 (i : Int)) := hal _ _ b2
          have cc : ∃ old2, W3.cell? ⟨w.heap.size + 1, 64 + i, none⟩ = some old2 := by
            refine ⟨((tabA (vals pre)).setIfInBounds i (.int .u32 (cv : Int)))[64 + i]'(by simp [tabA_size]; omega), ?_⟩
            rw [cell_of_row W3 _ _ _ _ _ c1]; simp [tabA_size, show 64 + i < 72 by omega]
          obtain ⟨old2, cc⟩ := cc
          have cf := frozen_of_row W3 (w.heap.size + 1) (64 + i) _ _ c1
          have cc2 := c2.cell
          have cf2 := c2.frozen
          gi_wp2_with fail
          gi_region_with (refine ⟨trivial, ?_⟩; gi_at_call 87; refine (CallsIn.inRound l (callsIn_wide.2 HC3.out)).mono ?_; rintro e w' ⟨rfl, rfl⟩)
          all_goals
            obtain ⟨W4, hW4⟩ : ∃ W4, w'.setCell ⟨w.heap.size + 1, 64 + i, none⟩ (.int .u32 (sv : Int)) = W4 := ⟨_, rfl⟩
            rw [hW4]
            have hO4 : Ok w W W4 := by rw [← hW4, ← hW3]; rw [← hW3] at c1; exact hO2.trans ((ok_new x.1 hO2.2.2).set c1 (by decide) (by omega) _ _)
            have d0 : W4.heap[w.heap.size]? = some (.cells Try.zeroCells80 80 (0, 0)) := by rw [← hW4]; exact (heap_setCell_other _ _ _ _ (by show w.heap.size ≠ w.heap.size + 1; omega)).trans c0
            have d1 : W4.heap[w.heap.size + 1]? = some (.cells (((tabA (vals pre)).setIfInBounds i (.int .u32 (cv : Int))).setIfInBounds (64 + i) (.int .u32 (sv : Int))) 80 (0, 0)) := by rw [← hW4]; exact heap_setCell_same _ _ _ _ _ _ c1
            have d2 : Boxed W4 (w.heap.size + 1 + 1) 3 (.int .i64 (i : Int)) := by rw [← hW4]; exact (heap_setCell_other _ _ _ _ (by show w.heap.size + 1 + 1 ≠ w.heap.size + 1; omega)).trans c2
            have dc2 := d2.cell
            have df2 := d2.frozen
            clear HC3 hal c0 c1 c2 cc cf cc2 cf2 hW4 hW3 b0 b1 b2 bc2 bf2
            gi_wp2
            exact fin_round _ hO4 d0 d1 d2 (by rw [HX.out, if_pos (by rw [HL2.out]; exact h8), HL2.out, HCV.out, HSV.out]) HI.out (by omega)
        · gi_wp2
          exact fin_round _ hO2 b0 b1 b2 (by rw [HX.out, if_neg (by rw [HL2.out]; exact h8), HL2.out, HCV.out]) HI.out (by omega)
  case done => intro D xs W _ hS; exact hS.elim
  case stop =>
    rintro D c pre W hD ⟨q, rfl, hq⟩ ⟨rfl, l, x, e1, e2, h0, h1, h2, hB⟩ hd
    have hlen : (prs (q + 1)).length = 65 := by rw [← pms_len, e1]; simp [e2]
    have hq2 : q = 313 := by
      rcases Nat.lt_or_ge q 313 with h | h
      · have := prs_mono (q + 1) 313 h; rw [prs_313] at this; omega
      · omega
    subst hq2
    rw [prs_314_eq, pms_app] at e1
    obtain ⟨e3, _⟩ := List.append_inj' e1 rfl
    subst e3
    rw [vals_pms _ (fun p hp => by have := prs_in 313 p hp; omega)] at h1
    obtain ⟨T, hT⟩ : ∃ T, tabA (prs 313) = T := ⟨_, rfl⟩
    have hTs : T.size = 72 := by rw [← hT, tabA_size]
    have hT1 : T.all (·.oneCell') = true := by rw [← hT]; exact tabA_one _
    rw [hT] at h1
    have HT := Lib.hid hT
    have HI : Hid ((Try.prog.info? 80).map (·.size) = some T.size) := Lib.hid (by rw [hTs]; kernel_rfl)
    have HZ : Hid (Try.zeroCells80.size = T.size) := Lib.hid (by rw [hTs, zeros_eq, tabA_size])
    clear hT hTs e1 e2 hlen hq
    gi_wp2_with (first
      | (refine load_row_in rfl 80 (.tmp 1) rfl (w.heap.size + 1) rfl 80 T (0, 0) _ h1 Try.underlying80 rfl HI.out ?_)
      | (refine store_row_in rfl 80 (.tmp 0) (.tmp 22) rfl (w.heap.size) T rfl rfl 80 _ h0 HI.out HZ.out hT1 ?_))
    have hB2 : Below w.heap.size w (W.setRow w.heap.size T) := hB.trans ⟨rfl, rfl, rfl, by rw [size_setRow]; exact Nat.le_refl _, fun k hk => setRow_other W w.heap.size k T (by omega)⟩
    have hR := setRow_heap W w.heap.size _ T _ _ h0
    have hd2 : (W.setRow w.heap.size T).heap[D]? = some (.deferred (some [])) := (setRow_other W w.heap.size D T (by omega)).trans hd
    generalize W.setRow w.heap.size T = V at *
    refine ⟨by simp, .inl ⟨_, _, rfl, run_takeDeferred hd2, ?_⟩⟩
    have hR2 : (V.putObj D (.deferred none)).heap[w.heap.size]? = some (.cells T 80 (0, 0)) := (World.putObj_heap_other (by omega)).trans hR
    exact ⟨_, results_cell_row (p := 0) (ty := 80) rfl _ _ w.heap.size 80 _ _ _ rfl hR2 Try.underlying80 rfl HI.out, by rw [HT.out], hB2.trans (belowK_b (w := w) (Nat.le_refl _) _ D _ _ (by omega) hd2 rfl rfl)⟩
end Go.Proofs.Ytolapikiflodfaa.Sha
