/- Here is proved: what sha.square, sha.cube answer; sha.primes' function, round by round. Conditions: none. -/
import Derived.Test.YtolapikiflodfaaSha2
import Derived.Test.YtolapikiflodfaaStep
import Derived.Scope
import Derived.WalkMore
namespace Go.Proofs.Ytolapikiflodfaa.Sha
open Go Go.Proofs Go.RowKit Go.Shelf
attribute [local go_sem] Oper.semAt_some

section
variable {F : Fence} {n : Nat} {P : Program} {Q : Exit → Act → World → Prop} {a : Act} {w : World}
theorem stepR_scope {b : Frame} {k : List Item} {cs : List Frame} {c : Code} : step P (lone (b.atR a (.code (.scope c) :: k)) cs w) = .next (lone (b.atR a (.code c :: .inScope c :: k)) cs w) :=
  step_lone_go (by simp [stepG, stepG.exec, Frame.atR])
theorem stepR_inScope {b : Frame} {k : List Item} {cs : List Frame} {c : Code} : step P (lone (b.atR a (.inScope c :: k)) cs w) = .next (lone (b.atR a k) cs w) :=
  step_lone_go (by simp [stepG, stepG.exec, Frame.atR])
theorem wpIn_scope_straight {c : Code} (h : c.wpIn F n P (Exit.noGoto Q) a w) : (Code.scope c).wpIn F n P Q a w := by
  intro b k cs hro hb hr
  have h0 : (lone (b.atR a (.code (.scope c) :: k)) cs w).fenced P F := fenced_calm hb hr rfl
  obtain ⟨e, a₁, w₁, hq, harr⟩ := h b (.inScope c :: k) cs hro hb hr
  cases e with
  | normal => exact ⟨.normal, a₁, w₁, hq, .head h0 stepR_scope (StepsIn.trans harr (.one (fenced_calm hb hr rfl) stepR_inScope))⟩
  | exit id =>
    have hx : exitTo id (.inScope c :: k) = exitTo id k := by simp [exitTo]
    exact ⟨.exit id, a₁, w₁, hq, fun k' hk => .head h0 stepR_scope (harr.1 k' (by rw [hx]; exact hk)), fun hr' hk => let ⟨k₁, h1, h2⟩ := harr.2 hr' (by rw [hx]; exact hk); ⟨k₁, h1, .head h0 stepR_scope h2⟩⟩
  | goto l => exact hq.elim
  | ret => exact ⟨_, a₁, w₁, hq, .of_steps (.one h0 stepR_scope) harr⟩
  | panic ch => exact ⟨_, a₁, w₁, hq, .of_steps (.one h0 stepR_scope) harr⟩
  | outgrown => exact ⟨_, a₁, w₁, hq, .of_steps (.one h0 stepR_scope) harr⟩
end
theorem grF_lt (isB : Nat → Bool) : ∀ k x, k ≤ 36 → x < 68719476736 → grF isB k x < 68719476736 := by
  intro k
  induction k with
  | zero => intro x _ h; exact h
  | succ k ih =>
    intro x hk hx
    have h2 : x ||| 2 ^ k < 68719476736 := Nat.or_lt_two_pow (n := 36) hx (Nat.pow_lt_pow_right (by decide) (by omega))
    rw [grF]
    split
    · exact ih _ (by omega) h2
    · exact ih _ (by omega) hx
def sqV (p : Nat) : Nat := grF (isSq p) 36 0
def cuV (p : Nat) : Nat := grF (isCu p) 36 0
theorem sqV_lt (p : Nat) : sqV p < 68719476736 := grF_lt _ 36 0 (Nat.le_refl _) (by decide)
theorem cuV_lt (p : Nat) : cuV p < 68719476736 := grF_lt _ 36 0 (Nat.le_refl _) (by decide)
abbrev box (p : Nat) : Obj := .cells #[.int .u64 p] 145
theorem hmf (fn : Fn) (first cap : Array Value) (w : World) : (Instr.makeFunc fn first cap).run Try.prog w = .ok (.func fn first cap) w := rfl

set_option maxHeartbeats 1000000 in
theorem square_c (p : Nat) (hp : p < 1000) (w : World) : Calls Try.prog 87 #[.int .u64 p] w fun e w' => e = .returned (.int .u32 (sqV p % 4294967296 : Nat)) ∧ w' = w.alloc (box p) := by
  have HC := Lib.hid (gr117 p hp w.heap.size (w.alloc (box p)) (Boxed.new w 145 _))
  have hlt := sqV_lt p
  change Hid (Calls Try.prog 114 _ _ fun e w' => e = .returned (.int .u64 (sqV p : Nat)) ∧ _) at HC
  generalize sqV p = s at *
  have hmf := hmf
  go_enter Try.func87, Try.ntmps87
  go_wp2_with (go_at_call 114; refine HC.out.mono ?_; rintro e w2 ⟨rfl, rfl⟩)
  go_ret
  exact ⟨rfl, rfl⟩
set_option maxHeartbeats 1000000 in
theorem cube_c (p : Nat) (hp : p < 1000) (w : World) : Calls Try.prog 86 #[.int .u64 p] w fun e w' => e = .returned (.int .u32 (cuV p % 4294967296 : Nat)) ∧ w' = w.alloc (box p) := by
  have HC := Lib.hid (gr115 p hp w.heap.size (w.alloc (box p)) (Boxed.new w 145 _))
  have hlt := cuV_lt p
  change Hid (Calls Try.prog 114 _ _ fun e w' => e = .returned (.int .u64 (cuV p : Nat)) ∧ _) at HC
  generalize cuV p = s at *
  have hmf := hmf
  go_enter Try.func86, Try.ntmps86
  go_wp2_with (go_at_call 114; refine HC.out.mono ?_; rintro e w2 ⟨rfl, rfl⟩)
  go_ret
  exact ⟨rfl, rfl⟩

/-- the primes below q -/
def prs : Nat → List Nat
  | 0 => []
  | q + 1 => if q < 2 then prs q else if (prs q).any (fun p => q % p == 0) then prs q else prs q ++ [q]
theorem prs_2 : prs 2 = [] := rfl
theorem prs_hit (q : Nat) (h2 : 2 ≤ q) (h : (prs q).any (fun p => q % p == 0) = true) : prs (q + 1) = prs q := by rw [prs, if_neg (by omega), if_pos h]
theorem prs_new (q : Nat) (h2 : 2 ≤ q) (h : (prs q).any (fun p => q % p == 0) = false) : prs (q + 1) = prs q ++ [q] := by rw [prs, if_neg (by omega), if_neg (by rw [h]; decide)]
theorem prs_in (q : Nat) : ∀ p ∈ prs q, 2 ≤ p ∧ p < q := by
  induction q with
  | zero => intro p hp; cases hp
  | succ q ih =>
    intro p hp
    rw [prs] at hp
    split at hp
    · have := ih p hp; omega
    · split at hp
      · have := ih p hp; omega
      · rcases List.mem_append.1 hp with hp | hp
        · have := ih p hp; omega
        · rw [List.mem_singleton.1 hp]; omega
theorem prs_mono (q r : Nat) (h : q ≤ r) : (prs q).length ≤ (prs r).length := by
  induction r with
  | zero => rw [Nat.le_zero.1 h]; exact Nat.le_refl _
  | succ r ih =>
    by_cases e : q = r + 1
    · rw [e]; exact Nat.le_refl _
    · refine Nat.le_trans (ih (by omega)) ?_
      rw [prs]
      split
      · exact Nat.le_refl _
      · split
        · exact Nat.le_refl _
        · simp
theorem prs_314 : (prs 314).length = 65 := by decide +kernel
theorem prs_313 : (prs 313).length = 64 := by decide +kernel
theorem prs_top (q : Nat) (h : (prs q).length < 65) : q < 314 := by
  rcases Nat.lt_or_ge q 314 with h1 | h1
  · exact h1
  · have := prs_mono 314 q h1; rw [prs_314] at this; omega

def encP (l : List Nat) : List Value := l.map fun (p : Nat) => .int .u64 (p : Int)
theorem encP_app (a b : List Nat) : encP (a ++ b) = encP a ++ encP b := List.map_append
def StepT (base : Nat) (A B : World) : Prop := ∃ row, A.grownBy B row ∧ ∀ r, row = some r → base ≤ r ∧ ∃ cs, A.heap[r]? = some (.cells cs 145 (0, 0))
def Keep145 (A B : World) : Prop := ∀ (k : Nat) (cs : Array Value), A.heap[k]? = some (.cells cs 145 (0, 0)) → B.heap[k]? = some (.cells cs 145 (0, 0))
theorem StepT.alloc (base : Nat) (A : World) (o : Obj) : StepT base A (A.alloc o) := ⟨none, World.grownBy_alloc A o none, fun r e => by cases e⟩
theorem StepT.row {base b : Nat} {A B : World} {v : Value} {n : Nat} {xs : List Value} (h : A.ownsRow b 145 1 v n xs) (hb : base ≤ b) (hg : A.grownBy B v.ownBlock) : StepT base A B := by
  refine ⟨_, hg, fun r e => ?_⟩
  rcases h.2 with ⟨rfl, _⟩ | ⟨g, cap, cur, rfl, hbg, hc, _⟩
  · cases e
  · cases e; exact ⟨Nat.le_trans hb hbg, _, hc⟩
theorem own_keep {A B : World} {b : Nat} {v : Value} {n : Nat} {xs : List Value} (h : A.ownsRow b 145 1 v n xs) (hk : Keep145 A B) : B.ownsRow b 145 1 v n xs := by
  refine ⟨h.1, ?_⟩
  rcases h.2 with h0 | ⟨g, cap, cur, h1, h2, h3, h4⟩
  · exact .inl h0
  · exact .inr ⟨g, cap, cur, h1, h2, hk _ _ h3, h4⟩
theorem own_view {w : World} {b : Nat} {v : Value} {n : Nat} {l : List Nat} (h : w.ownsRow b 145 1 v n (encP l)) : ∃ A c, v = .slice A l.length c ∧ n = l.length ∧ ∀ k (h : k < l.length), ∃ ad, A = some ad ∧ w.cell? (ad.add k) = some (.int .u64 (l[k] : Nat)) := by
  have hn : n = l.length := by have := h.1; simp [encP] at this; omega
  rcases h.2 with ⟨rfl, rfl⟩ | ⟨g, cap, cur, rfl, _⟩
  · exact ⟨none, 0, by rw [← hn], hn, fun k hk => by omega⟩
  · refine ⟨_, cap, by rw [hn], hn, fun k hk => ⟨_, rfl, h.cells rfl k _ ?_⟩⟩
    simp [encP, hk]
theorem info145 : (Try.prog.info? 145).map (fun i => (i.zero, i.size, i.bytes)) = some (some (.int .u64 0), 1, 8) := by kernel_rfl
theorem one_new (w : World) (u : Value) (t : TypeId) : ∀ j x, ([u] : List Value)[j]? = some x → (w.alloc (.cells #[u] t)).cell? ((⟨w.heap.size, 0, none⟩ : Addr).add j) = some x := by
  intro j x hx
  match j, hx with
  | 0, hx => obtain rfl : u = x := by simpa using hx
             simp [Addr.add]
  | j + 1, hx => simp at hx

/-- a prime that the table is made of -/
abbrev Pm := { p : Nat // p < 1000 }
def mkP (p : Nat) : Pm := ⟨min p 999, by omega⟩
theorem mkP_val (p : Nat) (h : p < 314) : (mkP p).1 = p := by show min p 999 = p; omega
def pms (l : List Nat) : List Pm := l.map mkP
theorem pms_app (l : List Nat) (q : Nat) : pms (l ++ [q]) = pms l ++ [mkP q] := by simp [pms]
theorem pms_len (l : List Nat) : (pms l).length = l.length := by simp [pms]
set_option maxRecDepth 100000 in
set_option maxHeartbeats 4000000 in
theorem primes1 (F : Fence) (n : Nat) (hf : F.fn 113) (hro : F.round = none) (hn : 1 ≤ n) (w : World) :
    StepSeq F n Try.prog 113 #[] (fun (p : Pm) => #[.int .u64 (p.1 : Int)]) (StepT w.heap.size) Keep145 (fun l => l.length < 65) (fun _ => False) (fun pre => ∃ q, pre = pms (prs (q + 1)) ∧ q < 314) 65 w := fun l J Jx W hW hJT hJxT hY hJ0 => by
  obtain ⟨i0, hi, hz0, hz1, hz2⟩ := info_parts info145
  refine callsIn_of_wp Try.func113 rfl hf ?_ hro
  simp only [Try.ntmps113, List.size_toArray, List.length_cons, List.length_nil, Nat.reduceAdd, Nat.reduceSub, Array.replicate_succ, Array.replicate_zero, List.push_toArray, List.append_toArray, List.nil_append, List.cons_append]
  refine wpIn_scope_straight ?_
  gi_wp2_with (apply wpIn_label)
  gi_loopw [2, 3] (fun s2 s3 wr => ∃ q : Nat, 2 ≤ q ∧ s3 = .int .u64 (q : Int) ∧ (prs q).length < 65 ∧ wr.ownsRow W.heap.size 145 1 s2 (prs q).length (encP (prs q)) ∧ J (pms (prs q)) wr ∧ W.heap.size ≤ wr.heap.size) (fun _ s3 _ => 400 - (intOf s3).toNat)
  case atStart => exact ⟨2, Nat.le_refl _, rfl, by decide, World.ownsRow_nil _ _ _ _, hJ0, Nat.le_refl _⟩
  case round =>
    obtain ⟨q, h2, rfl, hlen, hrow, hJ, hsz⟩ := hrel
    have hq := prs_top q hlen
    have hin := prs_in q
    obtain ⟨L, hL⟩ : ∃ L, prs q = L := ⟨_, rfl⟩
    rw [hL] at hlen hrow hJ hin
    have HL := Lib.hid hL
    have HIN := Lib.hid hin
    have HR := Lib.hid hrow
    obtain ⟨A, c, rfl, _, hcell⟩ := own_view hrow
    have HC := Lib.hid hcell
    obtain ⟨m, hN⟩ : ∃ m, L.length = m := ⟨_, rfl⟩
    have HN := Lib.hid hN
    rw [hN] at hlen hrow HR ⊢
    clear hin hL hcell hN
    gi_wp2
    gi_loopw [5, 10] (fun _ s10 w2 => ∃ k : Nat, k ≤ m ∧ s10 = .int .i64 k ∧ w2 = wr ∧ Hid (∀ j (h : j < L.length), j < k → q % L[j] ≠ 0)) (fun _ s10 _ => m - (intOf s10).toNat)
    case atStart => exact ⟨0, Nat.zero_le _, rfl, rfl, fun j h hj => absurd hj (by omega)⟩
    case round =>
      rename_i wr2 _
      obtain ⟨k, hk, rfl, rfl, HM⟩ := hrel
      by_cases hlt : k < m
      · have hlL : k < L.length := by rw [HN.out]; exact hlt
        obtain ⟨ad, rfl, hc⟩ := HC.out k hlL
        have hpin := HIN.out L[k] (List.getElem_mem _)
        have HP := Lib.hid (rfl : L[k] = L[k])
        obtain ⟨p, hp⟩ : ∃ p, L[k] = p := ⟨_, rfl⟩
        have HP := Lib.hid hp
        rw [hp] at hc hpin
        clear hp
        have hrem : (q : Int).tmod (p : Int) = ((q % p : Nat) : Int) := (Int.ofNat_tmod q p).symm
        obtain ⟨r, hr⟩ : ∃ r, q % p = r := ⟨_, rfl⟩
        have HRM := Lib.hid hr
        rw [hr] at hrem
        clear hr
        by_cases hz : r = 0
        · subst hz
          gi_wp2
          have hany : (prs q).any (fun p => q % p == 0) = true := by
            rw [HL.out]
            exact List.any_eq_true.2 ⟨p, by rw [← HP.out]; exact List.getElem_mem _, by rw [HRM.out]; rfl⟩
          have hnx := prs_hit q h2 hany
          exact ⟨⟨q + 1, by omega, by go_num, by rw [hnx, HL.out, HN.out]; exact hlen, by rw [hnx, HL.out, HN.out]; exact HR.out, by rw [hnx, HL.out]; exact hJ, hsz⟩, by simp [intOf]; omega⟩
        · have hz2 : ((r : Int) == 0) = false := by simp; exact hz
          gi_wp2
          go_roundw
          case rel => exact ⟨k + 1, by omega, by go_num, by first | rfl | trivial, fun j h hj => by
            by_cases e : j = k
            · subst e; rw [HP.out, HRM.out]; exact hz
            · exact HM.out j h (by omega)⟩
          case measure => simp [intOf]; omega
      · obtain rfl : k = m := by omega
        have hany : (prs q).any (fun p => q % p == 0) = false := by
          rw [HL.out, List.any_eq_false]
          intro p hp h0
          obtain ⟨j, hj, rfl⟩ := List.getElem_of_mem hp
          exact HM.out j hj (by rw [← HN.out]; exact hj) (by simpa using h0)
        have HNX := Lib.hid (prs_new q h2 hany)
        clear hany
        gi_wp2_with (gi_at_builtin; refine wpListIn_append_own _ rfl (.tmp 19) (.tmp 21) 177 rfl W.heap.size 145 i0 (.int .u64 0) 1 8 Try.underlying177 hi hz0 hz1 hz2 rfl (by decide) _ _ _ rfl (hrow.alloc _) ⟨wr.heap.size, 0, none⟩ 1 1 [.int .u64 (q : Int)] rfl rfl (one_new _ _ _) (by simp [Value.oneCell']) (by simp only [maxLen]; omega) (by omega) (by simp; omega) ?_; intro v2 w1 hown2 hgrow _; have hJ1 := hJT _ _ _ (StepT.row (hrow.alloc _) hW.size hgrow) (hJT _ _ _ (StepT.alloc _ _ _) hJ); obtain ⟨fn, tmps, assign, body, hy, hR⟩ := hY (pms L) (mkP q) w1 hJ1 (by rw [pms_len, HN.out]; exact hlen); simp only [mkP_val q hq] at hy)
        refine hR.mono ?_
        rintro e W3 (⟨rfl, hG3, hJ3, hk3⟩ | ⟨rfl, hx3⟩)
        · have hown3 := own_keep hown2 hk3
          have hsz3 : W.heap.size ≤ W3.heap.size := by
            rcases hown3.2 with ⟨_, h0⟩ | ⟨g, cap, cur, _, hg, hc, _⟩
            · omega
            · have := (Array.getElem?_eq_some_iff.1 hc).1; omega
          gi_wp2
          have hl3 : (prs (q + 1)).length = k + 1 := by rw [HNX.out, List.length_append, HL.out, HN.out]; rfl
          have he3 : encP (prs (q + 1)) = encP L ++ [.int .u64 (q : Int)] := by rw [HNX.out, encP_app, HL.out]; rfl
          exact ⟨⟨q + 1, by omega, by go_num, by rw [HNX.out, HL.out, ← pms_len, pms_app]; exact hG3, by rw [hl3, he3]; exact hown3, by rw [HNX.out, HL.out, pms_app]; exact hJ3, hsz3⟩, by simp [intOf]; omega⟩
        · gi_wp2
          rw [Exit.noGoto_ret]
          refine bodyPost_ret (results_none rfl _ _ _) rfl ?_
          exact ⟨⟨_, rfl⟩, .inr ⟨_, ⟨q, by rw [HNX.out, HL.out, pms_app], hq⟩, hx3⟩⟩
end Go.Proofs.Ytolapikiflodfaa.Sha
