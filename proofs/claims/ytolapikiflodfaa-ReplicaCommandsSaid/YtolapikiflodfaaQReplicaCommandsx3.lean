import Derived.Test.YtolapikiflodfaaQReplicaCommandsx0
import Derived.Test.YtolapikiflodfaaQReplicaCommandsx2
import Derived.Lib.AtoiErrMem
import Derived.Test.YtolapikiflodfaaRep2
namespace Go.Proofs.Ytolapikiflodfaa.PReplicaCommands
open Go.RowKit Go.Proofs.YtolapikiflodfaaW.PrintWords Go.Proofs.YtolapikiflodfaaW.PrintLast Go.Proofs.YtolapikiflodfaaW.PrintMore
attribute [local go_sem] max2_int min2_int max_two min_two max_three min_three max_four min_four   -- for this text's walks alone
set_option linter.unusedVariables false
set_option linter.unusedSimpArgs false

/-- A state of type 185 at block g of W; what its slices lead to came in by w0. -/
def IsS185 (w0 W : World) (g : Nat) (f0 : ByteArray) (f1 : Bool) : Prop := W.heap[g]? = some (.cells #[.string f0, .bool f1] 185 (0, 0)) ∧ w0.heap.size ≤ g
theorem IsS185.grown {w0 W : World} {g : Nat} {f0 : ByteArray} {f1 : Bool} {W1 : World} {row : Option Nat} (h : IsS185 w0 W g f0 f1) (hw : W.grownBy W1 row) (hne : some g ≠ row) : IsS185 w0 W1 g f0 f1 := by
  obtain ⟨hb, hg⟩ := h
  exact ⟨blk_grown hb hw hne, hg⟩
theorem IsS185.own_neN {w0 W : World} {g : Nat} {f0 : ByteArray} {f1 : Bool} {α : Type} {d : Kd α} {e : Nat} {base : Nat} {ok : Nat → Prop} {v : Value} {xs : List α} (h : IsS185 w0 W g f0 f1) (ho : Kd.N d e W base ok v xs) (ht : e ≠ 185) : some g ≠ v.ownBlock := by
  obtain ⟨hb, hg⟩ := h
  exact Kd.N_ne ho hb ht
theorem IsS185.fresh {w0 W : World} {g : Nat} {f0 : ByteArray} {f1 : Bool} (h : IsS185 w0 W g f0 f1) : ∀ k, W.heap.size ≤ k → k ≠ g := by
  obtain ⟨hb, hg⟩ := h
  exact Kd.freshB hb
theorem IsS185.kept {w0 W : World} {g : Nat} {f0 : ByteArray} {f1 : Bool} {W1 : World} {S : Nat → Prop} (h : IsS185 w0 W g f0 f1) (hk : Kept W W1 S) (hne : ¬ S g) : IsS185 w0 W1 g f0 f1 := by
  obtain ⟨hb, hg⟩ := h
  exact ⟨blk_kept hb hk hne, hg⟩
theorem IsS185.below {w0 W : World} {g : Nat} {f0 : ByteArray} {f1 : Bool} {W1 : World} (h : IsS185 w0 W g f0 f1) (hw : Below W.heap.size W W1) : IsS185 w0 W1 g f0 f1 := h.grown (grown_of_below hw none) (by simp)
theorem IsS185.alloc {w0 W : World} {g : Nat} {f0 : ByteArray} {f1 : Bool} (h : IsS185 w0 W g f0 f1) (o : Obj) : IsS185 w0 (W.alloc o) g f0 f1 := h.below (below_alloc (Below.refl _ _) o)
theorem IsS185.drewN {w0 W : World} {g : Nat} {f0 : ByteArray} {f1 : Bool} (h : IsS185 w0 W g f0 f1) (m : Nat) : IsS185 w0 (W.drewN m) g f0 f1 := h
theorem IsS185.drew {w0 W : World} {g : Nat} {f0 : ByteArray} {f1 : Bool} (h : IsS185 w0 W g f0 f1) : IsS185 w0 W.drew g f0 f1 := h
theorem IsS185.at_ {w0 W : World} {g : Nat} {f0 : ByteArray} {f1 : Bool} {w' : World} {m : Nat} (hq : W.drewN m = w') (h : IsS185 w0 W g f0 f1) : IsS185 w0 w' g f0 f1 := by subst hq; exact IsS185.drewN h m
theorem IsS185.apart {w0 W : World} {g : Nat} {f0 : ByteArray} {f1 : Bool} {α : Type} {d : Kd α} {e : Nat} {base : Nat} {ok : Nat → Prop} {v : Value} {xs : List α} (h : IsS185 w0 W g f0 f1) (ho : d.R e W base ok v xs) (ht : ∀ q, q ∈ e :: d.E → q ≠ 185) : d.R e W base (fun k => ok k ∧ k ≠ g) v xs := by
  obtain ⟨hb, hg⟩ := h
  exact Kd.R_types ho hb ht
theorem IsS185.own_ne {w0 W : World} {g : Nat} {f0 : ByteArray} {f1 : Bool} {α : Type} {d : Kd α} {e : Nat} {base : Nat} {ok : Nat → Prop} {v : Value} {xs : List α} (h : IsS185 w0 W g f0 f1) (ho : d.R e W base ok v xs) (ht : e ≠ 185) : some g ≠ v.ownBlock := by
  obtain ⟨hb, hg⟩ := h
  exact Kd.R_ne ho hb ht
theorem IsS185.apartQ {w0 W : World} {g : Nat} {f0 : ByteArray} {f1 : Bool} {α : Type} {d : Kd α} {e : Nat} {base : Nat} {ok : Nat → Prop} {v : Value} {xs : List α} (h : IsS185 w0 W g f0 f1) (ho : d.Q e W base ok v xs) (ht : ∀ q, q ∈ e :: d.E → q ≠ 185) : d.Q e W base (fun k => ok k ∧ k ≠ g) v xs := by
  obtain ⟨hb, hg⟩ := h
  exact Kd.Q_types ho hb ht
theorem IsS185.own_neQ {w0 W : World} {g : Nat} {f0 : ByteArray} {f1 : Bool} {α : Type} {d : Kd α} {e : Nat} {base : Nat} {ok : Nat → Prop} {v : Value} {xs : List α} (h : IsS185 w0 W g f0 f1) (ho : d.Q e W base ok v xs) (ht : e ≠ 185) : some g ≠ v.ownBlock := by
  obtain ⟨hb, hg⟩ := h
  exact Kd.Q_ne ho hb ht
theorem IsS185.apartS {w0 W : World} {g : Nat} {f0 : ByteArray} {f1 : Bool} {α : Type} {d : Kd α} {e : Nat} {base : Nat} {ok : Nat → Prop} {v : Value} {xs : List α} (h : IsS185 w0 W g f0 f1) (ho : d.S e W base ok v xs) (ht : ∀ q, q ∈ e :: d.E → q ≠ 185) : d.S e W base (fun k => ok k ∧ k ≠ g) v xs := by
  obtain ⟨hb, hg⟩ := h
  exact Kd.S_types ho hb ht
theorem IsS185.own_neS {w0 W : World} {g : Nat} {f0 : ByteArray} {f1 : Bool} {α : Type} {d : Kd α} {e : Nat} {base : Nat} {ok : Nat → Prop} {v : Value} {xs : List α} (h : IsS185 w0 W g f0 f1) (ho : d.S e W base ok v xs) (ht : e ≠ 185) : some g ≠ v.ownBlock := by
  obtain ⟨hb, hg⟩ := h
  exact Kd.S_ne ho hb ht
theorem IsS185.lt {w0 W : World} {g : Nat} {f0 : ByteArray} {f1 : Bool} (h : IsS185 w0 W g f0 f1) : g < W.heap.size := by
  obtain ⟨hb, hg⟩ := h
  exact blk_lt hb
theorem IsS185.ge {w0 W : World} {g : Nat} {f0 : ByteArray} {f1 : Bool} (h : IsS185 w0 W g f0 f1) : w0.heap.size ≤ g := by
  obtain ⟨hb, hg⟩ := h
  exact hg
theorem IsS185.ne_blk {w0 W : World} {g : Nat} {f0 : ByteArray} {f1 : Bool} {a : Nat} {cs : Array Value} {t : TypeId} {fr : Nat × Nat} (h : IsS185 w0 W g f0 f1) (hb2 : W.heap[a]? = some (.cells cs t fr)) (ht : t ≠ 185) : g ≠ a := by
  obtain ⟨hb, hg⟩ := h
  rintro rfl
  rw [hb] at hb2
  injection hb2 with hb2
  injection hb2 with _ ht2
  exact ht ht2.symm
theorem IsS185.far {w0 W : World} {g : Nat} {f0 : ByteArray} {f1 : Bool} {p : Addr} (h : IsS185 w0 W g f0 f1) (hne : g ≠ p.block) (u : Value) : IsS185 w0 (W.setCell p u) g f0 f1 := by
  obtain ⟨hb, hg⟩ := h
  exact ⟨blk_far hb hne u, hg⟩
theorem cellS185_0 {W : World} {g : Nat} {f0 : ByteArray} {f1 : Bool} (h : W.heap[g]? = some (.cells #[.string f0, .bool f1] 185 (0, 0))) : W.cell? ⟨g, 0, none⟩ = some (.string f0) := (blk_cell h 0).trans rfl
theorem IsS185.set_0 {w0 W : World} {g : Nat} {f0 : ByteArray} {f1 : Bool} (h : IsS185 w0 W g f0 f1) (x : ByteArray) : IsS185 w0 (W.setCell ⟨g, 0, none⟩ (.string x)) g x f1 := by
  obtain ⟨hb, hg⟩ := h
  exact ⟨by simpa using blk_set hb 0 (.string x), hg⟩
theorem cellS185_1 {W : World} {g : Nat} {f0 : ByteArray} {f1 : Bool} (h : W.heap[g]? = some (.cells #[.string f0, .bool f1] 185 (0, 0))) : W.cell? ⟨g, 1, none⟩ = some (.bool f1) := (blk_cell h 1).trans rfl
theorem IsS185.set_1 {w0 W : World} {g : Nat} {f0 : ByteArray} {f1 : Bool} (h : IsS185 w0 W g f0 f1) (x : Bool) : IsS185 w0 (W.setCell ⟨g, 1, none⟩ (.bool x)) g f0 x := by
  obtain ⟨hb, hg⟩ := h
  exact ⟨by simpa using blk_set hb 1 (.bool x), hg⟩
theorem IsS185.new (w0 W : World) (f0 : ByteArray) (f1 : Bool) (hB : Below w0.heap.size w0 W) : IsS185 w0 (W.alloc (.cells #[.string f0, .bool f1] 185)) W.heap.size f0 f1 := ⟨by simpa using heap_alloc_new W _, hB.size⟩

/-! ### wire_reader_cut: function 139 -/
def wire_reader_cut.f (s0_0 : ByteArray) (s0_1 : Bool) (a1 : Int) : Option (ByteArray × ByteArray × Bool) := if s0_1 = true then (some ((⟨#[]⟩ : ByteArray), s0_0, true)) else (if a1 < 0 then (some ((⟨#[]⟩ : ByteArray), s0_0, true)) else (if a1 > (s0_0.size : Int) then (some ((⟨#[]⟩ : ByteArray), s0_0, true)) else (if 0 ≤ a1 then (if a1 ≤ (s0_0.size : Int) then (some (s0_0.extract 0 (a1 : Int).toNat, s0_0.extract (a1 : Int).toNat s0_0.size, s0_1)) else (none)) else (none))))
set_option maxHeartbeats 8000000 in
set_option maxRecDepth 100000 in
theorem wire_reader_cut.calls (g : Nat) (s0_0 : ByteArray) (s0_1 : Bool) (a1 : Int) (r1 : ByteArray) (r2 : ByteArray) (r3 : Bool) (w0 w : World) (hI : IsS185 w0 w g s0_0 s0_1) (hB : Below w0.heap.size w0 w) (h : wire_reader_cut.f s0_0 s0_1 a1 = some (r1, r2, r3)) :
    Calls Try.prog 139 #[.pointer (some ⟨g, 0, none⟩), .int .i64 a1] w fun e w' => e = .returned (.string r1) ∧ IsS185 w0 w' g r2 r3 ∧ Below w0.heap.size w0 w' ∧ KeepBut w w' g none := by
  have HI0 := Aside0.mk hI
  have HK := Aside0.mk (KeepBut.refl w g none)
  have HL := Aside0.mk hB.size
  clear hI
  have HW0 := Aside0.mk hB.size
  have HB := Aside0.mk hB
  clear hB
  have H : (if s0_1 = true then (some ((⟨#[]⟩ : ByteArray), s0_0, true)) else (if a1 < 0 then (some ((⟨#[]⟩ : ByteArray), s0_0, true)) else (if a1 > (s0_0.size : Int) then (some ((⟨#[]⟩ : ByteArray), s0_0, true)) else (if 0 ≤ a1 then (if a1 ≤ (s0_0.size : Int) then (some (s0_0.extract 0 (a1 : Int).toNat, s0_0.extract (a1 : Int).toNat s0_0.size, s0_1)) else (none)) else (none))))) = some (r1, r2, r3) := h
  clear h
  by_cases c3 : s0_1 = true
  · subst c3
    have H1 : (some ((⟨#[]⟩ : ByteArray), s0_0, true)) = some (r1, r2, r3) := by rw [if_pos rfl] at H; exact H
    clear H
    have H := H1
    clear H1
    simp only [Option.some.injEq, Prod.mk.injEq] at H
    obtain ⟨rfl, rfl, rfl⟩ := H
    obtain ⟨HGz4, hgz4⟩ := HI0.out
    have hcz4_0 := cellS185_0 HGz4
    have hcz4_1 := cellS185_1 HGz4
    have hfz4_0 := blk_frozen HGz4 0
    have hfz4_1 := blk_frozen HGz4 1
    clear HGz4 hgz4
    go_enter Try.func139, Try.ntmps139
    go_wp2
    go_ret
    exact ⟨by first | rfl | (simp [errW_none, errW_some] <;> rfl) | (simp [*, errW_none, errW_some] <;> rfl), by repeat (first | (with_reducible first | exact HI0.out | apply IsS185.alloc | apply IsS185.drewN | apply IsS185.drew | apply IsS185.set_0 | apply IsS185.set_1) | exact HI0.out), by repeat (first | (with_reducible first | exact HB.out | apply below_alloc | apply pw_below_drewN | apply below_drew1 | refine below_set ?_ (IsS185.ge HI0.out)) | exact HB.out), by repeat (first | (with_reducible first | exact HK.out | apply KeepBut.set_ | apply keep_drewN | apply keep_drew | apply keep_alloc) | exact HK.out)⟩
  · replace c3 := Bool.eq_false_iff.mpr c3
    subst c3
    have H1 : (if a1 < 0 then (some ((⟨#[]⟩ : ByteArray), s0_0, true)) else (if a1 > (s0_0.size : Int) then (some ((⟨#[]⟩ : ByteArray), s0_0, true)) else (if 0 ≤ a1 then (if a1 ≤ (s0_0.size : Int) then (some (s0_0.extract 0 (a1 : Int).toNat, s0_0.extract (a1 : Int).toNat s0_0.size, false)) else (none)) else (none)))) = some (r1, r2, r3) := by rw [if_neg (show ¬ (false = true) by decide)] at H; exact H
    clear H
    have H := H1
    clear H1
    by_cases c5 : a1 < 0
    · rw [if_pos c5] at H
      have c5b0 : decide (a1 < 0) = true := decide_eq_true c5
      clear c5
      simp only [Option.some.injEq, Prod.mk.injEq] at H
      obtain ⟨rfl, rfl, rfl⟩ := H
      obtain ⟨HGz6, hgz6⟩ := HI0.out
      have hcz6_0 := cellS185_0 HGz6
      have hcz6_1 := cellS185_1 HGz6
      have hfz6_0 := blk_frozen HGz6 0
      have hfz6_1 := blk_frozen HGz6 1
      clear HGz6 hgz6
      go_enter Try.func139, Try.ntmps139
      go_wp2
      go_ret
      exact ⟨by first | rfl | (simp [errW_none, errW_some] <;> rfl) | (simp [*, errW_none, errW_some] <;> rfl), by repeat (first | (with_reducible first | exact HI0.out | apply IsS185.alloc | apply IsS185.drewN | apply IsS185.drew | apply IsS185.set_0 | apply IsS185.set_1) | exact HI0.out), by repeat (first | (with_reducible first | exact HB.out | apply below_alloc | apply pw_below_drewN | apply below_drew1 | refine below_set ?_ (IsS185.ge HI0.out)) | exact HB.out), by repeat (first | (with_reducible first | exact HK.out | apply KeepBut.set_ | apply keep_drewN | apply keep_drew | apply keep_alloc) | exact HK.out)⟩
    · rw [if_neg c5] at H
      have c5b0 : decide (a1 < 0) = false := decide_eq_false c5
      clear c5
      by_cases c7 : a1 > (s0_0.size : Int)
      · rw [if_pos c7] at H
        have c7b0 : decide ((s0_0.size : Int) < a1) = true := decide_eq_true c7
        clear c7
        simp only [Option.some.injEq, Prod.mk.injEq] at H
        obtain ⟨rfl, rfl, rfl⟩ := H
        obtain ⟨HGz8, hgz8⟩ := HI0.out
        have hcz8_0 := cellS185_0 HGz8
        have hcz8_1 := cellS185_1 HGz8
        have hfz8_0 := blk_frozen HGz8 0
        have hfz8_1 := blk_frozen HGz8 1
        clear HGz8 hgz8
        go_enter Try.func139, Try.ntmps139
        go_wp2
        go_ret
        exact ⟨by first | rfl | (simp [errW_none, errW_some] <;> rfl) | (simp [*, errW_none, errW_some] <;> rfl), by repeat (first | (with_reducible first | exact HI0.out | apply IsS185.alloc | apply IsS185.drewN | apply IsS185.drew | apply IsS185.set_0 | apply IsS185.set_1) | exact HI0.out), by repeat (first | (with_reducible first | exact HB.out | apply below_alloc | apply pw_below_drewN | apply below_drew1 | refine below_set ?_ (IsS185.ge HI0.out)) | exact HB.out), by repeat (first | (with_reducible first | exact HK.out | apply KeepBut.set_ | apply keep_drewN | apply keep_drew | apply keep_alloc) | exact HK.out)⟩
      · rw [if_neg c7] at H
        have c7b0 : decide ((s0_0.size : Int) < a1) = false := decide_eq_false c7
        clear c7
        by_cases c9 : 0 ≤ a1
        · rw [if_pos c9] at H
          have c9b0 := eq_true c9
          have c9b1 : decide (0 ≤ a1) = true := decide_eq_true c9
          clear c9
          by_cases c10 : a1 ≤ (s0_0.size : Int)
          · rw [if_pos c10] at H
            have c10b0 := eq_true c10
            have c10b1 : decide (a1 ≤ (s0_0.size : Int)) = true := decide_eq_true c10
            clear c10
            have c11b0 := eq_true (of_decide_eq_true (by first | (with_reducible assumption) | assumption) : 0 ≤ a1)
            have c12b0 := eq_true (of_decide_eq_true (by first | (with_reducible assumption) | assumption) : a1 ≤ (s0_0.size : Int))
            simp only [Option.some.injEq, Prod.mk.injEq] at H
            obtain ⟨rfl, rfl, rfl⟩ := H
            obtain ⟨HGz13, hgz13⟩ := HI0.out
            have hcz13_0 := cellS185_0 HGz13
            have hcz13_1 := cellS185_1 HGz13
            have hfz13_0 := blk_frozen HGz13 0
            have hfz13_1 := blk_frozen HGz13 1
            clear HGz13 hgz13
            go_enter Try.func139, Try.ntmps139
            go_wp2
            go_ret
            exact ⟨by first | rfl | (simp [errW_none, errW_some] <;> rfl) | (simp [*, errW_none, errW_some] <;> rfl), by repeat (first | (with_reducible first | exact HI0.out | apply IsS185.alloc | apply IsS185.drewN | apply IsS185.drew | apply IsS185.set_0 | apply IsS185.set_1) | exact HI0.out), by repeat (first | (with_reducible first | exact HB.out | apply below_alloc | apply pw_below_drewN | apply below_drew1 | refine below_set ?_ (IsS185.ge HI0.out)) | exact HB.out), by repeat (first | (with_reducible first | exact HK.out | apply KeepBut.set_ | apply keep_drewN | apply keep_drew | apply keep_alloc) | exact HK.out)⟩
          · rw [if_neg c10] at H
            exact absurd H (by simp)
        · rw [if_neg c9] at H
          exact absurd H (by simp)

/-! ### wire_reader_mark: function 121 -/
def wire_reader_mark.f (s0_0 : ByteArray) (s0_1 : Bool) (a1 : ByteArray) : Option (ByteArray × Bool) := if s0_1 = true then (some (s0_0, true)) else ((wire_reader_cut.f s0_0 s0_1 1).bind fun bt115 => (some (bt115.2.1, (bt115.1.toList != a1.toList))))
set_option maxHeartbeats 8000000 in
set_option maxRecDepth 100000 in
theorem wire_reader_mark.calls (g : Nat) (s0_0 : ByteArray) (s0_1 : Bool) (a1 : ByteArray) (r1 : ByteArray) (r2 : Bool) (w0 w : World) (hI : IsS185 w0 w g s0_0 s0_1) (hB : Below w0.heap.size w0 w) (h : wire_reader_mark.f s0_0 s0_1 a1 = some (r1, r2)) :
    Calls Try.prog 121 #[.pointer (some ⟨g, 0, none⟩), .string a1] w fun e w' => e = .returned (.tuple #[]) ∧ IsS185 w0 w' g r1 r2 ∧ Below w0.heap.size w0 w' ∧ KeepBut w w' g none := by
  have HI0 := Aside0.mk hI
  have HK := Aside0.mk (KeepBut.refl w g none)
  have HL := Aside0.mk hB.size
  clear hI
  have HW0 := Aside0.mk hB.size
  have HB := Aside0.mk hB
  clear hB
  have H : (if s0_1 = true then (some (s0_0, true)) else ((wire_reader_cut.f s0_0 s0_1 1).bind fun bt115 => (some (bt115.2.1, (bt115.1.toList != a1.toList))))) = some (r1, r2) := h
  clear h
  by_cases c3 : s0_1 = true
  · subst c3
    have H1 : (some (s0_0, true)) = some (r1, r2) := by rw [if_pos rfl] at H; exact H
    clear H
    have H := H1
    clear H1
    simp only [Option.some.injEq, Prod.mk.injEq] at H
    obtain ⟨rfl, rfl⟩ := H
    obtain ⟨HGz4, hgz4⟩ := HI0.out
    have hcz4_0 := cellS185_0 HGz4
    have hcz4_1 := cellS185_1 HGz4
    have hfz4_0 := blk_frozen HGz4 0
    have hfz4_1 := blk_frozen HGz4 1
    clear HGz4 hgz4
    go_enter Try.func121, Try.ntmps121
    go_wp2
    first | go_end0 | ((try simp only [Exit.inBlock, Exit.then]); refine bodyPost_ret (results_none rfl _ _ _) rfl ?_)
    exact ⟨by first | rfl | (simp [errW_none, errW_some] <;> rfl) | (simp [*, errW_none, errW_some] <;> rfl), by first | exact IsS185.set_1 HI0.out _ | (repeat (first | (with_reducible first | exact HI0.out | apply IsS185.alloc | apply IsS185.drewN | apply IsS185.drew | apply IsS185.set_0 | apply IsS185.set_1) | exact HI0.out)), by repeat (first | (with_reducible first | exact HB.out | apply below_alloc | apply pw_below_drewN | apply below_drew1 | refine below_set ?_ (IsS185.ge HI0.out)) | exact HB.out), by repeat (first | (with_reducible first | exact HK.out | apply KeepBut.set_ | apply keep_drewN | apply keep_drew | apply keep_alloc) | exact HK.out)⟩
  · replace c3 := Bool.eq_false_iff.mpr c3
    subst c3
    have H1 : ((wire_reader_cut.f s0_0 false 1).bind fun bt115 => (some (bt115.2.1, (bt115.1.toList != a1.toList)))) = some (r1, r2) := by rw [if_neg (show ¬ (false = true) by decide)] at H; exact H
    clear H
    have H := H1
    clear H1
    replace H := Option.bind_eq_some_iff.mp H
    obtain ⟨⟨t115, t116, t117⟩, A50, H⟩ := H
    replace H : (some (t116, (t115.toList != a1.toList))) = some (r1, r2) := H
    have A5 := Aside0.mk A50
    clear A50
    simp only [Option.some.injEq, Prod.mk.injEq] at H
    obtain ⟨rfl, rfl⟩ := H
    obtain ⟨HGz6, hgz6⟩ := HI0.out
    have hcz6_0 := cellS185_0 HGz6
    have hcz6_1 := cellS185_1 HGz6
    have hfz6_0 := blk_frozen HGz6 0
    have hfz6_1 := blk_frozen HGz6 1
    clear HGz6 hgz6
    go_enter Try.func121, Try.ntmps121
    go_wp2_with (first | (go_at_call 139; (with_reducible refine (wire_reader_cut.calls g s0_0 false 1 t115 t116 t117 w0 _ ?side1 ?side2 A5.out).mono ?_); (case side1 => repeat (first | (with_reducible first | exact HI0.out | apply IsS185.alloc | apply IsS185.drewN | apply IsS185.drew | apply IsS185.set_0 | apply IsS185.set_1) | exact HI0.out)); (case side2 => repeat (first | (with_reducible first | exact HB.out | apply below_alloc | apply pw_below_drewN | apply below_drew1 | refine below_set ?_ (IsS185.ge HI0.out)) | exact HB.out)); rintro e w7 ⟨rfl, hi, hb, hk⟩; have n0_ := Aside0.mk (KeepBut.trans (by repeat (first | (with_reducible first | exact HK.out | apply KeepBut.set_ | apply keep_drewN | apply keep_drew | apply keep_alloc) | exact HK.out)) hk (.inl rfl)); have n1_ := Aside0.mk (hb); have n2_ := Aside0.mk (hi); clear HK; clear HB; clear HI0; have HK := n0_; have HB := n1_; have HI0 := n2_; clear n0_ n1_ n2_; (try clear hb); (try clear hb2); (try clear hk); (try clear hi); obtain ⟨HGz8, hgz8⟩ := HI0.out; have hcz8_0 := cellS185_0 HGz8; have hcz8_1 := cellS185_1 HGz8; have hfz8_0 := blk_frozen HGz8 0; have hfz8_1 := blk_frozen HGz8 1; clear HGz8 hgz8))
    first | go_end0 | ((try simp only [Exit.inBlock, Exit.then]); refine bodyPost_ret (results_none rfl _ _ _) rfl ?_)
    exact ⟨by first | rfl | (simp [errW_none, errW_some] <;> rfl) | (simp [*, errW_none, errW_some] <;> rfl), by first | exact IsS185.set_1 HI0.out _ | (repeat (first | (with_reducible first | exact HI0.out | apply IsS185.alloc | apply IsS185.drewN | apply IsS185.drew | apply IsS185.set_0 | apply IsS185.set_1) | exact HI0.out)), by repeat (first | (with_reducible first | exact HB.out | apply below_alloc | apply pw_below_drewN | apply below_drew1 | refine below_set ?_ (IsS185.ge HI0.out)) | exact HB.out), by repeat (first | (with_reducible first | exact HK.out | apply KeepBut.set_ | apply keep_drewN | apply keep_drew | apply keep_alloc) | exact HK.out)⟩

/-! ### wire_reader_number: function 122 -/
theorem bytes_cell (t : ByteArray) (w : World) (k : Nat) (hk : k < t.size) : (Lib.bytesWorld w 5 t).cell? ⟨w.heap.size, k, none⟩ = some (.int .u8 (bt t k)) := by
  rw [Lib.bytesWorld_cell w 5 t k hk]
  have hb : bt t k = ((t.data.toList.getD k 0).toNat : Int) := by
    rw [← bt_at t k (by rw [Int.toNat_natCast]; exact hk)]
    have e : t.data.toList.getD k 0 = t[k] := by
      have hk4 : k < t.data.toList.length := by rw [Array.length_toList]; exact hk
      rw [List.getD_eq_getElem?_getD, List.getElem?_eq_getElem hk4, Option.getD_some]; rfl
    rw [e]; rfl
  rw [hb]
/-- a reader's number: of the bytes that were cut off -/
def rnV (t : ByteArray) : Int := Go.Proofs.Ytolapikiflodfaa.Rep.beK t t.size
set_option maxRecDepth 100000 in
set_option maxHeartbeats 2000000 in
theorem rnum_c (g : Nat) (s0_0 : ByteArray) (s0_1 : Bool) (t rest : ByteArray) (b2 b3 : Bool) (w0 w : World) (hI : IsS185 w0 w g s0_0 s0_1) (hB : Below w0.heap.size w0 w) (hcut : wire_reader_cut.f s0_0 s0_1 4 = some (t, rest, b2)) (ht : t.size ≤ 4)
    (h3 : (b2 || decide (rnV t > 2147483647)) = b3) :
    Calls Try.prog 122 #[.pointer (some ⟨g, 0, none⟩)] w fun e w' => e = .returned (.int .i64 (rnV t)) ∧ IsS185 w0 w' g rest b3 ∧ Below w0.heap.size w0 w' ∧ KeepBut w w' g none := by
  have HC := Aside0.mk (wire_reader_cut.calls g s0_0 s0_1 4 t rest b2 w0 w hI hB hcut)
  have H3 := Aside0.mk h3
  have hcv := fun (W : World) (t : ByteArray) => Lib.run_convert_string_bytes (P := Try.prog) W 9 161 5 t Try.underlying9 Try.underlying161 Try.underlying5
  clear hI hB hcut h3
  go_enter Try.func122, Try.ntmps122
  go_wp2_with (go_at_call 139; refine (HC.out).mono ?_; rintro e w1 ⟨rfl, hi, hb, hk⟩; have HI1 := Aside0.mk hi; have HB1 := Aside0.mk hb; have HK1 := Aside0.mk hk; clear hi hb hk)
  clear hcv HC
  have hbw := Lib.bytesWorld_below w1 5 t
  have HBC := Aside0.mk (fun k (hk : k < t.size) => bytes_cell t w1 k hk)
  have HI2 := Aside0.mk (HI1.out.below hbw)
  have HB2 := Aside0.mk (HB1.out.trans (hbw.mono HB1.out.size))
  have HK2 := Aside0.mk (KeepBut.trans HK1.out (KeepBut.of_below hbw g none) (.inl rfl))
  have hA : ∃ A, w1.heap.size = A := ⟨_, rfl⟩
  obtain ⟨A, hA⟩ := hA
  rw [hA] at HBC ⊢
  clear hbw HI1 HB1 HK1
  generalize Lib.bytesWorld w1 5 t = W at *
  clear hA
  go_loop [3, 10] (fun n i => ∃ k : Nat, k ≤ t.size ∧ i = .int .i64 k ∧ n = .int .i64 (Go.Proofs.Ytolapikiflodfaa.Rep.beK t k)) (fun _ i => t.size - (intOf i).toNat)
  case atStart => exact ⟨0, Nat.zero_le _, rfl, rfl⟩
  case round =>
    obtain ⟨k, hk, rfl, rfl⟩ := hrel
    obtain ⟨hr0, hr1, hr2⟩ := Go.Proofs.Ytolapikiflodfaa.Rep.beK_in t k (by omega)
    have hb := bt_range t k
    by_cases hlt : k < t.size
    · have hc := HBC.out k hlt
      have hr3 := hr2 (by omega)
      clear hr2 hr1
      go_wp2_with fail
      go_round
      case rel => exact ⟨k + 1, by omega, by go_num, congrArg (Value.int .i64) (Go.Proofs.Ytolapikiflodfaa.Rep.acc _ _ hr0 hr3 hb.1 hb.2)⟩
      case measure => simp [intOf]; omega
    · have hge : t.size ≤ k := by omega
      have hK : Go.Proofs.Ytolapikiflodfaa.Rep.beK t k = rnV t := by unfold rnV; rw [show k = t.size by omega]
      rw [hK] at hr0 hr1 ⊢
      obtain ⟨n, hn⟩ : ∃ n, rnV t = n := ⟨_, rfl⟩
      have h3 := H3.out
      rw [hn] at h3 ⊢
      have HN := Aside0.mk hn
      clear hlt hr2 hr1 hr0 hK hn H3
      obtain ⟨HG, hg⟩ := HI2.out
      have hc0 := cellS185_0 HG
      have hc1 := cellS185_1 HG
      have hf1 := blk_frozen HG 1
      clear HG hg
      cases b2 with
      | true =>
        have H4 := Aside0.mk h3
        clear h3
        go_wp2_with fail
        go_ret
        exact ⟨by first | rfl | (rw [HN.out]; rfl), by rw [← H4.out]; exact IsS185.set_1 HI2.out true, below_set HB2.out (IsS185.ge HI2.out), KeepBut.set_ HK2.out _ _⟩
      | false =>
        by_cases hm : 2147483647 < n
        · have H4 := Aside0.mk (show true = b3 by rw [← h3]; simp [hm])
          clear h3
          go_wp2_with fail
          go_ret
          exact ⟨by first | rfl | (rw [HN.out]; rfl), by rw [← H4.out]; exact IsS185.set_1 HI2.out true, below_set HB2.out (IsS185.ge HI2.out), KeepBut.set_ HK2.out _ _⟩
        · have H4 := Aside0.mk (show false = b3 by rw [← h3]; simp [hm])
          clear h3
          go_wp2_with fail
          go_ret
          exact ⟨by first | rfl | (rw [HN.out]; rfl), by rw [← H4.out]; exact IsS185.set_1 HI2.out false, below_set HB2.out (IsS185.ge HI2.out), KeepBut.set_ HK2.out _ _⟩
theorem cut4_size (s : ByteArray) (b : Bool) (t rest : ByteArray) (b2 : Bool) (h : wire_reader_cut.f s b 4 = some (t, rest, b2)) : t.size ≤ 4 := by
  unfold wire_reader_cut.f at h
  have h0 : (⟨#[]⟩ : ByteArray).size = 0 := rfl
  split at h
  · cases h; omega
  · rw [if_neg (by decide)] at h
    split at h
    · cases h; omega
    · rw [if_pos (by decide)] at h
      split at h
      · cases h; rw [ByteArray.size_extract]; omega
      · cases h
def wire_reader_number.f (s0_0 : ByteArray) (s0_1 : Bool) : Option (Int × ByteArray × Bool) :=
  match wire_reader_cut.f s0_0 s0_1 4 with
  | none => none
  | some (t, rest, b2) => some (rnV t, rest, b2 || decide (rnV t > 2147483647))
set_option maxHeartbeats 8000000 in
set_option maxRecDepth 100000 in
theorem wire_reader_number.calls (g : Nat) (s0_0 : ByteArray) (s0_1 : Bool) (r1 : Int) (r2 : ByteArray) (r3 : Bool) (w0 w : World) (hI : IsS185 w0 w g s0_0 s0_1) (hB : Below w0.heap.size w0 w) (h : wire_reader_number.f s0_0 s0_1 = some (r1, r2, r3)) :
    Calls Try.prog 122 #[.pointer (some ⟨g, 0, none⟩)] w fun e w' => e = .returned (.int .i64 r1) ∧ IsS185 w0 w' g r2 r3 ∧ Below w0.heap.size w0 w' ∧ KeepBut w w' g none := by
  unfold wire_reader_number.f at h
  split at h
  · cases h
  · rename_i t rest b2 hcut
    cases h
    exact rnum_c g s0_0 s0_1 t _ _ _ w0 w hI hB hcut (cut4_size _ _ _ _ _ hcut) rfl

/-! ### wire_reader_text: function 123 -/
def wire_reader_text.f (s0_0 : ByteArray) (s0_1 : Bool) : Option (ByteArray × ByteArray × Bool) := (wire_reader_number.f s0_0 s0_1).bind fun bt118 => ((wire_reader_cut.f bt118.2.1 bt118.2.2 bt118.1).bind fun bt121 => (some (bt121.1, bt121.2.1, bt121.2.2)))
set_option maxHeartbeats 8000000 in
set_option maxRecDepth 100000 in
theorem wire_reader_text.calls (g : Nat) (s0_0 : ByteArray) (s0_1 : Bool) (r1 : ByteArray) (r2 : ByteArray) (r3 : Bool) (w0 w : World) (hI : IsS185 w0 w g s0_0 s0_1) (hB : Below w0.heap.size w0 w) (h : wire_reader_text.f s0_0 s0_1 = some (r1, r2, r3)) :
    Calls Try.prog 123 #[.pointer (some ⟨g, 0, none⟩)] w fun e w' => e = .returned (.string r1) ∧ IsS185 w0 w' g r2 r3 ∧ Below w0.heap.size w0 w' ∧ KeepBut w w' g none := by
  have HI0 := Aside0.mk hI
  have HK := Aside0.mk (KeepBut.refl w g none)
  have HL := Aside0.mk hB.size
  clear hI
  have HW0 := Aside0.mk hB.size
  have HB := Aside0.mk hB
  clear hB
  have H : ((wire_reader_number.f s0_0 s0_1).bind fun bt118 => ((wire_reader_cut.f bt118.2.1 bt118.2.2 bt118.1).bind fun bt121 => (some (bt121.1, bt121.2.1, bt121.2.2)))) = some (r1, r2, r3) := h
  clear h
  replace H := Option.bind_eq_some_iff.mp H
  obtain ⟨⟨t118, t119, t120⟩, A20, H⟩ := H
  replace H : ((wire_reader_cut.f t119 t120 t118).bind fun bt121 => (some (bt121.1, bt121.2.1, bt121.2.2))) = some (r1, r2, r3) := H
  have A2 := Aside0.mk A20
  clear A20
  replace H := Option.bind_eq_some_iff.mp H
  obtain ⟨⟨t121, t122, t123⟩, A30, H⟩ := H
  replace H : (some (t121, t122, t123)) = some (r1, r2, r3) := H
  have A3 := Aside0.mk A30
  clear A30
  simp only [Option.some.injEq, Prod.mk.injEq] at H
  obtain ⟨rfl, rfl, rfl⟩ := H
  go_enter Try.func123, Try.ntmps123
  go_wp2_with (first | ((with_reducible refine gate_callee (f := 122) rfl ?_); refine goesL_ (some 5) rfl rfl Try.func122 (by kernel_rfl) rfl #[.pointer (some ⟨g, 0, none⟩)] rfl (by (try simp only [List.map_toArray, List.map_cons, List.map_nil]); first | done | rfl | (simp only [List.length_drop, List.length_take]; rfl)) ?_; (with_reducible refine (wire_reader_number.calls g s0_0 s0_1 t118 t119 t120 w0 _ ?side1 ?side2 A2.out).mono ?_); (case side1 => repeat (first | (with_reducible first | exact HI0.out | apply IsS185.alloc | apply IsS185.drewN | apply IsS185.drew | apply IsS185.set_0 | apply IsS185.set_1) | exact HI0.out)); (case side2 => repeat (first | (with_reducible first | exact HB.out | apply below_alloc | apply pw_below_drewN | apply below_drew1 | refine below_set ?_ (IsS185.ge HI0.out)) | exact HB.out)); rintro e w4 ⟨rfl, hi, hb, hk⟩; refine ⟨_, rfl, ?_⟩; have n0_ := Aside0.mk (KeepBut.trans (by repeat (first | (with_reducible first | exact HK.out | apply KeepBut.set_ | apply keep_drewN | apply keep_drew | apply keep_alloc) | exact HK.out)) hk (.inl rfl)); have n1_ := Aside0.mk (hb); have n2_ := Aside0.mk (hi); clear HK; clear HB; clear HI0; have HK := n0_; have HB := n1_; have HI0 := n2_; clear n0_ n1_ n2_; (try clear hb); (try clear hb2); (try clear hk); (try clear hi)) | ((with_reducible refine gate_callee (f := 139) rfl ?_); refine goesL_ (some 6) rfl rfl Try.func139 (by kernel_rfl) rfl #[.pointer (some ⟨g, 0, none⟩), .int .i64 t118] rfl (by (try simp only [List.map_toArray, List.map_cons, List.map_nil]); first | done | rfl | (simp only [List.length_drop, List.length_take]; rfl)) ?_; (with_reducible refine (wire_reader_cut.calls g t119 t120 t118 t121 t122 t123 w0 _ ?side1 ?side2 A3.out).mono ?_); (case side1 => repeat (first | (with_reducible first | exact HI0.out | apply IsS185.alloc | apply IsS185.drewN | apply IsS185.drew | apply IsS185.set_0 | apply IsS185.set_1) | exact HI0.out)); (case side2 => repeat (first | (with_reducible first | exact HB.out | apply below_alloc | apply pw_below_drewN | apply below_drew1 | refine below_set ?_ (IsS185.ge HI0.out)) | exact HB.out)); rintro e w5 ⟨rfl, hi, hb, hk⟩; refine ⟨_, rfl, ?_⟩; have n0_ := Aside0.mk (KeepBut.trans (by repeat (first | (with_reducible first | exact HK.out | apply KeepBut.set_ | apply keep_drewN | apply keep_drew | apply keep_alloc) | exact HK.out)) hk (.inl rfl)); have n1_ := Aside0.mk (hb); have n2_ := Aside0.mk (hi); clear HK; clear HB; clear HI0; have HK := n0_; have HB := n1_; have HI0 := n2_; clear n0_ n1_ n2_; (try clear hb); (try clear hb2); (try clear hk); (try clear hi)))
  go_ret
  exact ⟨by first | rfl | (simp [errW_none, errW_some] <;> rfl) | (simp [*, errW_none, errW_some] <;> rfl), by repeat (first | (with_reducible first | exact HI0.out | apply IsS185.alloc | apply IsS185.drewN | apply IsS185.drew | apply IsS185.set_0 | apply IsS185.set_1) | exact HI0.out), by repeat (first | (with_reducible first | exact HB.out | apply below_alloc | apply pw_below_drewN | apply below_drew1 | refine below_set ?_ (IsS185.ge HI0.out)) | exact HB.out), by repeat (first | (with_reducible first | exact HK.out | apply KeepBut.set_ | apply keep_drewN | apply keep_drew | apply keep_alloc) | exact HK.out)⟩

/-! ### wire_reader_done: function 124 -/
def wire_reader_done.f (s0_0 : ByteArray) (s0_1 : Bool) : Option (Bool × ByteArray × Bool) := if s0_1 = true then (some (false, s0_0, s0_1)) else (some ((s0_0.toList == ([] : List UInt8)), s0_0, s0_1))
set_option maxHeartbeats 8000000 in
set_option maxRecDepth 100000 in
theorem wire_reader_done.calls (g : Nat) (s0_0 : ByteArray) (s0_1 : Bool) (r1 : Bool) (r2 : ByteArray) (r3 : Bool) (w0 w : World) (hI : IsS185 w0 w g s0_0 s0_1) (hB : Below w0.heap.size w0 w) (h : wire_reader_done.f s0_0 s0_1 = some (r1, r2, r3)) :
    Calls Try.prog 124 #[.pointer (some ⟨g, 0, none⟩)] w fun e w' => e = .returned (.bool r1) ∧ IsS185 w0 w' g r2 r3 ∧ Below w0.heap.size w0 w' ∧ KeepBut w w' g none := by
  have HI0 := Aside0.mk hI
  have HK := Aside0.mk (KeepBut.refl w g none)
  have HL := Aside0.mk hB.size
  clear hI
  have HW0 := Aside0.mk hB.size
  have HB := Aside0.mk hB
  clear hB
  have H : (if s0_1 = true then (some (false, s0_0, s0_1)) else (some ((s0_0.toList == ([] : List UInt8)), s0_0, s0_1))) = some (r1, r2, r3) := h
  clear h
  by_cases c2 : s0_1 = true
  · subst c2
    have H1 : (some (false, s0_0, true)) = some (r1, r2, r3) := by rw [if_pos rfl] at H; exact H
    clear H
    have H := H1
    clear H1
    simp only [Option.some.injEq, Prod.mk.injEq] at H
    obtain ⟨rfl, rfl, rfl⟩ := H
    obtain ⟨HGz3, hgz3⟩ := HI0.out
    have hcz3_0 := cellS185_0 HGz3
    have hcz3_1 := cellS185_1 HGz3
    have hfz3_0 := blk_frozen HGz3 0
    have hfz3_1 := blk_frozen HGz3 1
    clear HGz3 hgz3
    go_enter Try.func124, Try.ntmps124
    go_wp2
    go_ret
    exact ⟨by first | rfl | (simp [errW_none, errW_some] <;> rfl) | (simp [*, errW_none, errW_some] <;> rfl), by repeat (first | (with_reducible first | exact HI0.out | apply IsS185.alloc | apply IsS185.drewN | apply IsS185.drew | apply IsS185.set_0 | apply IsS185.set_1) | exact HI0.out), by repeat (first | (with_reducible first | exact HB.out | apply below_alloc | apply pw_below_drewN | apply below_drew1 | refine below_set ?_ (IsS185.ge HI0.out)) | exact HB.out), by repeat (first | (with_reducible first | exact HK.out | apply KeepBut.set_ | apply keep_drewN | apply keep_drew | apply keep_alloc) | exact HK.out)⟩
  · replace c2 := Bool.eq_false_iff.mpr c2
    subst c2
    have H1 : (some ((s0_0.toList == ([] : List UInt8)), s0_0, false)) = some (r1, r2, r3) := by rw [if_neg (show ¬ (false = true) by decide)] at H; exact H
    clear H
    have H := H1
    clear H1
    simp only [Option.some.injEq, Prod.mk.injEq] at H
    obtain ⟨rfl, rfl, rfl⟩ := H
    obtain ⟨HGz4, hgz4⟩ := HI0.out
    have hcz4_0 := cellS185_0 HGz4
    have hcz4_1 := cellS185_1 HGz4
    have hfz4_0 := blk_frozen HGz4 0
    have hfz4_1 := blk_frozen HGz4 1
    clear HGz4 hgz4
    go_enter Try.func124, Try.ntmps124
    go_wp2
    go_ret
    exact ⟨by first | rfl | (simp [errW_none, errW_some] <;> rfl) | (simp [*, errW_none, errW_some] <;> rfl), by repeat (first | (with_reducible first | exact HI0.out | apply IsS185.alloc | apply IsS185.drewN | apply IsS185.drew | apply IsS185.set_0 | apply IsS185.set_1) | exact HI0.out), by repeat (first | (with_reducible first | exact HB.out | apply below_alloc | apply pw_below_drewN | apply below_drew1 | refine below_set ?_ (IsS185.ge HI0.out)) | exact HB.out), by repeat (first | (with_reducible first | exact HK.out | apply KeepBut.set_ | apply keep_drewN | apply keep_drew | apply keep_alloc) | exact HK.out)⟩

/-! ### wire_ReadRequest: function 93 -/
def zeroRq : Array Value := #[.int .i64 0, .int .i64 0, .string (⟨#[]⟩ : ByteArray), .string (⟨#[]⟩ : ByteArray), .string (⟨#[]⟩ : ByteArray)]
def rowRq (c q : Int) (leaf key val : ByteArray) : Array Value := #[.int .i64 c, .int .i64 q, .string leaf, .string key, .string val]
theorem row_below {w W : World} {g : Nat} (h : Below w.heap.size w W) (hg : w.heap.size ≤ g) (cs : Array Value) : Below w.heap.size w (W.setRow g cs) :=
  h.trans ⟨rfl, rfl, rfl, by rw [size_setRow]; exact Nat.le_refl _, fun k hk => setRow_other W g k cs (by omega)⟩
theorem info_rq : (Try.prog.info? 72).map (·.size) = some 5 := by kernel_rfl
theorem row_info (c q : Int) (leaf key val : ByteArray) : (Try.prog.info? 72).map (·.size) = some (rowRq c q leaf key val).size := info_rq
theorem zero_info : (Try.prog.info? 72).map (·.size) = some zeroRq.size := info_rq
theorem row_one (c q : Int) (leaf key val : ByteArray) : (rowRq c q leaf key val).all (·.oneCell') = true := by simp [rowRq, Value.oneCell']
theorem zero_one : zeroRq.all (·.oneCell') = true := by simp [zeroRq, Value.oneCell']
def badRq : Value := .tuple #[.agg zeroRq, .int .i64 2]
def goodRq (c q : Int) (leaf key val : ByteArray) : Value := .tuple #[.agg (rowRq c q leaf key val), .int .i64 0]
set_option maxRecDepth 100000 in
set_option maxHeartbeats 4000000 in
theorem rr_walk (b s1 s2 s3 s4 s5 s6 s7 leaf key val : ByteArray) (b1 b2 b3 b4 b5 b6 b7 d right : Bool) (c q : Int) (w : World)
    (hm : wire_reader_mark.f b false ⟨#[82]⟩ = some (s1, b1)) (h2 : wire_reader_number.f s1 b1 = some (c, s2, b2)) (h3 : wire_reader_number.f s2 b2 = some (q, s3, b3))
    (h4 : wire_reader_text.f s3 b3 = some (leaf, s4, b4)) (h5 : wire_reader_text.f s4 b4 = some (key, s5, b5)) (h6 : wire_reader_text.f s5 b5 = some (val, s6, b6))
    (h7 : wire_reader_done.f s6 b6 = some (d, s7, b7)) (h8 : wire_Right.f c q leaf key val = some right) (T : Value) (hT : (if (d && right) = true then goodRq c q leaf key val else badRq) = T) :
    Calls Try.prog 93 #[.string b] w fun e w' => e = .returned T ∧ Below w.heap.size w w' := by
  have hu72 := Try.underlying72
  have H1 := Aside0.mk (fun (g : Nat) (W : World) hI hB => wire_reader_mark.calls g b false ⟨#[82]⟩ s1 b1 w W hI hB hm)
  have H2 := Aside0.mk (fun (g : Nat) (W : World) hI hB => wire_reader_number.calls g s1 b1 c s2 b2 w W hI hB h2)
  have H3 := Aside0.mk (fun (g : Nat) (W : World) hI hB => wire_reader_number.calls g s2 b2 q s3 b3 w W hI hB h3)
  have H4 := Aside0.mk (fun (g : Nat) (W : World) hI hB => wire_reader_text.calls g s3 b3 leaf s4 b4 w W hI hB h4)
  have H5 := Aside0.mk (fun (g : Nat) (W : World) hI hB => wire_reader_text.calls g s4 b4 key s5 b5 w W hI hB h5)
  have H6 := Aside0.mk (fun (g : Nat) (W : World) hI hB => wire_reader_text.calls g s5 b5 val s6 b6 w W hI hB h6)
  have H7 := Aside0.mk (fun (g : Nat) (W : World) hI hB => wire_reader_done.calls g s6 b6 d s7 b7 w W hI hB h7)
  have H8 := Aside0.mk (fun (W : World) => wire_Right.calls c q leaf key val right W h8)
  have HT := Aside0.mk hT
  clear hT hm h2 h3 h4 h5 h6 h7 h8
  cases d <;> cases right
  all_goals
    have HB := Aside0.mk (Below.refl w.heap.size w)
    go_enter Try.func93, Try.ntmps93
    go_wp2_with (first
      | ((with_reducible refine gate_dst (N := 2) rfl ?_); refine box_event ?hg (N := 2) ?hd (cs := zeroRq) (t := 72) ?hr ?_; (case hd => rfl); (case hg => rfl); (case hr => first | (go_simp; done) | (go_simp; rfl)); intro gA hgA w1 hbA hbb; have GA := Aside0.mk (show w.heap.size ≤ gA by rw [hgA]; exact Nat.le_refl _); have BA := Aside0.mk hbA; have n_ := Aside0.mk (below_step HB.out hbb); clear HB; have HB := n_; clear n_ hbA hbb hgA)
      | ((with_reducible refine gate_dst (N := 8) rfl ?_); refine box_event ?hg (N := 8) ?hd (cs := #[.string b, .bool false]) (t := 185) ?hr ?_; (case hd => rfl); (case hg => rfl); (case hr => first | (go_simp; done) | (go_simp; rfl)); intro gB hgB w2 hbB hbb; have GB := Aside0.mk (show w.heap.size ≤ gB by rw [hgB]; exact HB.out.size); have NAB := Aside0.mk (show gA ≠ gB by rw [hgB]; exact Nat.ne_of_lt (blk_lt BA.out)); have HI := Aside0.mk (show IsS185 w w2 gB b false from ⟨hbB, GB.out⟩); have n_ := Aside0.mk (below_step HB.out hbb); have n1_ := Aside0.mk (blk_below BA.out hbb); clear HB BA; have HB := n_; have BA := n1_; clear n_ n1_ hbB hbb hgB)
      | (go_at_call 121; (with_reducible refine (H1.out _ _ HI.out HB.out).mono ?_); rintro e w3 ⟨rfl, hi, hb, hk⟩; have n_ := Aside0.mk (hk.blk BA.out NAB.out (by simp)); clear HI HB BA; have HI := Aside0.mk hi; have HB := Aside0.mk hb; have BA := n_; clear n_ hi hb hk)
      | (go_at_call 122; (with_reducible refine (H2.out _ _ HI.out HB.out).mono ?_); rintro e w3 ⟨rfl, hi, hb, hk⟩; have n_ := Aside0.mk (hk.blk BA.out NAB.out (by simp)); clear HI HB BA; have HI := Aside0.mk hi; have HB := Aside0.mk hb; have BA := n_; clear n_ hi hb hk)
      | (go_at_call 122; (with_reducible refine (H3.out _ _ HI.out HB.out).mono ?_); rintro e w3 ⟨rfl, hi, hb, hk⟩; have n_ := Aside0.mk (hk.blk BA.out NAB.out (by simp)); clear HI HB BA; have HI := Aside0.mk hi; have HB := Aside0.mk hb; have BA := n_; clear n_ hi hb hk)
      | (go_at_call 123; (with_reducible refine (H4.out _ _ HI.out HB.out).mono ?_); rintro e w3 ⟨rfl, hi, hb, hk⟩; have n_ := Aside0.mk (hk.blk BA.out NAB.out (by simp)); clear HI HB BA; have HI := Aside0.mk hi; have HB := Aside0.mk hb; have BA := n_; clear n_ hi hb hk)
      | (go_at_call 123; (with_reducible refine (H5.out _ _ HI.out HB.out).mono ?_); rintro e w3 ⟨rfl, hi, hb, hk⟩; have n_ := Aside0.mk (hk.blk BA.out NAB.out (by simp)); clear HI HB BA; have HI := Aside0.mk hi; have HB := Aside0.mk hb; have BA := n_; clear n_ hi hb hk)
      | (go_at_call 123; (with_reducible refine (H6.out _ _ HI.out HB.out).mono ?_); rintro e w3 ⟨rfl, hi, hb, hk⟩; have n_ := Aside0.mk (hk.blk BA.out NAB.out (by simp)); clear HI HB BA; have HI := Aside0.mk hi; have HB := Aside0.mk hb; have BA := n_; clear n_ hi hb hk)
      | ((with_reducible refine gate_dst (N := 5) rfl ?_); refine box_event ?hg (N := 5) ?hd (cs := zeroRq) (t := 72) ?hr ?_; (case hd => rfl); (case hg => rfl); (case hr => first | (go_simp; done) | (go_simp; rfl)); intro gX hgX w4 hbX hbb; have GX := Aside0.mk (show w.heap.size ≤ gX by rw [hgX]; exact HB.out.size); have NAX := Aside0.mk (show gA ≠ gX by rw [hgX]; exact Nat.ne_of_lt (blk_lt BA.out)); have NBX := Aside0.mk (show gX ≠ gB by rw [hgX]; exact fun e => absurd (blk_lt HI.out.1) (by omega)); have BX := Aside0.mk hbX; have n_ := Aside0.mk (below_step HB.out hbb); have n1_ := Aside0.mk (blk_below BA.out hbb); have n2_ := Aside0.mk (HI.out.below hbb); clear HB BA HI; have HB := n_; have BA := n1_; have HI := n2_; clear n_ n1_ n2_ hbX hbb hgX)
      | ((with_reducible refine gate_store (t := 72) (p := 5) rfl ?_); refine wpList_store_row rfl 72 (.tmp 5) (.tmp 21) rfl gX (rowRq c q leaf key val) rfl rfl 72 _ BX.out (row_info _ _ _ _ _) rfl (row_one _ _ _ _ _) ?_; have n_ := Aside0.mk (setRow_heap _ gX _ (rowRq c q leaf key val) _ _ BX.out); have n1_ := Aside0.mk (row_below HB.out GX.out (rowRq c q leaf key val)); have n2_ := Aside0.mk ((setRow_other _ gX gA (rowRq c q leaf key val) NAX.out).trans BA.out); have n3_ := Aside0.mk (show IsS185 w _ gB s6 b6 from ⟨(setRow_other _ gX gB (rowRq c q leaf key val) (Ne.symm NBX.out)).trans HI.out.1, HI.out.2⟩); clear HB BA HI BX; have BX := n_; have HB := n1_; have BA := n2_; have HI := n3_; clear n_ n1_ n2_ n3_)
      | (go_at_call 124; (with_reducible refine (H7.out _ _ HI.out HB.out).mono ?_); rintro e w6 ⟨rfl, hi, hb, hk⟩; have n_ := Aside0.mk (hk.blk BA.out NAB.out (by simp)); have n1_ := Aside0.mk (hk.blk BX.out NBX.out (by simp)); clear HI HB BA BX; have HB := Aside0.mk hb; have BA := n_; have BX := n1_; clear n_ n1_ hi hb hk; have hx_0 := (blk_cell BX.out 0).trans (show (rowRq c q leaf key val : Array Value)[0]? = some (.int .i64 c) from rfl); have hx_1 := (blk_cell BX.out 1).trans (show (rowRq c q leaf key val : Array Value)[1]? = some (.int .i64 q) from rfl); have hx_2 := (blk_cell BX.out 2).trans (show (rowRq c q leaf key val : Array Value)[2]? = some (.string leaf) from rfl); have hx_3 := (blk_cell BX.out 3).trans (show (rowRq c q leaf key val : Array Value)[3]? = some (.string key) from rfl); have hx_4 := (blk_cell BX.out 4).trans (show (rowRq c q leaf key val : Array Value)[4]? = some (.string val) from rfl))
      | (go_at_call 88; (refine (H8.out _).mono ?_); rintro e w7 ⟨rfl, hb⟩; have n_ := Aside0.mk (blk_below BA.out hb); have n1_ := Aside0.mk (blk_below BX.out hb); have n2_ := Aside0.mk (below_step HB.out hb); clear HB BA BX; clear hx_0 hx_1 hx_2 hx_3 hx_4; have BA := n_; have BX := n1_; have HB := n2_; clear n_ n1_ n2_ hb; have hx_0 := (blk_cell BX.out 0).trans (show (rowRq c q leaf key val : Array Value)[0]? = some (.int .i64 c) from rfl); have hx_1 := (blk_cell BX.out 1).trans (show (rowRq c q leaf key val : Array Value)[1]? = some (.int .i64 q) from rfl); have hx_2 := (blk_cell BX.out 2).trans (show (rowRq c q leaf key val : Array Value)[2]? = some (.string leaf) from rfl); have hx_3 := (blk_cell BX.out 3).trans (show (rowRq c q leaf key val : Array Value)[3]? = some (.string key) from rfl); have hx_4 := (blk_cell BX.out 4).trans (show (rowRq c q leaf key val : Array Value)[4]? = some (.string val) from rfl))
      | ((with_reducible refine gate_store (t := 72) (p := 2) rfl ?_); refine wpList_store_row rfl 72 (.tmp 2) (.tmp 30) rfl gA zeroRq rfl rfl 72 _ BA.out zero_info rfl zero_one ?_; have BR := Aside0.mk (setRow_heap _ gA _ zeroRq _ _ BA.out); have n1_ := Aside0.mk (row_below HB.out GA.out zeroRq); clear HB; have HB := n1_; clear n1_)
      | ((with_reducible refine gate_store (t := 72) (p := 2) rfl ?_); refine wpList_store_row rfl 72 (.tmp 2) (.tmp 31) rfl gA (rowRq c q leaf key val) rfl rfl 72 _ BA.out (row_info _ _ _ _ _) rfl (row_one _ _ _ _ _) ?_; have BR := Aside0.mk (setRow_heap _ gA _ (rowRq c q leaf key val) _ _ BA.out); have n1_ := Aside0.mk (row_below HB.out GA.out (rowRq c q leaf key val)); clear HB; have HB := n1_; clear n1_))
    refine bodyPost_ret (results_ct (p := 2) (u := 3) (ty := 72) rfl _ _ gA 72 _ (0, 0) _ rfl BR.out Try.underlying72 rfl info_rq) rfl ⟨?_, HB.out⟩
    rw [← HT.out]; rfl
def wire_ReadRequest.f (b : ByteArray) : Option (Int × Int × ByteArray × ByteArray × ByteArray × Int) :=
  (wire_reader_mark.f b false ⟨#[82]⟩).bind fun m => (wire_reader_number.f m.1 m.2).bind fun n => (wire_reader_number.f n.2.1 n.2.2).bind fun o =>
  (wire_reader_text.f o.2.1 o.2.2).bind fun x => (wire_reader_text.f x.2.1 x.2.2).bind fun y => (wire_reader_text.f y.2.1 y.2.2).bind fun z =>
  (wire_reader_done.f z.2.1 z.2.2).bind fun d => (wire_Right.f n.1 o.1 x.1 y.1 z.1).bind fun r =>
  some (if (d.1 && r) = true then (n.1, o.1, x.1, y.1, z.1, 0) else (0, 0, (⟨#[]⟩ : ByteArray), (⟨#[]⟩ : ByteArray), (⟨#[]⟩ : ByteArray), 2))
set_option maxHeartbeats 8000000 in
set_option maxRecDepth 100000 in
theorem wire_ReadRequest.calls (a0 : ByteArray) (r1 : Int) (r2 : Int) (r3 : ByteArray) (r4 : ByteArray) (r5 : ByteArray) (r6 : Int) (w : World) (h : wire_ReadRequest.f a0 = some (r1, r2, r3, r4, r5, r6)) :
    Calls Try.prog 93 #[.string a0] w fun e w' => e = .returned (.tuple #[.agg #[.int .i64 r1, .int .i64 r2, .string r3, .string r4, .string r5], .int .i64 r6]) ∧ Below w.heap.size w w' := by
  have hu72 := Try.underlying72
  have hu185 := Try.underlying185
  unfold wire_ReadRequest.f at h
  obtain ⟨⟨s1, b1⟩, hm, h⟩ := Option.bind_eq_some_iff.mp h
  obtain ⟨⟨c, s2, b2⟩, h2, h⟩ := Option.bind_eq_some_iff.mp h
  obtain ⟨⟨q, s3, b3⟩, h3, h⟩ := Option.bind_eq_some_iff.mp h
  obtain ⟨⟨leaf, s4, b4⟩, h4, h⟩ := Option.bind_eq_some_iff.mp h
  obtain ⟨⟨key, s5, b5⟩, h5, h⟩ := Option.bind_eq_some_iff.mp h
  obtain ⟨⟨val, s6, b6⟩, h6, h⟩ := Option.bind_eq_some_iff.mp h
  obtain ⟨⟨d, s7, b7⟩, h7, h⟩ := Option.bind_eq_some_iff.mp h
  obtain ⟨right, h8, h⟩ := Option.bind_eq_some_iff.mp h
  refine (rr_walk a0 s1 s2 s3 s4 s5 s6 s7 leaf key val b1 b2 b3 b4 b5 b6 b7 d right c q w hm h2 h3 h4 h5 h6 h7 h8 _ rfl).mono ?_
  rintro e w' ⟨rfl, hb⟩
  refine ⟨congrArg Ending.returned ?_, hb⟩
  have h9 := Option.some.inj h
  by_cases hd : (d && right) = true
  · rw [if_pos hd] at h9 ⊢
    simp only [Prod.mk.injEq] at h9
    obtain ⟨rfl, rfl, rfl, rfl, rfl, rfl⟩ := h9
    rfl
  · rw [if_neg hd] at h9 ⊢
    simp only [Prod.mk.injEq] at h9
    obtain ⟨rfl, rfl, rfl, rfl, rfl, rfl⟩ := h9
    rfl

/-! ### replica_Command: function 53 -/
def replica_Command.j0 : Nat → ByteArray → Bool → Option (Int × Int × ByteArray × ByteArray × ByteArray × Int × Bool)
  | 0, _, _ => none
  | k + 1, x0, x15 => if x15 = true then (if 1 ≤ (x0.size : Int) then ((replica_number.f (x0.extract 1 x0.size)).bind fun t125 => (some (0, 0, (⟨#[]⟩ : ByteArray), (⟨#[]⟩ : ByteArray), (⟨#[]⟩ : ByteArray), t125, decide (t125 ≥ 0)))) else (none)) else ((wire_ReadRequest.f x0).bind fun bt126 => (some (bt126.1, bt126.2.1, bt126.2.2.1, bt126.2.2.2.1, bt126.2.2.2.2.1, (-1), (bt126.2.2.2.2.2 == 0))))
def replica_Command.f (k : Nat) (a0 : ByteArray) : Option (Int × Int × ByteArray × ByteArray × ByteArray × Int × Bool) := if (a0.size : Int) > 0 then (if 0 ≤ 1 then (if 1 ≤ (a0.size : Int) then (replica_Command.j0 k a0 ((a0.extract 0 1).toList == ([67] : List UInt8))) else (none)) else (none)) else (replica_Command.j0 k a0 false)
theorem replica_Command.mono_l : ∀ k, (∀ y0 y1, LeO (replica_Command.j0 k y0 y1) (replica_Command.j0 (k + 1) y0 y1))
  | 0 => fun _ _ r h => by simp [replica_Command.j0] at h
  | k + 1 => by
    have ih0 := replica_Command.mono_l k
    · intro y0 y1
      unfold replica_Command.j0
      repeat' first
      | (with_reducible exact ih0 _ _)
      | (with_reducible exact LeO.refl _)
      | (with_reducible exact LeO.none _)
      | (with_reducible refine LeO.ite ?_ ?_)
      | (with_reducible refine LeO.bind ?_ (fun _ => ?_))
      | exact ih0 _ _
      | exact LeO.none _
      | refine LeO.ite ?_ ?_
      | refine LeO.bind ?_ (fun _ => ?_)
theorem replica_Command.mono : ∀ a0 k, LeO (replica_Command.f k a0) (replica_Command.f (k + 1) a0) := by
  intro a0 k
  have ih0 := replica_Command.mono_l k
  unfold replica_Command.f
  repeat' first
      | (with_reducible exact ih0 _ _)
      | (with_reducible exact LeO.refl _)
      | (with_reducible exact LeO.none _)
      | (with_reducible refine LeO.ite ?_ ?_)
      | (with_reducible refine LeO.bind ?_ (fun _ => ?_))
      | exact ih0 _ _
      | exact LeO.none _
      | refine LeO.ite ?_ ?_
      | refine LeO.bind ?_ (fun _ => ?_)
set_option maxHeartbeats 8000000 in
set_option maxRecDepth 100000 in
theorem replica_Command.calls (k : Nat) (a0 : ByteArray) (r1 : Int) (r2 : Int) (r3 : ByteArray) (r4 : ByteArray) (r5 : ByteArray) (r6 : Int) (r7 : Bool) (w : World) (h : replica_Command.f k a0 = some (r1, r2, r3, r4, r5, r6, r7)) :
    Calls Try.prog 53 #[.string a0] w fun e w' => e = .returned (.tuple #[.agg #[.int .i64 r1, .int .i64 r2, .string r3, .string r4, .string r5], .int .i64 r6, .bool r7]) ∧ Below w.heap.size w w' := by
  have hu72 := Try.underlying72
  have HB := Aside0.mk (Below.refl w.heap.size w)
  have H : (if (a0.size : Int) > 0 then (if 0 ≤ 1 then (if 1 ≤ (a0.size : Int) then (replica_Command.j0 k a0 ((a0.extract 0 1).toList == ([67] : List UInt8))) else (none)) else (none)) else (replica_Command.j0 k a0 false)) = some (r1, r2, r3, r4, r5, r6, r7) := h
  clear h
  have HC2 := Aside0.mk H
  clear H
  go_enter Try.func53, Try.ntmps53
  go_upto_region 1 with (first | ((with_reducible refine gate_dst (N := 2) rfl ?_); refine box_event ?hg (N := 2) ?hd (cs := #[.int .i64 0, .int .i64 0, .string (⟨#[]⟩ : ByteArray), .string (⟨#[]⟩ : ByteArray), .string (⟨#[]⟩ : ByteArray)]) (t := 72) ?hr ?_; (case hd => rfl); (case hg => rfl); (case hr => first | (go_simp; done) | (go_simp; rfl)); intro gb124 hg w3 hbox hb; have n0_ := Aside0.mk (below_step (by repeat (first | (with_reducible first | exact HB.out | apply below_alloc | apply pw_below_drewN | apply below_drew1) | exact HB.out)) hb); have n1_ := Aside0.mk (hbox); have n2_ := Aside0.mk ((by rw [hg]; exact (below_size (by repeat (first | (with_reducible first | exact HB.out | apply below_alloc | apply pw_below_drewN | apply below_drew1) | exact HB.out))) : w.heap.size ≤ gb124)); have n3_ := Aside0.mk ((by rw [hg]; exact (below_size (by repeat (first | (with_reducible first | exact HB.out | apply below_alloc | apply pw_below_drewN | apply below_drew1) | exact HB.out))) : w.heap.size ≤ gb124)); clear HB; have HB := n0_; have BK124 := n1_; have GW124 := n2_; have GE124 := n3_; clear n0_ n1_ n2_ n3_; clear hb hbox hg))
  (try simp only [Act.put, List.setIfInBounds_toArray, List.set_cons_zero, List.set_cons_succ])
  go_cut [15] (fun v15 wc => ∃ (kq : Nat) (x15_1 : Bool), v15 = .bool x15_1 ∧ Aside0 (replica_Command.j0 kq a0 x15_1 = some (r1, r2, r3, r4, r5, r6, r7)) ∧ Aside0 (kq ≤ k) ∧ Aside0 (wc.heap[gb124]? = some (.cells #[.int .i64 0, .int .i64 0, .string (⟨#[]⟩ : ByteArray), .string (⟨#[]⟩ : ByteArray), .string (⟨#[]⟩ : ByteArray)] 72 (0, 0))) ∧ Aside0 (Below w.heap.size w wc))
  case first =>
    have H := HC2.out
    clear HC2
    by_cases c4 : (a0.size : Int) > 0
    · rw [if_pos c4] at H
      have c4b0 : decide (0 < (a0.size : Int)) = true := decide_eq_true c4
      have c4b1 : decide (0 < a0.size) = true := decide_eq_true (by omega)
      clear c4
      (first | rw [c4b0] | (simp only [i64_w, i32_w]; rw [c4b0]) | skip)
      by_cases c5 : 0 ≤ 1
      · rw [if_pos c5] at H
        have c5b0 := eq_true c5
        have c5b1 : decide (0 ≤ 1) = true := decide_eq_true c5
        clear c5
        by_cases c6 : 1 ≤ (a0.size : Int)
        · rw [if_pos c6] at H
          have c6b0 := eq_true c6
          have c6b1 : decide (1 ≤ (a0.size : Int)) = true := decide_eq_true c6
          clear c6
          have H' := Aside0.mk H
          clear H
          go_wp2
          go_meet
          case rel => exact ⟨_, (((a0.extract 0 1).toList == ([67] : List UInt8))), (by first | rfl | (simp; done) | (simp [*]; done)), H', ⟨by first | omega | exact Nat.le_refl _⟩, ⟨by (with_reducible repeat (first | refine blk_drewN ?_ _ | refine blk_drew ?_ | refine blk_alloc ?_ _)); exact BK124.out⟩, ⟨by repeat (first | (with_reducible first | exact HB.out | apply below_alloc | apply pw_below_drewN | apply below_drew1 | refine below_set ?_ GE124.out) | exact HB.out)⟩⟩
        · rw [if_neg c6] at H
          exact absurd H (by simp)
      · rw [if_neg c5] at H
        exact absurd H (by simp)
    · rw [if_neg c4] at H
      have c4b0 : decide (0 < (a0.size : Int)) = false := decide_eq_false c4
      have c4b1 : decide (0 < a0.size) = false := decide_eq_false (by omega)
      clear c4
      (first | rw [c4b0] | (simp only [i64_w, i32_w]; rw [c4b0]) | skip)
      have H' := Aside0.mk H
      clear H
      go_wp2
      go_meet
      case rel => exact ⟨_, (false), (by first | rfl | (simp; done) | (simp [*]; done)), H', ⟨by first | omega | exact Nat.le_refl _⟩, ⟨by (with_reducible repeat (first | refine blk_drewN ?_ _ | refine blk_drew ?_ | refine blk_alloc ?_ _)); exact BK124.out⟩, ⟨by repeat (first | (with_reducible first | exact HB.out | apply below_alloc | apply pw_below_drewN | apply below_drew1 | refine below_set ?_ GE124.out) | exact HB.out)⟩⟩
  case rest =>
    clear HC2
    try clear p2
    try clear c4
    try clear c4b0
    try clear c4b1
    try clear c5
    try clear c5b0
    try clear c5b1
    try clear c6
    try clear c6b0
    try clear c6b1
    obtain ⟨kq, x15_1, rfl, HA, HJ1, BK124, HB⟩ := hcut
    cases kq with
    | zero => exact absurd HA.out (by simp [replica_Command.j0])
    | succ kj1 =>
      have H := HA.out
      clear HA
      simp only [replica_Command.j0] at H
      by_cases c7 : x15_1 = true
      · subst c7
        have H1 : (if 1 ≤ (a0.size : Int) then ((replica_number.f (a0.extract 1 a0.size)).bind fun t125 => (some (0, 0, (⟨#[]⟩ : ByteArray), (⟨#[]⟩ : ByteArray), (⟨#[]⟩ : ByteArray), t125, decide (t125 ≥ 0)))) else (none)) = some (r1, r2, r3, r4, r5, r6, r7) := by rw [if_pos rfl] at H; exact H
        clear H
        have H := H1
        clear H1
        by_cases c8 : 1 ≤ (a0.size : Int)
        · rw [if_pos c8] at H
          have c8b0 := eq_true c8
          have c8b1 : decide (1 ≤ (a0.size : Int)) = true := decide_eq_true c8
          clear c8
          replace H := Option.bind_eq_some_iff.mp H
          obtain ⟨t125, A90, H⟩ := H
          replace H : (some (0, 0, (⟨#[]⟩ : ByteArray), (⟨#[]⟩ : ByteArray), (⟨#[]⟩ : ByteArray), t125, decide (t125 ≥ 0))) = some (r1, r2, r3, r4, r5, r6, r7) := H
          have A9 := Aside0.mk A90
          clear A90
          simp only [Option.some.injEq, Prod.mk.injEq] at H
          obtain ⟨rfl, rfl, rfl, rfl, rfl, rfl, rfl⟩ := H
          go_wp2_with (first | ((with_reducible refine gate_callee (f := 92) rfl ?_); refine goesL_ (some 18) rfl rfl Try.func92 (by kernel_rfl) rfl #[.string (a0.extract 1 a0.size)] rfl (by (try simp only [List.map_toArray, List.map_cons, List.map_nil]); first | done | rfl | (simp only [List.length_drop, List.length_take]; rfl)) ?_; (with_reducible refine (replica_number.calls (a0.extract 1 a0.size) t125 _ A9.out).mono ?_); rintro e w10 ⟨rfl, hb⟩; refine ⟨_, rfl, ?_⟩; have n0_ := Aside0.mk (blk_below (g := gb124) (o := .cells #[.int .i64 0, .int .i64 0, .string (⟨#[]⟩ : ByteArray), .string (⟨#[]⟩ : ByteArray), .string (⟨#[]⟩ : ByteArray)] 72 (0, 0)) (by (with_reducible repeat (first | refine blk_drewN ?_ _ | refine blk_drew ?_ | refine blk_alloc ?_ _)); exact BK124.out) hb); have n1_ := Aside0.mk (below_step (by repeat (first | (with_reducible first | exact HB.out | apply below_alloc | apply pw_below_drewN | apply below_drew1 | refine below_set ?_ GE124.out) | exact HB.out)) hb); clear BK124; clear HB; have BK124 := n0_; have HB := n1_; clear n0_ n1_; (try clear hb); (try clear hb2); (try clear hk); (try clear hi); have hcz11_0 : w10.cell? ⟨gb124, 0, none⟩ = some (.int .i64 0) := (blk_cell BK124.out 0).trans rfl; have hcz11_1 : w10.cell? ⟨gb124, 1, none⟩ = some (.int .i64 0) := (blk_cell BK124.out 1).trans rfl; have hcz11_2 : w10.cell? ⟨gb124, 2, none⟩ = some (.string (⟨#[]⟩ : ByteArray)) := (blk_cell BK124.out 2).trans rfl; have hcz11_3 : w10.cell? ⟨gb124, 3, none⟩ = some (.string (⟨#[]⟩ : ByteArray)) := (blk_cell BK124.out 3).trans rfl; have hcz11_4 : w10.cell? ⟨gb124, 4, none⟩ = some (.string (⟨#[]⟩ : ByteArray)) := (blk_cell BK124.out 4).trans rfl; have hfz11_0 := blk_frozen BK124.out 0; have hfz11_1 := blk_frozen BK124.out 1; have hfz11_2 := blk_frozen BK124.out 2; have hfz11_3 := blk_frozen BK124.out 3; have hfz11_4 := blk_frozen BK124.out 4))
          refine bodyPost_ret (results_ctt rfl _ _ gb124 72 #[.int .i64 0, .int .i64 0, .string (⟨#[]⟩ : ByteArray), .string (⟨#[]⟩ : ByteArray), .string (⟨#[]⟩ : ByteArray)] (0, 0) _ rfl (by (with_reducible repeat (first | refine blk_drewN ?_ _ | refine blk_drew ?_ | refine blk_alloc ?_ _)); refine blk_put (cs := #[.int .i64 0, .int .i64 0, .string (⟨#[]⟩ : ByteArray), .string (⟨#[]⟩ : ByteArray), .string (⟨#[]⟩ : ByteArray)]) ?_ 4 _ rfl; (with_reducible repeat (first | refine blk_drewN ?_ _ | refine blk_drew ?_ | refine blk_alloc ?_ _)); refine blk_put (cs := #[.int .i64 0, .int .i64 0, .string (⟨#[]⟩ : ByteArray), .string (⟨#[]⟩ : ByteArray), .string (⟨#[]⟩ : ByteArray)]) ?_ 3 _ rfl; (with_reducible repeat (first | refine blk_drewN ?_ _ | refine blk_drew ?_ | refine blk_alloc ?_ _)); refine blk_put (cs := #[.int .i64 0, .int .i64 0, .string (⟨#[]⟩ : ByteArray), .string (⟨#[]⟩ : ByteArray), .string (⟨#[]⟩ : ByteArray)]) ?_ 2 _ rfl; (with_reducible repeat (first | refine blk_drewN ?_ _ | refine blk_drew ?_ | refine blk_alloc ?_ _)); refine blk_put (cs := #[.int .i64 0, .int .i64 0, .string (⟨#[]⟩ : ByteArray), .string (⟨#[]⟩ : ByteArray), .string (⟨#[]⟩ : ByteArray)]) ?_ 1 _ rfl; (with_reducible repeat (first | refine blk_drewN ?_ _ | refine blk_drew ?_ | refine blk_alloc ?_ _)); refine blk_put (cs := #[.int .i64 0, .int .i64 0, .string (⟨#[]⟩ : ByteArray), .string (⟨#[]⟩ : ByteArray), .string (⟨#[]⟩ : ByteArray)]) ?_ 0 _ rfl; (with_reducible repeat (first | refine blk_drewN ?_ _ | refine blk_drew ?_ | refine blk_alloc ?_ _)); exact BK124.out) Try.underlying72 rfl (by kernel_rfl)) rfl ?_
          exact ⟨by first | rfl | (simp [errW_none, errW_some] <;> rfl) | (simp [*, errW_none, errW_some] <;> rfl), by repeat (first | (with_reducible first | exact HB.out | apply below_alloc | apply pw_below_drewN | apply below_drew1 | refine below_set ?_ GE124.out) | exact HB.out)⟩
        · rw [if_neg c8] at H
          exact absurd H (by simp)
      · replace c7 := Bool.eq_false_iff.mpr c7
        subst c7
        have H1 : ((wire_ReadRequest.f a0).bind fun bt126 => (some (bt126.1, bt126.2.1, bt126.2.2.1, bt126.2.2.2.1, bt126.2.2.2.2.1, (-1), (bt126.2.2.2.2.2 == 0)))) = some (r1, r2, r3, r4, r5, r6, r7) := by rw [if_neg (show ¬ (false = true) by decide)] at H; exact H
        clear H
        have H := H1
        clear H1
        replace H := Option.bind_eq_some_iff.mp H
        obtain ⟨⟨t126, t127, t128, t129, t130, t131⟩, A120, H⟩ := H
        replace H : (some (t126, t127, t128, t129, t130, (-1), (t131 == 0))) = some (r1, r2, r3, r4, r5, r6, r7) := H
        have A12 := Aside0.mk A120
        clear A120
        simp only [Option.some.injEq, Prod.mk.injEq] at H
        obtain ⟨rfl, rfl, rfl, rfl, rfl, rfl, rfl⟩ := H
        go_wp2_with (first | ((with_reducible refine gate_callee (f := 93) rfl ?_); refine goesL_ (some 25) rfl rfl Try.func93 (by kernel_rfl) rfl #[.string a0] rfl (by (try simp only [List.map_toArray, List.map_cons, List.map_nil]); first | done | rfl | (simp only [List.length_drop, List.length_take]; rfl)) ?_; (with_reducible refine (wire_ReadRequest.calls a0 t126 t127 t128 t129 t130 t131 _ A12.out).mono ?_); rintro e w13 ⟨rfl, hb⟩; refine ⟨_, rfl, ?_⟩; have n0_ := Aside0.mk (blk_below (g := gb124) (o := .cells #[.int .i64 0, .int .i64 0, .string (⟨#[]⟩ : ByteArray), .string (⟨#[]⟩ : ByteArray), .string (⟨#[]⟩ : ByteArray)] 72 (0, 0)) (by (with_reducible repeat (first | refine blk_drewN ?_ _ | refine blk_drew ?_ | refine blk_alloc ?_ _)); exact BK124.out) hb); have n1_ := Aside0.mk (below_step (by repeat (first | (with_reducible first | exact HB.out | apply below_alloc | apply pw_below_drewN | apply below_drew1 | refine below_set ?_ GE124.out) | exact HB.out)) hb); clear BK124; clear HB; have BK124 := n0_; have HB := n1_; clear n0_ n1_; (try clear hb); (try clear hb2); (try clear hk); (try clear hi)) | ((with_reducible refine gate_dst (N := 6) rfl ?_); refine box_event ?hg (N := 6) ?hd (cs := #[.int .i64 0, .int .i64 0, .string (⟨#[]⟩ : ByteArray), .string (⟨#[]⟩ : ByteArray), .string (⟨#[]⟩ : ByteArray)]) (t := 72) ?hr ?_; (case hd => rfl); (case hg => rfl); (case hr => first | (go_simp; done) | (go_simp; rfl)); intro gb132 hg w14 hbox hb; have n0_ := Aside0.mk (blk_below (g := gb124) (o := .cells #[.int .i64 0, .int .i64 0, .string (⟨#[]⟩ : ByteArray), .string (⟨#[]⟩ : ByteArray), .string (⟨#[]⟩ : ByteArray)] 72 (0, 0)) (by (with_reducible repeat (first | refine blk_drewN ?_ _ | refine blk_drew ?_ | refine blk_alloc ?_ _)); exact BK124.out) hb); have n1_ := Aside0.mk (below_step (by repeat (first | (with_reducible first | exact HB.out | apply below_alloc | apply pw_below_drewN | apply below_drew1 | refine below_set ?_ GE124.out) | exact HB.out)) hb); have n2_ := Aside0.mk (hbox); have n3_ := Aside0.mk ((by rw [hg]; exact (below_size (by repeat (first | (with_reducible first | exact HB.out | apply below_alloc | apply pw_below_drewN | apply below_drew1 | refine below_set ?_ GE124.out) | exact HB.out))) : w.heap.size ≤ gb132)); have n4_ := Aside0.mk ((by rw [hg]; exact (below_size (by repeat (first | (with_reducible first | exact HB.out | apply below_alloc | apply pw_below_drewN | apply below_drew1 | refine below_set ?_ GE124.out) | exact HB.out))) : w.heap.size ≤ gb132)); have n5_ := Aside0.mk ((by rw [hg]; exact Nat.ne_of_lt (blk_lt (g := gb124) (o := .cells #[.int .i64 0, .int .i64 0, .string (⟨#[]⟩ : ByteArray), .string (⟨#[]⟩ : ByteArray), .string (⟨#[]⟩ : ByteArray)] 72 (0, 0)) (by (with_reducible repeat (first | refine blk_drewN ?_ _ | refine blk_drew ?_ | refine blk_alloc ?_ _)); exact BK124.out)) : gb124 ≠ gb132)); have n6_ := Aside0.mk ((by rw [hg]; exact Nat.ne_of_gt (blk_lt (g := gb124) (o := .cells #[.int .i64 0, .int .i64 0, .string (⟨#[]⟩ : ByteArray), .string (⟨#[]⟩ : ByteArray), .string (⟨#[]⟩ : ByteArray)] 72 (0, 0)) (by (with_reducible repeat (first | refine blk_drewN ?_ _ | refine blk_drew ?_ | refine blk_alloc ?_ _)); exact BK124.out)) : gb132 ≠ gb124)); clear BK124; clear HB; have BK124 := n0_; have HB := n1_; have BK132 := n2_; have GW132 := n3_; have GE132 := n4_; have NB124_132 := n5_; have NB132_124 := n6_; clear n0_ n1_ n2_ n3_ n4_ n5_ n6_; clear hb hbox hg; have hnb15 := NB132_124.out; have hnc15 := NB124_132.out; have hcz16_0 : w14.cell? ⟨gb132, 0, none⟩ = some (.int .i64 0) := (blk_cell BK132.out 0).trans rfl; have hcz16_1 : w14.cell? ⟨gb132, 1, none⟩ = some (.int .i64 0) := (blk_cell BK132.out 1).trans rfl; have hcz16_2 : w14.cell? ⟨gb132, 2, none⟩ = some (.string (⟨#[]⟩ : ByteArray)) := (blk_cell BK132.out 2).trans rfl; have hcz16_3 : w14.cell? ⟨gb132, 3, none⟩ = some (.string (⟨#[]⟩ : ByteArray)) := (blk_cell BK132.out 3).trans rfl; have hcz16_4 : w14.cell? ⟨gb132, 4, none⟩ = some (.string (⟨#[]⟩ : ByteArray)) := (blk_cell BK132.out 4).trans rfl; have hfz16_0 := blk_frozen BK132.out 0; have hfz16_1 := blk_frozen BK132.out 1; have hfz16_2 := blk_frozen BK132.out 2; have hfz16_3 := blk_frozen BK132.out 3; have hfz16_4 := blk_frozen BK132.out 4; have hcz17_0 : w14.cell? ⟨gb124, 0, none⟩ = some (.int .i64 0) := (blk_cell BK124.out 0).trans rfl; have hcz17_1 : w14.cell? ⟨gb124, 1, none⟩ = some (.int .i64 0) := (blk_cell BK124.out 1).trans rfl; have hcz17_2 : w14.cell? ⟨gb124, 2, none⟩ = some (.string (⟨#[]⟩ : ByteArray)) := (blk_cell BK124.out 2).trans rfl; have hcz17_3 : w14.cell? ⟨gb124, 3, none⟩ = some (.string (⟨#[]⟩ : ByteArray)) := (blk_cell BK124.out 3).trans rfl; have hcz17_4 : w14.cell? ⟨gb124, 4, none⟩ = some (.string (⟨#[]⟩ : ByteArray)) := (blk_cell BK124.out 4).trans rfl; have hfz17_0 := blk_frozen BK124.out 0; have hfz17_1 := blk_frozen BK124.out 1; have hfz17_2 := blk_frozen BK124.out 2; have hfz17_3 := blk_frozen BK124.out 3; have hfz17_4 := blk_frozen BK124.out 4))
        refine bodyPost_ret (results_ctt rfl _ _ gb124 72 #[.int .i64 t126, .int .i64 t127, .string t128, .string t129, .string t130] (0, 0) _ rfl (by (with_reducible repeat (first | refine blk_drewN ?_ _ | refine blk_drew ?_ | refine blk_alloc ?_ _)); refine blk_put (cs := #[.int .i64 t126, .int .i64 t127, .string t128, .string t129, .string (⟨#[]⟩ : ByteArray)]) ?_ 4 _ rfl; (with_reducible repeat (first | refine blk_drewN ?_ _ | refine blk_drew ?_ | refine blk_alloc ?_ _)); refine blk_put (cs := #[.int .i64 t126, .int .i64 t127, .string t128, .string (⟨#[]⟩ : ByteArray), .string (⟨#[]⟩ : ByteArray)]) ?_ 3 _ rfl; (with_reducible repeat (first | refine blk_drewN ?_ _ | refine blk_drew ?_ | refine blk_alloc ?_ _)); refine blk_put (cs := #[.int .i64 t126, .int .i64 t127, .string (⟨#[]⟩ : ByteArray), .string (⟨#[]⟩ : ByteArray), .string (⟨#[]⟩ : ByteArray)]) ?_ 2 _ rfl; (with_reducible repeat (first | refine blk_drewN ?_ _ | refine blk_drew ?_ | refine blk_alloc ?_ _)); refine blk_put (cs := #[.int .i64 t126, .int .i64 0, .string (⟨#[]⟩ : ByteArray), .string (⟨#[]⟩ : ByteArray), .string (⟨#[]⟩ : ByteArray)]) ?_ 1 _ rfl; (with_reducible repeat (first | refine blk_drewN ?_ _ | refine blk_drew ?_ | refine blk_alloc ?_ _)); refine blk_put (cs := #[.int .i64 0, .int .i64 0, .string (⟨#[]⟩ : ByteArray), .string (⟨#[]⟩ : ByteArray), .string (⟨#[]⟩ : ByteArray)]) ?_ 0 _ rfl; (with_reducible repeat (first | refine blk_drewN ?_ _ | refine blk_drew ?_ | refine blk_alloc ?_ _)); refine blk_far ?_ NB124_132.out _; (with_reducible repeat (first | refine blk_drewN ?_ _ | refine blk_drew ?_ | refine blk_alloc ?_ _)); refine blk_far ?_ NB124_132.out _; (with_reducible repeat (first | refine blk_drewN ?_ _ | refine blk_drew ?_ | refine blk_alloc ?_ _)); refine blk_far ?_ NB124_132.out _; (with_reducible repeat (first | refine blk_drewN ?_ _ | refine blk_drew ?_ | refine blk_alloc ?_ _)); refine blk_far ?_ NB124_132.out _; (with_reducible repeat (first | refine blk_drewN ?_ _ | refine blk_drew ?_ | refine blk_alloc ?_ _)); refine blk_far ?_ NB124_132.out _; (with_reducible repeat (first | refine blk_drewN ?_ _ | refine blk_drew ?_ | refine blk_alloc ?_ _)); exact BK124.out) Try.underlying72 rfl (by kernel_rfl)) rfl ?_
        exact ⟨by first | rfl | (simp [errW_none, errW_some] <;> rfl) | (simp [*, errW_none, errW_some] <;> rfl), by repeat (first | (with_reducible first | exact HB.out | apply below_alloc | apply pw_below_drewN | apply below_drew1 | refine below_set ?_ GE124.out | refine below_set ?_ GE132.out) | exact HB.out)⟩

/-! ### annalistref20_Time: function 54 -/
mutual
def annalistref20_Time.j0 : Nat → ByteArray → Bool → Option (Int)
  | 0, _, _ => none
  | k + 1, x0, x12 => if x12 = true then (some (-1)) else (annalistref20_Time.l0 k x0 0 1)
def annalistref20_Time.l0 : Nat → ByteArray → Int → Int → Option (Int)
  | 0, _, _, _ => none
  | k + 1, x0, x3, x4 => if x4 < 5 then (if 0 ≤ x4 then (if x4 < (x0.size : Int) then (annalistref20_Time.l0 k x0 (wrap64 ((wrap64 (x3 * 256)) + (wrap64 (bt x0 x4)))) (wrap64 (x4 + 1))) else (none)) else (none)) else (if x3 > 2147483647 then (some (-1)) else (some x3))
end
def annalistref20_Time.f (k : Nat) (a0 : ByteArray) : Option (Int) := if (a0.size : Int) = 5 then (if 0 < (a0.size : Int) then (annalistref20_Time.j0 k a0 ((bt a0 0) != 67)) else (none)) else (annalistref20_Time.j0 k a0 true)
theorem annalistref20_Time.mono_l : ∀ k, (∀ y0 y1, LeO (annalistref20_Time.j0 k y0 y1) (annalistref20_Time.j0 (k + 1) y0 y1)) ∧ (∀ y0 y1 y2, LeO (annalistref20_Time.l0 k y0 y1 y2) (annalistref20_Time.l0 (k + 1) y0 y1 y2))
  | 0 => ⟨fun _ _ r h => by simp [annalistref20_Time.j0] at h, fun _ _ _ r h => by simp [annalistref20_Time.l0] at h⟩
  | k + 1 => by
    obtain ⟨ih0, ih1⟩ := annalistref20_Time.mono_l k
    refine ⟨?_, ?_⟩
    · intro y0 y1
      unfold annalistref20_Time.j0
      repeat' first
      | (with_reducible exact ih0 _ _)
      | (with_reducible exact ih1 _ _ _)
      | (with_reducible exact LeO.refl _)
      | (with_reducible exact LeO.none _)
      | (with_reducible refine LeO.ite ?_ ?_)
      | (with_reducible refine LeO.bind ?_ (fun _ => ?_))
      | exact ih0 _ _
      | exact ih1 _ _ _
      | exact LeO.none _
      | refine LeO.ite ?_ ?_
      | refine LeO.bind ?_ (fun _ => ?_)
    · intro y0 y1 y2
      unfold annalistref20_Time.l0
      repeat' first
      | (with_reducible exact ih0 _ _)
      | (with_reducible exact ih1 _ _ _)
      | (with_reducible exact LeO.refl _)
      | (with_reducible exact LeO.none _)
      | (with_reducible refine LeO.ite ?_ ?_)
      | (with_reducible refine LeO.bind ?_ (fun _ => ?_))
      | exact ih0 _ _
      | exact ih1 _ _ _
      | exact LeO.none _
      | refine LeO.ite ?_ ?_
      | refine LeO.bind ?_ (fun _ => ?_)
theorem annalistref20_Time.mono : ∀ a0 k, LeO (annalistref20_Time.f k a0) (annalistref20_Time.f (k + 1) a0) := by
  intro a0 k
  obtain ⟨ih0, ih1⟩ := annalistref20_Time.mono_l k
  unfold annalistref20_Time.f
  repeat' first
      | (with_reducible exact ih0 _ _)
      | (with_reducible exact ih1 _ _ _)
      | (with_reducible exact LeO.refl _)
      | (with_reducible exact LeO.none _)
      | (with_reducible refine LeO.ite ?_ ?_)
      | (with_reducible refine LeO.bind ?_ (fun _ => ?_))
      | exact ih0 _ _
      | exact ih1 _ _ _
      | exact LeO.none _
      | refine LeO.ite ?_ ?_
      | refine LeO.bind ?_ (fun _ => ?_)
set_option maxHeartbeats 8000000 in
set_option maxRecDepth 100000 in
theorem annalistref20_Time.calls (k : Nat) (a0 : ByteArray) (r : Int) (w : World) (h : annalistref20_Time.f k a0 = some r) :
    Calls Try.prog 54 #[.string a0] w fun e w' => e = .returned (.int .i64 r) ∧ Drawn0 w w' := by
  have H : (if (a0.size : Int) = 5 then (if 0 < (a0.size : Int) then (annalistref20_Time.j0 k a0 ((bt a0 0) != 67)) else (none)) else (annalistref20_Time.j0 k a0 true)) = some r := h
  clear h
  have HC2 := Aside0.mk H
  clear H
  go_enter Try.func54, Try.ntmps54
  go_upto_region 1 with (fail)
  go_cut [12] (fun v12 wc => ∃ (kq : Nat) (x12_1 : Bool), v12 = .bool x12_1 ∧ Aside0 (annalistref20_Time.j0 kq a0 x12_1 = some r) ∧ Aside0 (kq ≤ k) ∧ Drawn0 w wc)
  case first =>
    have H := HC2.out
    clear HC2
    by_cases c3 : (a0.size : Int) = 5
    · rw [if_pos c3] at H
      have c3b0 : ((a0.size : Int) == 5) = true := beq_iff_eq.mpr c3
      have c3b1 : ((a0.size : Int) != 5) = false := bne_eq_false_iff_eq.mpr c3
      clear c3
      (first | rw [c3b0] | (simp only [i64_w, i32_w]; rw [c3b0]) | skip)
      by_cases c4 : 0 < (a0.size : Int)
      · rw [if_pos c4] at H
        have c4b0 : decide (0 < (a0.size : Int)) = true := decide_eq_true c4
        have c4b1 : decide (0 < a0.size) = true := decide_eq_true (by omega)
        clear c4
        have H' := Aside0.mk H
        clear H
        have p5 : 0 ≤ (0 : Int) := (by omega)
        have q5 : 0 < a0.size := (by have : (0 : Int) < (a0.size : Int) := of_decide_eq_true (by first | (with_reducible assumption) | assumption); omega)
        have hx5 : ∀ h : 0 < a0.size, ((a0[0]'h).toNat : Int) = bt a0 0 := bt_at a0 0
        clear p5
        have qi5 : (0 < (a0.size : Int)) = True := eq_true (of_decide_eq_true (by first | (with_reducible assumption) | assumption))
        replace q5 := eq_true q5
        go_wp2
        go_meet
        case rel => exact ⟨_, (((bt a0 0) != 67)), (by first | rfl | (simp; done) | (simp [*]; done)), H', ⟨by first | omega | exact Nat.le_refl _⟩, by repeat (first | exact Drawn0.refl _ | apply Drawn0.step)⟩
      · rw [if_neg c4] at H
        exact absurd H (by simp)
    · rw [if_neg c3] at H
      have c3b0 : ((a0.size : Int) == 5) = false := beq_eq_false_iff_ne.mpr c3
      have c3b1 : ((a0.size : Int) != 5) = true := bne_iff_ne.mpr c3
      (first | rw [c3b0] | (simp only [i64_w, i32_w]; rw [c3b0]) | skip)
      have H' := Aside0.mk H
      clear H
      go_wp2
      go_meet
      case rel => exact ⟨_, (true), (by first | rfl | (simp; done) | (simp [*]; done)), H', ⟨by first | omega | exact Nat.le_refl _⟩, by repeat (first | exact Drawn0.refl _ | apply Drawn0.step)⟩
  case rest =>
    clear HC2
    try clear p2
    try clear c3
    try clear c3b0
    try clear c3b1
    try clear c4
    try clear c4b0
    try clear c4b1
    try clear c5
    try clear p5
    try clear q5
    try clear hx5
    try clear qi5
    try clear p5
    try clear q5
    obtain ⟨kq, x12_1, rfl, HA, HJ1, ⟨mc1, rfl⟩⟩ := hcut
    cases kq with
    | zero => exact absurd HA.out (by simp [annalistref20_Time.j0])
    | succ kj1 =>
      have H := HA.out
      clear HA
      simp only [annalistref20_Time.j0] at H
      by_cases c6 : x12_1 = true
      · subst c6
        have H1 : (some (-1)) = some r := by rw [if_pos rfl] at H; exact H
        clear H
        have H := H1
        clear H1
        obtain rfl := Option.some.inj H
        go_wp2
        go_ret
        exact ⟨by first | rfl | (simp; done) | (simp [*]; done), by repeat (first | exact Drawn0.refl _ | apply Drawn0.step)⟩
      · replace c6 := Bool.eq_false_iff.mpr c6
        subst c6
        have H1 : (annalistref20_Time.l0 kj1 a0 0 1) = some r := by rw [if_neg (show ¬ (false = true) by decide)] at H; exact H
        clear H
        have H := H1
        clear H1
        have H' := Aside0.mk H
        clear H
        go_wp2
        go_loopg [3, 4] kj1 (fun kq v3 v4 w' => ∃ (x3_2 : Int) (x4_2 : Int), v3 = .int .i64 x3_2 ∧ v4 = .int .i64 x4_2 ∧ Aside0 (annalistref20_Time.l0 kq a0 x3_2 x4_2 = some r) ∧ Aside0 (kq ≤ kj1) ∧ Drawn0 w w')
        case atStart => exact ⟨(0), (1), (by first | rfl | (simp; done) | (simp [*]; done)), (by first | rfl | (simp; done) | (simp [*]; done)), H', ⟨Nat.le_refl _⟩, by repeat (first | exact Drawn0.refl _ | apply Drawn0.step)⟩
        case round =>
          clear H'
          try clear c1
          try clear p2
          try clear c3
          try clear c3b0
          try clear c3b1
          try clear c4
          try clear c4b0
          try clear c4b1
          try clear c5
          try clear p5
          try clear q5
          try clear hx5
          try clear qi5
          try clear c6
          try clear p2
          try clear p5
          try clear q5
          obtain ⟨x3_2, x4_2, rfl, rfl, HA, HK2, ⟨m2, rfl⟩⟩ := hrel
          cases gk with
          | zero => exact absurd HA.out (by simp [annalistref20_Time.l0])
          | succ k2 =>
            have H := HA.out
            clear HA
            simp only [annalistref20_Time.l0] at H
            by_cases c7 : x4_2 < 5
            · rw [if_pos c7] at H
              have c7b0 : decide (x4_2 < 5) = true := decide_eq_true c7
              clear c7
              by_cases c8 : 0 ≤ x4_2
              · rw [if_pos c8] at H
                have c8b0 : decide (0 ≤ x4_2) = true := decide_eq_true c8
                clear c8
                by_cases c9 : x4_2 < (a0.size : Int)
                · rw [if_pos c9] at H
                  have c9b0 : decide (x4_2 < (a0.size : Int)) = true := decide_eq_true c9
                  clear c9
                  have H' := Aside0.mk H
                  clear H
                  have p10 : 0 ≤ (x4_2 : Int) := of_decide_eq_true (by first | (with_reducible assumption) | assumption)
                  have q10 : x4_2 < (a0.size : Int) := of_decide_eq_true (by first | (with_reducible assumption) | assumption)
                  have hx10 := bt_at a0 x4_2
                  replace p10 := eq_true p10
                  replace q10 := eq_true q10
                  go_wp2
                  go_roundg k2
                  case measure => have := HJ1.out; have := HK2.out; omega
                  case rel => exact ⟨(wrap64 ((wrap64 (x3_2 * 256)) + (wrap64 (bt a0 x4_2)))), (wrap64 (x4_2 + 1)), (by first | rfl | (simp; done) | (simp [*]; done)), (by first | rfl | (simp; done) | (simp [*]; done)), H', ⟨by have := HJ1.out; have := HK2.out; omega⟩, by repeat (first | exact Drawn0.refl _ | apply Drawn0.step)⟩
                · rw [if_neg c9] at H
                  exact absurd H (by simp)
              · rw [if_neg c8] at H
                exact absurd H (by simp)
            · rw [if_neg c7] at H
              have c7b0 : decide (x4_2 < 5) = false := decide_eq_false c7
              clear c7
              by_cases c11 : x3_2 > 2147483647
              · rw [if_pos c11] at H
                have c11b0 : decide (2147483647 < x3_2) = true := decide_eq_true c11
                clear c11
                obtain rfl := Option.some.inj H
                go_wp2
                go_ret
                exact ⟨by first | rfl | (simp; done) | (simp [*]; done), by repeat (first | exact Drawn0.refl _ | apply Drawn0.step)⟩
              · rw [if_neg c11] at H
                have c11b0 : decide (2147483647 < x3_2) = false := decide_eq_false c11
                clear c11
                obtain rfl := Option.some.inj H
                go_wp2
                go_ret
                exact ⟨by first | rfl | (simp; done) | (simp [*]; done), by repeat (first | exact Drawn0.refl _ | apply Drawn0.step)⟩

end Go.Proofs.Ytolapikiflodfaa.PReplicaCommands
