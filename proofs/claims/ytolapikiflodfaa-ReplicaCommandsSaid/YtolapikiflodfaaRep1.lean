/- Here is proved: what replica.New answers. Conditions: none. -/
import Derived.Test.YtolapikiflodfaaSha4
import Derived.Laws.Tables
import Derived.Laws.Rows
import Derived.Carry
import Derived.Laws.Tables
namespace Go.Proofs.Ytolapikiflodfaa.Rep
open Go Go.Proofs Go.RowKit Go.Shelf

set_option maxRecDepth 100000 in
set_option maxHeartbeats 1000000 in
theorem new_bad (T : Array Value) (id n : Int) (h : ¬ (1 ≤ n ∧ n ≤ 5 ∧ 0 ≤ id ∧ id < n)) (w : World) :
    Calls Try.prog 46 #[.agg T, .int .i64 id, .int .i64 n] w fun e w' => e = .returned (.tuple #[.pointer none, .int .i64 1]) ∧ Below w.heap.size w w' := by
  have HB := Lib.hid ((Below.refl w.heap.size w).alloc (Nat.le_refl _) (.cells T 80))
  by_cases h1 : n < 1
  · clear h
    go_enter Try.func46, Try.ntmps46
    go_wp2
    refine bodyPost_ret (results_tmp2 rfl _ _ _) rfl ?_
    exact ⟨rfl, HB.out⟩
  · by_cases h2 : 5 < n
    · clear h
      go_enter Try.func46, Try.ntmps46
      go_wp2
      refine bodyPost_ret (results_tmp2 rfl _ _ _) rfl ?_
      exact ⟨rfl, HB.out⟩
    · by_cases h3 : id < 0
      · clear h
        go_enter Try.func46, Try.ntmps46
        go_wp2
        refine bodyPost_ret (results_tmp2 rfl _ _ _) rfl ?_
        exact ⟨rfl, HB.out⟩
      · have h4 : n ≤ id := by omega
        clear h
        go_enter Try.func46, Try.ntmps46
        go_wp2
        refine bodyPost_ret (results_tmp2 rfl _ _ _) rfl ?_
        exact ⟨rfl, HB.out⟩

/-- the parts that a replica is built of -/
abbrev parts (T : Array Value) (id n : Int) (m1 m2 m3 : Nat) : List (Nat × Value) := [(0, .agg T), (1, .int .i64 id), (2, .int .i64 n), (5, .map (some m1)), (6, .map (some m2)), (11, .map (some m3))]
set_option maxRecDepth 100000 in
set_option maxHeartbeats 1000000 in
theorem new_good (T : Array Value) (hT : T.size = 72) (id n : Int) (h1 : 1 ≤ n) (h5 : n ≤ 5) (h0 : 0 ≤ id) (hid : id < n) (w : World)
    (X : Array Value) (hX : Try.prog.built 141 (parts T id n (w.heap.size + 1) (w.heap.size + 1 + 1) (w.heap.size + 1 + 1 + 1)) = some X) :
    Calls Try.prog 46 #[.agg T, .int .i64 id, .int .i64 n] w fun e w' => e = .returned (.tuple #[.pointer (some ⟨w.heap.size + 4, 0, none⟩), .int .i64 0]) ∧
      w' = ((((w.alloc (.cells T 80)).alloc (.map #[] 0)).alloc (.map #[] 0)).alloc (.map #[] 0)).alloc (.cells X 141) := by
  have HI : Hid ((Try.prog.info? 80).map (·.size) = some T.size) := Lib.hid (by rw [hT]; kernel_rfl)
  have HX := Lib.hid hX
  clear hX hT
  have hm := fun t w => run_makeMap (P := Try.prog) t w
  have h2 : ¬ n < 1 := by omega
  have h3 : ¬ 5 < n := by omega
  have h4 : ¬ id < 0 := by omega
  have h6 : ¬ n ≤ id := by omega
  go_enter Try.func46, Try.ntmps46
  go_wp2_with (first
      | (refine wpList_load_row rfl 80 (.tmp 3) rfl (w.heap.size) rfl 80 T (0, 0) _ (World.alloc_heap_new w _) Try.underlying80 rfl HI.out ?_)
      | (refine wpList_build rfl 141 #[(0, .tmp 23), (1, .tmp 24), (2, .tmp 25), (5, .tmp 26), (6, .tmp 27), (11, .tmp 28)] rfl ?_ ?_))
  · rw [HX.out]; rfl
  · have e := HX.out
    clear HX
    simp only [e, Option.getD_some]
    refine bodyPost_ret (results_tmp2 rfl _ _ _) rfl ?_
    exact ⟨rfl, rfl⟩

/-- the table, and that a replica can be built with it -/
def TV : Array Value := Sha.tabA (Sha.prs 313)
theorem tv_size : TV.size = 72 := Sha.tabA_size _
theorem make_c (w : World) : Calls Try.prog 47 #[] w fun e w' => e = .returned (.agg TV) ∧ Below w.heap.size w w' := callsIn_wide.1 (Sha.make_in w)
theorem built_some (id n : Int) (m1 m2 m3 : Nat) : ∃ X, Try.prog.built 141 (parts TV id n m1 m2 m3) = some X := by
  have h : (Try.prog.built 141 (parts TV id n m1 m2 m3)).isSome = true := by kernel_rfl
  exact Option.isSome_iff_exists.1 h
theorem new_one (W : World) : Calls Try.prog 46 #[.agg TV, .int .i64 0, .int .i64 1] W fun e w' => e = .returned (.tuple #[.pointer (some ⟨W.heap.size + 4, 0, none⟩), .int .i64 0]) ∧ Below W.heap.size W w' := by
  obtain ⟨X, hX⟩ := built_some 0 1 (W.heap.size + 1) (W.heap.size + 1 + 1) (W.heap.size + 1 + 1 + 1)
  refine (new_good TV tv_size 0 1 (by omega) (by omega) (by omega) (by omega) W X hX).mono ?_
  rintro e w' ⟨rfl, rfl⟩
  exact ⟨rfl, (((((Below.refl _ W).alloc (Nat.le_refl _) _).alloc (by simp) _).alloc (by simp <;> omega) _).alloc (by simp <;> omega) _).alloc (by simp <;> omega) _⟩
set_option maxHeartbeats 1000000 in
theorem cut_c (a : Value) (w : World) : Calls Try.prog 49 #[a, .int .i64 (-1)] w fun e w' => e = .returned (.int .i64 1) ∧ w' = w := by
  go_enter Try.func49, Try.ntmps49
  go_wp2
  go_ret
  exact ⟨rfl, rfl⟩
set_option maxRecDepth 100000 in
set_option maxHeartbeats 1000000 in
theorem awake_c (w : World) : Calls Try.prog 45 #[] w fun e w' => e = .returned (.bool true) ∧ Below w.heap.size w w' := by
  obtain ⟨T, HM, HN1, HN2⟩ : ∃ T : Array Value, Hid (∀ w, Calls Try.prog 47 #[] w fun e w' => e = .returned (.agg T) ∧ Below w.heap.size w w') ∧
      Hid (∀ w, Calls Try.prog 46 #[.agg T, .int .i64 1, .int .i64 1] w fun e w' => e = .returned (.tuple #[.pointer none, .int .i64 1]) ∧ Below w.heap.size w w') ∧
      Hid (∀ w, Calls Try.prog 46 #[.agg T, .int .i64 0, .int .i64 1] w fun e w' => e = .returned (.tuple #[.pointer (some ⟨w.heap.size + 4, 0, none⟩), .int .i64 0]) ∧ Below w.heap.size w w') :=
    ⟨TV, make_c, new_bad TV 1 1 (by omega), new_one⟩
  have HC := Lib.hid cut_c
  have HB := Lib.hid (Below.refl w.heap.size w)
  go_enter Try.func45, Try.ntmps45
  go_wp2_with (first
    | (go_at_call 47; refine (HM.out _).mono ?_; rintro e w1 ⟨rfl, hb⟩; have n_ := Lib.hid (HB.out.trans (hb.mono HB.out.size)); clear HB hb; have HB := n_; clear n_)
    | (go_at_call 46; with_reducible refine (HN1.out _).mono ?_; rintro e w1 ⟨rfl, hb⟩; have n_ := Lib.hid (HB.out.trans (hb.mono HB.out.size)); clear HB hb; have HB := n_; clear n_)
    | (go_at_call 46; with_reducible refine (HN2.out _).mono ?_; rintro e w1 ⟨rfl, hb⟩; have n_ := Lib.hid (HB.out.trans (hb.mono HB.out.size)); clear HB hb; have HB := n_; clear n_)
    | (go_at_call 49; refine (HC.out _ _).mono ?_; rintro e w1 ⟨rfl, rfl⟩))
  go_ret
  exact ⟨rfl, HB.out⟩
end Go.Proofs.Ytolapikiflodfaa.Rep
