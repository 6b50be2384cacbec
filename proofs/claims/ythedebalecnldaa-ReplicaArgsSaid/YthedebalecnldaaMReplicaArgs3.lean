/- Here is proved: what the law ReplicaArgs answers. Conditions: none. -/
import Derived.Test.YthedebalecnldaaMReplicaArgs2
import Derived.Deep.Slices
import Derived.ChangeSame
import Derived.OpenShut
import Derived.Test.YthedebalecnldaaWMore
import Derived.Test.YthedebalecnldaaWArr
import Derived.Test.YthedebalecnldaaRows
import Derived.WalkKit
import Derived.ProofKit
import Derived.ShutString
import Derived.ChangeOld
import Derived.Below
import Derived.SizedLaws
namespace Go.Proofs.Ythedebalecnldaa.Rp
open Go Go.RowKit Go.Shelf Go.Proofs.YthedebalecnldaaW.PrintWords Go.Proofs.YthedebalecnldaaW.PrintLast Go.Proofs.YthedebalecnldaaW.PrintMore Go.Proofs.Ythedebalecnldaa.Mp Go.Proofs.Ythedebalecnldaa.Pt Go.Proofs.Ythedebalecnldaa.ShaP
open Go.Proofs.Ythedebalecnldaa.Dec (Sl Pp upd upd_self upd_ne e0 fresh promP accP isB sl0)
set_option linter.unusedVariables false
set_option linter.unusedSimpArgs false
variable {base g : Nat} {W W1 W2 : World} {L L' : Lay} {r r' : R}
set_option maxRecDepth 100000 in
set_option maxHeartbeats 8000000 in
theorem args_bad (id n x0 x1 now : Int) (x2 x3 x4 : ByteArray) (w : World) (h : ¬ (1 ≤ n ∧ n ≤ 5 ∧ 0 ≤ id ∧ id < n)) :
    Calls Try.prog 3 #[.agg #[.int .i64 id, .int .i64 n], .agg #[.int .i64 x0, .int .i64 x1, .string x2, .string x3, .string x4], .int .i64 now] w fun e w' => e = .returned (.bool true) ∧ Below w.heap.size w w' := by
  have OW := Aside0.mk (Mem.Own.nil w)
  have HAW := Aside0.mk awake20_c
  have HM := Aside0.mk (fun W => make_c W)
  have HN := Aside0.mk (fun W => new_bad id n h W)
  generalize TV = T at *
  have H := Aside0.mk h
  clear h
  go_enter Try.func3, Try.ntmps3
  go_wp2_with (first
    | ((with_reducible refine gate_dst (N := 3) rfl ?_); refine box_event ?hg (N := 3) ?hd (cs := #[.int .i64 id, .int .i64 n]) (t := 22) ?hr ?_; (case hd => rfl); (case hg => rfl); (case hr => first | (go_simp; done) | (go_simp; rfl)); intro gB hg W_ hb hbb; have n_ : Aside0 (Mem.Own w W_ [(gB, #[.int .i64 id, .int .i64 n], 22)]) := ⟨OW.out.new hg hb hbb⟩; clear OW hb hbb hg; have OW := n_; clear n_)
    | ((with_reducible refine gate_dst (N := 4) rfl ?_); refine box_event ?hg (N := 4) ?hd (cs := #[.int .i64 x0, .int .i64 x1, .string x2, .string x3, .string x4]) (t := 24) ?hr ?_; (case hd => rfl); (case hg => rfl); (case hr => first | (go_simp; done) | (go_simp; rfl)); intro gX hg W_ hb hbb; have n_ : Aside0 (Mem.Own w W_ [(gB, #[.int .i64 id, .int .i64 n], 22), (gX, #[.int .i64 x0, .int .i64 x1, .string x2, .string x3, .string x4], 24)]) := ⟨OW.out.new hg hb hbb⟩; clear OW hb hbb hg; have OW := n_; clear n_)
    | (go_at_call 4; (with_reducible refine (HAW.out _).mono ?_); rintro e wz ⟨rfl, hB⟩; have n_ := Aside0.mk (OW.out.step hB); clear OW hB; have OW := n_; clear n_))
  have OD := Aside0.mk OW.out.drew
  have e0' : wz.drew.cell? ⟨gB, 0, none⟩ = some (.int .i64 id) := (OD.out.cell 0 rfl 0).trans rfl
  have e1' : wz.drew.cell? ⟨gB, 1, none⟩ = some (.int .i64 n) := (OD.out.cell 0 rfl 1).trans rfl
  clear OW
  refine start_ (n := 6) (S := fun w' => Below (wz).drew.heap.size (wz).drew w') (ds := []) #[false, false, false, false, false, false] (by kernel_rfl) rfl rfl (Below.refl _ _) (fun hHeld => ?_)
  generalize (wz).drew = W0 at *
  refine pure_ (i := 0) (N := (some 18)) (v := ?_) (a' := ?_) #[true, false, false, false, false, false] rfl rfl (by kernel_rfl) (fun _ _ _ h => h) (Or.inl ⟨by rfl, ?_⟩) ?_ ?_
  rotate_left
  · intro w'
    go_simp
    first | done | with_reducible rfl
  rotate_left
  · simp only [Act.put, List.setIfInBounds_toArray, List.set_cons_zero, List.set_cons_succ, i64_w, i32_w]
    rfl
  refine take_ (i := 1) (N := (some 19)) (v := ?_) (a' := ?_) #[true, true, false, false, false, false] rfl rfl (by kernel_rfl) (fun _ _ _ h => h) (Or.inl ⟨by rfl, ?_⟩) hHeld ?_ ?_
  rotate_left
  · intro w' hS
    have s0 := pw_cell_below hS e0'
    go_simp
    first | done | with_reducible rfl
  rotate_left
  · simp only [Act.put, List.setIfInBounds_toArray, List.set_cons_zero, List.set_cons_succ, i64_w, i32_w]
    rfl
  refine pure_ (i := 2) (N := (some 20)) (v := ?_) (a' := ?_) #[true, true, true, false, false, false] rfl rfl (by kernel_rfl) (fun _ _ _ h => h) (Or.inl ⟨by rfl, ?_⟩) ?_ ?_
  rotate_left
  · intro w'
    go_simp
    first | done | with_reducible rfl
  rotate_left
  · simp only [Act.put, List.setIfInBounds_toArray, List.set_cons_zero, List.set_cons_succ, i64_w, i32_w]
    rfl
  refine take_ (i := 3) (N := (some 21)) (v := ?_) (a' := ?_) #[true, true, true, true, false, false] rfl rfl (by kernel_rfl) (fun _ _ _ h => h) (Or.inl ⟨by rfl, ?_⟩) hHeld ?_ ?_
  rotate_left
  · intro w' hS
    have s0 := pw_cell_below hS e1'
    go_simp
    first | done | with_reducible rfl
  rotate_left
  · simp only [Act.put, List.setIfInBounds_toArray, List.set_cons_zero, List.set_cons_succ, i64_w, i32_w]
    rfl
  refine pure_ (i := 4) (N := (some 7)) (v := ?_) (a' := ?_) #[true, true, true, true, true, false] rfl rfl (by kernel_rfl) (fun _ _ _ h => h) (Or.inl ⟨by rfl, ?_⟩) ?_ ?_
  rotate_left
  · intro w'
    go_simp
    first | done | with_reducible rfl
  rotate_left
  · simp only [Act.put, List.setIfInBounds_toArray, List.set_cons_zero, List.set_cons_succ, i64_w, i32_w]
    rfl
  refine pure_ (i := 5) (N := (some 8)) (v := ?_) (a' := ?_) #[true, true, true, true, true, true] rfl rfl (by kernel_rfl) (fun _ _ _ h => h) (Or.inl ⟨by rfl, ?_⟩) ?_ ?_
  rotate_left
  · intro w'
    go_simp
    first | done | with_reducible rfl
  rotate_left
  · simp only [Act.put, List.setIfInBounds_toArray, List.set_cons_zero, List.set_cons_succ, i64_w, i32_w]
    rfl
  refine done_ (by kernel_rfl) ?_
  all_goals (
    have OW := Aside0.mk (OD.out.step hHeld)
    clear OD e0' e1' hHeld
    by_cases h1 : 1 ≤ n
    · by_cases h2 : n ≤ 5
      · by_cases h3 : 0 ≤ id
        · have h4 : (id < n) = False := eq_false (fun q => H.out ⟨h1, h2, h3, q⟩)
          have h5 : decide (id < n) = false := decide_eq_false (fun q => H.out ⟨h1, h2, h3, q⟩)
          go_wp2_with (first
            | (go_at_call 6; (with_reducible refine (HM.out _).mono ?_); rintro e wy ⟨rfl, hB⟩; have n_ := Aside0.mk (OW.out.step hB); clear OW hB; have OW := n_; clear n_)
            | (go_at_call 5; (with_reducible refine (HN.out _).mono ?_); rintro e wx ⟨rfl, hB⟩; have n_ := Aside0.mk (OW.out.step hB); clear OW hB; have OW := n_; clear n_))
          go_ret
          exact ⟨rfl, OW.out.below⟩
        · go_wp2_with (first
            | (go_at_call 6; (with_reducible refine (HM.out _).mono ?_); rintro e wy ⟨rfl, hB⟩; have n_ := Aside0.mk (OW.out.step hB); clear OW hB; have OW := n_; clear n_)
            | (go_at_call 5; (with_reducible refine (HN.out _).mono ?_); rintro e wx ⟨rfl, hB⟩; have n_ := Aside0.mk (OW.out.step hB); clear OW hB; have OW := n_; clear n_))
          go_ret
          exact ⟨rfl, OW.out.below⟩
      · go_wp2_with (first
          | (go_at_call 6; (with_reducible refine (HM.out _).mono ?_); rintro e wy ⟨rfl, hB⟩; have n_ := Aside0.mk (OW.out.step hB); clear OW hB; have OW := n_; clear n_)
          | (go_at_call 5; (with_reducible refine (HN.out _).mono ?_); rintro e wx ⟨rfl, hB⟩; have n_ := Aside0.mk (OW.out.step hB); clear OW hB; have OW := n_; clear n_))
        go_ret
        exact ⟨rfl, OW.out.below⟩
    · go_wp2_with (first
        | (go_at_call 6; (with_reducible refine (HM.out _).mono ?_); rintro e wy ⟨rfl, hB⟩; have n_ := Aside0.mk (OW.out.step hB); clear OW hB; have OW := n_; clear n_)
        | (go_at_call 5; (with_reducible refine (HN.out _).mono ?_); rintro e wx ⟨rfl, hB⟩; have n_ := Aside0.mk (OW.out.step hB); clear OW hB; have OW := n_; clear n_))
      go_ret
      exact ⟨rfl, OW.out.below⟩)
set_option maxRecDepth 100000 in
set_option maxHeartbeats 16000000 in
theorem args_good (id n : Nat) (x0 x1 now : Int) (x2 x3 x4 : ByteArray) (w : World) (h1 : 1 ≤ n) (h5 : n ≤ 5) (hid : id < n) :
    Calls Try.prog 3 #[.agg #[.int .i64 id, .int .i64 n], .agg #[.int .i64 x0, .int .i64 x1, .string x2, .string x3, .string x4], .int .i64 now] w fun e w' => e = .returned (.bool true) ∧ Below w.heap.size w w' := by
  have OW := Aside0.mk (Mem.Own.nil w)
  have HAW := Aside0.mk awake20_c
  have HM := Aside0.mk (fun W => make_c W)
  have HN := Aside0.mk (fun W => new_c id n h1 h5 hid W)
  obtain ⟨b, hb⟩ : ∃ b, decide (rightQ ⟨x0, x1, x2, x3, x4⟩) = b := ⟨_, rfl⟩
  obtain ⟨t, ht⟩ : ∃ t, decide (0 ≤ now ∧ now ≤ 2147483647) = t := ⟨_, rfl⟩
  have HREF := Aside0.mk (fun W => ref_v x0 x1 x2 x3 x4 W)
  rw [hb] at HREF
  have hask := askA_new id n ⟨x0, x1, x2, x3, x4⟩ b h1 h5 hid
  have HASK := Aside0.mk (fun (W : World) (B g : Nat) (L : Lay) (h : Is B W g L (newR id n)) (hB : B ≤ W.heap.size) => ask_any x0 x1 x2 x3 x4 b hb W h hB (newR_fit id n h1 h5 hid) (by show 0 ≤ _; omega) (by show 0 ≤ _; omega))
  have HCUT := Aside0.mk (fun (W : World) (B g : Nat) (L : Lay) (h : Is B W g L (askA (newR id n) ⟨x0, x1, x2, x3, x4⟩ b)) (hB : B ≤ W.heap.size) => cut_any now t ht W h hB hask.1 (by have := hask.2.1; omega) (by rw [hask.2.2]; cases b <;> simp))
  have hwq := cutA_qu (askA (newR id n) ⟨x0, x1, x2, x3, x4⟩ b) now ⟨x0, x1, x2, x3, x4⟩ b t hask.2.2
  have HWT := Aside0.mk (fun (W : World) (B g : Nat) (L : Lay) (h : Is B W g L (cutA (askA (newR id n) ⟨x0, x1, x2, x3, x4⟩ b) now t)) => waits_c W h)
  rw [hwq] at HWT
  generalize cutA (askA (newR id n) ⟨x0, x1, x2, x3, x4⟩ b) now t = r2 at *
  generalize askA (newR id n) ⟨x0, x1, x2, x3, x4⟩ b = r1 at *
  generalize newR id n = r0 at *
  generalize TV = T at *
  have n1 : (1 : Int) ≤ (n : Int) := by omega
  have n2 : (n : Int) ≤ 5 := by omega
  have n3 : (0 : Int) ≤ (id : Int) := by omega
  have n4 : (id : Int) < (n : Int) := by omega
  have HTT := Aside0.mk ht
  clear h1 h5 hid hb hask hwq ht
  go_enter Try.func3, Try.ntmps3
  go_wp2_with (first
    | ((with_reducible refine gate_dst (N := 3) rfl ?_); refine box_event ?hg (N := 3) ?hd (cs := #[.int .i64 (id : Int), .int .i64 (n : Int)]) (t := 22) ?hr ?_; (case hd => rfl); (case hg => rfl); (case hr => first | (go_simp; done) | (go_simp; rfl)); intro gB hg W_ hb hbb; have n_ : Aside0 (Mem.Own w W_ [(gB, #[.int .i64 (id : Int), .int .i64 (n : Int)], 22)]) := ⟨OW.out.new hg hb hbb⟩; clear OW hb hbb hg; have OW := n_; clear n_)
    | ((with_reducible refine gate_dst (N := 4) rfl ?_); refine box_event ?hg (N := 4) ?hd (cs := #[.int .i64 x0, .int .i64 x1, .string x2, .string x3, .string x4]) (t := 24) ?hr ?_; (case hd => rfl); (case hg => rfl); (case hr => first | (go_simp; done) | (go_simp; rfl)); intro gX hg W_ hb hbb; have n_ : Aside0 (Mem.Own w W_ [(gB, #[.int .i64 (id : Int), .int .i64 (n : Int)], 22), (gX, #[.int .i64 x0, .int .i64 x1, .string x2, .string x3, .string x4], 24)]) := ⟨OW.out.new hg hb hbb⟩; clear OW hb hbb hg; have OW := n_; clear n_)
    | (go_at_call 4; (with_reducible refine (HAW.out _).mono ?_); rintro e wz ⟨rfl, hB⟩; have n_ := Aside0.mk (OW.out.step hB); clear OW hB; have OW := n_; clear n_))
  have OD := Aside0.mk OW.out.drew
  have e0' : wz.drew.cell? ⟨gB, 0, none⟩ = some (.int .i64 (id : Int)) := (OD.out.cell 0 rfl 0).trans rfl
  have e1' : wz.drew.cell? ⟨gB, 1, none⟩ = some (.int .i64 (n : Int)) := (OD.out.cell 0 rfl 1).trans rfl
  clear OW
  refine start_ (n := 6) (S := fun w' => Below (wz).drew.heap.size (wz).drew w') (ds := []) #[false, false, false, false, false, false] (by kernel_rfl) rfl rfl (Below.refl _ _) (fun hHeld => ?_)
  generalize (wz).drew = W0 at *
  refine pure_ (i := 0) (N := (some 18)) (v := ?_) (a' := ?_) #[true, false, false, false, false, false] rfl rfl (by kernel_rfl) (fun _ _ _ h => h) (Or.inl ⟨by rfl, ?_⟩) ?_ ?_
  rotate_left
  · intro w'
    go_simp
    first | done | with_reducible rfl
  rotate_left
  · simp only [Act.put, List.setIfInBounds_toArray, List.set_cons_zero, List.set_cons_succ, i64_w, i32_w]
    rfl
  refine take_ (i := 1) (N := (some 19)) (v := ?_) (a' := ?_) #[true, true, false, false, false, false] rfl rfl (by kernel_rfl) (fun _ _ _ h => h) (Or.inl ⟨by rfl, ?_⟩) hHeld ?_ ?_
  rotate_left
  · intro w' hS
    have s0 := pw_cell_below hS e0'
    go_simp
    first | done | with_reducible rfl
  rotate_left
  · simp only [Act.put, List.setIfInBounds_toArray, List.set_cons_zero, List.set_cons_succ, i64_w, i32_w]
    rfl
  refine pure_ (i := 2) (N := (some 20)) (v := ?_) (a' := ?_) #[true, true, true, false, false, false] rfl rfl (by kernel_rfl) (fun _ _ _ h => h) (Or.inl ⟨by rfl, ?_⟩) ?_ ?_
  rotate_left
  · intro w'
    go_simp
    first | done | with_reducible rfl
  rotate_left
  · simp only [Act.put, List.setIfInBounds_toArray, List.set_cons_zero, List.set_cons_succ, i64_w, i32_w]
    rfl
  refine take_ (i := 3) (N := (some 21)) (v := ?_) (a' := ?_) #[true, true, true, true, false, false] rfl rfl (by kernel_rfl) (fun _ _ _ h => h) (Or.inl ⟨by rfl, ?_⟩) hHeld ?_ ?_
  rotate_left
  · intro w' hS
    have s0 := pw_cell_below hS e1'
    go_simp
    first | done | with_reducible rfl
  rotate_left
  · simp only [Act.put, List.setIfInBounds_toArray, List.set_cons_zero, List.set_cons_succ, i64_w, i32_w]
    rfl
  refine pure_ (i := 4) (N := (some 7)) (v := ?_) (a' := ?_) #[true, true, true, true, true, false] rfl rfl (by kernel_rfl) (fun _ _ _ h => h) (Or.inl ⟨by rfl, ?_⟩) ?_ ?_
  rotate_left
  · intro w'
    go_simp
    first | done | with_reducible rfl
  rotate_left
  · simp only [Act.put, List.setIfInBounds_toArray, List.set_cons_zero, List.set_cons_succ, i64_w, i32_w]
    rfl
  refine pure_ (i := 5) (N := (some 8)) (v := ?_) (a' := ?_) #[true, true, true, true, true, true] rfl rfl (by kernel_rfl) (fun _ _ _ h => h) (Or.inl ⟨by rfl, ?_⟩) ?_ ?_
  rotate_left
  · intro w'
    go_simp
    first | done | with_reducible rfl
  rotate_left
  · simp only [Act.put, List.setIfInBounds_toArray, List.set_cons_zero, List.set_cons_succ, i64_w, i32_w]
    rfl
  refine done_ (by kernel_rfl) ?_
  all_goals (
    have OW := Aside0.mk (OD.out.step hHeld)
    clear OD e0' e1' hHeld
    go_wp2_with (first
      | (go_at_call 6; (with_reducible refine (HM.out _).mono ?_); rintro e wy ⟨rfl, hB⟩; have n_ := Aside0.mk (OW.out.step hB); clear OW hB; have OW := n_; clear n_)
      | (go_at_call 5; (with_reducible refine (HN.out _).mono ?_); rintro e wx ⟨g, L, rfl, hI, hB⟩; have HI := Aside0.mk hI; have HBS := Aside0.mk hB.size; have HLO := Aside0.mk OW.out.size; have HXL := Aside0.mk (blk_lt (OW.out.blk 1 rfl)); have n_ := Aside0.mk (OW.out.step hB); clear OW hB hI; have OW := n_; clear n_; have HX := Aside0.mk (OW.out.blk 1 rfl); have j0 := (OW.out.cell 1 rfl 0).trans rfl; have j1 := (OW.out.cell 1 rfl 1).trans rfl; have j2 := (OW.out.cell 1 rfl 2).trans rfl; have j3 := (OW.out.cell 1 rfl 3).trans rfl; have j4 := (OW.out.cell 1 rfl 4).trans rfl))
    refine (HASK.out _ _ _ _ HI.out HBS.out).mono ?_
    rintro e wa ⟨rfl, L1, hI1, hT1⟩
    have HX1 := Aside0.mk ((hT1.keep gX (blk_lt HX.out) (fun q => absurd (HI.out.ge gX q) (Nat.not_le.2 HXL.out))).trans HX.out)
    have HB1 := Aside0.mk (OW.out.below.trans (hT1.to_below (fun k hk => Nat.le_trans HLO.out (HI.out.ge k hk)) OW.out.size))
    have HI1 := Aside0.mk hI1
    have HS1 := Aside0.mk (Nat.le_trans HBS.out hT1.size)
    clear hI1 hT1 HI HX OW j0 j1 j2 j3 j4 HASK
    go_wp2_with fail
    refine (HCUT.out _ _ _ _ HI1.out HS1.out).mono ?_
    rintro e wc ⟨rfl, L2, hI2, hT2⟩
    have HX2 := Aside0.mk ((hT2.keep gX (blk_lt HX1.out) (fun q => absurd (HI1.out.ge gX q) (Nat.not_le.2 HXL.out))).trans HX1.out)
    have HB2 := Aside0.mk (HB1.out.trans (hT2.to_below (fun k hk => Nat.le_trans HLO.out (HI1.out.ge k hk)) HB1.out.size))
    have HI2 := Aside0.mk hI2
    clear hI2 hT2 HI1 HX1 HB1 HS1 HCUT
    have j0 := (blk_cell HX2.out 0).trans (show _ = some (Value.int .i64 x0) from rfl)
    have j1 := (blk_cell HX2.out 1).trans (show _ = some (Value.int .i64 x1) from rfl)
    have j2 := (blk_cell HX2.out 2).trans (show _ = some (Value.string x2) from rfl)
    have j3 := (blk_cell HX2.out 3).trans (show _ = some (Value.string x3) from rfl)
    have j4 := (blk_cell HX2.out 4).trans (show _ = some (Value.string x4) from rfl)
    cases t with
    | true =>
      obtain ⟨t0, t1⟩ := of_decide_eq_true HTT.out
      cases b with
      | true =>
        simp only [cond_true] at *
        go_wp2_with (first
          | (go_at_call 9; (with_reducible refine (HREF.out _).mono ?_); rintro e wr ⟨rfl, hB⟩; have m1 := Aside0.mk (HI2.out.below hB); have m2 := Aside0.mk (blk_below HX2.out hB); have m3 := Aside0.mk (below_step HB2.out hB); clear HI2 HX2 HB2 j0 j1 j2 j3 j4 hB; have HI2 := m1; have HX2 := m2; have HB2 := m3; clear m1 m2 m3; have j0 := (blk_cell HX2.out 0).trans (show _ = some (Value.int .i64 x0) from rfl); have j1 := (blk_cell HX2.out 1).trans (show _ = some (Value.int .i64 x1) from rfl); have j2 := (blk_cell HX2.out 2).trans (show _ = some (Value.string x2) from rfl); have j3 := (blk_cell HX2.out 3).trans (show _ = some (Value.string x3) from rfl); have j4 := (blk_cell HX2.out 4).trans (show _ = some (Value.string x4) from rfl))
          | (go_at_call 10; (with_reducible refine (HWT.out _ _ _ _ HI2.out).mono ?_); rintro e wr ⟨rfl, rfl⟩))
        go_ret
        exact ⟨rfl, HB2.out⟩
      | false =>
        simp only [cond_true, cond_false] at *
        go_wp2_with (first
          | (go_at_call 9; (with_reducible refine (HREF.out _).mono ?_); rintro e wr ⟨rfl, hB⟩; have m1 := Aside0.mk (HI2.out.below hB); have m2 := Aside0.mk (blk_below HX2.out hB); have m3 := Aside0.mk (below_step HB2.out hB); clear HI2 HX2 HB2 j0 j1 j2 j3 j4 hB; have HI2 := m1; have HX2 := m2; have HB2 := m3; clear m1 m2 m3; have j0 := (blk_cell HX2.out 0).trans (show _ = some (Value.int .i64 x0) from rfl); have j1 := (blk_cell HX2.out 1).trans (show _ = some (Value.int .i64 x1) from rfl); have j2 := (blk_cell HX2.out 2).trans (show _ = some (Value.string x2) from rfl); have j3 := (blk_cell HX2.out 3).trans (show _ = some (Value.string x3) from rfl); have j4 := (blk_cell HX2.out 4).trans (show _ = some (Value.string x4) from rfl))
          | (go_at_call 10; (with_reducible refine (HWT.out _ _ _ _ HI2.out).mono ?_); rintro e wr ⟨rfl, rfl⟩))
        go_ret
        exact ⟨rfl, HB2.out⟩
    | false =>
      have htf := of_decide_eq_false HTT.out
      by_cases t0 : 0 ≤ now
      · have t1 : ¬ now ≤ 2147483647 := fun q => htf ⟨t0, q⟩
        cases b with
        | true =>
          simp only [cond_true, cond_false] at *
          go_wp2_with (first
            | (go_at_call 9; (with_reducible refine (HREF.out _).mono ?_); rintro e wr ⟨rfl, hB⟩; have m1 := Aside0.mk (HI2.out.below hB); have m2 := Aside0.mk (blk_below HX2.out hB); have m3 := Aside0.mk (below_step HB2.out hB); clear HI2 HX2 HB2 j0 j1 j2 j3 j4 hB; have HI2 := m1; have HX2 := m2; have HB2 := m3; clear m1 m2 m3; have j0 := (blk_cell HX2.out 0).trans (show _ = some (Value.int .i64 x0) from rfl); have j1 := (blk_cell HX2.out 1).trans (show _ = some (Value.int .i64 x1) from rfl); have j2 := (blk_cell HX2.out 2).trans (show _ = some (Value.string x2) from rfl); have j3 := (blk_cell HX2.out 3).trans (show _ = some (Value.string x3) from rfl); have j4 := (blk_cell HX2.out 4).trans (show _ = some (Value.string x4) from rfl))
            | (go_at_call 10; (with_reducible refine (HWT.out _ _ _ _ HI2.out).mono ?_); rintro e wr ⟨rfl, rfl⟩))
          go_ret
          exact ⟨rfl, HB2.out⟩
        | false =>
          simp only [cond_true, cond_false] at *
          go_wp2_with (first
            | (go_at_call 9; (with_reducible refine (HREF.out _).mono ?_); rintro e wr ⟨rfl, hB⟩; have m1 := Aside0.mk (HI2.out.below hB); have m2 := Aside0.mk (blk_below HX2.out hB); have m3 := Aside0.mk (below_step HB2.out hB); clear HI2 HX2 HB2 j0 j1 j2 j3 j4 hB; have HI2 := m1; have HX2 := m2; have HB2 := m3; clear m1 m2 m3; have j0 := (blk_cell HX2.out 0).trans (show _ = some (Value.int .i64 x0) from rfl); have j1 := (blk_cell HX2.out 1).trans (show _ = some (Value.int .i64 x1) from rfl); have j2 := (blk_cell HX2.out 2).trans (show _ = some (Value.string x2) from rfl); have j3 := (blk_cell HX2.out 3).trans (show _ = some (Value.string x3) from rfl); have j4 := (blk_cell HX2.out 4).trans (show _ = some (Value.string x4) from rfl))
            | (go_at_call 10; (with_reducible refine (HWT.out _ _ _ _ HI2.out).mono ?_); rintro e wr ⟨rfl, rfl⟩))
          go_ret
          exact ⟨rfl, HB2.out⟩
      · cases b with
        | true =>
          simp only [cond_true, cond_false] at *
          go_wp2_with (first
            | (go_at_call 9; (with_reducible refine (HREF.out _).mono ?_); rintro e wr ⟨rfl, hB⟩; have m1 := Aside0.mk (HI2.out.below hB); have m2 := Aside0.mk (blk_below HX2.out hB); have m3 := Aside0.mk (below_step HB2.out hB); clear HI2 HX2 HB2 j0 j1 j2 j3 j4 hB; have HI2 := m1; have HX2 := m2; have HB2 := m3; clear m1 m2 m3; have j0 := (blk_cell HX2.out 0).trans (show _ = some (Value.int .i64 x0) from rfl); have j1 := (blk_cell HX2.out 1).trans (show _ = some (Value.int .i64 x1) from rfl); have j2 := (blk_cell HX2.out 2).trans (show _ = some (Value.string x2) from rfl); have j3 := (blk_cell HX2.out 3).trans (show _ = some (Value.string x3) from rfl); have j4 := (blk_cell HX2.out 4).trans (show _ = some (Value.string x4) from rfl))
            | (go_at_call 10; (with_reducible refine (HWT.out _ _ _ _ HI2.out).mono ?_); rintro e wr ⟨rfl, rfl⟩))
          go_ret
          exact ⟨rfl, HB2.out⟩
        | false =>
          simp only [cond_true, cond_false] at *
          go_wp2_with (first
            | (go_at_call 9; (with_reducible refine (HREF.out _).mono ?_); rintro e wr ⟨rfl, hB⟩; have m1 := Aside0.mk (HI2.out.below hB); have m2 := Aside0.mk (blk_below HX2.out hB); have m3 := Aside0.mk (below_step HB2.out hB); clear HI2 HX2 HB2 j0 j1 j2 j3 j4 hB; have HI2 := m1; have HX2 := m2; have HB2 := m3; clear m1 m2 m3; have j0 := (blk_cell HX2.out 0).trans (show _ = some (Value.int .i64 x0) from rfl); have j1 := (blk_cell HX2.out 1).trans (show _ = some (Value.int .i64 x1) from rfl); have j2 := (blk_cell HX2.out 2).trans (show _ = some (Value.string x2) from rfl); have j3 := (blk_cell HX2.out 3).trans (show _ = some (Value.string x3) from rfl); have j4 := (blk_cell HX2.out 4).trans (show _ = some (Value.string x4) from rfl))
            | (go_at_call 10; (with_reducible refine (HWT.out _ _ _ _ HI2.out).mono ?_); rintro e wr ⟨rfl, rfl⟩))
          go_ret
          exact ⟨rfl, HB2.out⟩)
theorem law_args (id n x0 x1 now : Int) (x2 x3 x4 : ByteArray) (w : World) :
    Calls Try.prog 3 #[.agg #[.int .i64 id, .int .i64 n], .agg #[.int .i64 x0, .int .i64 x1, .string x2, .string x3, .string x4], .int .i64 now] w fun e w' => e = .returned (.bool true) ∧ Below w.heap.size w w' := by
  by_cases h : 1 ≤ n ∧ n ≤ 5 ∧ 0 ≤ id ∧ id < n
  · obtain ⟨h1, h2, h3, h4⟩ := h
    obtain ⟨m, rfl⟩ : ∃ m : Nat, n = m := ⟨n.toNat, by omega⟩
    obtain ⟨d, rfl⟩ : ∃ d : Nat, id = d := ⟨id.toNat, by omega⟩
    exact args_good d m x0 x1 now x2 x3 x4 w (by omega) (by omega) (by omega)
  · exact args_bad id n x0 x1 now x2 x3 x4 w h
end Go.Proofs.Ythedebalecnldaa.Rp
namespace Go.Proofs.YthedebalecnldaaOpens
open Go.ChangeShapes Go.WideShapes Go.Deep Go.Proofs.YthedebalecnldaaW.PrintWords

/-- whatever the reader reads at type e is of kind d, and Q holds of it -/
def Reads {α : Type} (d : Kd α) (P : Program) (e : TypeId) (Q : α → Prop) : Prop :=
  ∀ (H : Type) (enc : TypeId × Value → H) (w : World) (base : Nat) (spare : Nat → Bool) (held : Bool) (n : Nat) (cs : List Value) (x : DataW H × List MemPlace),
    DataW.trod enc P w base spare held n e cs = some x → ∃ a : α, d.K w a cs ∧ Q a

theorem reads_int {P : Program} {e : TypeId} {k : IntKind} (he : P.underlying e = some (.int k)) : Reads (Kd.int k) P e (fun n => (Lit.int k n).wf = true) := by
  intro H enc w base spare held n cs x h
  obtain ⟨m, rfl, _, hw⟩ := DataW.trod_int he h
  exact ⟨m, rfl, hw⟩
theorem reads_string {P : Program} {e : TypeId} (he : P.underlying e = some .string) : Reads Kd.string P e (fun s => s.size ≤ maxLen) := by
  intro H enc w base spare held n cs x h
  obtain ⟨m, rfl, _, hs⟩ := DataW.trod_string he h
  exact ⟨m, rfl, hs⟩
/-- fields, from cell 'off' on -/
def ReadsFs {α : Type} (d : Kd α) (P : Program) (fs : List Field) (off : Nat) (Q : α → Prop) : Prop :=
  ∀ (H : Type) (enc : TypeId × Value → H) (w : World) (base : Nat) (spare : Nat → Bool) (held : Bool) (n : Nat) (cs : List Value),
    cs.length = d.sz → (∀ f, f ∈ fs → ∃ y, DataW.trod enc P w base spare held n f.type ((cs.drop (f.offset - off)).take (P.cellsOf f.type)) = some y) → ∃ a : α, d.K w a cs ∧ Q a

theorem fs_last {α : Type} {d : Kd α} {P : Program} {f : Field} {off : Nat} {Q : α → Prop} (h : Reads d P f.type Q) (hs : P.cellsOf f.type = d.sz) (ho : f.offset = off) : ReadsFs d P [f] off Q := by
  intro H enc w base spare held n cs hl hf
  obtain ⟨y, hy⟩ := hf f (List.mem_singleton.2 rfl)
  rw [ho, Nat.sub_self, List.drop_zero, hs, List.take_of_length_le (by omega)] at hy
  exact h H enc w base spare held n cs y hy
theorem fs_cons {α β : Type} {a : Kd α} {b : Kd β} {P : Program} {f : Field} {fs : List Field} {off : Nat} {Qa : α → Prop} {Qb : β → Prop} (h : Reads a P f.type Qa) (hs : P.cellsOf f.type = a.sz) (ho : f.offset = off)
    (hr : ∀ g, g ∈ fs → off + a.sz ≤ g.offset) (hb : ReadsFs b P fs (off + a.sz) Qb) : ReadsFs (Kd.pair a b) P (f :: fs) off (fun x => Qa x.1 ∧ Qb x.2) := by
  intro H enc w base spare held n cs hl hf
  have hl' : cs.length = a.sz + b.sz := hl
  obtain ⟨y, hy⟩ := hf f (List.mem_cons_self ..)
  rw [ho, Nat.sub_self, List.drop_zero, hs] at hy
  obtain ⟨x, hx, hqx⟩ := h H enc w base spare held n _ y hy
  obtain ⟨z, hz, hqz⟩ := hb H enc w base spare held n (cs.drop a.sz) (by rw [List.length_drop]; omega) (fun g hg => by
    obtain ⟨u, hu⟩ := hf g (List.mem_cons_of_mem _ hg)
    refine ⟨u, ?_⟩
    have := hr g hg
    rw [List.drop_drop, show a.sz + (g.offset - (off + a.sz)) = g.offset - off from by omega]
    exact hu)
  exact ⟨(x, z), ⟨cs.take a.sz, cs.drop a.sz, (List.take_append_drop _ _).symm, hx, hz⟩, hqx, hqz⟩
theorem reads_struct {α : Type} {d : Kd α} {P : Program} {t : TypeId} {fs : Array Field} {Q : α → Prop} (ht : P.underlying t = some (.struct fs)) (hs : P.cellsOf t = d.sz) (h : ReadsFs d P fs.toList 0 Q) : Reads d P t Q := by
  intro H enc w base spare held n cs x hx
  obtain ⟨xs, m, _, _, hl, hlen, hf⟩ := DataW.trod_struct ht hx
  refine h H enc w base spare held m cs (hl.trans hs) (fun f hm => ?_)
  obtain ⟨i, hi, rfl⟩ := List.mem_iff_getElem.1 hm
  have hi' : i < fs.size := by rw [Array.length_toList] at hi; exact hi
  have e := hf i (fs.toList[i]) (by rw [Array.getElem?_eq_getElem hi']; rfl)
  have hx2 : i < xs.length := by omega
  exact ⟨xs[i], by rw [Nat.sub_zero, e]; exact List.getElem?_eq_getElem hx2⟩

/-- a struct as an argument -/
theorem arg_agg {α : Type} {d : Kd α} {P : Program} {t : TypeId} {fs : Array Field} {Q : α → Prop} (ht : P.underlying t = some (.struct fs)) (h : Reads d P t Q)
    {H : Type} {enc : TypeId × Value → H} {w : World} {base : Nat} {spare : Nat → Bool} {held : Bool} {r : Reach} {b0 : Nat} {v : Value} {dd : DataW H} {p : List MemPlace} (hv : Value.okWide P w r b0 t v) (hx : DataW.Trod enc P w base spare held t v dd p) :
    ∃ (cs : Array Value) (a : α), v = .agg cs ∧ d.K w a cs.toList ∧ Q a := by
  obtain ⟨cs, rfl, hsz⟩ := okWide_struct ht hv
  obtain ⟨fuel, hf⟩ := hx
  obtain ⟨a, hk, hq⟩ := h H enc w base spare held fuel _ _ hf
  exact ⟨cs, a, rfl, hk, hq⟩

/-- an array of two numbers as an argument -/
theorem arg_two {P : Program} {t e : TypeId} {k : IntKind} (ht : P.underlying t = some (.array 2 e)) (he : P.underlying e = some (.int k)) (hs : P.cellsOf t = 2) (hc : P.cellsOf e = 1)
    {H : Type} {enc : TypeId × Value → H} {w : World} {base : Nat} {spare : Nat → Bool} {held : Bool} {r : Reach} {b0 : Nat} {v : Value} {dd : DataW H} {p : List MemPlace} (hv : Value.okWide P w r b0 t v) (hx : DataW.Trod enc P w base spare held t v dd p) :
    ∃ a b : Int, v = .agg #[.int k a, .int k b] ∧ (Lit.int k a).wf = true ∧ (Lit.int k b).wf = true := by
  simp only [Value.okWide, ht] at hv
  obtain ⟨cs, rfl, hsz, _⟩ := hv
  rw [hs] at hsz
  obtain ⟨fuel, hf⟩ := hx
  obtain ⟨xs, m, _, _, hl, hlen, hi⟩ := DataW.trod_array ht hf
  obtain ⟨ls⟩ := cs
  match ls, hsz with
  | [c0, c1], _ =>
    have h0 := hi 0 (by omega)
    have h1 := hi 1 (by omega)
    rw [hc, List.getElem?_eq_getElem (by omega)] at h0 h1
    obtain ⟨a, ea, _, wa⟩ := DataW.trod_int he h0
    obtain ⟨b, eb, _, wb⟩ := DataW.trod_int he h1
    have ea' : c0 = .int k a := by simpa [Value.cells] using ea
    have eb' : c1 = .int k b := by simpa [Value.cells] using eb
    exact ⟨a, b, by rw [ea', eb'], wa, wb⟩
end Go.Proofs.YthedebalecnldaaOpens
namespace Go.Proofs.Ythedebalecnldaa.replicaArgs
open Go.ChangeShapes Go.WideShapes Go.ChangeAt Go.RowKit
open Go.ChangeMaps (open_string shut_string)
open Go.Proofs.Ythedebalecnldaa Go.Proofs.YthedebalecnldaaOpens Go.Proofs.YthedebalecnldaaW.PrintWords
set_option linter.unusedVariables false
theorem own : ownKnob Try.prog.godebug = none := by kernel_rfl
theorem laidOut : laidOutB Try.prog = true := by kernel_rfl
set_option maxRecDepth 100000 in
theorem lifted (os : Os) (started : os.Started) (H : Type) (enc : TypeId × Value → H) :
    ReturnsInHanded {} Try.checked os 3 .any (Rows.replicaArgsSpec.pre6 enc Try.prog Try.f3 Rows.replicaArgsRow.domain false) (Rows.replicaArgsSpec.post enc Try.prog Try.f3 false true false false) := by
  refine returnsInHanded_of_change_sized (C := Try.checked) own started (by kernel_rfl) Try.func3
    (ChangeSpec.witness6 (enc := enc) (C := Try.checked) false ⟨#[], #[.agg #[.int .i64 0, .int .i64 0], .agg #[.int .i64 0, .int .i64 0, .string ⟨#[]⟩, .string ⟨#[]⟩, .string ⟨#[]⟩], .int .i64 0], []⟩ 8 (by kernel_rfl) (by kernel_rfl) (by kernel_rfl) (by kernel_rfl)) ?_
  intro W base args ds gs before hval0 hW hcnd hsz0 _
  have hsz : (DataW.weightsEach Try.prog (Try.f3.params.toList ++ Rows.replicaArgsSpec.plain.varTypes Try.prog) (ds ++ gs)).all (· ≤ reachBytes) = true := hsz0
  have hval : ∀ (j : Nat) t v, Try.f3.params[j]? = some t → args[j]? = some v → Value.okWide Try.prog W .any base t v := hval0
  have hW' := hW
  obtain ⟨p, q, hA0, hV, rfl, hfz, hnd⟩ := hW
  have hA : DataW.TrodAll enc Try.prog W 0 (fun _ => true) true Try.f3.params.toList args.toList ds p := hA0
  rw [Try.params3] at hA hval hsz
  obtain ⟨v0, vs0, d0, ds0, p0, q0, hargs, rfl, rfl, h0, r0⟩ := trodAll_cons hA
  obtain ⟨v1, vs1, d1, ds1, p1, q1, rfl, rfl, rfl, h1, r1⟩ := trodAll_cons r0
  obtain ⟨v2, vs2, d2, ds2, p2, q2, rfl, rfl, rfl, h2, r2⟩ := trodAll_cons r1
  obtain ⟨rfl, rfl, rfl⟩ := trodAll_nil r2
  obtain rfl : args = #[v0, v1, v2] := by cases args; simp_all
  obtain ⟨rfl, rfl⟩ := trodVars_none hV
  have k0 := h0
  have lt0 : ∀ x ∈ p0, x.block < W.heap.size := by obtain ⟨m, hm⟩ := k0; exact DataW.trod_lt m _ _ _ hm
  obtain ⟨a0_0, a0_1, rfl, w0_0, w0_1⟩ := arg_two Try.underlying22 Try.underlying3 (by kernel_rfl) (by kernel_rfl) (hval 0 22 v0 rfl rfl) h0
  have k1 := h1
  have lt1 : ∀ x ∈ p1, x.block < W.heap.size := by obtain ⟨m, hm⟩ := k1; exact DataW.trod_lt m _ _ _ hm
  obtain ⟨cs1, x1, rfl, hK1, hq1⟩ := arg_agg (d := (Kd.pair (Kd.int .i64) (Kd.pair (Kd.int .i64) (Kd.pair Kd.string (Kd.pair Kd.string Kd.string))))) Try.underlying24 (reads_struct Try.underlying24 (by kernel_rfl) (fs_cons (reads_int Try.underlying3) (by kernel_rfl) rfl (by decide) (fs_cons (reads_int Try.underlying3) (by kernel_rfl) rfl (by decide) (fs_cons (reads_string Try.underlying9) (by kernel_rfl) rfl (by decide) (fs_cons (reads_string Try.underlying9) (by kernel_rfl) rfl (by decide) (fs_last (reads_string Try.underlying9) (by kernel_rfl) rfl)))))) (hval 1 24 v1 rfl rfl) h1
  obtain ⟨ls1⟩ := cs1
  obtain ⟨x1_0, ⟨x1_1, ⟨x1_2, ⟨x1_3, x1_4⟩⟩⟩⟩ := x1
  obtain ⟨_, _, rfl, rfl, ⟨_, _, rfl, rfl, ⟨_, _, rfl, rfl, ⟨_, _, rfl, rfl, rfl⟩⟩⟩⟩ := hK1
  obtain ⟨a2, rfl, rfl, rfl, w2⟩ := open_int Try.underlying3 (hval 2 3 v2 rfl rfl) h2
  clear hA0 hval0 hsz0 hsz
  refine (Go.Proofs.Ythedebalecnldaa.Rp.law_args a0_0 a0_1 x1_0 x1_1 a2 x1_2 x1_3 x1_4 W).mono fun e W' ⟨he, bel⟩ => ?_
  subst he
  exact ⟨_, rfl, _, _, _, [], _, [], hW', trodAll_mk1 (shut_bool Try.underlying4 _), (trodAll_cons_mk (Below.trod laidOut (by kernel_rfl) (of_decide_eq_true (by kernel_rfl)) k0 bel lt0) (trodAll_cons_mk (Below.trod laidOut (by kernel_rfl) (of_decide_eq_true (by kernel_rfl)) k1 bel lt1) (trodAll_cons_mk (shut_int Try.underlying3 w2) trodAll_mk0))), rfl, bel.frame _, fun h => by cases h⟩
theorem over : Rows.replicaArgsRow.holds Try.pinned (OpenSpec.ofChange Rows.replicaArgsSpec) :=
  OpenClaim.holds_of_wide 3 Try.f3 rfl rfl rfl rfl rfl rfl rfl ⟨rfl, rfl, rfl, rfl, rfl⟩ rfl rfl rfl rfl rfl (by kernel_rfl) Try.func3 (by kernel_rfl)
    (of_decide_eq_true (by kernel_rfl)) (by unfold Func.isWrapper; first | (rw [if_pos (by decide +kernel)]; kernel_rfl) | (rw [if_neg (by decide +kernel)]; exact ⟨rfl, rfl⟩))
    (fun os started H enc _ => lifted os started H enc)
theorem proved : Rows.ReplicaArgsSaid := over
#print axioms proved
end Go.Proofs.Ythedebalecnldaa.replicaArgs
namespace Go.Proofs.Ythedebalecnldaa
/-- The row, under a short name, for the claim. -/
theorem replicaArgs_holds : Rows.ReplicaArgsSaid := replicaArgs.proved
end Go.Proofs.Ythedebalecnldaa
