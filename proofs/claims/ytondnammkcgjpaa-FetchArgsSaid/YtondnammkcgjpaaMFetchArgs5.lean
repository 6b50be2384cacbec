/- Here is proved: what (*fetch.Fetch).take does. Conditions: what is given is wanted. -/
import Derived.Test.YtondnammkcgjpaaMFetchArgs4
import Derived.Deep.Slices
import Derived.ChangeSame
import Derived.OpenShut
import Derived.Test.YtondnammkcgjpaaWMore
import Derived.Test.YtondnammkcgjpaaWArr
import Derived.Test.YtondnammkcgjpaaRows
import Derived.WalkKit
import Derived.ProofKit
import Derived.ShutString
import Derived.ChangeOld
import Derived.Below
import Derived.SizedLaws
namespace Go.Proofs.Ytondnammkcgjpaa.Ft
open Go Go.RowKit Go.Shelf Go.Proofs.YtondnammkcgjpaaW.PrintWords Go.Proofs.YtondnammkcgjpaaW.PrintLast Go.Proofs.YtondnammkcgjpaaW.PrintMore Go.Proofs.Ytondnammkcgjpaa.Mp
open Go.Proofs.Ytondnammkcgjpaa.ShaP Go.Proofs.Ytondnammkcgjpaa.Mk Go.Proofs.Ytondnammkcgjpaa.Rg Go.Proofs.Ytondnammkcgjpaa.RgP Go.Proofs.Ytondnammkcgjpaa.Rf Go.Proofs.Ytondnammkcgjpaa.RgL Go.Proofs.Ytondnammkcgjpaa.Til Go.Proofs.Ytondnammkcgjpaa.Fg Go.Proofs.Ytondnammkcgjpaa.Fun Go.Proofs.Ytondnammkcgjpaa.Rng
set_option linter.unusedVariables false
set_option linter.unusedSimpArgs false
variable {base g gt gb : Nat} {s : FS} {w W : World}
set_option maxRecDepth 100000 in
set_option maxHeartbeats 8000000 in
theorem take_width (b : Bool) (x0 x1 : Int) (A : Option Addr) (c : Nat) (l : List ByteArray) (h : IsF base w g gt gb s) (hb : base ≤ w.heap.size) (hmax : l.length ≤ maxLen) (hr : Kd.C Kd.string w A l.length l) (hw : (l.length : Int) ≠ wdF s.size x0 x1) :
    Calls Try.prog 71 #[.pointer (some ⟨g, 0, none⟩), .agg #[.bool b, .int .i64 x0, .int .i64 x1], .slice A l.length c] w fun e w' => e = .returned (.int .i64 2) ∧ IsF base w' g gt gb s ∧ Turn (Foot g gt gb) w w' := by
  have OW := Aside0.mk (Mem.Own.nil w)
  have HF := Aside0.mk h
  have HR := Aside0.mk hr
  have HB := Aside0.mk hb
  have HMX := Aside0.mk hmax
  have HWD := Aside0.mk (fun W => width_c (s.size : Int) x0 x1 W)
  have hne : ((l.length : Int) != inTile x1 (cntv s.size x0)) = true := bne_iff_ne.2 hw
  generalize inTile x1 (cntv s.size x0) = q at *
  clear h hr hb
  go_enter Try.func71, Try.ntmps71
  go_wp2_with (first
    | ((with_reducible refine gate_dst (N := 4) rfl ?_); refine box_event ?hg (N := 4) ?hd (cs := #[.bool b, .int .i64 x0, .int .i64 x1]) (t := 58) ?hr ?_; (case hd => rfl); (case hg => rfl); (case hr => first | (go_simp; done) | (go_simp; rfl)); intro gI hg W_ hb hbb; have n_ : Aside0 (Mem.Own w W_ [(gI, #[.bool b, .int .i64 x0, .int .i64 x1], 58)]) := ⟨OW.out.new hg hb hbb⟩; clear OW hb hbb hg; have OW := n_; clear n_))
  have OD := Aside0.mk OW.out.drew
  have HFD := Aside0.mk ((HF.out.below OW.out.below).drew)
  have HRD := Aside0.mk (Kd.C_drew (Kd.C_below HR.out OW.out.below))
  have b0 : W_.drew.cell? ⟨gI, 0, none⟩ = some (.bool b) := (OD.out.cell 0 rfl 0).trans rfl
  have b1 : W_.drew.cell? ⟨gI, 1, none⟩ = some (.int .i64 x0) := (OD.out.cell 0 rfl 1).trans rfl
  have b2 : W_.drew.cell? ⟨gI, 2, none⟩ = some (.int .i64 x1) := (OD.out.cell 0 rfl 2).trans rfl
  have c0 : W_.drew.cell? ⟨g, 72, none⟩ = some (.int .i64 s.size) := (HFD.out.cell 0).trans rfl
  clear OW
  go_wp2_with fail
  refine start_ (n := 20) (S := fun w' => Below (W_).drew.heap.size (W_).drew w') (ds := []) #[false, false, false, false, false, false, false, false, false, false, false, false, false, false, false, false, false, false, false, false] (by kernel_rfl) rfl rfl (Below.refl _ _) (fun hHeld => ?_)
  generalize (W_).drew = W1 at *
  refine pure_ (i := 0) (N := (some 8)) (v := ?_) (a' := ?_) #[true, false, false, false, false, false, false, false, false, false, false, false, false, false, false, false, false, false, false, false] rfl rfl (by kernel_rfl) (fun _ _ _ h => h) (Or.inl ⟨by rfl, ?_⟩) ?_ ?_
  rotate_left
  · intro w'
    go_simp
    first | done | with_reducible rfl
  rotate_left
  · simp only [Act.put, List.setIfInBounds_toArray, List.set_cons_zero, List.set_cons_succ, i64_w, i32_w]
    rfl
  refine pure_ (i := 1) (N := (some 9)) (v := ?_) (a' := ?_) #[true, true, false, false, false, false, false, false, false, false, false, false, false, false, false, false, false, false, false, false] rfl rfl (by kernel_rfl) (fun _ _ _ h => h) (Or.inl ⟨by rfl, ?_⟩) ?_ ?_
  rotate_left
  · intro w'
    go_simp
    first | done | with_reducible rfl
  rotate_left
  · simp only [Act.put, List.setIfInBounds_toArray, List.set_cons_zero, List.set_cons_succ, i64_w, i32_w]
    rfl
  refine pure_ (i := 2) (N := (some 10)) (v := ?_) (a' := ?_) #[true, true, true, false, false, false, false, false, false, false, false, false, false, false, false, false, false, false, false, false] rfl rfl (by kernel_rfl) (fun _ _ _ h => h) (Or.inl ⟨by rfl, ?_⟩) ?_ ?_
  rotate_left
  · intro w'
    go_simp
    first | done | with_reducible rfl
  rotate_left
  · simp only [Act.put, List.setIfInBounds_toArray, List.set_cons_zero, List.set_cons_succ, i64_w, i32_w]
    rfl
  refine pure_ (i := 3) (N := (some 11)) (v := ?_) (a' := ?_) #[true, true, true, true, false, false, false, false, false, false, false, false, false, false, false, false, false, false, false, false] rfl rfl (by kernel_rfl) (fun _ _ _ h => h) (Or.inl ⟨by rfl, ?_⟩) ?_ ?_
  rotate_left
  · intro w'
    skip
    go_simp
    first | done | with_reducible rfl
  rotate_left
  · simp only [Act.put, List.setIfInBounds_toArray, List.set_cons_zero, List.set_cons_succ, i64_w, i32_w]
    rfl
  refine pure_ (i := 4) (N := (some 12)) (v := ?_) (a' := ?_) #[true, true, true, true, true, false, false, false, false, false, false, false, false, false, false, false, false, false, false, false] rfl rfl (by kernel_rfl) (fun _ _ _ h => h) (Or.inl ⟨by rfl, ?_⟩) ?_ ?_
  rotate_left
  · intro w'
    go_simp
    first | done | with_reducible rfl
  rotate_left
  · simp only [Act.put, List.setIfInBounds_toArray, List.set_cons_zero, List.set_cons_succ, i64_w, i32_w]
    rfl
  refine take_ (i := 5) (N := (some 13)) (v := ?_) (a' := ?_) #[true, true, true, true, true, true, false, false, false, false, false, false, false, false, false, false, false, false, false, false] rfl rfl (by kernel_rfl) (fun _ _ _ h => h) (Or.inl ⟨by rfl, ?_⟩) hHeld ?_ ?_
  rotate_left
  · intro w' hS
    have s0 := pw_cell_below hS c0
    go_simp
    first | done | with_reducible rfl
  rotate_left
  · simp only [Act.put, List.setIfInBounds_toArray, List.set_cons_zero, List.set_cons_succ, i64_w, i32_w]
    rfl
  refine pure_ (i := 6) (N := (some 14)) (v := ?_) (a' := ?_) #[true, true, true, true, true, true, true, false, false, false, false, false, false, false, false, false, false, false, false, false] rfl rfl (by kernel_rfl) (fun _ _ _ h => h) (Or.inl ⟨by rfl, ?_⟩) ?_ ?_
  rotate_left
  · intro w'
    go_simp
    first | done | with_reducible rfl
  rotate_left
  · simp only [Act.put, List.setIfInBounds_toArray, List.set_cons_zero, List.set_cons_succ, i64_w, i32_w]
    rfl
  refine take_ (i := 7) (N := (some 15)) (v := ?_) (a' := ?_) #[true, true, true, true, true, true, true, true, false, false, false, false, false, false, false, false, false, false, false, false] rfl rfl (by kernel_rfl) (fun _ _ _ h => h) (Or.inl ⟨by rfl, ?_⟩) hHeld ?_ ?_
  rotate_left
  · intro w' hS
    have s0 := pw_cell_below hS b1
    have s1 := pw_cell_below hS b2
    go_simp
    first | done | with_reducible rfl
  rotate_left
  · simp only [Act.put, List.setIfInBounds_toArray, List.set_cons_zero, List.set_cons_succ, i64_w, i32_w]
    rfl
  refine one_ (i := 8) (N := (some 16)) #[true, true, true, true, true, true, true, true, true, false, false, false, false, false, false, false, false, false, false, false] rfl rfl (by kernel_rfl) (by decide) (fun K hK => ?_)
  refine goes_ Try.func50 (by kernel_rfl) rfl #[.int .i64 s.size, .agg #[.int .i64 x0, .int .i64 x1]] (by rfl) rfl rfl (by (try simp only [List.map_toArray, List.map_cons, List.map_nil]); first | done | rfl) ?_
  (with_reducible refine (HWD.out _).mono ?_)
  rintro e wa ⟨rfl, hB⟩
  refine ⟨_, rfl, ?_⟩
  have hS2 : Below W1.heap.size W1 wa := below_step hHeld hB
  clear hB hHeld
  refine hK.out _ _ hS2 (fun hHeld => ?_)
  clear hK K
  refine norm_ (a' := ?_) ?_ ?_
  rotate_left
  · show Act.put _ (some 16) _ = _
    simp only [Act.put, List.setIfInBounds_toArray, List.set_cons_zero, List.set_cons_succ, i64_w, i32_w]
    rfl
  refine pure_ (i := 9) (N := (some 17)) (v := ?_) (a' := ?_) #[true, true, true, true, true, true, true, true, true, true, false, false, false, false, false, false, false, false, false, false] rfl rfl (by kernel_rfl) (fun _ _ _ h => h) (Or.inl ⟨by rfl, ?_⟩) ?_ ?_
  rotate_left
  · intro w'
    go_simp
    first | done | with_reducible rfl
  rotate_left
  · simp only [Act.put, List.setIfInBounds_toArray, List.set_cons_zero, List.set_cons_succ, i64_w, i32_w]
    rfl
  refine pure_ (i := 10) (N := (some 18)) (v := ?_) (a' := ?_) #[true, true, true, true, true, true, true, true, true, true, true, false, false, false, false, false, false, false, false, false] rfl rfl (by kernel_rfl) (fun _ _ _ h => h) (Or.inl ⟨by rfl, ?_⟩) ?_ ?_
  rotate_left
  · intro w'
    go_simp
    first | done | with_reducible rfl
  rotate_left
  · simp only [Act.put, List.setIfInBounds_toArray, List.set_cons_zero, List.set_cons_succ, i64_w, i32_w]
    rfl
  refine pure_ (i := 11) (N := (some 19)) (v := undef) (a' := ?_) #[true, true, true, true, true, true, true, true, true, true, true, true, false, false, false, false, false, false, false, false] rfl rfl (by kernel_rfl) (fun _ _ _ h => h) (Or.inr ⟨by rfl, rfl⟩) ?_ ?_
  rotate_left
  · simp only [Act.put, List.setIfInBounds_toArray, List.set_cons_zero, List.set_cons_succ, i64_w, i32_w]
    rfl
  refine pure_ (i := 12) (N := (some 20)) (v := undef) (a' := ?_) #[true, true, true, true, true, true, true, true, true, true, true, true, true, false, false, false, false, false, false, false] rfl rfl (by kernel_rfl) (fun _ _ _ h => h) (Or.inr ⟨by rfl, rfl⟩) ?_ ?_
  rotate_left
  · simp only [Act.put, List.setIfInBounds_toArray, List.set_cons_zero, List.set_cons_succ, i64_w, i32_w]
    rfl
  refine pure_ (i := 13) (N := (some 21)) (v := undef) (a' := ?_) #[true, true, true, true, true, true, true, true, true, true, true, true, true, true, false, false, false, false, false, false] rfl rfl (by kernel_rfl) (fun _ _ _ h => h) (Or.inr ⟨by rfl, rfl⟩) ?_ ?_
  rotate_left
  · simp only [Act.put, List.setIfInBounds_toArray, List.set_cons_zero, List.set_cons_succ, i64_w, i32_w]
    rfl
  refine pure_ (i := 14) (N := (some 22)) (v := undef) (a' := ?_) #[true, true, true, true, true, true, true, true, true, true, true, true, true, true, true, false, false, false, false, false] rfl rfl (by kernel_rfl) (fun _ _ _ h => h) (Or.inr ⟨by rfl, rfl⟩) ?_ ?_
  rotate_left
  · simp only [Act.put, List.setIfInBounds_toArray, List.set_cons_zero, List.set_cons_succ, i64_w, i32_w]
    rfl
  refine pure_ (i := 15) (N := (some 23)) (v := undef) (a' := ?_) #[true, true, true, true, true, true, true, true, true, true, true, true, true, true, true, true, false, false, false, false] rfl rfl (by kernel_rfl) (fun _ _ _ h => h) (Or.inr ⟨by rfl, rfl⟩) ?_ ?_
  rotate_left
  · simp only [Act.put, List.setIfInBounds_toArray, List.set_cons_zero, List.set_cons_succ, i64_w, i32_w]
    rfl
  refine pure_ (i := 16) (N := (some 24)) (v := undef) (a' := ?_) #[true, true, true, true, true, true, true, true, true, true, true, true, true, true, true, true, true, false, false, false] rfl rfl (by kernel_rfl) (fun _ _ _ h => h) (Or.inr ⟨by rfl, rfl⟩) ?_ ?_
  rotate_left
  · simp only [Act.put, List.setIfInBounds_toArray, List.set_cons_zero, List.set_cons_succ, i64_w, i32_w]
    rfl
  refine pure_ (i := 17) (N := (some 25)) (v := undef) (a' := ?_) #[true, true, true, true, true, true, true, true, true, true, true, true, true, true, true, true, true, true, false, false] rfl rfl (by kernel_rfl) (fun _ _ _ h => h) (Or.inr ⟨by rfl, rfl⟩) ?_ ?_
  rotate_left
  · simp only [Act.put, List.setIfInBounds_toArray, List.set_cons_zero, List.set_cons_succ, i64_w, i32_w]
    rfl
  refine pure_ (i := 18) (N := (some 26)) (v := ?_) (a' := ?_) #[true, true, true, true, true, true, true, true, true, true, true, true, true, true, true, true, true, true, true, false] rfl rfl (by kernel_rfl) (fun _ _ _ h => h) (Or.inl ⟨by rfl, ?_⟩) ?_ ?_
  rotate_left
  · intro w'
    go_simp
    first | done | with_reducible rfl
  rotate_left
  · simp only [Act.put, List.setIfInBounds_toArray, List.set_cons_zero, List.set_cons_succ, i64_w, i32_w]
    rfl
  refine pure_ (i := 19) (N := (some 7)) (v := ?_) (a' := ?_) #[true, true, true, true, true, true, true, true, true, true, true, true, true, true, true, true, true, true, true, true] rfl rfl (by kernel_rfl) (fun _ _ _ h => h) (Or.inl ⟨by rfl, ?_⟩) ?_ ?_
  rotate_left
  · intro w'
    go_simp
    first | done | with_reducible rfl
  rotate_left
  · simp only [Act.put, List.setIfInBounds_toArray, List.set_cons_zero, List.set_cons_succ, i64_w, i32_w]
    rfl
  refine done_ (by kernel_rfl) ?_
  have HBW := Aside0.mk (below_step OD.out.below hHeld)
  clear hHeld b0 b1 b2 c0 HRD
  go_wp2_with fail
  go_ret
  exact ⟨rfl, HF.out.below HBW.out, Turn.below HBW.out⟩
set_option maxRecDepth 100000 in
set_option maxHeartbeats 8000000 in
theorem take_bad (x0 x1 : Int) (A : Option Addr) (c : Nat) (l : List ByteArray) (h : IsF base w g gt gb s) (hb : base ≤ w.heap.size) (hmax : l.length ≤ maxLen) (hr : Kd.C Kd.string w A l.length l) (hw : (l.length : Int) = wdF s.size x0 x1) (h32 : all32 l = false) :
    Calls Try.prog 71 #[.pointer (some ⟨g, 0, none⟩), .agg #[.bool false, .int .i64 x0, .int .i64 x1], .slice A l.length c] w fun e w' => e = .returned (.int .i64 2) ∧ IsF base w' g gt gb s ∧ Turn (Foot g gt gb) w w' := by
  have OW := Aside0.mk (Mem.Own.nil w)
  have HF := Aside0.mk h
  have HR := Aside0.mk hr
  have HB := Aside0.mk hb
  have HMX := Aside0.mk hmax
  have HWD := Aside0.mk (fun W => width_c (s.size : Int) x0 x1 W)
  rw [show inTile x1 (cntv s.size x0) = (l.length : Int) from hw.symm] at HWD
  have hne : ((l.length : Int) != (l.length : Int)) = false := by simp
  have HSH := Aside0.mk (fun W (h : Kd.C Kd.string W A l.length l) => short_c A c l W HMX.out h)
  rw [h32] at HSH
  clear h hr hb h32 hw
  go_enter Try.func71, Try.ntmps71
  go_wp2_with (first
    | ((with_reducible refine gate_dst (N := 4) rfl ?_); refine box_event ?hg (N := 4) ?hd (cs := #[.bool false, .int .i64 x0, .int .i64 x1]) (t := 58) ?hr ?_; (case hd => rfl); (case hg => rfl); (case hr => first | (go_simp; done) | (go_simp; rfl)); intro gI hg W_ hb hbb; have n_ : Aside0 (Mem.Own w W_ [(gI, #[.bool false, .int .i64 x0, .int .i64 x1], 58)]) := ⟨OW.out.new hg hb hbb⟩; clear OW hb hbb hg; have OW := n_; clear n_))
  have OD := Aside0.mk OW.out.drew
  have HFD := Aside0.mk ((HF.out.below OW.out.below).drew)
  have HRD := Aside0.mk (Kd.C_drew (Kd.C_below HR.out OW.out.below))
  have b0 : W_.drew.cell? ⟨gI, 0, none⟩ = some (.bool false) := (OD.out.cell 0 rfl 0).trans rfl
  have b1 : W_.drew.cell? ⟨gI, 1, none⟩ = some (.int .i64 x0) := (OD.out.cell 0 rfl 1).trans rfl
  have b2 : W_.drew.cell? ⟨gI, 2, none⟩ = some (.int .i64 x1) := (OD.out.cell 0 rfl 2).trans rfl
  have c0 : W_.drew.cell? ⟨g, 72, none⟩ = some (.int .i64 s.size) := (HFD.out.cell 0).trans rfl
  clear OW
  go_wp2_with fail
  refine start_ (n := 20) (S := fun w' => Below (W_).drew.heap.size (W_).drew w') (ds := []) #[false, false, false, false, false, false, false, false, false, false, false, false, false, false, false, false, false, false, false, false] (by kernel_rfl) rfl rfl (Below.refl _ _) (fun hHeld => ?_)
  generalize (W_).drew = W1 at *
  refine pure_ (i := 0) (N := (some 8)) (v := ?_) (a' := ?_) #[true, false, false, false, false, false, false, false, false, false, false, false, false, false, false, false, false, false, false, false] rfl rfl (by kernel_rfl) (fun _ _ _ h => h) (Or.inl ⟨by rfl, ?_⟩) ?_ ?_
  rotate_left
  · intro w'
    go_simp
    first | done | with_reducible rfl
  rotate_left
  · simp only [Act.put, List.setIfInBounds_toArray, List.set_cons_zero, List.set_cons_succ, i64_w, i32_w]
    rfl
  refine pure_ (i := 1) (N := (some 9)) (v := ?_) (a' := ?_) #[true, true, false, false, false, false, false, false, false, false, false, false, false, false, false, false, false, false, false, false] rfl rfl (by kernel_rfl) (fun _ _ _ h => h) (Or.inl ⟨by rfl, ?_⟩) ?_ ?_
  rotate_left
  · intro w'
    go_simp
    first | done | with_reducible rfl
  rotate_left
  · simp only [Act.put, List.setIfInBounds_toArray, List.set_cons_zero, List.set_cons_succ, i64_w, i32_w]
    rfl
  refine pure_ (i := 2) (N := (some 10)) (v := ?_) (a' := ?_) #[true, true, true, false, false, false, false, false, false, false, false, false, false, false, false, false, false, false, false, false] rfl rfl (by kernel_rfl) (fun _ _ _ h => h) (Or.inl ⟨by rfl, ?_⟩) ?_ ?_
  rotate_left
  · intro w'
    go_simp
    first | done | with_reducible rfl
  rotate_left
  · simp only [Act.put, List.setIfInBounds_toArray, List.set_cons_zero, List.set_cons_succ, i64_w, i32_w]
    rfl
  refine pure_ (i := 3) (N := (some 11)) (v := ?_) (a' := ?_) #[true, true, true, true, false, false, false, false, false, false, false, false, false, false, false, false, false, false, false, false] rfl rfl (by kernel_rfl) (fun _ _ _ h => h) (Or.inl ⟨by rfl, ?_⟩) ?_ ?_
  rotate_left
  · intro w'
    skip
    go_simp
    first | done | with_reducible rfl
  rotate_left
  · simp only [Act.put, List.setIfInBounds_toArray, List.set_cons_zero, List.set_cons_succ, i64_w, i32_w]
    rfl
  refine pure_ (i := 4) (N := (some 12)) (v := ?_) (a' := ?_) #[true, true, true, true, true, false, false, false, false, false, false, false, false, false, false, false, false, false, false, false] rfl rfl (by kernel_rfl) (fun _ _ _ h => h) (Or.inl ⟨by rfl, ?_⟩) ?_ ?_
  rotate_left
  · intro w'
    go_simp
    first | done | with_reducible rfl
  rotate_left
  · simp only [Act.put, List.setIfInBounds_toArray, List.set_cons_zero, List.set_cons_succ, i64_w, i32_w]
    rfl
  refine take_ (i := 5) (N := (some 13)) (v := ?_) (a' := ?_) #[true, true, true, true, true, true, false, false, false, false, false, false, false, false, false, false, false, false, false, false] rfl rfl (by kernel_rfl) (fun _ _ _ h => h) (Or.inl ⟨by rfl, ?_⟩) hHeld ?_ ?_
  rotate_left
  · intro w' hS
    have s0 := pw_cell_below hS c0
    go_simp
    first | done | with_reducible rfl
  rotate_left
  · simp only [Act.put, List.setIfInBounds_toArray, List.set_cons_zero, List.set_cons_succ, i64_w, i32_w]
    rfl
  refine pure_ (i := 6) (N := (some 14)) (v := ?_) (a' := ?_) #[true, true, true, true, true, true, true, false, false, false, false, false, false, false, false, false, false, false, false, false] rfl rfl (by kernel_rfl) (fun _ _ _ h => h) (Or.inl ⟨by rfl, ?_⟩) ?_ ?_
  rotate_left
  · intro w'
    go_simp
    first | done | with_reducible rfl
  rotate_left
  · simp only [Act.put, List.setIfInBounds_toArray, List.set_cons_zero, List.set_cons_succ, i64_w, i32_w]
    rfl
  refine take_ (i := 7) (N := (some 15)) (v := ?_) (a' := ?_) #[true, true, true, true, true, true, true, true, false, false, false, false, false, false, false, false, false, false, false, false] rfl rfl (by kernel_rfl) (fun _ _ _ h => h) (Or.inl ⟨by rfl, ?_⟩) hHeld ?_ ?_
  rotate_left
  · intro w' hS
    have s0 := pw_cell_below hS b1
    have s1 := pw_cell_below hS b2
    go_simp
    first | done | with_reducible rfl
  rotate_left
  · simp only [Act.put, List.setIfInBounds_toArray, List.set_cons_zero, List.set_cons_succ, i64_w, i32_w]
    rfl
  refine one_ (i := 8) (N := (some 16)) #[true, true, true, true, true, true, true, true, true, false, false, false, false, false, false, false, false, false, false, false] rfl rfl (by kernel_rfl) (by decide) (fun K hK => ?_)
  refine goes_ Try.func50 (by kernel_rfl) rfl #[.int .i64 s.size, .agg #[.int .i64 x0, .int .i64 x1]] (by rfl) rfl rfl (by (try simp only [List.map_toArray, List.map_cons, List.map_nil]); first | done | rfl) ?_
  (with_reducible refine (HWD.out _).mono ?_)
  rintro e wa ⟨rfl, hB⟩
  refine ⟨_, rfl, ?_⟩
  have hS2 : Below W1.heap.size W1 wa := below_step hHeld hB
  clear hB hHeld
  refine hK.out _ _ hS2 (fun hHeld => ?_)
  clear hK K
  refine norm_ (a' := ?_) ?_ ?_
  rotate_left
  · show Act.put _ (some 16) _ = _
    simp only [Act.put, List.setIfInBounds_toArray, List.set_cons_zero, List.set_cons_succ, i64_w, i32_w]
    rfl
  refine pure_ (i := 9) (N := (some 17)) (v := ?_) (a' := ?_) #[true, true, true, true, true, true, true, true, true, true, false, false, false, false, false, false, false, false, false, false] rfl rfl (by kernel_rfl) (fun _ _ _ h => h) (Or.inl ⟨by rfl, ?_⟩) ?_ ?_
  rotate_left
  · intro w'
    go_simp
    first | done | with_reducible rfl
  rotate_left
  · simp only [Act.put, List.setIfInBounds_toArray, List.set_cons_zero, List.set_cons_succ, i64_w, i32_w]
    rfl
  refine pure_ (i := 10) (N := (some 18)) (v := ?_) (a' := ?_) #[true, true, true, true, true, true, true, true, true, true, true, false, false, false, false, false, false, false, false, false] rfl rfl (by kernel_rfl) (fun _ _ _ h => h) (Or.inl ⟨by rfl, ?_⟩) ?_ ?_
  rotate_left
  · intro w'
    go_simp
    first | done | with_reducible rfl
  rotate_left
  · simp only [Act.put, List.setIfInBounds_toArray, List.set_cons_zero, List.set_cons_succ, i64_w, i32_w]
    rfl
  refine pure_ (i := 11) (N := (some 19)) (v := ?_) (a' := ?_) #[true, true, true, true, true, true, true, true, true, true, true, true, false, false, false, false, false, false, false, false] rfl rfl (by kernel_rfl) (fun _ _ _ h => h) (Or.inl ⟨by rfl, ?_⟩) ?_ ?_
  rotate_left
  · intro w'
    go_simp
    first | done | with_reducible rfl
  rotate_left
  · simp only [Act.put, List.setIfInBounds_toArray, List.set_cons_zero, List.set_cons_succ, i64_w, i32_w]
    rfl
  refine take_ (i := 12) (N := (some 20)) (v := ?_) (a' := ?_) #[true, true, true, true, true, true, true, true, true, true, true, true, true, false, false, false, false, false, false, false] rfl rfl (by kernel_rfl) (fun _ _ _ h => h) (Or.inl ⟨by rfl, ?_⟩) hHeld ?_ ?_
  rotate_left
  · intro w' hS
    have s0 := pw_cell_below hS b0
    go_simp
    first | done | with_reducible rfl
  rotate_left
  · simp only [Act.put, List.setIfInBounds_toArray, List.set_cons_zero, List.set_cons_succ, i64_w, i32_w]
    rfl
  refine pure_ (i := 13) (N := (some 21)) (v := ?_) (a' := ?_) #[true, true, true, true, true, true, true, true, true, true, true, true, true, true, false, false, false, false, false, false] rfl rfl (by kernel_rfl) (fun _ _ _ h => h) (Or.inl ⟨by rfl, ?_⟩) ?_ ?_
  rotate_left
  · intro w'
    go_simp
    first | done | with_reducible rfl
  rotate_left
  · simp only [Act.put, List.setIfInBounds_toArray, List.set_cons_zero, List.set_cons_succ, i64_w, i32_w]
    rfl
  refine pure_ (i := 14) (N := (some 22)) (v := ?_) (a' := ?_) #[true, true, true, true, true, true, true, true, true, true, true, true, true, true, true, false, false, false, false, false] rfl rfl (by kernel_rfl) (fun _ _ _ h => h) (Or.inl ⟨by rfl, ?_⟩) ?_ ?_
  rotate_left
  · intro w'
    go_simp
    first | done | with_reducible rfl
  rotate_left
  · simp only [Act.put, List.setIfInBounds_toArray, List.set_cons_zero, List.set_cons_succ, i64_w, i32_w]
    rfl
  refine pure_ (i := 15) (N := (some 23)) (v := ?_) (a' := ?_) #[true, true, true, true, true, true, true, true, true, true, true, true, true, true, true, true, false, false, false, false] rfl rfl (by kernel_rfl) (fun _ _ _ h => h) (Or.inl ⟨by rfl, ?_⟩) ?_ ?_
  rotate_left
  · intro w'
    go_simp
    first | done | with_reducible rfl
  rotate_left
  · simp only [Act.put, List.setIfInBounds_toArray, List.set_cons_zero, List.set_cons_succ, i64_w, i32_w]
    rfl
  refine one_ (i := 16) (N := (some 24)) #[true, true, true, true, true, true, true, true, true, true, true, true, true, true, true, true, true, false, false, false] rfl rfl (by kernel_rfl) (by decide) (fun K hK => ?_)
  refine goes_ Try.func96 (by kernel_rfl) rfl #[.slice A l.length c] (by rfl) rfl rfl (by (try simp only [List.map_toArray, List.map_cons, List.map_nil]); first | done | rfl) ?_
  (with_reducible refine (HSH.out _ (Kd.C_below HRD.out hHeld)).mono ?_)
  rintro e wb ⟨rfl, rfl⟩
  refine ⟨_, rfl, ?_⟩
  have hS2 : Below W1.heap.size W1 wb := hHeld
  clear hHeld
  refine hK.out _ _ hS2 (fun hHeld => ?_)
  clear hK K
  refine norm_ (a' := ?_) ?_ ?_
  rotate_left
  · show Act.put _ (some 24) _ = _
    simp only [Act.put, List.setIfInBounds_toArray, List.set_cons_zero, List.set_cons_succ, i64_w, i32_w]
    rfl
  refine pure_ (i := 17) (N := (some 25)) (v := ?_) (a' := ?_) #[true, true, true, true, true, true, true, true, true, true, true, true, true, true, true, true, true, true, false, false] rfl rfl (by kernel_rfl) (fun _ _ _ h => h) (Or.inl ⟨by rfl, ?_⟩) ?_ ?_
  rotate_left
  · intro w'
    go_simp
    first | done | with_reducible rfl
  rotate_left
  · simp only [Act.put, List.setIfInBounds_toArray, List.set_cons_zero, List.set_cons_succ, i64_w, i32_w]
    rfl
  refine pure_ (i := 18) (N := (some 26)) (v := ?_) (a' := ?_) #[true, true, true, true, true, true, true, true, true, true, true, true, true, true, true, true, true, true, true, false] rfl rfl (by kernel_rfl) (fun _ _ _ h => h) (Or.inl ⟨by rfl, ?_⟩) ?_ ?_
  rotate_left
  · intro w'
    go_simp
    first | done | with_reducible rfl
  rotate_left
  · simp only [Act.put, List.setIfInBounds_toArray, List.set_cons_zero, List.set_cons_succ, i64_w, i32_w]
    rfl
  refine pure_ (i := 19) (N := (some 7)) (v := ?_) (a' := ?_) #[true, true, true, true, true, true, true, true, true, true, true, true, true, true, true, true, true, true, true, true] rfl rfl (by kernel_rfl) (fun _ _ _ h => h) (Or.inl ⟨by rfl, ?_⟩) ?_ ?_
  rotate_left
  · intro w'
    go_simp
    first | done | with_reducible rfl
  rotate_left
  · simp only [Act.put, List.setIfInBounds_toArray, List.set_cons_zero, List.set_cons_succ, i64_w, i32_w]
    rfl
  refine done_ (by kernel_rfl) ?_
  have HBW := Aside0.mk (below_step OD.out.below hHeld)
  clear hHeld b0 b1 b2 c0 HRD
  go_wp2_with fail
  go_ret
  exact ⟨rfl, HF.out.below HBW.out, Turn.below HBW.out⟩
set_option maxRecDepth 100000 in
set_option maxHeartbeats 8000000 in
theorem take_b (x0 x1 : Int) (A : Option Addr) (c : Nat) (l : List ByteArray) (h : IsF base w g gt gb s) (hb : base ≤ w.heap.size) (hmax : l.length ≤ maxLen) (hr : Kd.C Kd.string w A l.length l) (hw : (l.length : Int) = wdF s.size x0 x1) (hlen : (tileOf s (x0, x1)).length ≤ l.length) (h0 : 0 < l.length) (h4 : l.length ≤ 4) (hsz : ∀ y ∈ l, y.size ≤ 100000) (w0 : wf x0) (w1 : wf x1) :
    Calls Try.prog 71 #[.pointer (some ⟨g, 0, none⟩), .agg #[.bool true, .int .i64 x0, .int .i64 x1], .slice A l.length c] w fun e w' => e = .returned (.int .i64 (if okB s (x0, x1) l then 0 else 8)) ∧ IsF base w' g gt gb (if okB s (x0, x1) l then putB s x1 l else s) ∧ Turn (Foot g gt gb) w w' := by
  have OW := Aside0.mk (Mem.Own.nil w)
  have HF := Aside0.mk h
  have HR := Aside0.mk hr
  have HB := Aside0.mk hb
  have HMX := Aside0.mk hmax
  have HWD := Aside0.mk (fun W => width_c (s.size : Int) x0 x1 W)
  rw [show inTile x1 (cntv s.size x0) = (l.length : Int) from hw.symm] at HWD
  have hne : ((l.length : Int) != (l.length : Int)) = false := by simp
  have HTB := Aside0.mk (fun W (h : IsF base W g gt gb s) (hb : base ≤ W.heap.size) (hr : Kd.C Kd.string W A l.length l) => takeB_c x0 x1 A c l h hb hlen h0 h4 hsz w0 w1 hr)
  generalize (if okB s (x0, x1) l then (0 : Int) else 8) = cd at *
  generalize (if okB s (x0, x1) l then putB s x1 l else s) = s9 at *
  clear h hr hb hw hlen h0 h4 hsz w0 w1
  go_enter Try.func71, Try.ntmps71
  go_wp2_with (first
    | ((with_reducible refine gate_dst (N := 4) rfl ?_); refine box_event ?hg (N := 4) ?hd (cs := #[.bool true, .int .i64 x0, .int .i64 x1]) (t := 58) ?hr ?_; (case hd => rfl); (case hg => rfl); (case hr => first | (go_simp; done) | (go_simp; rfl)); intro gI hg W_ hb hbb; have n_ : Aside0 (Mem.Own w W_ [(gI, #[.bool true, .int .i64 x0, .int .i64 x1], 58)]) := ⟨OW.out.new hg hb hbb⟩; clear OW hb hbb hg; have OW := n_; clear n_))
  have OD := Aside0.mk OW.out.drew
  have HFD := Aside0.mk ((HF.out.below OW.out.below).drew)
  have HRD := Aside0.mk (Kd.C_drew (Kd.C_below HR.out OW.out.below))
  have b0 : W_.drew.cell? ⟨gI, 0, none⟩ = some (.bool true) := (OD.out.cell 0 rfl 0).trans rfl
  have b1 : W_.drew.cell? ⟨gI, 1, none⟩ = some (.int .i64 x0) := (OD.out.cell 0 rfl 1).trans rfl
  have b2 : W_.drew.cell? ⟨gI, 2, none⟩ = some (.int .i64 x1) := (OD.out.cell 0 rfl 2).trans rfl
  have c0 : W_.drew.cell? ⟨g, 72, none⟩ = some (.int .i64 s.size) := (HFD.out.cell 0).trans rfl
  clear OW
  go_wp2_with fail
  refine start_ (n := 20) (S := fun w' => Below (W_).drew.heap.size (W_).drew w') (ds := []) #[false, false, false, false, false, false, false, false, false, false, false, false, false, false, false, false, false, false, false, false] (by kernel_rfl) rfl rfl (Below.refl _ _) (fun hHeld => ?_)
  generalize (W_).drew = W1 at *
  refine pure_ (i := 0) (N := (some 8)) (v := ?_) (a' := ?_) #[true, false, false, false, false, false, false, false, false, false, false, false, false, false, false, false, false, false, false, false] rfl rfl (by kernel_rfl) (fun _ _ _ h => h) (Or.inl ⟨by rfl, ?_⟩) ?_ ?_
  rotate_left
  · intro w'
    go_simp
    first | done | with_reducible rfl
  rotate_left
  · simp only [Act.put, List.setIfInBounds_toArray, List.set_cons_zero, List.set_cons_succ, i64_w, i32_w]
    rfl
  refine pure_ (i := 1) (N := (some 9)) (v := ?_) (a' := ?_) #[true, true, false, false, false, false, false, false, false, false, false, false, false, false, false, false, false, false, false, false] rfl rfl (by kernel_rfl) (fun _ _ _ h => h) (Or.inl ⟨by rfl, ?_⟩) ?_ ?_
  rotate_left
  · intro w'
    go_simp
    first | done | with_reducible rfl
  rotate_left
  · simp only [Act.put, List.setIfInBounds_toArray, List.set_cons_zero, List.set_cons_succ, i64_w, i32_w]
    rfl
  refine pure_ (i := 2) (N := (some 10)) (v := ?_) (a' := ?_) #[true, true, true, false, false, false, false, false, false, false, false, false, false, false, false, false, false, false, false, false] rfl rfl (by kernel_rfl) (fun _ _ _ h => h) (Or.inl ⟨by rfl, ?_⟩) ?_ ?_
  rotate_left
  · intro w'
    go_simp
    first | done | with_reducible rfl
  rotate_left
  · simp only [Act.put, List.setIfInBounds_toArray, List.set_cons_zero, List.set_cons_succ, i64_w, i32_w]
    rfl
  refine pure_ (i := 3) (N := (some 11)) (v := ?_) (a' := ?_) #[true, true, true, true, false, false, false, false, false, false, false, false, false, false, false, false, false, false, false, false] rfl rfl (by kernel_rfl) (fun _ _ _ h => h) (Or.inl ⟨by rfl, ?_⟩) ?_ ?_
  rotate_left
  · intro w'
    skip
    go_simp
    first | done | with_reducible rfl
  rotate_left
  · simp only [Act.put, List.setIfInBounds_toArray, List.set_cons_zero, List.set_cons_succ, i64_w, i32_w]
    rfl
  refine pure_ (i := 4) (N := (some 12)) (v := ?_) (a' := ?_) #[true, true, true, true, true, false, false, false, false, false, false, false, false, false, false, false, false, false, false, false] rfl rfl (by kernel_rfl) (fun _ _ _ h => h) (Or.inl ⟨by rfl, ?_⟩) ?_ ?_
  rotate_left
  · intro w'
    go_simp
    first | done | with_reducible rfl
  rotate_left
  · simp only [Act.put, List.setIfInBounds_toArray, List.set_cons_zero, List.set_cons_succ, i64_w, i32_w]
    rfl
  refine take_ (i := 5) (N := (some 13)) (v := ?_) (a' := ?_) #[true, true, true, true, true, true, false, false, false, false, false, false, false, false, false, false, false, false, false, false] rfl rfl (by kernel_rfl) (fun _ _ _ h => h) (Or.inl ⟨by rfl, ?_⟩) hHeld ?_ ?_
  rotate_left
  · intro w' hS
    have s0 := pw_cell_below hS c0
    go_simp
    first | done | with_reducible rfl
  rotate_left
  · simp only [Act.put, List.setIfInBounds_toArray, List.set_cons_zero, List.set_cons_succ, i64_w, i32_w]
    rfl
  refine pure_ (i := 6) (N := (some 14)) (v := ?_) (a' := ?_) #[true, true, true, true, true, true, true, false, false, false, false, false, false, false, false, false, false, false, false, false] rfl rfl (by kernel_rfl) (fun _ _ _ h => h) (Or.inl ⟨by rfl, ?_⟩) ?_ ?_
  rotate_left
  · intro w'
    go_simp
    first | done | with_reducible rfl
  rotate_left
  · simp only [Act.put, List.setIfInBounds_toArray, List.set_cons_zero, List.set_cons_succ, i64_w, i32_w]
    rfl
  refine take_ (i := 7) (N := (some 15)) (v := ?_) (a' := ?_) #[true, true, true, true, true, true, true, true, false, false, false, false, false, false, false, false, false, false, false, false] rfl rfl (by kernel_rfl) (fun _ _ _ h => h) (Or.inl ⟨by rfl, ?_⟩) hHeld ?_ ?_
  rotate_left
  · intro w' hS
    have s0 := pw_cell_below hS b1
    have s1 := pw_cell_below hS b2
    go_simp
    first | done | with_reducible rfl
  rotate_left
  · simp only [Act.put, List.setIfInBounds_toArray, List.set_cons_zero, List.set_cons_succ, i64_w, i32_w]
    rfl
  refine one_ (i := 8) (N := (some 16)) #[true, true, true, true, true, true, true, true, true, false, false, false, false, false, false, false, false, false, false, false] rfl rfl (by kernel_rfl) (by decide) (fun K hK => ?_)
  refine goes_ Try.func50 (by kernel_rfl) rfl #[.int .i64 s.size, .agg #[.int .i64 x0, .int .i64 x1]] (by rfl) rfl rfl (by (try simp only [List.map_toArray, List.map_cons, List.map_nil]); first | done | rfl) ?_
  (with_reducible refine (HWD.out _).mono ?_)
  rintro e wa ⟨rfl, hB⟩
  refine ⟨_, rfl, ?_⟩
  have hS2 : Below W1.heap.size W1 wa := below_step hHeld hB
  clear hB hHeld
  refine hK.out _ _ hS2 (fun hHeld => ?_)
  clear hK K
  refine norm_ (a' := ?_) ?_ ?_
  rotate_left
  · show Act.put _ (some 16) _ = _
    simp only [Act.put, List.setIfInBounds_toArray, List.set_cons_zero, List.set_cons_succ, i64_w, i32_w]
    rfl
  refine pure_ (i := 9) (N := (some 17)) (v := ?_) (a' := ?_) #[true, true, true, true, true, true, true, true, true, true, false, false, false, false, false, false, false, false, false, false] rfl rfl (by kernel_rfl) (fun _ _ _ h => h) (Or.inl ⟨by rfl, ?_⟩) ?_ ?_
  rotate_left
  · intro w'
    go_simp
    first | done | with_reducible rfl
  rotate_left
  · simp only [Act.put, List.setIfInBounds_toArray, List.set_cons_zero, List.set_cons_succ, i64_w, i32_w]
    rfl
  refine pure_ (i := 10) (N := (some 18)) (v := ?_) (a' := ?_) #[true, true, true, true, true, true, true, true, true, true, true, false, false, false, false, false, false, false, false, false] rfl rfl (by kernel_rfl) (fun _ _ _ h => h) (Or.inl ⟨by rfl, ?_⟩) ?_ ?_
  rotate_left
  · intro w'
    go_simp
    first | done | with_reducible rfl
  rotate_left
  · simp only [Act.put, List.setIfInBounds_toArray, List.set_cons_zero, List.set_cons_succ, i64_w, i32_w]
    rfl
  refine pure_ (i := 11) (N := (some 19)) (v := ?_) (a' := ?_) #[true, true, true, true, true, true, true, true, true, true, true, true, false, false, false, false, false, false, false, false] rfl rfl (by kernel_rfl) (fun _ _ _ h => h) (Or.inl ⟨by rfl, ?_⟩) ?_ ?_
  rotate_left
  · intro w'
    go_simp
    first | done | with_reducible rfl
  rotate_left
  · simp only [Act.put, List.setIfInBounds_toArray, List.set_cons_zero, List.set_cons_succ, i64_w, i32_w]
    rfl
  refine take_ (i := 12) (N := (some 20)) (v := ?_) (a' := ?_) #[true, true, true, true, true, true, true, true, true, true, true, true, true, false, false, false, false, false, false, false] rfl rfl (by kernel_rfl) (fun _ _ _ h => h) (Or.inl ⟨by rfl, ?_⟩) hHeld ?_ ?_
  rotate_left
  · intro w' hS
    have s0 := pw_cell_below hS b0
    go_simp
    first | done | with_reducible rfl
  rotate_left
  · simp only [Act.put, List.setIfInBounds_toArray, List.set_cons_zero, List.set_cons_succ, i64_w, i32_w]
    rfl
  refine pure_ (i := 13) (N := (some 21)) (v := ?_) (a' := ?_) #[true, true, true, true, true, true, true, true, true, true, true, true, true, true, false, false, false, false, false, false] rfl rfl (by kernel_rfl) (fun _ _ _ h => h) (Or.inl ⟨by rfl, ?_⟩) ?_ ?_
  rotate_left
  · intro w'
    go_simp
    first | done | with_reducible rfl
  rotate_left
  · simp only [Act.put, List.setIfInBounds_toArray, List.set_cons_zero, List.set_cons_succ, i64_w, i32_w]
    rfl
  refine pure_ (i := 14) (N := (some 22)) (v := ?_) (a' := ?_) #[true, true, true, true, true, true, true, true, true, true, true, true, true, true, true, false, false, false, false, false] rfl rfl (by kernel_rfl) (fun _ _ _ h => h) (Or.inl ⟨by rfl, ?_⟩) ?_ ?_
  rotate_left
  · intro w'
    go_simp
    first | done | with_reducible rfl
  rotate_left
  · simp only [Act.put, List.setIfInBounds_toArray, List.set_cons_zero, List.set_cons_succ, i64_w, i32_w]
    rfl
  refine pure_ (i := 15) (N := (some 23)) (v := undef) (a' := ?_) #[true, true, true, true, true, true, true, true, true, true, true, true, true, true, true, true, false, false, false, false] rfl rfl (by kernel_rfl) (fun _ _ _ h => h) (Or.inr ⟨by rfl, rfl⟩) ?_ ?_
  rotate_left
  · simp only [Act.put, List.setIfInBounds_toArray, List.set_cons_zero, List.set_cons_succ, i64_w, i32_w]
    rfl
  refine pure_ (i := 16) (N := (some 24)) (v := undef) (a' := ?_) #[true, true, true, true, true, true, true, true, true, true, true, true, true, true, true, true, true, false, false, false] rfl rfl (by kernel_rfl) (fun _ _ _ h => h) (Or.inr ⟨by rfl, rfl⟩) ?_ ?_
  rotate_left
  · simp only [Act.put, List.setIfInBounds_toArray, List.set_cons_zero, List.set_cons_succ, i64_w, i32_w]
    rfl
  refine pure_ (i := 17) (N := (some 25)) (v := ?_) (a' := ?_) #[true, true, true, true, true, true, true, true, true, true, true, true, true, true, true, true, true, true, false, false] rfl rfl (by kernel_rfl) (fun _ _ _ h => h) (Or.inl ⟨by rfl, ?_⟩) ?_ ?_
  rotate_left
  · intro w'
    go_simp
    first | done | with_reducible rfl
  rotate_left
  · simp only [Act.put, List.setIfInBounds_toArray, List.set_cons_zero, List.set_cons_succ, i64_w, i32_w]
    rfl
  refine pure_ (i := 18) (N := (some 26)) (v := ?_) (a' := ?_) #[true, true, true, true, true, true, true, true, true, true, true, true, true, true, true, true, true, true, true, false] rfl rfl (by kernel_rfl) (fun _ _ _ h => h) (Or.inl ⟨by rfl, ?_⟩) ?_ ?_
  rotate_left
  · intro w'
    go_simp
    first | done | with_reducible rfl
  rotate_left
  · simp only [Act.put, List.setIfInBounds_toArray, List.set_cons_zero, List.set_cons_succ, i64_w, i32_w]
    rfl
  refine pure_ (i := 19) (N := (some 7)) (v := ?_) (a' := ?_) #[true, true, true, true, true, true, true, true, true, true, true, true, true, true, true, true, true, true, true, true] rfl rfl (by kernel_rfl) (fun _ _ _ h => h) (Or.inl ⟨by rfl, ?_⟩) ?_ ?_
  rotate_left
  · intro w'
    go_simp
    first | done | with_reducible rfl
  rotate_left
  · simp only [Act.put, List.setIfInBounds_toArray, List.set_cons_zero, List.set_cons_succ, i64_w, i32_w]
    rfl
  refine done_ (by kernel_rfl) ?_
  have OE := Aside0.mk (OD.out.step hHeld)
  have HF1 := Aside0.mk (HFD.out.below hHeld)
  have HR1 := Aside0.mk (Kd.C_below HRD.out hHeld)
  have i0 := (OE.out.cell 0 rfl 0).trans rfl
  have i1 := (OE.out.cell 0 rfl 1).trans rfl
  have i2 := (OE.out.cell 0 rfl 2).trans rfl
  clear OD HFD HRD hHeld b0 b1 b2 c0
  go_wp2_with (first
    | (go_at_call 97; (with_reducible refine (HTB.out _ HF1.out (Nat.le_trans HB.out OE.out.size) HR1.out).mono ?_); rintro e wz ⟨rfl, hI, hT⟩; have HI := Aside0.mk hI; have HT := Aside0.mk ((Turn.below OE.out.below).trans hT); clear hI hT i0 i1 i2))
  go_ret
  exact ⟨rfl, HI.out, HT.out⟩
set_option maxRecDepth 100000 in
set_option maxHeartbeats 8000000 in
theorem take_e (x0 x1 : Int) (A : Option Addr) (c : Nat) (l : List ByteArray) (h : IsF base w g gt gb s) (hb : base ≤ w.heap.size) (hmax : l.length ≤ maxLen) (hr : Kd.C Kd.string w A l.length l) (hv : InvF s) (hw : (l.length : Int) = wdF s.size x0 x1) (h0 : 0 < l.length) (h4 : l.length ≤ 4) (h32 : A32 l) (he : edB s.size (x0, x1) = true) (w0 : wf x0) (w1 : wf x1) :
    Calls Try.prog 71 #[.pointer (some ⟨g, 0, none⟩), .agg #[.bool false, .int .i64 x0, .int .i64 x1], .slice A l.length c] w fun e w' => e = .returned (.int .i64 (if okE (putT s (x0, x1) l) then 0 else 8)) ∧ IsF base w' g gt gb (if okE (putT s (x0, x1) l) then putT s (x0, x1) l else dropE (putT s (x0, x1) l)) ∧ Turn (Foot g gt gb) w w' := by
  have OW := Aside0.mk (Mem.Own.nil w)
  have HF := Aside0.mk h
  have HR := Aside0.mk hr
  have HB := Aside0.mk hb
  have HMX := Aside0.mk hmax
  have HWD := Aside0.mk (fun W => width_c (s.size : Int) x0 x1 W)
  rw [show inTile x1 (cntv s.size x0) = (l.length : Int) from hw.symm] at HWD
  have hne : ((l.length : Int) != (l.length : Int)) = false := by simp
  have HSH := Aside0.mk (fun W (h : Kd.C Kd.string W A l.length l) => short_c A c l W HMX.out h)
  rw [show all32 l = true from List.all_eq_true.2 (fun y hy => by rw [h32 y hy]; rfl)] at HSH
  have HED := Aside0.mk (fun W (h : IsF base W g gt gb s) => edge1_f base g gt gb s x0 x1 W h)
  rw [he] at HED
  have HTE := Aside0.mk (fun W (h : IsF base W g gt gb s) (hb : base ≤ W.heap.size) (hr : Kd.C Kd.string W A l.length l) => takeE_c x0 x1 A c l h hv hb hw h0 h4 h32 w0 w1 hr)
  generalize (if okE (putT s (x0, x1) l) then (0 : Int) else 8) = cd at *
  generalize (if okE (putT s (x0, x1) l) then putT s (x0, x1) l else dropE (putT s (x0, x1) l)) = s9 at *
  clear h hr hb hv hw h0 h4 h32 he w0 w1
  go_enter Try.func71, Try.ntmps71
  go_wp2_with (first
    | ((with_reducible refine gate_dst (N := 4) rfl ?_); refine box_event ?hg (N := 4) ?hd (cs := #[.bool false, .int .i64 x0, .int .i64 x1]) (t := 58) ?hr ?_; (case hd => rfl); (case hg => rfl); (case hr => first | (go_simp; done) | (go_simp; rfl)); intro gI hg W_ hb hbb; have n_ : Aside0 (Mem.Own w W_ [(gI, #[.bool false, .int .i64 x0, .int .i64 x1], 58)]) := ⟨OW.out.new hg hb hbb⟩; clear OW hb hbb hg; have OW := n_; clear n_))
  have OD := Aside0.mk OW.out.drew
  have HFD := Aside0.mk ((HF.out.below OW.out.below).drew)
  have HRD := Aside0.mk (Kd.C_drew (Kd.C_below HR.out OW.out.below))
  have b0 : W_.drew.cell? ⟨gI, 0, none⟩ = some (.bool false) := (OD.out.cell 0 rfl 0).trans rfl
  have b1 : W_.drew.cell? ⟨gI, 1, none⟩ = some (.int .i64 x0) := (OD.out.cell 0 rfl 1).trans rfl
  have b2 : W_.drew.cell? ⟨gI, 2, none⟩ = some (.int .i64 x1) := (OD.out.cell 0 rfl 2).trans rfl
  have c0 : W_.drew.cell? ⟨g, 72, none⟩ = some (.int .i64 s.size) := (HFD.out.cell 0).trans rfl
  clear OW
  go_wp2_with fail
  refine start_ (n := 20) (S := fun w' => Below (W_).drew.heap.size (W_).drew w') (ds := []) #[false, false, false, false, false, false, false, false, false, false, false, false, false, false, false, false, false, false, false, false] (by kernel_rfl) rfl rfl (Below.refl _ _) (fun hHeld => ?_)
  generalize (W_).drew = W1 at *
  refine pure_ (i := 0) (N := (some 8)) (v := ?_) (a' := ?_) #[true, false, false, false, false, false, false, false, false, false, false, false, false, false, false, false, false, false, false, false] rfl rfl (by kernel_rfl) (fun _ _ _ h => h) (Or.inl ⟨by rfl, ?_⟩) ?_ ?_
  rotate_left
  · intro w'
    go_simp
    first | done | with_reducible rfl
  rotate_left
  · simp only [Act.put, List.setIfInBounds_toArray, List.set_cons_zero, List.set_cons_succ, i64_w, i32_w]
    rfl
  refine pure_ (i := 1) (N := (some 9)) (v := ?_) (a' := ?_) #[true, true, false, false, false, false, false, false, false, false, false, false, false, false, false, false, false, false, false, false] rfl rfl (by kernel_rfl) (fun _ _ _ h => h) (Or.inl ⟨by rfl, ?_⟩) ?_ ?_
  rotate_left
  · intro w'
    go_simp
    first | done | with_reducible rfl
  rotate_left
  · simp only [Act.put, List.setIfInBounds_toArray, List.set_cons_zero, List.set_cons_succ, i64_w, i32_w]
    rfl
  refine pure_ (i := 2) (N := (some 10)) (v := ?_) (a' := ?_) #[true, true, true, false, false, false, false, false, false, false, false, false, false, false, false, false, false, false, false, false] rfl rfl (by kernel_rfl) (fun _ _ _ h => h) (Or.inl ⟨by rfl, ?_⟩) ?_ ?_
  rotate_left
  · intro w'
    go_simp
    first | done | with_reducible rfl
  rotate_left
  · simp only [Act.put, List.setIfInBounds_toArray, List.set_cons_zero, List.set_cons_succ, i64_w, i32_w]
    rfl
  refine pure_ (i := 3) (N := (some 11)) (v := ?_) (a' := ?_) #[true, true, true, true, false, false, false, false, false, false, false, false, false, false, false, false, false, false, false, false] rfl rfl (by kernel_rfl) (fun _ _ _ h => h) (Or.inl ⟨by rfl, ?_⟩) ?_ ?_
  rotate_left
  · intro w'
    skip
    go_simp
    first | done | with_reducible rfl
  rotate_left
  · simp only [Act.put, List.setIfInBounds_toArray, List.set_cons_zero, List.set_cons_succ, i64_w, i32_w]
    rfl
  refine pure_ (i := 4) (N := (some 12)) (v := ?_) (a' := ?_) #[true, true, true, true, true, false, false, false, false, false, false, false, false, false, false, false, false, false, false, false] rfl rfl (by kernel_rfl) (fun _ _ _ h => h) (Or.inl ⟨by rfl, ?_⟩) ?_ ?_
  rotate_left
  · intro w'
    go_simp
    first | done | with_reducible rfl
  rotate_left
  · simp only [Act.put, List.setIfInBounds_toArray, List.set_cons_zero, List.set_cons_succ, i64_w, i32_w]
    rfl
  refine take_ (i := 5) (N := (some 13)) (v := ?_) (a' := ?_) #[true, true, true, true, true, true, false, false, false, false, false, false, false, false, false, false, false, false, false, false] rfl rfl (by kernel_rfl) (fun _ _ _ h => h) (Or.inl ⟨by rfl, ?_⟩) hHeld ?_ ?_
  rotate_left
  · intro w' hS
    have s0 := pw_cell_below hS c0
    go_simp
    first | done | with_reducible rfl
  rotate_left
  · simp only [Act.put, List.setIfInBounds_toArray, List.set_cons_zero, List.set_cons_succ, i64_w, i32_w]
    rfl
  refine pure_ (i := 6) (N := (some 14)) (v := ?_) (a' := ?_) #[true, true, true, true, true, true, true, false, false, false, false, false, false, false, false, false, false, false, false, false] rfl rfl (by kernel_rfl) (fun _ _ _ h => h) (Or.inl ⟨by rfl, ?_⟩) ?_ ?_
  rotate_left
  · intro w'
    go_simp
    first | done | with_reducible rfl
  rotate_left
  · simp only [Act.put, List.setIfInBounds_toArray, List.set_cons_zero, List.set_cons_succ, i64_w, i32_w]
    rfl
  refine take_ (i := 7) (N := (some 15)) (v := ?_) (a' := ?_) #[true, true, true, true, true, true, true, true, false, false, false, false, false, false, false, false, false, false, false, false] rfl rfl (by kernel_rfl) (fun _ _ _ h => h) (Or.inl ⟨by rfl, ?_⟩) hHeld ?_ ?_
  rotate_left
  · intro w' hS
    have s0 := pw_cell_below hS b1
    have s1 := pw_cell_below hS b2
    go_simp
    first | done | with_reducible rfl
  rotate_left
  · simp only [Act.put, List.setIfInBounds_toArray, List.set_cons_zero, List.set_cons_succ, i64_w, i32_w]
    rfl
  refine one_ (i := 8) (N := (some 16)) #[true, true, true, true, true, true, true, true, true, false, false, false, false, false, false, false, false, false, false, false] rfl rfl (by kernel_rfl) (by decide) (fun K hK => ?_)
  refine goes_ Try.func50 (by kernel_rfl) rfl #[.int .i64 s.size, .agg #[.int .i64 x0, .int .i64 x1]] (by rfl) rfl rfl (by (try simp only [List.map_toArray, List.map_cons, List.map_nil]); first | done | rfl) ?_
  (with_reducible refine (HWD.out _).mono ?_)
  rintro e wa ⟨rfl, hB⟩
  refine ⟨_, rfl, ?_⟩
  have hS2 : Below W1.heap.size W1 wa := below_step hHeld hB
  clear hB hHeld
  refine hK.out _ _ hS2 (fun hHeld => ?_)
  clear hK K
  refine norm_ (a' := ?_) ?_ ?_
  rotate_left
  · show Act.put _ (some 16) _ = _
    simp only [Act.put, List.setIfInBounds_toArray, List.set_cons_zero, List.set_cons_succ, i64_w, i32_w]
    rfl
  refine pure_ (i := 9) (N := (some 17)) (v := ?_) (a' := ?_) #[true, true, true, true, true, true, true, true, true, true, false, false, false, false, false, false, false, false, false, false] rfl rfl (by kernel_rfl) (fun _ _ _ h => h) (Or.inl ⟨by rfl, ?_⟩) ?_ ?_
  rotate_left
  · intro w'
    go_simp
    first | done | with_reducible rfl
  rotate_left
  · simp only [Act.put, List.setIfInBounds_toArray, List.set_cons_zero, List.set_cons_succ, i64_w, i32_w]
    rfl
  refine pure_ (i := 10) (N := (some 18)) (v := ?_) (a' := ?_) #[true, true, true, true, true, true, true, true, true, true, true, false, false, false, false, false, false, false, false, false] rfl rfl (by kernel_rfl) (fun _ _ _ h => h) (Or.inl ⟨by rfl, ?_⟩) ?_ ?_
  rotate_left
  · intro w'
    go_simp
    first | done | with_reducible rfl
  rotate_left
  · simp only [Act.put, List.setIfInBounds_toArray, List.set_cons_zero, List.set_cons_succ, i64_w, i32_w]
    rfl
  refine pure_ (i := 11) (N := (some 19)) (v := ?_) (a' := ?_) #[true, true, true, true, true, true, true, true, true, true, true, true, false, false, false, false, false, false, false, false] rfl rfl (by kernel_rfl) (fun _ _ _ h => h) (Or.inl ⟨by rfl, ?_⟩) ?_ ?_
  rotate_left
  · intro w'
    go_simp
    first | done | with_reducible rfl
  rotate_left
  · simp only [Act.put, List.setIfInBounds_toArray, List.set_cons_zero, List.set_cons_succ, i64_w, i32_w]
    rfl
  refine take_ (i := 12) (N := (some 20)) (v := ?_) (a' := ?_) #[true, true, true, true, true, true, true, true, true, true, true, true, true, false, false, false, false, false, false, false] rfl rfl (by kernel_rfl) (fun _ _ _ h => h) (Or.inl ⟨by rfl, ?_⟩) hHeld ?_ ?_
  rotate_left
  · intro w' hS
    have s0 := pw_cell_below hS b0
    go_simp
    first | done | with_reducible rfl
  rotate_left
  · simp only [Act.put, List.setIfInBounds_toArray, List.set_cons_zero, List.set_cons_succ, i64_w, i32_w]
    rfl
  refine pure_ (i := 13) (N := (some 21)) (v := ?_) (a' := ?_) #[true, true, true, true, true, true, true, true, true, true, true, true, true, true, false, false, false, false, false, false] rfl rfl (by kernel_rfl) (fun _ _ _ h => h) (Or.inl ⟨by rfl, ?_⟩) ?_ ?_
  rotate_left
  · intro w'
    go_simp
    first | done | with_reducible rfl
  rotate_left
  · simp only [Act.put, List.setIfInBounds_toArray, List.set_cons_zero, List.set_cons_succ, i64_w, i32_w]
    rfl
  refine pure_ (i := 14) (N := (some 22)) (v := ?_) (a' := ?_) #[true, true, true, true, true, true, true, true, true, true, true, true, true, true, true, false, false, false, false, false] rfl rfl (by kernel_rfl) (fun _ _ _ h => h) (Or.inl ⟨by rfl, ?_⟩) ?_ ?_
  rotate_left
  · intro w'
    go_simp
    first | done | with_reducible rfl
  rotate_left
  · simp only [Act.put, List.setIfInBounds_toArray, List.set_cons_zero, List.set_cons_succ, i64_w, i32_w]
    rfl
  refine pure_ (i := 15) (N := (some 23)) (v := ?_) (a' := ?_) #[true, true, true, true, true, true, true, true, true, true, true, true, true, true, true, true, false, false, false, false] rfl rfl (by kernel_rfl) (fun _ _ _ h => h) (Or.inl ⟨by rfl, ?_⟩) ?_ ?_
  rotate_left
  · intro w'
    go_simp
    first | done | with_reducible rfl
  rotate_left
  · simp only [Act.put, List.setIfInBounds_toArray, List.set_cons_zero, List.set_cons_succ, i64_w, i32_w]
    rfl
  refine one_ (i := 16) (N := (some 24)) #[true, true, true, true, true, true, true, true, true, true, true, true, true, true, true, true, true, false, false, false] rfl rfl (by kernel_rfl) (by decide) (fun K hK => ?_)
  refine goes_ Try.func96 (by kernel_rfl) rfl #[.slice A l.length c] (by rfl) rfl rfl (by (try simp only [List.map_toArray, List.map_cons, List.map_nil]); first | done | rfl) ?_
  (with_reducible refine (HSH.out _ (Kd.C_below HRD.out hHeld)).mono ?_)
  rintro e wb ⟨rfl, rfl⟩
  refine ⟨_, rfl, ?_⟩
  have hS2 : Below W1.heap.size W1 wb := hHeld
  clear hHeld
  refine hK.out _ _ hS2 (fun hHeld => ?_)
  clear hK K
  refine norm_ (a' := ?_) ?_ ?_
  rotate_left
  · show Act.put _ (some 24) _ = _
    simp only [Act.put, List.setIfInBounds_toArray, List.set_cons_zero, List.set_cons_succ, i64_w, i32_w]
    rfl
  refine pure_ (i := 17) (N := (some 25)) (v := ?_) (a' := ?_) #[true, true, true, true, true, true, true, true, true, true, true, true, true, true, true, true, true, true, false, false] rfl rfl (by kernel_rfl) (fun _ _ _ h => h) (Or.inl ⟨by rfl, ?_⟩) ?_ ?_
  rotate_left
  · intro w'
    go_simp
    first | done | with_reducible rfl
  rotate_left
  · simp only [Act.put, List.setIfInBounds_toArray, List.set_cons_zero, List.set_cons_succ, i64_w, i32_w]
    rfl
  refine pure_ (i := 18) (N := (some 26)) (v := ?_) (a' := ?_) #[true, true, true, true, true, true, true, true, true, true, true, true, true, true, true, true, true, true, true, false] rfl rfl (by kernel_rfl) (fun _ _ _ h => h) (Or.inl ⟨by rfl, ?_⟩) ?_ ?_
  rotate_left
  · intro w'
    go_simp
    first | done | with_reducible rfl
  rotate_left
  · simp only [Act.put, List.setIfInBounds_toArray, List.set_cons_zero, List.set_cons_succ, i64_w, i32_w]
    rfl
  refine pure_ (i := 19) (N := (some 7)) (v := ?_) (a' := ?_) #[true, true, true, true, true, true, true, true, true, true, true, true, true, true, true, true, true, true, true, true] rfl rfl (by kernel_rfl) (fun _ _ _ h => h) (Or.inl ⟨by rfl, ?_⟩) ?_ ?_
  rotate_left
  · intro w'
    go_simp
    first | done | with_reducible rfl
  rotate_left
  · simp only [Act.put, List.setIfInBounds_toArray, List.set_cons_zero, List.set_cons_succ, i64_w, i32_w]
    rfl
  refine done_ (by kernel_rfl) ?_
  have OE := Aside0.mk (OD.out.step hHeld)
  have HF1 := Aside0.mk (HFD.out.below hHeld)
  have HR1 := Aside0.mk (Kd.C_below HRD.out hHeld)
  have i0 := (OE.out.cell 0 rfl 0).trans rfl
  have i1 := (OE.out.cell 0 rfl 1).trans rfl
  have i2 := (OE.out.cell 0 rfl 2).trans rfl
  clear OD HFD HRD hHeld b0 b1 b2 c0
  go_wp2_with (first
    | (go_at_call 95; (with_reducible refine (HED.out _ HF1.out).mono ?_); rintro e wy ⟨rfl, hB⟩; have n1 := Aside0.mk (OE.out.step hB); have n2 := Aside0.mk (HF1.out.below hB); have n3 := Aside0.mk (Kd.C_below HR1.out hB); clear OE HF1 HR1 hB i0 i1 i2; have OE := n1; have HF1 := n2; have HR1 := n3; clear n1 n2 n3; have i1 := (OE.out.cell 0 rfl 1).trans rfl; have i2 := (OE.out.cell 0 rfl 2).trans rfl)
    | (go_at_call 98; (with_reducible refine (HTE.out _ HF1.out (Nat.le_trans HB.out OE.out.size) HR1.out).mono ?_); rintro e wz ⟨rfl, hI, hT⟩; have HI := Aside0.mk hI; have HT := Aside0.mk ((Turn.below OE.out.below).trans hT); clear hI hT i1 i2))
  go_ret
  exact ⟨rfl, HI.out, HT.out⟩
set_option maxRecDepth 100000 in
set_option maxHeartbeats 8000000 in
theorem take_f (k i : Nat) (A : Option Addr) (c : Nat) (l : List ByteArray) (h : IsF base w g gt gb s) (hb : base ≤ w.heap.size) (hmax : l.length ≤ maxLen) (hr : Kd.C Kd.string w A l.length l) (hk3 : k ≤ 3) (hi16 : i ≤ 16) (hw : (l.length : Int) = wdF s.size (k : Int) (i : Int)) (h4 : l.length = 4) (hc4 : 4 ≤ c) (h32 : A32 l) (he : edB s.size ((k : Int), (i : Int)) = false) :
    Calls Try.prog 71 #[.pointer (some ⟨g, 0, none⟩), .agg #[.bool false, .int .i64 (k : Int), .int .i64 (i : Int)], .slice A l.length c] w fun e w' => e = .returned (.int .i64 (if okF s k i l then 0 else 8)) ∧ IsF base w' g gt gb (if okF s k i l then putT s ((k : Int), (i : Int)) l else s) ∧ Turn (Foot g gt gb) w w' := by
  have OW := Aside0.mk (Mem.Own.nil w)
  have HF := Aside0.mk h
  have HR := Aside0.mk hr
  have HB := Aside0.mk hb
  have HMX := Aside0.mk hmax
  have HWD := Aside0.mk (fun W => width_c (s.size : Int) (k : Int) (i : Int) W)
  rw [show inTile (i : Int) (cntv s.size (k : Int)) = (l.length : Int) from hw.symm] at HWD
  have hne : ((l.length : Int) != (l.length : Int)) = false := by simp
  have HSH := Aside0.mk (fun W (h : Kd.C Kd.string W A l.length l) => short_c A c l W HMX.out h)
  rw [show all32 l = true from List.all_eq_true.2 (fun y hy => by rw [h32 y hy]; rfl)] at HSH
  have HED := Aside0.mk (fun W (h : IsF base W g gt gb s) => edge1_f base g gt gb s (k : Int) (i : Int) W h)
  rw [he] at HED
  have HTE := Aside0.mk (fun W (h : IsF base W g gt gb s) (hb : base ≤ W.heap.size) (hr : Kd.C Kd.string W A l.length l) => takeF_c k i A c l h hb h4 h32 hk3 hi16 hc4 (by rw [h4] at hr; exact hr))
  have HL4 := Aside0.mk h4
  generalize (if okF s k i l then (0 : Int) else 8) = cd at *
  generalize (if okF s k i l then putT s ((k : Int), (i : Int)) l else s) = s9 at *
  clear h hr hb hw hk3 hi16 h4 h32 he hc4
  go_enter Try.func71, Try.ntmps71
  go_wp2_with (first
    | ((with_reducible refine gate_dst (N := 4) rfl ?_); refine box_event ?hg (N := 4) ?hd (cs := #[.bool false, .int .i64 (k : Int), .int .i64 (i : Int)]) (t := 58) ?hr ?_; (case hd => rfl); (case hg => rfl); (case hr => first | (go_simp; done) | (go_simp; rfl)); intro gI hg W_ hb hbb; have n_ : Aside0 (Mem.Own w W_ [(gI, #[.bool false, .int .i64 (k : Int), .int .i64 (i : Int)], 58)]) := ⟨OW.out.new hg hb hbb⟩; clear OW hb hbb hg; have OW := n_; clear n_))
  have OD := Aside0.mk OW.out.drew
  have HFD := Aside0.mk ((HF.out.below OW.out.below).drew)
  have HRD := Aside0.mk (Kd.C_drew (Kd.C_below HR.out OW.out.below))
  have b0 : W_.drew.cell? ⟨gI, 0, none⟩ = some (.bool false) := (OD.out.cell 0 rfl 0).trans rfl
  have b1 : W_.drew.cell? ⟨gI, 1, none⟩ = some (.int .i64 (k : Int)) := (OD.out.cell 0 rfl 1).trans rfl
  have b2 : W_.drew.cell? ⟨gI, 2, none⟩ = some (.int .i64 (i : Int)) := (OD.out.cell 0 rfl 2).trans rfl
  have c0 : W_.drew.cell? ⟨g, 72, none⟩ = some (.int .i64 s.size) := (HFD.out.cell 0).trans rfl
  clear OW
  go_wp2_with fail
  refine start_ (n := 20) (S := fun w' => Below (W_).drew.heap.size (W_).drew w') (ds := []) #[false, false, false, false, false, false, false, false, false, false, false, false, false, false, false, false, false, false, false, false] (by kernel_rfl) rfl rfl (Below.refl _ _) (fun hHeld => ?_)
  generalize (W_).drew = W1 at *
  refine pure_ (i := 0) (N := (some 8)) (v := ?_) (a' := ?_) #[true, false, false, false, false, false, false, false, false, false, false, false, false, false, false, false, false, false, false, false] rfl rfl (by kernel_rfl) (fun _ _ _ h => h) (Or.inl ⟨by rfl, ?_⟩) ?_ ?_
  rotate_left
  · intro w'
    go_simp
    first | done | with_reducible rfl
  rotate_left
  · simp only [Act.put, List.setIfInBounds_toArray, List.set_cons_zero, List.set_cons_succ, i64_w, i32_w]
    rfl
  refine pure_ (i := 1) (N := (some 9)) (v := ?_) (a' := ?_) #[true, true, false, false, false, false, false, false, false, false, false, false, false, false, false, false, false, false, false, false] rfl rfl (by kernel_rfl) (fun _ _ _ h => h) (Or.inl ⟨by rfl, ?_⟩) ?_ ?_
  rotate_left
  · intro w'
    go_simp
    first | done | with_reducible rfl
  rotate_left
  · simp only [Act.put, List.setIfInBounds_toArray, List.set_cons_zero, List.set_cons_succ, i64_w, i32_w]
    rfl
  refine pure_ (i := 2) (N := (some 10)) (v := ?_) (a' := ?_) #[true, true, true, false, false, false, false, false, false, false, false, false, false, false, false, false, false, false, false, false] rfl rfl (by kernel_rfl) (fun _ _ _ h => h) (Or.inl ⟨by rfl, ?_⟩) ?_ ?_
  rotate_left
  · intro w'
    go_simp
    first | done | with_reducible rfl
  rotate_left
  · simp only [Act.put, List.setIfInBounds_toArray, List.set_cons_zero, List.set_cons_succ, i64_w, i32_w]
    rfl
  refine pure_ (i := 3) (N := (some 11)) (v := ?_) (a' := ?_) #[true, true, true, true, false, false, false, false, false, false, false, false, false, false, false, false, false, false, false, false] rfl rfl (by kernel_rfl) (fun _ _ _ h => h) (Or.inl ⟨by rfl, ?_⟩) ?_ ?_
  rotate_left
  · intro w'
    skip
    go_simp
    first | done | with_reducible rfl
  rotate_left
  · simp only [Act.put, List.setIfInBounds_toArray, List.set_cons_zero, List.set_cons_succ, i64_w, i32_w]
    rfl
  refine pure_ (i := 4) (N := (some 12)) (v := ?_) (a' := ?_) #[true, true, true, true, true, false, false, false, false, false, false, false, false, false, false, false, false, false, false, false] rfl rfl (by kernel_rfl) (fun _ _ _ h => h) (Or.inl ⟨by rfl, ?_⟩) ?_ ?_
  rotate_left
  · intro w'
    go_simp
    first | done | with_reducible rfl
  rotate_left
  · simp only [Act.put, List.setIfInBounds_toArray, List.set_cons_zero, List.set_cons_succ, i64_w, i32_w]
    rfl
  refine take_ (i := 5) (N := (some 13)) (v := ?_) (a' := ?_) #[true, true, true, true, true, true, false, false, false, false, false, false, false, false, false, false, false, false, false, false] rfl rfl (by kernel_rfl) (fun _ _ _ h => h) (Or.inl ⟨by rfl, ?_⟩) hHeld ?_ ?_
  rotate_left
  · intro w' hS
    have s0 := pw_cell_below hS c0
    go_simp
    first | done | with_reducible rfl
  rotate_left
  · simp only [Act.put, List.setIfInBounds_toArray, List.set_cons_zero, List.set_cons_succ, i64_w, i32_w]
    rfl
  refine pure_ (i := 6) (N := (some 14)) (v := ?_) (a' := ?_) #[true, true, true, true, true, true, true, false, false, false, false, false, false, false, false, false, false, false, false, false] rfl rfl (by kernel_rfl) (fun _ _ _ h => h) (Or.inl ⟨by rfl, ?_⟩) ?_ ?_
  rotate_left
  · intro w'
    go_simp
    first | done | with_reducible rfl
  rotate_left
  · simp only [Act.put, List.setIfInBounds_toArray, List.set_cons_zero, List.set_cons_succ, i64_w, i32_w]
    rfl
  refine take_ (i := 7) (N := (some 15)) (v := ?_) (a' := ?_) #[true, true, true, true, true, true, true, true, false, false, false, false, false, false, false, false, false, false, false, false] rfl rfl (by kernel_rfl) (fun _ _ _ h => h) (Or.inl ⟨by rfl, ?_⟩) hHeld ?_ ?_
  rotate_left
  · intro w' hS
    have s0 := pw_cell_below hS b1
    have s1 := pw_cell_below hS b2
    go_simp
    first | done | with_reducible rfl
  rotate_left
  · simp only [Act.put, List.setIfInBounds_toArray, List.set_cons_zero, List.set_cons_succ, i64_w, i32_w]
    rfl
  refine one_ (i := 8) (N := (some 16)) #[true, true, true, true, true, true, true, true, true, false, false, false, false, false, false, false, false, false, false, false] rfl rfl (by kernel_rfl) (by decide) (fun K hK => ?_)
  refine goes_ Try.func50 (by kernel_rfl) rfl #[.int .i64 s.size, .agg #[.int .i64 (k : Int), .int .i64 (i : Int)]] (by rfl) rfl rfl (by (try simp only [List.map_toArray, List.map_cons, List.map_nil]); first | done | rfl) ?_
  (with_reducible refine (HWD.out _).mono ?_)
  rintro e wa ⟨rfl, hB⟩
  refine ⟨_, rfl, ?_⟩
  have hS2 : Below W1.heap.size W1 wa := below_step hHeld hB
  clear hB hHeld
  refine hK.out _ _ hS2 (fun hHeld => ?_)
  clear hK K
  refine norm_ (a' := ?_) ?_ ?_
  rotate_left
  · show Act.put _ (some 16) _ = _
    simp only [Act.put, List.setIfInBounds_toArray, List.set_cons_zero, List.set_cons_succ, i64_w, i32_w]
    rfl
  refine pure_ (i := 9) (N := (some 17)) (v := ?_) (a' := ?_) #[true, true, true, true, true, true, true, true, true, true, false, false, false, false, false, false, false, false, false, false] rfl rfl (by kernel_rfl) (fun _ _ _ h => h) (Or.inl ⟨by rfl, ?_⟩) ?_ ?_
  rotate_left
  · intro w'
    go_simp
    first | done | with_reducible rfl
  rotate_left
  · simp only [Act.put, List.setIfInBounds_toArray, List.set_cons_zero, List.set_cons_succ, i64_w, i32_w]
    rfl
  refine pure_ (i := 10) (N := (some 18)) (v := ?_) (a' := ?_) #[true, true, true, true, true, true, true, true, true, true, true, false, false, false, false, false, false, false, false, false] rfl rfl (by kernel_rfl) (fun _ _ _ h => h) (Or.inl ⟨by rfl, ?_⟩) ?_ ?_
  rotate_left
  · intro w'
    go_simp
    first | done | with_reducible rfl
  rotate_left
  · simp only [Act.put, List.setIfInBounds_toArray, List.set_cons_zero, List.set_cons_succ, i64_w, i32_w]
    rfl
  refine pure_ (i := 11) (N := (some 19)) (v := ?_) (a' := ?_) #[true, true, true, true, true, true, true, true, true, true, true, true, false, false, false, false, false, false, false, false] rfl rfl (by kernel_rfl) (fun _ _ _ h => h) (Or.inl ⟨by rfl, ?_⟩) ?_ ?_
  rotate_left
  · intro w'
    go_simp
    first | done | with_reducible rfl
  rotate_left
  · simp only [Act.put, List.setIfInBounds_toArray, List.set_cons_zero, List.set_cons_succ, i64_w, i32_w]
    rfl
  refine take_ (i := 12) (N := (some 20)) (v := ?_) (a' := ?_) #[true, true, true, true, true, true, true, true, true, true, true, true, true, false, false, false, false, false, false, false] rfl rfl (by kernel_rfl) (fun _ _ _ h => h) (Or.inl ⟨by rfl, ?_⟩) hHeld ?_ ?_
  rotate_left
  · intro w' hS
    have s0 := pw_cell_below hS b0
    go_simp
    first | done | with_reducible rfl
  rotate_left
  · simp only [Act.put, List.setIfInBounds_toArray, List.set_cons_zero, List.set_cons_succ, i64_w, i32_w]
    rfl
  refine pure_ (i := 13) (N := (some 21)) (v := ?_) (a' := ?_) #[true, true, true, true, true, true, true, true, true, true, true, true, true, true, false, false, false, false, false, false] rfl rfl (by kernel_rfl) (fun _ _ _ h => h) (Or.inl ⟨by rfl, ?_⟩) ?_ ?_
  rotate_left
  · intro w'
    go_simp
    first | done | with_reducible rfl
  rotate_left
  · simp only [Act.put, List.setIfInBounds_toArray, List.set_cons_zero, List.set_cons_succ, i64_w, i32_w]
    rfl
  refine pure_ (i := 14) (N := (some 22)) (v := ?_) (a' := ?_) #[true, true, true, true, true, true, true, true, true, true, true, true, true, true, true, false, false, false, false, false] rfl rfl (by kernel_rfl) (fun _ _ _ h => h) (Or.inl ⟨by rfl, ?_⟩) ?_ ?_
  rotate_left
  · intro w'
    go_simp
    first | done | with_reducible rfl
  rotate_left
  · simp only [Act.put, List.setIfInBounds_toArray, List.set_cons_zero, List.set_cons_succ, i64_w, i32_w]
    rfl
  refine pure_ (i := 15) (N := (some 23)) (v := ?_) (a' := ?_) #[true, true, true, true, true, true, true, true, true, true, true, true, true, true, true, true, false, false, false, false] rfl rfl (by kernel_rfl) (fun _ _ _ h => h) (Or.inl ⟨by rfl, ?_⟩) ?_ ?_
  rotate_left
  · intro w'
    go_simp
    first | done | with_reducible rfl
  rotate_left
  · simp only [Act.put, List.setIfInBounds_toArray, List.set_cons_zero, List.set_cons_succ, i64_w, i32_w]
    rfl
  refine one_ (i := 16) (N := (some 24)) #[true, true, true, true, true, true, true, true, true, true, true, true, true, true, true, true, true, false, false, false] rfl rfl (by kernel_rfl) (by decide) (fun K hK => ?_)
  refine goes_ Try.func96 (by kernel_rfl) rfl #[.slice A l.length c] (by rfl) rfl rfl (by (try simp only [List.map_toArray, List.map_cons, List.map_nil]); first | done | rfl) ?_
  (with_reducible refine (HSH.out _ (Kd.C_below HRD.out hHeld)).mono ?_)
  rintro e wb ⟨rfl, rfl⟩
  refine ⟨_, rfl, ?_⟩
  have hS2 : Below W1.heap.size W1 wb := hHeld
  clear hHeld
  refine hK.out _ _ hS2 (fun hHeld => ?_)
  clear hK K
  refine norm_ (a' := ?_) ?_ ?_
  rotate_left
  · show Act.put _ (some 24) _ = _
    simp only [Act.put, List.setIfInBounds_toArray, List.set_cons_zero, List.set_cons_succ, i64_w, i32_w]
    rfl
  refine pure_ (i := 17) (N := (some 25)) (v := ?_) (a' := ?_) #[true, true, true, true, true, true, true, true, true, true, true, true, true, true, true, true, true, true, false, false] rfl rfl (by kernel_rfl) (fun _ _ _ h => h) (Or.inl ⟨by rfl, ?_⟩) ?_ ?_
  rotate_left
  · intro w'
    go_simp
    first | done | with_reducible rfl
  rotate_left
  · simp only [Act.put, List.setIfInBounds_toArray, List.set_cons_zero, List.set_cons_succ, i64_w, i32_w]
    rfl
  refine pure_ (i := 18) (N := (some 26)) (v := ?_) (a' := ?_) #[true, true, true, true, true, true, true, true, true, true, true, true, true, true, true, true, true, true, true, false] rfl rfl (by kernel_rfl) (fun _ _ _ h => h) (Or.inl ⟨by rfl, ?_⟩) ?_ ?_
  rotate_left
  · intro w'
    go_simp
    first | done | with_reducible rfl
  rotate_left
  · simp only [Act.put, List.setIfInBounds_toArray, List.set_cons_zero, List.set_cons_succ, i64_w, i32_w]
    rfl
  refine pure_ (i := 19) (N := (some 7)) (v := ?_) (a' := ?_) #[true, true, true, true, true, true, true, true, true, true, true, true, true, true, true, true, true, true, true, true] rfl rfl (by kernel_rfl) (fun _ _ _ h => h) (Or.inl ⟨by rfl, ?_⟩) ?_ ?_
  rotate_left
  · intro w'
    go_simp
    first | done | with_reducible rfl
  rotate_left
  · simp only [Act.put, List.setIfInBounds_toArray, List.set_cons_zero, List.set_cons_succ, i64_w, i32_w]
    rfl
  refine done_ (by kernel_rfl) ?_
  have OE := Aside0.mk (OD.out.step hHeld)
  have HF1 := Aside0.mk (HFD.out.below hHeld)
  have HR1 := Aside0.mk (Kd.C_below HRD.out hHeld)
  have i0 := (OE.out.cell 0 rfl 0).trans rfl
  have i1 := (OE.out.cell 0 rfl 1).trans rfl
  have i2 := (OE.out.cell 0 rfl 2).trans rfl
  clear OD HFD HRD hHeld b0 b1 b2 c0
  rw [HL4.out] at *
  go_wp2_with (first
    | (go_at_call 95; (with_reducible refine (HED.out _ HF1.out).mono ?_); rintro e wy ⟨rfl, hB⟩; have n1 := Aside0.mk (OE.out.step hB); have n2 := Aside0.mk (HF1.out.below hB); have n3 := Aside0.mk (Kd.C_below HR1.out hB); clear OE HF1 HR1 hB i0 i1 i2; have OE := n1; have HF1 := n2; have HR1 := n3; clear n1 n2 n3; have i1 := (OE.out.cell 0 rfl 1).trans rfl; have i2 := (OE.out.cell 0 rfl 2).trans rfl)
    | (go_at_call 99; (with_reducible refine (HTE.out _ HF1.out (Nat.le_trans HB.out OE.out.size) HR1.out).mono ?_); rintro e wz ⟨rfl, hI, hT⟩; have HI := Aside0.mk hI; have HT := Aside0.mk ((Turn.below OE.out.below).trans hT); clear hI hT i1 i2))
  go_ret
  exact ⟨rfl, HI.out, HT.out⟩
end Go.Proofs.Ytondnammkcgjpaa.Ft
namespace Go.Proofs.Ytondnammkcgjpaa.Ft
open Go Go.RowKit Go.Shelf Go.Proofs.YtondnammkcgjpaaW.PrintWords Go.Proofs.YtondnammkcgjpaaW.PrintLast Go.Proofs.YtondnammkcgjpaaW.PrintMore Go.Proofs.Ytondnammkcgjpaa.Mp
open Go.Proofs.Ytondnammkcgjpaa.ShaP Go.Proofs.Ytondnammkcgjpaa.Mk Go.Proofs.Ytondnammkcgjpaa.Rg Go.Proofs.Ytondnammkcgjpaa.RgP Go.Proofs.Ytondnammkcgjpaa.Rf Go.Proofs.Ytondnammkcgjpaa.RgL Go.Proofs.Ytondnammkcgjpaa.Til Go.Proofs.Ytondnammkcgjpaa.Fg Go.Proofs.Ytondnammkcgjpaa.Fun Go.Proofs.Ytondnammkcgjpaa.Rng
set_option linter.unusedVariables false
set_option linter.unusedSimpArgs false
variable {base g gt gb : Nat} {s : FS} {w W : World}
theorem eqA24 (d : Nat) (w : World) (a b c e : Int) : (Op.equalIn (d + 2) 24 (.agg #[.int .i64 a, .int .i64 b]) (.agg #[.int .i64 c, .int .i64 e])).run Try.prog w = .ok (a == c && (b == e)) w := by
  refine eqA_of Try.underlying24 (by kernel_rfl) ?_
  refine eqf_cons (by rfl) (by go_simp; rfl) (by go_simp; rfl) (by go_simp) ?_
  exact eqf_last (by rfl) (by go_simp; rfl) (by go_simp; rfl) (by go_simp)
theorem eqA58 (d : Nat) (w : World) (p q : Bool) (a b c e : Int) : (Op.equalIn (d + 3) 58 (.agg #[.bool p, .int .i64 a, .int .i64 b]) (.agg #[.bool q, .int .i64 c, .int .i64 e])).run Try.prog w = .ok (p == q && (a == c && (b == e))) w := by
  refine eqA_of Try.underlying58 (by kernel_rfl) ?_
  refine eqf_cons (by rfl) (by first | (go_simp; done) | (go_simp; rfl)) (by first | (go_simp; done) | (go_simp; rfl)) (by go_simp) ?_
  exact eqf_last (by rfl) (by first | (go_simp; done) | (go_simp; rfl)) (by first | (go_simp; done) | (go_simp; rfl)) (eqA24 d w a b c e)
theorem neq_want (w : World) (p q : Bool) (a b c e : Int) : (binOp .neq 58 (.agg #[.bool p, .int .i64 a, .int .i64 b]) (.agg #[.bool q, .int .i64 c, .int .i64 e])).run Try.prog w = .ok (.bool (!(p == q && (a == c && (b == e))))) w := by
  simp only [binOp]
  simp [Op.equal, Op.maxDepth, eqA58 9997 w p q a b c e]
theorem want_eq (x y : Want) : (x.1 == y.1 && (x.2.1 == y.2.1 && (x.2.2 == y.2.2))) = decide (x = y) := by
  obtain ⟨p, a, b⟩ := x
  obtain ⟨q, c, e⟩ := y
  by_cases h : (p, a, b) = (q, c, e)
  · rw [decide_eq_true h]; cases h; simp
  · rw [decide_eq_false h]
    rw [Bool.eq_false_iff]
    intro h2
    apply h
    simp at h2
    rw [h2.1, h2.2.1, h2.2.2]
open Classical in
/-- what take makes of a gift -/
noncomputable def takeS (s : FS) (x : Want) (l : List ByteArray) : FS × Int :=
  if (l.length : Int) ≠ wdF s.size x.2.1 x.2.2 then (s, 2)
  else if x.1 = false ∧ all32 l = false then (s, 2)
  else if x.1 = true then (if okB s x.2 l then putB s x.2.2 l else s, if okB s x.2 l then 0 else 8)
  else if edB s.size x.2 = true then (if okE (putT s x.2 l) then putT s x.2 l else dropE (putT s x.2 l), if okE (putT s x.2 l) then 0 else 8)
  else (if okF s x.2.1.toNat x.2.2.toNat l then putT s x.2 l else s, if okF s x.2.1.toNat x.2.2.toNat l then 0 else 8)
theorem plan_w : ∀ n : Nat, n < 65 → ∀ x ∈ planF n, 0 < wdF n x.1 x.2 ∧ wdF n x.1 x.2 ≤ 4 := by decide +kernel
theorem wants_w (n : Nat) (hn : n ≤ 64) (x : Want) (hx : x ∈ wantsF n) : 0 < wdF n x.2.1 x.2.2 ∧ wdF n x.2.1 x.2.2 ≤ 4 := by
  have key : x.2 ∈ planF n := by
    unfold wantsF pickT pickB at hx
    simp only [List.mem_append, List.mem_map, List.mem_filter] at hx
    rcases hx with (⟨y, hy, rfl⟩ | ⟨y, hy, rfl⟩) | ⟨y, hy, rfl⟩ <;> exact hy.1
  exact plan_w n (by omega) _ key
theorem all32_A (l : List ByteArray) (h : all32 l = true) : A32 l := fun y hy => by
  have := List.all_eq_true.1 h y hy
  simpa using this
theorem take_c (x : Want) (hx : x ∈ wantsF s.size) (A : Option Addr) (c : Nat) (l : List ByteArray) (h : IsF base w g gt gb s) (hv : InvF s) (hb : base ≤ w.heap.size) (hmax : l.length ≤ maxLen) (hsz : ∀ y ∈ l, y.size ≤ 100000) (hc : l.length ≤ c) (hr : Kd.C Kd.string w A l.length l) :
    Calls Try.prog 71 #[.pointer (some ⟨g, 0, none⟩), .agg #[.bool x.1, .int .i64 x.2.1, .int .i64 x.2.2], .slice A l.length c] w fun e w' => e = .returned (.int .i64 (takeS s x l).2) ∧ IsF base w' g gt gb (takeS s x l).1 ∧ Turn (Foot g gt gb) w w' := by
  obtain ⟨b, x0, x1⟩ := x
  have hw := wants_w s.size h.sz _ hx
  have hbd := wants_b s.size h.sz _ hx
  simp only at hw hbd
  by_cases h1 : (l.length : Int) = wdF s.size x0 x1
  · have h0 : 0 < l.length := by omega
    have h4 : l.length ≤ 4 := by omega
    have w0 : wf x0 := wf_of (by omega) (by omega)
    have w1 : wf x1 := wf_of (by omega) (by omega)
    cases b with
    | true =>
      have e : takeS s (true, x0, x1) l = (if okB s (x0, x1) l then putB s x1 l else s, if okB s (x0, x1) l then 0 else 8) := by
        unfold takeS
        rw [if_neg (by simpa using h1), if_neg (by simp), if_pos rfl]
      rw [e]
      refine take_b x0 x1 A c l h hb hmax hr h1 ?_ h0 h4 hsz w0 w1
      unfold tileOf
      cases hq : s.tiles (x0, x1) with
      | none => exact Nat.zero_le _
      | some l' =>
        have := (hv.tl _ _ hq).1
        show l'.length ≤ l.length
        simp only at this
        omega
    | false =>
      cases h32 : all32 l with
      | false =>
        have e : takeS s (false, x0, x1) l = (s, 2) := by
          unfold takeS
          rw [if_neg (by simpa using h1), if_pos ⟨rfl, h32⟩]
        rw [e]
        exact take_bad x0 x1 A c l h hb hmax hr h1 h32
      | true =>
        cases he : edB s.size (x0, x1) with
        | true =>
          have e : takeS s (false, x0, x1) l = (if okE (putT s (x0, x1) l) then putT s (x0, x1) l else dropE (putT s (x0, x1) l), if okE (putT s (x0, x1) l) then 0 else 8) := by
            unfold takeS
            rw [if_neg (by simpa using h1), if_neg (by rw [h32]; simp), if_neg (by simp), if_pos he]
          rw [e]
          exact take_e x0 x1 A c l h hb hmax hr hv h1 h0 h4 (all32_A l h32) he w0 w1
        | false =>
          obtain ⟨k, rfl⟩ : ∃ k : Nat, x0 = k := ⟨x0.toNat, by omega⟩
          obtain ⟨i, rfl⟩ : ∃ i : Nat, x1 = i := ⟨x1.toNat, by omega⟩
          have e : takeS s (false, (k : Int), (i : Int)) l = (if okF s k i l then putT s ((k : Int), (i : Int)) l else s, if okF s k i l then 0 else 8) := by
            unfold takeS
            rw [if_neg (by simpa using h1), if_neg (by rw [h32]; simp), if_neg (by simp), if_neg (by rw [he]; simp)]
            rfl
          rw [e]
          have h44 : l.length = 4 := by
            unfold edB at he
            have := of_decide_eq_false he
            unfold wdF at h1
            simp only at this
            omega
          exact take_f k i A c l h hb hmax hr (by omega) (by omega) h1 h44 (by omega) (all32_A l h32) he
  · have e : takeS s (b, x0, x1) l = (s, 2) := by
      unfold takeS
      rw [if_pos h1]
    rw [e]
    exact take_width b x0 x1 A c l h hb hmax hr h1
open Classical in
/-- what Take makes of a gift -/
noncomputable def takenS (s : FS) (x : Want) (l : List ByteArray) : FS × Int :=
  if nextF s = some x then (if (takeS s x l).2 = 0 then (⟨(takeS s x l).1.size, (takeS s x l).1.root, (takeS s x l).1.tiles, (takeS s x l).1.bund, (takeS s x l).1.asked + 1⟩, 0) else takeS s x l) else (s, 1)
theorem next_mem {x : Want} (h : nextF s = some x) : x ∈ wantsF s.size := List.mem_of_find?_eq_some h
set_option maxRecDepth 100000 in
set_option maxHeartbeats 8000000 in
theorem Take_no (x : Want) (A : Option Addr) (c n : Nat) (h : IsF base w g gt gb s) (hn : nextF s ≠ some x) :
    Calls Try.prog 40 #[.pointer (some ⟨g, 0, none⟩), .agg #[.bool x.1, .int .i64 x.2.1, .int .i64 x.2.2], .slice A n c] w fun e w' => e = .returned (.int .i64 1) ∧ Below w.heap.size w w' := by
  have OW := Aside0.mk (Mem.Own.nil w)
  have HF := Aside0.mk h
  have HNX := Aside0.mk (fun W (h : IsF base W g gt gb s) => next_c W h)
  obtain ⟨b, x0, x1⟩ := x
  have hnq := neq_want
  have HN := Aside0.mk hn
  clear h hn
  go_enter Try.func40, Try.ntmps40
  go_wp2_with (first
    | ((with_reducible refine gate_dst (N := 4) rfl ?_); refine box_event ?hg (N := 4) ?hd (cs := #[.bool b, .int .i64 x0, .int .i64 x1]) (t := 58) ?hr ?_; (case hd => rfl); (case hg => rfl); (case hr => first | (go_simp; done) | (go_simp; rfl)); intro gW hg W_ hb hbb; have n_ : Aside0 (Mem.Own w W_ [(gW, #[.bool b, .int .i64 x0, .int .i64 x1], 58)]) := ⟨OW.out.new hg hb hbb⟩; clear OW hb hbb hg; have OW := n_; clear n_))
  refine (HNX.out _ (HF.out.below OW.out.below)).mono ?_
  rintro e wz ⟨y, ok, rfl, hcs, hB⟩
  have n_ := Aside0.mk (OW.out.step hB)
  clear OW hB
  have OW := n_
  clear n_
  obtain ⟨b', y0, y1⟩ := y
  rcases hcs with ⟨hy, rfl⟩ | ⟨hy, hy2, rfl⟩
  · have hne : (b == b' && (x0 == y0 && (x1 == y1))) = false := by
      have := want_eq (b, x0, x1) (b', y0, y1)
      simp only at this
      rw [this]
      exact decide_eq_false (fun e => HN.out (by rw [hy, e]))
    have j0 := (OW.out.cell 0 rfl 0).trans rfl
    have j1 := (OW.out.cell 0 rfl 1).trans rfl
    have j2 := (OW.out.cell 0 rfl 2).trans rfl
    simp only [wcs]
    have HB := Aside0.mk OW.out.below
    have hal : Below wz.heap.size wz (wz.alloc (.cells #[.bool b', .int .i64 y0, .int .i64 y1] 58)) := below_alloc (Below.refl _ _) _
    have j0 := pw_cell_below hal j0
    have j1 := pw_cell_below hal j1
    have j2 := pw_cell_below hal j2
    have hnw := fun W => neq_want W b b' x0 x1 y0 y1
    rw [hne] at hnw
    clear hy hnq hne
    go_wp2_with fail
    go_ret
    exact ⟨rfl, below_step HB.out hal⟩
  · obtain ⟨rfl, rfl, rfl⟩ : b' = false ∧ y0 = 0 ∧ y1 = 0 := by simpa using hy2
    have hal : Below wz.heap.size wz (wz.alloc (.cells #[.bool false, .int .i64 0, .int .i64 0] 58)) := below_alloc (Below.refl _ _) _
    simp only [wcs]
    clear hy hy2 hnq
    go_wp2_with fail
    go_ret
    exact ⟨rfl, below_step OW.out.below hal⟩
end Go.Proofs.Ytondnammkcgjpaa.Ft
namespace Go.Proofs.Ytondnammkcgjpaa.Ft
open Go Go.RowKit Go.Shelf Go.Proofs.YtondnammkcgjpaaW.PrintWords Go.Proofs.YtondnammkcgjpaaW.PrintLast Go.Proofs.YtondnammkcgjpaaW.PrintMore Go.Proofs.Ytondnammkcgjpaa.Mp
open Go.Proofs.Ytondnammkcgjpaa.ShaP Go.Proofs.Ytondnammkcgjpaa.Mk Go.Proofs.Ytondnammkcgjpaa.Rg Go.Proofs.Ytondnammkcgjpaa.RgP Go.Proofs.Ytondnammkcgjpaa.Rf Go.Proofs.Ytondnammkcgjpaa.RgL Go.Proofs.Ytondnammkcgjpaa.Til Go.Proofs.Ytondnammkcgjpaa.Fg Go.Proofs.Ytondnammkcgjpaa.Fun Go.Proofs.Ytondnammkcgjpaa.Rng
set_option linter.unusedVariables false
set_option linter.unusedSimpArgs false
variable {base g gt gb : Nat} {s : FS} {w W : World}
set_option maxRecDepth 100000 in
set_option maxHeartbeats 8000000 in
theorem Take_yes (x : Want) (A : Option Addr) (c : Nat) (l : List ByteArray) (h : IsF base w g gt gb s) (hv : InvF s) (hn : nextF s = some x) (hb : base ≤ w.heap.size) (hmax : l.length ≤ maxLen) (hsz : ∀ y ∈ l, y.size ≤ 100000) (hc : l.length ≤ c) (hr : Kd.C Kd.string w A l.length l) (has : 0 ≤ (takeS s x l).1.asked) (has2 : (takeS s x l).1.asked ≤ 1000000) :
    Calls Try.prog 40 #[.pointer (some ⟨g, 0, none⟩), .agg #[.bool x.1, .int .i64 x.2.1, .int .i64 x.2.2], .slice A l.length c] w fun e w' => e = .returned (.int .i64 (takenS s x l).2) ∧ IsF base w' g gt gb (takenS s x l).1 ∧ Turn (Foot g gt gb) w w' := by
  have OW := Aside0.mk (Mem.Own.nil w)
  have HF := Aside0.mk h
  have HR := Aside0.mk hr
  have HB := Aside0.mk hb
  have HNX := Aside0.mk (fun W (h : IsF base W g gt gb s) => next_c W h)
  have HTK := Aside0.mk (fun W (h : IsF base W g gt gb s) (hb : base ≤ W.heap.size) (hr : Kd.C Kd.string W A l.length l) => take_c x (next_mem hn) A c l h hv hb hmax hsz hc hr)
  have hT : takenS s x l = (if (takeS s x l).2 = 0 then (⟨(takeS s x l).1.size, (takeS s x l).1.root, (takeS s x l).1.tiles, (takeS s x l).1.bund, (takeS s x l).1.asked + 1⟩, 0) else takeS s x l) := if_pos hn
  have HT := Aside0.mk hT
  generalize takeS s x l = r at *
  generalize takenS s x l = r9 at *
  obtain ⟨b, x0, x1⟩ := x
  have HN := Aside0.mk hn
  clear h hn hr hb hv hsz hc hmax hT
  go_enter Try.func40, Try.ntmps40
  go_wp2_with (first
    | ((with_reducible refine gate_dst (N := 4) rfl ?_); refine box_event ?hg (N := 4) ?hd (cs := #[.bool b, .int .i64 x0, .int .i64 x1]) (t := 58) ?hr ?_; (case hd => rfl); (case hg => rfl); (case hr => first | (go_simp; done) | (go_simp; rfl)); intro gW hg W_ hb hbb; have n_ : Aside0 (Mem.Own w W_ [(gW, #[.bool b, .int .i64 x0, .int .i64 x1], 58)]) := ⟨OW.out.new hg hb hbb⟩; clear OW hb hbb hg; have OW := n_; clear n_))
  refine (HNX.out _ (HF.out.below OW.out.below)).mono ?_
  rintro e wz ⟨y, ok, rfl, hcs, hB⟩
  have n_ := Aside0.mk (OW.out.step hB)
  clear OW hB
  have OW := n_
  clear n_
  obtain ⟨b', y0, y1⟩ := y
  rcases hcs with ⟨hy, rfl⟩ | ⟨hy, _, _⟩
  · obtain ⟨rfl, rfl, rfl⟩ : b' = b ∧ y0 = x0 ∧ y1 = x1 := by
      have := HN.out.symm.trans hy
      simp at this
      exact ⟨this.1.symm, this.2.1.symm, this.2.2.symm⟩
    have hnw := fun W => neq_want W b' b' y0 y1 y0 y1
    have hne : (b' == b' && (y0 == y0 && (y1 == y1))) = true := by simp
    rw [hne] at hnw
    have hal : Below wz.heap.size wz (wz.alloc (.cells #[.bool b', .int .i64 y0, .int .i64 y1] 58)) := below_alloc (Below.refl _ _) _
    have j0 := pw_cell_below hal ((OW.out.cell 0 rfl 0).trans rfl)
    have j1 := pw_cell_below hal ((OW.out.cell 0 rfl 1).trans rfl)
    have j2 := pw_cell_below hal ((OW.out.cell 0 rfl 2).trans rfl)
    have hBl := below_step OW.out.below hal
    have HF1 := Aside0.mk (HF.out.below hBl)
    have HR1 := Aside0.mk (Kd.C_below HR.out hBl)
    have HBL := Aside0.mk hBl
    simp only [wcs]
    clear hy hne hal OW hBl
    go_wp2_with fail
    refine (HTK.out _ HF1.out (Nat.le_trans HB.out HBL.out.size) HR1.out).mono ?_
    rintro e wa ⟨rfl, hI, hTu⟩
    have HI := Aside0.mk hI
    have HTU := Aside0.mk ((Turn.below (P := Foot g gt gb) HBL.out).trans hTu)
    clear hI hTu j0 j1 j2 hnw HF1 HR1
    obtain ⟨r1, cd⟩ := r
    simp only at has has2 HI ⊢
    by_cases hz : cd = 0
    · subst hz
      have e9 := HT.out
      simp only [if_true] at e9
      have c4 : wa.cell? ⟨g, 76, none⟩ = some (.int .i64 r1.asked) := (HI.out.cell 4).trans rfl
      have y4 : wa.frozen? ⟨g, 76, none⟩ = false := blk_frozen HI.out.blk 76
      have HAS := Aside0.mk (HI.out.asks (r1.asked + 1))
      have hwr : wrap64 (r1.asked + 1) = r1.asked + 1 := by unfold wrap64; omega
      have E9 := Aside0.mk e9
      clear e9
      go_wp2_with fail
      go_ret
      rw [E9.out]
      exact ⟨rfl, HAS.out.1, HTU.out.trans HAS.out.2⟩
    · have e9 := HT.out
      simp only [if_neg hz] at e9
      have hzb : (cd == 0) = false := beq_eq_false_iff_ne.2 hz
      have E9 := Aside0.mk e9
      clear e9
      go_wp2_with fail
      go_ret
      rw [E9.out]
      exact ⟨rfl, HI.out, HTU.out⟩
  · exact absurd hy (by rw [HN.out]; simp)
theorem asked_c (h : IsF base w g gt gb s) : Calls Try.prog 41 #[.pointer (some ⟨g, 0, none⟩)] w fun e w' => e = .returned (.int .i64 s.asked) ∧ w' = w := by
  have c4 : w.cell? ⟨g, 76, none⟩ = some (.int .i64 s.asked) := (h.cell 4).trans rfl
  clear h
  go_enter Try.func41, Try.ntmps41
  go_wp2
  go_ret
  exact ⟨rfl, rfl⟩
end Go.Proofs.Ytondnammkcgjpaa.Ft
namespace Go.Proofs.Ytondnammkcgjpaa.Ft
open Go Go.RowKit Go.Shelf Go.Proofs.YtondnammkcgjpaaW.PrintWords Go.Proofs.YtondnammkcgjpaaW.PrintLast Go.Proofs.YtondnammkcgjpaaW.PrintMore Go.Proofs.Ytondnammkcgjpaa.Mp
open Go.Proofs.Ytondnammkcgjpaa.ShaP Go.Proofs.Ytondnammkcgjpaa.Mk Go.Proofs.Ytondnammkcgjpaa.Rg Go.Proofs.Ytondnammkcgjpaa.RgP Go.Proofs.Ytondnammkcgjpaa.Rf Go.Proofs.Ytondnammkcgjpaa.RgL Go.Proofs.Ytondnammkcgjpaa.Til Go.Proofs.Ytondnammkcgjpaa.Fg Go.Proofs.Ytondnammkcgjpaa.Fun Go.Proofs.Ytondnammkcgjpaa.Rng
set_option linter.unusedVariables false
set_option linter.unusedSimpArgs false
theorem eql_want (w : World) (p q : Bool) (a b c e : Int) : (binOp .eql 58 (.agg #[.bool p, .int .i64 a, .int .i64 b]) (.agg #[.bool q, .int .i64 c, .int .i64 e])).run Try.prog w = .ok (.bool (p == q && (a == c && (b == e)))) w := by
  simp only [binOp]
  simp [Op.equal, Op.maxDepth, eqA58 9997 w p q a b c e]
theorem wants_nil : ∀ n : Nat, n < 65 → (wantsF n = [] ↔ n = 0) := by decide +kernel
theorem next_mt (n : Nat) (r : ByteArray) (hn : n ≤ 64) : (n = 0 → nextF (mt n r) = none) ∧ (0 < n → ∃ x, nextF (mt n r) = some x) := by
  have h1 := wants_nil n (by omega)
  have h2 : nextF (mt n r) = (wantsF n).head? := by
    unfold nextF
    show (wantsF n).find? (fun x => !hasF (mt n r) x) = _
    have h3 : ∀ x, (!hasF (mt n r) x) = true := fun x => by unfold hasF mt; simp
    cases wantsF n with
    | nil => rfl
    | cons y l => simp [h3 y]
  refine ⟨fun h => by rw [h2, h1.2 h]; rfl, fun h => ?_⟩
  cases hw : wantsF n with
  | nil => exact absurd (h1.1 hw) (by omega)
  | cons y l => exact ⟨y, by rw [h2, hw]; rfl⟩
theorem inv_mt (n : Nat) (r : ByteArray) : InvF (mt n r) := ⟨fun x l h => (by cases h), fun k l h => (by cases h)⟩
theorem takeS_nil (n : Nat) (r : ByteArray) (hn : n ≤ 64) (x : Want) (hx : nextF (mt n r) = some x) : takeS (mt n r) x [] = (mt n r, 2) ∧ takenS (mt n r) x [] = (mt n r, 2) := by
  have hm := next_mem hx
  rw [show (mt n r).size = n from rfl] at hm
  have hw := wants_w n hn x hm
  have h1 : takeS (mt n r) x [] = (mt n r, 2) := by
    unfold takeS
    exact if_pos (by show ((0 : Nat) : Int) ≠ wdF n x.2.1 x.2.2; omega)
  refine ⟨h1, ?_⟩
  unfold takenS
  rw [if_pos hx, h1]
  rfl
set_option maxRecDepth 100000 in
set_option maxHeartbeats 8000000 in
theorem args_few (A : Option Addr) (c : Nat) (l : List ByteArray) (size : Int) (root : ByteArray) (b : Bool) (lv ix : Int) (w : World) (hr : Kd.C Kd.string w A l.length l) (hb : fewB l 64 40 = false) :
    Calls Try.prog 10 #[.slice A l.length c, .agg #[.int .i64 size, .string root], .agg #[.bool b, .int .i64 lv, .int .i64 ix]] w fun e w' => e = .returned (.bool true) ∧ Below w.heap.size w w' := by
  have OW := Aside0.mk (Mem.Own.nil w)
  have HI := Aside0.mk info_tab
  have HAW := Aside0.mk awake21_c
  have HF := Aside0.mk (fun W h => few6440 A c l W h)
  have HR := Aside0.mk hr
  rw [hb] at HF
  clear hb hr
  go_enter Try.func10, Try.ntmps10
  go_wp2_with (first
    | ((with_reducible refine gate_dst (N := 4) rfl ?_); refine box_event ?hg (N := 4) ?hd (cs := #[.int .i64 size, .string root]) (t := 66) ?hr ?_; (case hd => rfl); (case hg => rfl); (case hr => first | (go_simp; done) | (go_simp; rfl)); intro gH hg W_ hb hbb; have n_ : Aside0 (Mem.Own w W_ [(gH, #[.int .i64 size, .string root], 66)]) := ⟨OW.out.new hg hb hbb⟩; clear OW hb hbb hg; have OW := n_; clear n_)
    | ((with_reducible refine gate_dst (N := 5) rfl ?_); refine box_event ?hg (N := 5) ?hd (cs := #[.bool b, .int .i64 lv, .int .i64 ix]) (t := 58) ?hr ?_; (case hd => rfl); (case hg => rfl); (case hr => first | (go_simp; done) | (go_simp; rfl)); intro gW hg W_ hb hbb; have n_ : Aside0 (Mem.Own w W_ [(gH, #[.int .i64 size, .string root], 66), (gW, #[.bool b, .int .i64 lv, .int .i64 ix], 58)]) := ⟨OW.out.new hg hb hbb⟩; clear OW hb hbb hg; have OW := n_; clear n_))
  have OD := Aside0.mk OW.out.drew
  have b0 : W_.drew.cell? ⟨gH, 0, none⟩ = some (.int .i64 size) := (OD.out.cell 0 rfl 0).trans rfl
  have b1 : W_.drew.cell? ⟨gH, 1, none⟩ = some (.string root) := (OD.out.cell 0 rfl 1).trans rfl
  clear OW
  refine start_ (n := 6) (S := fun w' => Below (W_).drew.heap.size (W_).drew w') (ds := []) #[false, false, false, false, false, false] (by kernel_rfl) rfl rfl (Below.refl _ _) (fun hHeld => ?_)
  generalize (W_).drew = W1 at *
  refine pure_ (i := 0) (N := (some 17)) (v := ?_) (a' := ?_) #[true, false, false, false, false, false] rfl rfl (by kernel_rfl) (fun _ _ _ h => h) (Or.inl ⟨by rfl, ?_⟩) ?_ ?_
  rotate_left
  · intro w'
    go_simp
    first | done | with_reducible rfl
  rotate_left
  · simp only [Act.put, List.setIfInBounds_toArray, List.set_cons_zero, List.set_cons_succ, i64_w, i32_w]
    rfl
  refine take_ (i := 1) (N := (some 18)) (v := ?_) (a' := ?_) #[true, true, false, false, false, false] rfl rfl (by kernel_rfl) (fun _ _ _ h => h) (Or.inl ⟨by rfl, ?_⟩) hHeld ?_ ?_
  rotate_left
  · intro w' hS
    have s0 := pw_cell_below hS b0
    go_simp
    first | done | with_reducible rfl
  rotate_left
  · simp only [Act.put, List.setIfInBounds_toArray, List.set_cons_zero, List.set_cons_succ, i64_w, i32_w]
    rfl
  refine pure_ (i := 2) (N := (some 19)) (v := ?_) (a' := ?_) #[true, true, true, false, false, false] rfl rfl (by kernel_rfl) (fun _ _ _ h => h) (Or.inl ⟨by rfl, ?_⟩) ?_ ?_
  rotate_left
  · intro w'
    go_simp
    first | done | with_reducible rfl
  rotate_left
  · simp only [Act.put, List.setIfInBounds_toArray, List.set_cons_zero, List.set_cons_succ, i64_w, i32_w]
    rfl
  refine take_ (i := 3) (N := (some 20)) (v := ?_) (a' := ?_) #[true, true, true, true, false, false] rfl rfl (by kernel_rfl) (fun _ _ _ h => h) (Or.inl ⟨by rfl, ?_⟩) hHeld ?_ ?_
  rotate_left
  · intro w' hS
    have s0 := pw_cell_below hS b1
    go_simp
    first | done | with_reducible rfl
  rotate_left
  · simp only [Act.put, List.setIfInBounds_toArray, List.set_cons_zero, List.set_cons_succ, i64_w, i32_w]
    rfl
  refine pure_ (i := 4) (N := (some 7)) (v := ?_) (a' := ?_) #[true, true, true, true, true, false] rfl rfl (by kernel_rfl) (fun _ _ _ h => h) (Or.inl ⟨by rfl, ?_⟩) ?_ ?_
  rotate_left
  · intro w'
    go_simp
    first | done | with_reducible rfl
  rotate_left
  · simp only [Act.put, List.setIfInBounds_toArray, List.set_cons_zero, List.set_cons_succ, i64_w, i32_w]
    rfl
  refine pure_ (i := 5) (N := (some 8)) (v := ?_) (a' := ?_) #[true, true, true, true, true, true] rfl rfl (by kernel_rfl) (fun _ _ _ h => h) (Or.inl ⟨by rfl, ?_⟩) ?_ ?_
  rotate_left
  · intro w'
    go_simp
    first | done | with_reducible rfl
  rotate_left
  · simp only [Act.put, List.setIfInBounds_toArray, List.set_cons_zero, List.set_cons_succ, i64_w, i32_w]
    rfl
  refine done_ (by kernel_rfl) ?_
  have OW := Aside0.mk (OD.out.step hHeld)
  clear OD b0 b1 hHeld
  go_wp2_with (first
    | (go_at_call 31; (with_reducible refine (HAW.out _).mono ?_); rintro e w_ ⟨rfl, hB⟩; have n_ := Aside0.mk (OW.out.step hB); clear OW hB; have OW := n_; clear n_)
    | (go_at_call 15; (with_reducible refine (HF.out _ (Kd.C_below HR.out OW.out.below)).mono ?_); rintro e w_ ⟨rfl, rfl⟩))
  go_ret
  exact ⟨rfl, OW.out.below⟩
set_option maxRecDepth 100000 in
set_option maxHeartbeats 8000000 in
theorem args_long (A : Option Addr) (c : Nat) (l : List ByteArray) (size : Int) (root : ByteArray) (b : Bool) (lv ix : Int) (w : World) (hr : Kd.C Kd.string w A l.length l) (hb : fewB l 64 40 = true) (hl : 40 < root.size) :
    Calls Try.prog 10 #[.slice A l.length c, .agg #[.int .i64 size, .string root], .agg #[.bool b, .int .i64 lv, .int .i64 ix]] w fun e w' => e = .returned (.bool true) ∧ Below w.heap.size w w' := by
  have OW := Aside0.mk (Mem.Own.nil w)
  have HI := Aside0.mk info_tab
  have HAW := Aside0.mk awake21_c
  have HF := Aside0.mk (fun W h => few6440 A c l W h)
  have HR := Aside0.mk hr
  rw [hb] at HF
  have hli : (40 : Int) < (root.size : Int) := by omega
  clear hb hr hl
  go_enter Try.func10, Try.ntmps10
  go_wp2_with (first
    | ((with_reducible refine gate_dst (N := 4) rfl ?_); refine box_event ?hg (N := 4) ?hd (cs := #[.int .i64 size, .string root]) (t := 66) ?hr ?_; (case hd => rfl); (case hg => rfl); (case hr => first | (go_simp; done) | (go_simp; rfl)); intro gH hg W_ hb hbb; have n_ : Aside0 (Mem.Own w W_ [(gH, #[.int .i64 size, .string root], 66)]) := ⟨OW.out.new hg hb hbb⟩; clear OW hb hbb hg; have OW := n_; clear n_)
    | ((with_reducible refine gate_dst (N := 5) rfl ?_); refine box_event ?hg (N := 5) ?hd (cs := #[.bool b, .int .i64 lv, .int .i64 ix]) (t := 58) ?hr ?_; (case hd => rfl); (case hg => rfl); (case hr => first | (go_simp; done) | (go_simp; rfl)); intro gW hg W_ hb hbb; have n_ : Aside0 (Mem.Own w W_ [(gH, #[.int .i64 size, .string root], 66), (gW, #[.bool b, .int .i64 lv, .int .i64 ix], 58)]) := ⟨OW.out.new hg hb hbb⟩; clear OW hb hbb hg; have OW := n_; clear n_))
  have OD := Aside0.mk OW.out.drew
  have b0 : W_.drew.cell? ⟨gH, 0, none⟩ = some (.int .i64 size) := (OD.out.cell 0 rfl 0).trans rfl
  have b1 : W_.drew.cell? ⟨gH, 1, none⟩ = some (.string root) := (OD.out.cell 0 rfl 1).trans rfl
  clear OW
  refine start_ (n := 6) (S := fun w' => Below (W_).drew.heap.size (W_).drew w') (ds := []) #[false, false, false, false, false, false] (by kernel_rfl) rfl rfl (Below.refl _ _) (fun hHeld => ?_)
  generalize (W_).drew = W1 at *
  refine pure_ (i := 0) (N := (some 17)) (v := ?_) (a' := ?_) #[true, false, false, false, false, false] rfl rfl (by kernel_rfl) (fun _ _ _ h => h) (Or.inl ⟨by rfl, ?_⟩) ?_ ?_
  rotate_left
  · intro w'
    go_simp
    first | done | with_reducible rfl
  rotate_left
  · simp only [Act.put, List.setIfInBounds_toArray, List.set_cons_zero, List.set_cons_succ, i64_w, i32_w]
    rfl
  refine take_ (i := 1) (N := (some 18)) (v := ?_) (a' := ?_) #[true, true, false, false, false, false] rfl rfl (by kernel_rfl) (fun _ _ _ h => h) (Or.inl ⟨by rfl, ?_⟩) hHeld ?_ ?_
  rotate_left
  · intro w' hS
    have s0 := pw_cell_below hS b0
    go_simp
    first | done | with_reducible rfl
  rotate_left
  · simp only [Act.put, List.setIfInBounds_toArray, List.set_cons_zero, List.set_cons_succ, i64_w, i32_w]
    rfl
  refine pure_ (i := 2) (N := (some 19)) (v := ?_) (a' := ?_) #[true, true, true, false, false, false] rfl rfl (by kernel_rfl) (fun _ _ _ h => h) (Or.inl ⟨by rfl, ?_⟩) ?_ ?_
  rotate_left
  · intro w'
    go_simp
    first | done | with_reducible rfl
  rotate_left
  · simp only [Act.put, List.setIfInBounds_toArray, List.set_cons_zero, List.set_cons_succ, i64_w, i32_w]
    rfl
  refine take_ (i := 3) (N := (some 20)) (v := ?_) (a' := ?_) #[true, true, true, true, false, false] rfl rfl (by kernel_rfl) (fun _ _ _ h => h) (Or.inl ⟨by rfl, ?_⟩) hHeld ?_ ?_
  rotate_left
  · intro w' hS
    have s0 := pw_cell_below hS b1
    go_simp
    first | done | with_reducible rfl
  rotate_left
  · simp only [Act.put, List.setIfInBounds_toArray, List.set_cons_zero, List.set_cons_succ, i64_w, i32_w]
    rfl
  refine pure_ (i := 4) (N := (some 7)) (v := ?_) (a' := ?_) #[true, true, true, true, true, false] rfl rfl (by kernel_rfl) (fun _ _ _ h => h) (Or.inl ⟨by rfl, ?_⟩) ?_ ?_
  rotate_left
  · intro w'
    go_simp
    first | done | with_reducible rfl
  rotate_left
  · simp only [Act.put, List.setIfInBounds_toArray, List.set_cons_zero, List.set_cons_succ, i64_w, i32_w]
    rfl
  refine pure_ (i := 5) (N := (some 8)) (v := ?_) (a' := ?_) #[true, true, true, true, true, true] rfl rfl (by kernel_rfl) (fun _ _ _ h => h) (Or.inl ⟨by rfl, ?_⟩) ?_ ?_
  rotate_left
  · intro w'
    go_simp
    first | done | with_reducible rfl
  rotate_left
  · simp only [Act.put, List.setIfInBounds_toArray, List.set_cons_zero, List.set_cons_succ, i64_w, i32_w]
    rfl
  refine done_ (by kernel_rfl) ?_
  have OW := Aside0.mk (OD.out.step hHeld)
  clear OD b0 b1 hHeld
  go_wp2_with (first
    | (go_at_call 31; (with_reducible refine (HAW.out _).mono ?_); rintro e w_ ⟨rfl, hB⟩; have n_ := Aside0.mk (OW.out.step hB); clear OW hB; have OW := n_; clear n_)
    | (go_at_call 15; (with_reducible refine (HF.out _ (Kd.C_below HR.out OW.out.below)).mono ?_); rintro e w_ ⟨rfl, rfl⟩))
  go_ret
  exact ⟨rfl, OW.out.below⟩
set_option maxRecDepth 100000 in
set_option maxHeartbeats 8000000 in
theorem args_bad0 (A : Option Addr) (c : Nat) (l : List ByteArray) (size : Int) (root : ByteArray) (b : Bool) (lv ix : Int) (w : World) (hr : Kd.C Kd.string w A l.length l) (hb : fewB l 64 40 = true) (hs : root.size ≤ 40) (h1 : size < 0) :
    Calls Try.prog 10 #[.slice A l.length c, .agg #[.int .i64 size, .string root], .agg #[.bool b, .int .i64 lv, .int .i64 ix]] w fun e w' => e = .returned (.bool true) ∧ Below w.heap.size w w' := by
  have OW := Aside0.mk (Mem.Own.nil w)
  have HI := Aside0.mk info_tab
  have HAW := Aside0.mk awake21_c
  have HF := Aside0.mk (fun W h => few6440 A c l W h)
  have HR := Aside0.mk hr
  rw [hb] at HF
  have HN := Aside0.mk (fun W => new_bad size root W (by unfold badB; simp [h1]))
  have HH := Aside0.mk (fun W => h_c ⟨#[]⟩ (by decide) W)
  have hfold : Ref01.sumF ⟨#[]⟩ = emptyF := rfl
  rw [hfold] at HH
  have hsi : (root.size : Int) ≤ 40 := by omega
  clear hfold hb hr hs
  go_enter Try.func10, Try.ntmps10
  go_wp2_with (first
    | ((with_reducible refine gate_dst (N := 4) rfl ?_); refine box_event ?hg (N := 4) ?hd (cs := #[.int .i64 size, .string root]) (t := 66) ?hr ?_; (case hd => rfl); (case hg => rfl); (case hr => first | (go_simp; done) | (go_simp; rfl)); intro gH hg W_ hb hbb; have n_ : Aside0 (Mem.Own w W_ [(gH, #[.int .i64 size, .string root], 66)]) := ⟨OW.out.new hg hb hbb⟩; clear OW hb hbb hg; have OW := n_; clear n_)
    | ((with_reducible refine gate_dst (N := 5) rfl ?_); refine box_event ?hg (N := 5) ?hd (cs := #[.bool b, .int .i64 lv, .int .i64 ix]) (t := 58) ?hr ?_; (case hd => rfl); (case hg => rfl); (case hr => first | (go_simp; done) | (go_simp; rfl)); intro gW hg W_ hb hbb; have n_ : Aside0 (Mem.Own w W_ [(gH, #[.int .i64 size, .string root], 66), (gW, #[.bool b, .int .i64 lv, .int .i64 ix], 58)]) := ⟨OW.out.new hg hb hbb⟩; clear OW hb hbb hg; have OW := n_; clear n_))
  have OD := Aside0.mk OW.out.drew
  have b0 : W_.drew.cell? ⟨gH, 0, none⟩ = some (.int .i64 size) := (OD.out.cell 0 rfl 0).trans rfl
  have b1 : W_.drew.cell? ⟨gH, 1, none⟩ = some (.string root) := (OD.out.cell 0 rfl 1).trans rfl
  clear OW
  refine start_ (n := 6) (S := fun w' => Below (W_).drew.heap.size (W_).drew w') (ds := []) #[false, false, false, false, false, false] (by kernel_rfl) rfl rfl (Below.refl _ _) (fun hHeld => ?_)
  generalize (W_).drew = W1 at *
  refine pure_ (i := 0) (N := (some 17)) (v := ?_) (a' := ?_) #[true, false, false, false, false, false] rfl rfl (by kernel_rfl) (fun _ _ _ h => h) (Or.inl ⟨by rfl, ?_⟩) ?_ ?_
  rotate_left
  · intro w'
    go_simp
    first | done | with_reducible rfl
  rotate_left
  · simp only [Act.put, List.setIfInBounds_toArray, List.set_cons_zero, List.set_cons_succ, i64_w, i32_w]
    rfl
  refine take_ (i := 1) (N := (some 18)) (v := ?_) (a' := ?_) #[true, true, false, false, false, false] rfl rfl (by kernel_rfl) (fun _ _ _ h => h) (Or.inl ⟨by rfl, ?_⟩) hHeld ?_ ?_
  rotate_left
  · intro w' hS
    have s0 := pw_cell_below hS b0
    go_simp
    first | done | with_reducible rfl
  rotate_left
  · simp only [Act.put, List.setIfInBounds_toArray, List.set_cons_zero, List.set_cons_succ, i64_w, i32_w]
    rfl
  refine pure_ (i := 2) (N := (some 19)) (v := ?_) (a' := ?_) #[true, true, true, false, false, false] rfl rfl (by kernel_rfl) (fun _ _ _ h => h) (Or.inl ⟨by rfl, ?_⟩) ?_ ?_
  rotate_left
  · intro w'
    go_simp
    first | done | with_reducible rfl
  rotate_left
  · simp only [Act.put, List.setIfInBounds_toArray, List.set_cons_zero, List.set_cons_succ, i64_w, i32_w]
    rfl
  refine take_ (i := 3) (N := (some 20)) (v := ?_) (a' := ?_) #[true, true, true, true, false, false] rfl rfl (by kernel_rfl) (fun _ _ _ h => h) (Or.inl ⟨by rfl, ?_⟩) hHeld ?_ ?_
  rotate_left
  · intro w' hS
    have s0 := pw_cell_below hS b1
    go_simp
    first | done | with_reducible rfl
  rotate_left
  · simp only [Act.put, List.setIfInBounds_toArray, List.set_cons_zero, List.set_cons_succ, i64_w, i32_w]
    rfl
  refine pure_ (i := 4) (N := (some 7)) (v := ?_) (a' := ?_) #[true, true, true, true, true, false] rfl rfl (by kernel_rfl) (fun _ _ _ h => h) (Or.inl ⟨by rfl, ?_⟩) ?_ ?_
  rotate_left
  · intro w'
    go_simp
    first | done | with_reducible rfl
  rotate_left
  · simp only [Act.put, List.setIfInBounds_toArray, List.set_cons_zero, List.set_cons_succ, i64_w, i32_w]
    rfl
  refine pure_ (i := 5) (N := (some 8)) (v := ?_) (a' := ?_) #[true, true, true, true, true, true] rfl rfl (by kernel_rfl) (fun _ _ _ h => h) (Or.inl ⟨by rfl, ?_⟩) ?_ ?_
  rotate_left
  · intro w'
    go_simp
    first | done | with_reducible rfl
  rotate_left
  · simp only [Act.put, List.setIfInBounds_toArray, List.set_cons_zero, List.set_cons_succ, i64_w, i32_w]
    rfl
  refine done_ (by kernel_rfl) ?_
  have OW := Aside0.mk (OD.out.step hHeld)
  clear OD b0 b1 hHeld
  go_wp2_with (first
    | (go_at_call 31; (with_reducible refine (HAW.out _).mono ?_); rintro e w_ ⟨rfl, hB⟩; have n_ := Aside0.mk (OW.out.step hB); clear OW hB; have OW := n_; clear n_)
    | (go_at_call 15; (with_reducible refine (HF.out _ (Kd.C_below HR.out OW.out.below)).mono ?_); rintro e w_ ⟨rfl, rfl⟩)
    | (go_at_call 16; (with_reducible refine (make_c _).mono ?_); rintro e wz ⟨rfl, hB⟩; have n_ := Aside0.mk (OW.out.step hB); clear OW hB; have OW := n_; clear n_)
    | ((with_reducible refine gate_dst (N := 9) rfl ?_); refine tab_event (N := 9) rfl rfl rfl rfl rfl rfl (fun _ => rfl) (fun _ => rfl) ?_; intro gT hg wz hb hbb; have n_ : Aside0 (Mem.Own w (wz) [(gH, #[.int .i64 size, .string root], 66), (gW, #[.bool b, .int .i64 lv, .int .i64 ix], 58), (gT, TV, 31)]) := ⟨OW.out.new hg hb hbb⟩; clear OW hb hbb hg; have OW := n_; clear n_)
    | ((with_reducible refine gate_dst (N := 36) rfl ?_); refine wpList_load_row rfl 31 (.tmp 9) rfl gT rfl 31 TV (0, 0) _ (OW.out.blk 2 rfl) Try.underlying31 rfl HI.out ?_)
    | (go_at_call 38; (with_reducible refine (HH.out _).mono ?_); rintro e w_ ⟨rfl, hB⟩; have n_ := Aside0.mk (OW.out.step hB); clear OW hB; have OW := n_; clear n_)
    | (go_at_call 37; (with_reducible refine (HN.out _).mono ?_); rintro e w_ ⟨rfl, hB⟩; have n_ := Aside0.mk (OW.out.step hB); clear OW hB; have OW := n_; clear n_))
  go_ret
  exact ⟨rfl, OW.out.below⟩
set_option maxRecDepth 100000 in
set_option maxHeartbeats 8000000 in
theorem args_bad1 (A : Option Addr) (c : Nat) (l : List ByteArray) (size : Int) (root : ByteArray) (b : Bool) (lv ix : Int) (w : World) (hr : Kd.C Kd.string w A l.length l) (hb : fewB l 64 40 = true) (hs : root.size ≤ 40) (h1 : ¬ size < 0) (h2 : 64 < size) :
    Calls Try.prog 10 #[.slice A l.length c, .agg #[.int .i64 size, .string root], .agg #[.bool b, .int .i64 lv, .int .i64 ix]] w fun e w' => e = .returned (.bool true) ∧ Below w.heap.size w w' := by
  have OW := Aside0.mk (Mem.Own.nil w)
  have HI := Aside0.mk info_tab
  have HAW := Aside0.mk awake21_c
  have HF := Aside0.mk (fun W h => few6440 A c l W h)
  have HR := Aside0.mk hr
  rw [hb] at HF
  have HN := Aside0.mk (fun W => new_bad size root W (by unfold badB; simp [h2]))
  have HH := Aside0.mk (fun W => h_c ⟨#[]⟩ (by decide) W)
  have hfold : Ref01.sumF ⟨#[]⟩ = emptyF := rfl
  rw [hfold] at HH
  have hsi : (root.size : Int) ≤ 40 := by omega
  clear hfold hb hr hs
  go_enter Try.func10, Try.ntmps10
  go_wp2_with (first
    | ((with_reducible refine gate_dst (N := 4) rfl ?_); refine box_event ?hg (N := 4) ?hd (cs := #[.int .i64 size, .string root]) (t := 66) ?hr ?_; (case hd => rfl); (case hg => rfl); (case hr => first | (go_simp; done) | (go_simp; rfl)); intro gH hg W_ hb hbb; have n_ : Aside0 (Mem.Own w W_ [(gH, #[.int .i64 size, .string root], 66)]) := ⟨OW.out.new hg hb hbb⟩; clear OW hb hbb hg; have OW := n_; clear n_)
    | ((with_reducible refine gate_dst (N := 5) rfl ?_); refine box_event ?hg (N := 5) ?hd (cs := #[.bool b, .int .i64 lv, .int .i64 ix]) (t := 58) ?hr ?_; (case hd => rfl); (case hg => rfl); (case hr => first | (go_simp; done) | (go_simp; rfl)); intro gW hg W_ hb hbb; have n_ : Aside0 (Mem.Own w W_ [(gH, #[.int .i64 size, .string root], 66), (gW, #[.bool b, .int .i64 lv, .int .i64 ix], 58)]) := ⟨OW.out.new hg hb hbb⟩; clear OW hb hbb hg; have OW := n_; clear n_))
  have OD := Aside0.mk OW.out.drew
  have b0 : W_.drew.cell? ⟨gH, 0, none⟩ = some (.int .i64 size) := (OD.out.cell 0 rfl 0).trans rfl
  have b1 : W_.drew.cell? ⟨gH, 1, none⟩ = some (.string root) := (OD.out.cell 0 rfl 1).trans rfl
  clear OW
  refine start_ (n := 6) (S := fun w' => Below (W_).drew.heap.size (W_).drew w') (ds := []) #[false, false, false, false, false, false] (by kernel_rfl) rfl rfl (Below.refl _ _) (fun hHeld => ?_)
  generalize (W_).drew = W1 at *
  refine pure_ (i := 0) (N := (some 17)) (v := ?_) (a' := ?_) #[true, false, false, false, false, false] rfl rfl (by kernel_rfl) (fun _ _ _ h => h) (Or.inl ⟨by rfl, ?_⟩) ?_ ?_
  rotate_left
  · intro w'
    go_simp
    first | done | with_reducible rfl
  rotate_left
  · simp only [Act.put, List.setIfInBounds_toArray, List.set_cons_zero, List.set_cons_succ, i64_w, i32_w]
    rfl
  refine take_ (i := 1) (N := (some 18)) (v := ?_) (a' := ?_) #[true, true, false, false, false, false] rfl rfl (by kernel_rfl) (fun _ _ _ h => h) (Or.inl ⟨by rfl, ?_⟩) hHeld ?_ ?_
  rotate_left
  · intro w' hS
    have s0 := pw_cell_below hS b0
    go_simp
    first | done | with_reducible rfl
  rotate_left
  · simp only [Act.put, List.setIfInBounds_toArray, List.set_cons_zero, List.set_cons_succ, i64_w, i32_w]
    rfl
  refine pure_ (i := 2) (N := (some 19)) (v := ?_) (a' := ?_) #[true, true, true, false, false, false] rfl rfl (by kernel_rfl) (fun _ _ _ h => h) (Or.inl ⟨by rfl, ?_⟩) ?_ ?_
  rotate_left
  · intro w'
    go_simp
    first | done | with_reducible rfl
  rotate_left
  · simp only [Act.put, List.setIfInBounds_toArray, List.set_cons_zero, List.set_cons_succ, i64_w, i32_w]
    rfl
  refine take_ (i := 3) (N := (some 20)) (v := ?_) (a' := ?_) #[true, true, true, true, false, false] rfl rfl (by kernel_rfl) (fun _ _ _ h => h) (Or.inl ⟨by rfl, ?_⟩) hHeld ?_ ?_
  rotate_left
  · intro w' hS
    have s0 := pw_cell_below hS b1
    go_simp
    first | done | with_reducible rfl
  rotate_left
  · simp only [Act.put, List.setIfInBounds_toArray, List.set_cons_zero, List.set_cons_succ, i64_w, i32_w]
    rfl
  refine pure_ (i := 4) (N := (some 7)) (v := ?_) (a' := ?_) #[true, true, true, true, true, false] rfl rfl (by kernel_rfl) (fun _ _ _ h => h) (Or.inl ⟨by rfl, ?_⟩) ?_ ?_
  rotate_left
  · intro w'
    go_simp
    first | done | with_reducible rfl
  rotate_left
  · simp only [Act.put, List.setIfInBounds_toArray, List.set_cons_zero, List.set_cons_succ, i64_w, i32_w]
    rfl
  refine pure_ (i := 5) (N := (some 8)) (v := ?_) (a' := ?_) #[true, true, true, true, true, true] rfl rfl (by kernel_rfl) (fun _ _ _ h => h) (Or.inl ⟨by rfl, ?_⟩) ?_ ?_
  rotate_left
  · intro w'
    go_simp
    first | done | with_reducible rfl
  rotate_left
  · simp only [Act.put, List.setIfInBounds_toArray, List.set_cons_zero, List.set_cons_succ, i64_w, i32_w]
    rfl
  refine done_ (by kernel_rfl) ?_
  have OW := Aside0.mk (OD.out.step hHeld)
  clear OD b0 b1 hHeld
  go_wp2_with (first
    | (go_at_call 31; (with_reducible refine (HAW.out _).mono ?_); rintro e w_ ⟨rfl, hB⟩; have n_ := Aside0.mk (OW.out.step hB); clear OW hB; have OW := n_; clear n_)
    | (go_at_call 15; (with_reducible refine (HF.out _ (Kd.C_below HR.out OW.out.below)).mono ?_); rintro e w_ ⟨rfl, rfl⟩)
    | (go_at_call 16; (with_reducible refine (make_c _).mono ?_); rintro e wz ⟨rfl, hB⟩; have n_ := Aside0.mk (OW.out.step hB); clear OW hB; have OW := n_; clear n_)
    | ((with_reducible refine gate_dst (N := 9) rfl ?_); refine tab_event (N := 9) rfl rfl rfl rfl rfl rfl (fun _ => rfl) (fun _ => rfl) ?_; intro gT hg wz hb hbb; have n_ : Aside0 (Mem.Own w (wz) [(gH, #[.int .i64 size, .string root], 66), (gW, #[.bool b, .int .i64 lv, .int .i64 ix], 58), (gT, TV, 31)]) := ⟨OW.out.new hg hb hbb⟩; clear OW hb hbb hg; have OW := n_; clear n_)
    | ((with_reducible refine gate_dst (N := 36) rfl ?_); refine wpList_load_row rfl 31 (.tmp 9) rfl gT rfl 31 TV (0, 0) _ (OW.out.blk 2 rfl) Try.underlying31 rfl HI.out ?_)
    | (go_at_call 38; (with_reducible refine (HH.out _).mono ?_); rintro e w_ ⟨rfl, hB⟩; have n_ := Aside0.mk (OW.out.step hB); clear OW hB; have OW := n_; clear n_)
    | (go_at_call 37; (with_reducible refine (HN.out _).mono ?_); rintro e w_ ⟨rfl, hB⟩; have n_ := Aside0.mk (OW.out.step hB); clear OW hB; have OW := n_; clear n_))
  go_ret
  exact ⟨rfl, OW.out.below⟩
set_option maxRecDepth 100000 in
set_option maxHeartbeats 8000000 in
theorem args_bad2 (A : Option Addr) (c : Nat) (l : List ByteArray) (size : Int) (root : ByteArray) (b : Bool) (lv ix : Int) (w : World) (hr : Kd.C Kd.string w A l.length l) (hb : fewB l 64 40 = true) (hs : root.size ≤ 40) (h1 : ¬ size < 0 ∧ ¬ 64 < size) (h2 : root.size ≠ 32) :
    Calls Try.prog 10 #[.slice A l.length c, .agg #[.int .i64 size, .string root], .agg #[.bool b, .int .i64 lv, .int .i64 ix]] w fun e w' => e = .returned (.bool true) ∧ Below w.heap.size w w' := by
  have OW := Aside0.mk (Mem.Own.nil w)
  have HI := Aside0.mk info_tab
  have HAW := Aside0.mk awake21_c
  have HF := Aside0.mk (fun W h => few6440 A c l W h)
  have HR := Aside0.mk hr
  rw [hb] at HF
  have HN := Aside0.mk (fun W => new_bad size root W (by unfold badB; simp [h2]))
  have HH := Aside0.mk (fun W => h_c ⟨#[]⟩ (by decide) W)
  have hfold : Ref01.sumF ⟨#[]⟩ = emptyF := rfl
  rw [hfold] at HH
  have hsi : (root.size : Int) ≤ 40 := by omega
  obtain ⟨h1, h3⟩ := h1
  have h3b : ((root.size : Int) == 32) = false := by rw [beq_eq_false_iff_ne]; omega
  have h3d : (root.size : Int) ≠ 32 := by omega
  clear hfold hb hr hs
  go_enter Try.func10, Try.ntmps10
  go_wp2_with (first
    | ((with_reducible refine gate_dst (N := 4) rfl ?_); refine box_event ?hg (N := 4) ?hd (cs := #[.int .i64 size, .string root]) (t := 66) ?hr ?_; (case hd => rfl); (case hg => rfl); (case hr => first | (go_simp; done) | (go_simp; rfl)); intro gH hg W_ hb hbb; have n_ : Aside0 (Mem.Own w W_ [(gH, #[.int .i64 size, .string root], 66)]) := ⟨OW.out.new hg hb hbb⟩; clear OW hb hbb hg; have OW := n_; clear n_)
    | ((with_reducible refine gate_dst (N := 5) rfl ?_); refine box_event ?hg (N := 5) ?hd (cs := #[.bool b, .int .i64 lv, .int .i64 ix]) (t := 58) ?hr ?_; (case hd => rfl); (case hg => rfl); (case hr => first | (go_simp; done) | (go_simp; rfl)); intro gW hg W_ hb hbb; have n_ : Aside0 (Mem.Own w W_ [(gH, #[.int .i64 size, .string root], 66), (gW, #[.bool b, .int .i64 lv, .int .i64 ix], 58)]) := ⟨OW.out.new hg hb hbb⟩; clear OW hb hbb hg; have OW := n_; clear n_))
  have OD := Aside0.mk OW.out.drew
  have b0 : W_.drew.cell? ⟨gH, 0, none⟩ = some (.int .i64 size) := (OD.out.cell 0 rfl 0).trans rfl
  have b1 : W_.drew.cell? ⟨gH, 1, none⟩ = some (.string root) := (OD.out.cell 0 rfl 1).trans rfl
  clear OW
  refine start_ (n := 6) (S := fun w' => Below (W_).drew.heap.size (W_).drew w') (ds := []) #[false, false, false, false, false, false] (by kernel_rfl) rfl rfl (Below.refl _ _) (fun hHeld => ?_)
  generalize (W_).drew = W1 at *
  refine pure_ (i := 0) (N := (some 17)) (v := ?_) (a' := ?_) #[true, false, false, false, false, false] rfl rfl (by kernel_rfl) (fun _ _ _ h => h) (Or.inl ⟨by rfl, ?_⟩) ?_ ?_
  rotate_left
  · intro w'
    go_simp
    first | done | with_reducible rfl
  rotate_left
  · simp only [Act.put, List.setIfInBounds_toArray, List.set_cons_zero, List.set_cons_succ, i64_w, i32_w]
    rfl
  refine take_ (i := 1) (N := (some 18)) (v := ?_) (a' := ?_) #[true, true, false, false, false, false] rfl rfl (by kernel_rfl) (fun _ _ _ h => h) (Or.inl ⟨by rfl, ?_⟩) hHeld ?_ ?_
  rotate_left
  · intro w' hS
    have s0 := pw_cell_below hS b0
    go_simp
    first | done | with_reducible rfl
  rotate_left
  · simp only [Act.put, List.setIfInBounds_toArray, List.set_cons_zero, List.set_cons_succ, i64_w, i32_w]
    rfl
  refine pure_ (i := 2) (N := (some 19)) (v := ?_) (a' := ?_) #[true, true, true, false, false, false] rfl rfl (by kernel_rfl) (fun _ _ _ h => h) (Or.inl ⟨by rfl, ?_⟩) ?_ ?_
  rotate_left
  · intro w'
    go_simp
    first | done | with_reducible rfl
  rotate_left
  · simp only [Act.put, List.setIfInBounds_toArray, List.set_cons_zero, List.set_cons_succ, i64_w, i32_w]
    rfl
  refine take_ (i := 3) (N := (some 20)) (v := ?_) (a' := ?_) #[true, true, true, true, false, false] rfl rfl (by kernel_rfl) (fun _ _ _ h => h) (Or.inl ⟨by rfl, ?_⟩) hHeld ?_ ?_
  rotate_left
  · intro w' hS
    have s0 := pw_cell_below hS b1
    go_simp
    first | done | with_reducible rfl
  rotate_left
  · simp only [Act.put, List.setIfInBounds_toArray, List.set_cons_zero, List.set_cons_succ, i64_w, i32_w]
    rfl
  refine pure_ (i := 4) (N := (some 7)) (v := ?_) (a' := ?_) #[true, true, true, true, true, false] rfl rfl (by kernel_rfl) (fun _ _ _ h => h) (Or.inl ⟨by rfl, ?_⟩) ?_ ?_
  rotate_left
  · intro w'
    go_simp
    first | done | with_reducible rfl
  rotate_left
  · simp only [Act.put, List.setIfInBounds_toArray, List.set_cons_zero, List.set_cons_succ, i64_w, i32_w]
    rfl
  refine pure_ (i := 5) (N := (some 8)) (v := ?_) (a' := ?_) #[true, true, true, true, true, true] rfl rfl (by kernel_rfl) (fun _ _ _ h => h) (Or.inl ⟨by rfl, ?_⟩) ?_ ?_
  rotate_left
  · intro w'
    go_simp
    first | done | with_reducible rfl
  rotate_left
  · simp only [Act.put, List.setIfInBounds_toArray, List.set_cons_zero, List.set_cons_succ, i64_w, i32_w]
    rfl
  refine done_ (by kernel_rfl) ?_
  have OW := Aside0.mk (OD.out.step hHeld)
  clear OD b0 b1 hHeld
  go_wp2_with (first
    | (go_at_call 31; (with_reducible refine (HAW.out _).mono ?_); rintro e w_ ⟨rfl, hB⟩; have n_ := Aside0.mk (OW.out.step hB); clear OW hB; have OW := n_; clear n_)
    | (go_at_call 15; (with_reducible refine (HF.out _ (Kd.C_below HR.out OW.out.below)).mono ?_); rintro e w_ ⟨rfl, rfl⟩)
    | (go_at_call 16; (with_reducible refine (make_c _).mono ?_); rintro e wz ⟨rfl, hB⟩; have n_ := Aside0.mk (OW.out.step hB); clear OW hB; have OW := n_; clear n_)
    | ((with_reducible refine gate_dst (N := 9) rfl ?_); refine tab_event (N := 9) rfl rfl rfl rfl rfl rfl (fun _ => rfl) (fun _ => rfl) ?_; intro gT hg wz hb hbb; have n_ : Aside0 (Mem.Own w (wz) [(gH, #[.int .i64 size, .string root], 66), (gW, #[.bool b, .int .i64 lv, .int .i64 ix], 58), (gT, TV, 31)]) := ⟨OW.out.new hg hb hbb⟩; clear OW hb hbb hg; have OW := n_; clear n_)
    | ((with_reducible refine gate_dst (N := 36) rfl ?_); refine wpList_load_row rfl 31 (.tmp 9) rfl gT rfl 31 TV (0, 0) _ (OW.out.blk 2 rfl) Try.underlying31 rfl HI.out ?_)
    | (go_at_call 38; (with_reducible refine (HH.out _).mono ?_); rintro e w_ ⟨rfl, hB⟩; have n_ := Aside0.mk (OW.out.step hB); clear OW hB; have OW := n_; clear n_)
    | (go_at_call 37; (with_reducible refine (HN.out _).mono ?_); rintro e w_ ⟨rfl, hB⟩; have n_ := Aside0.mk (OW.out.step hB); clear OW hB; have OW := n_; clear n_))
  go_ret
  exact ⟨rfl, OW.out.below⟩
set_option maxRecDepth 100000 in
set_option maxHeartbeats 8000000 in
theorem args_bad3 (A : Option Addr) (c : Nat) (l : List ByteArray) (root : ByteArray) (b : Bool) (lv ix : Int) (w : World) (hr : Kd.C Kd.string w A l.length l) (hb : fewB l 64 40 = true) (hs : root.size ≤ 40) (h1 : root.size = 32) (h2 : root ≠ emptyF) :
    Calls Try.prog 10 #[.slice A l.length c, .agg #[.int .i64 0, .string root], .agg #[.bool b, .int .i64 lv, .int .i64 ix]] w fun e w' => e = .returned (.bool true) ∧ Below w.heap.size w w' := by
  have OW := Aside0.mk (Mem.Own.nil w)
  have HI := Aside0.mk info_tab
  have HAW := Aside0.mk awake21_c
  have HF := Aside0.mk (fun W h => few6440 A c l W h)
  have HR := Aside0.mk hr
  rw [hb] at HF
  have HN := Aside0.mk (fun W => new_bad 0 root W (by unfold badB; simp [h2]))
  have HH := Aside0.mk (fun W => h_c ⟨#[]⟩ (by decide) W)
  have hfold : Ref01.sumF ⟨#[]⟩ = emptyF := rfl
  rw [hfold] at HH
  have hsi : (root.size : Int) ≤ 40 := by omega
  have h3b : ((root.size : Int) == 32) = true := by rw [beq_iff_eq]; omega
  have h3d : (root.size : Int) = 32 := by omega
  have h4b : (root.toList == emptyF.toList) = false := beq_eq_false_iff_ne.2 (fun e => h2 (toList_inj e))
  clear hfold hb hr hs
  go_enter Try.func10, Try.ntmps10
  go_wp2_with (first
    | ((with_reducible refine gate_dst (N := 4) rfl ?_); refine box_event ?hg (N := 4) ?hd (cs := #[.int .i64 0, .string root]) (t := 66) ?hr ?_; (case hd => rfl); (case hg => rfl); (case hr => first | (go_simp; done) | (go_simp; rfl)); intro gH hg W_ hb hbb; have n_ : Aside0 (Mem.Own w W_ [(gH, #[.int .i64 0, .string root], 66)]) := ⟨OW.out.new hg hb hbb⟩; clear OW hb hbb hg; have OW := n_; clear n_)
    | ((with_reducible refine gate_dst (N := 5) rfl ?_); refine box_event ?hg (N := 5) ?hd (cs := #[.bool b, .int .i64 lv, .int .i64 ix]) (t := 58) ?hr ?_; (case hd => rfl); (case hg => rfl); (case hr => first | (go_simp; done) | (go_simp; rfl)); intro gW hg W_ hb hbb; have n_ : Aside0 (Mem.Own w W_ [(gH, #[.int .i64 0, .string root], 66), (gW, #[.bool b, .int .i64 lv, .int .i64 ix], 58)]) := ⟨OW.out.new hg hb hbb⟩; clear OW hb hbb hg; have OW := n_; clear n_))
  have OD := Aside0.mk OW.out.drew
  have b0 : W_.drew.cell? ⟨gH, 0, none⟩ = some (.int .i64 0) := (OD.out.cell 0 rfl 0).trans rfl
  have b1 : W_.drew.cell? ⟨gH, 1, none⟩ = some (.string root) := (OD.out.cell 0 rfl 1).trans rfl
  clear OW
  refine start_ (n := 6) (S := fun w' => Below (W_).drew.heap.size (W_).drew w') (ds := []) #[false, false, false, false, false, false] (by kernel_rfl) rfl rfl (Below.refl _ _) (fun hHeld => ?_)
  generalize (W_).drew = W1 at *
  refine pure_ (i := 0) (N := (some 17)) (v := ?_) (a' := ?_) #[true, false, false, false, false, false] rfl rfl (by kernel_rfl) (fun _ _ _ h => h) (Or.inl ⟨by rfl, ?_⟩) ?_ ?_
  rotate_left
  · intro w'
    go_simp
    first | done | with_reducible rfl
  rotate_left
  · simp only [Act.put, List.setIfInBounds_toArray, List.set_cons_zero, List.set_cons_succ, i64_w, i32_w]
    rfl
  refine take_ (i := 1) (N := (some 18)) (v := ?_) (a' := ?_) #[true, true, false, false, false, false] rfl rfl (by kernel_rfl) (fun _ _ _ h => h) (Or.inl ⟨by rfl, ?_⟩) hHeld ?_ ?_
  rotate_left
  · intro w' hS
    have s0 := pw_cell_below hS b0
    go_simp
    first | done | with_reducible rfl
  rotate_left
  · simp only [Act.put, List.setIfInBounds_toArray, List.set_cons_zero, List.set_cons_succ, i64_w, i32_w]
    rfl
  refine pure_ (i := 2) (N := (some 19)) (v := ?_) (a' := ?_) #[true, true, true, false, false, false] rfl rfl (by kernel_rfl) (fun _ _ _ h => h) (Or.inl ⟨by rfl, ?_⟩) ?_ ?_
  rotate_left
  · intro w'
    go_simp
    first | done | with_reducible rfl
  rotate_left
  · simp only [Act.put, List.setIfInBounds_toArray, List.set_cons_zero, List.set_cons_succ, i64_w, i32_w]
    rfl
  refine take_ (i := 3) (N := (some 20)) (v := ?_) (a' := ?_) #[true, true, true, true, false, false] rfl rfl (by kernel_rfl) (fun _ _ _ h => h) (Or.inl ⟨by rfl, ?_⟩) hHeld ?_ ?_
  rotate_left
  · intro w' hS
    have s0 := pw_cell_below hS b1
    go_simp
    first | done | with_reducible rfl
  rotate_left
  · simp only [Act.put, List.setIfInBounds_toArray, List.set_cons_zero, List.set_cons_succ, i64_w, i32_w]
    rfl
  refine pure_ (i := 4) (N := (some 7)) (v := ?_) (a' := ?_) #[true, true, true, true, true, false] rfl rfl (by kernel_rfl) (fun _ _ _ h => h) (Or.inl ⟨by rfl, ?_⟩) ?_ ?_
  rotate_left
  · intro w'
    go_simp
    first | done | with_reducible rfl
  rotate_left
  · simp only [Act.put, List.setIfInBounds_toArray, List.set_cons_zero, List.set_cons_succ, i64_w, i32_w]
    rfl
  refine pure_ (i := 5) (N := (some 8)) (v := ?_) (a' := ?_) #[true, true, true, true, true, true] rfl rfl (by kernel_rfl) (fun _ _ _ h => h) (Or.inl ⟨by rfl, ?_⟩) ?_ ?_
  rotate_left
  · intro w'
    go_simp
    first | done | with_reducible rfl
  rotate_left
  · simp only [Act.put, List.setIfInBounds_toArray, List.set_cons_zero, List.set_cons_succ, i64_w, i32_w]
    rfl
  refine done_ (by kernel_rfl) ?_
  have OW := Aside0.mk (OD.out.step hHeld)
  clear OD b0 b1 hHeld
  go_wp2_with (first
    | (go_at_call 31; (with_reducible refine (HAW.out _).mono ?_); rintro e w_ ⟨rfl, hB⟩; have n_ := Aside0.mk (OW.out.step hB); clear OW hB; have OW := n_; clear n_)
    | (go_at_call 15; (with_reducible refine (HF.out _ (Kd.C_below HR.out OW.out.below)).mono ?_); rintro e w_ ⟨rfl, rfl⟩)
    | (go_at_call 16; (with_reducible refine (make_c _).mono ?_); rintro e wz ⟨rfl, hB⟩; have n_ := Aside0.mk (OW.out.step hB); clear OW hB; have OW := n_; clear n_)
    | ((with_reducible refine gate_dst (N := 9) rfl ?_); refine tab_event (N := 9) rfl rfl rfl rfl rfl rfl (fun _ => rfl) (fun _ => rfl) ?_; intro gT hg wz hb hbb; have n_ : Aside0 (Mem.Own w (wz) [(gH, #[.int .i64 0, .string root], 66), (gW, #[.bool b, .int .i64 lv, .int .i64 ix], 58), (gT, TV, 31)]) := ⟨OW.out.new hg hb hbb⟩; clear OW hb hbb hg; have OW := n_; clear n_)
    | ((with_reducible refine gate_dst (N := 36) rfl ?_); refine wpList_load_row rfl 31 (.tmp 9) rfl gT rfl 31 TV (0, 0) _ (OW.out.blk 2 rfl) Try.underlying31 rfl HI.out ?_)
    | (go_at_call 38; (with_reducible refine (HH.out _).mono ?_); rintro e w_ ⟨rfl, hB⟩; have n_ := Aside0.mk (OW.out.step hB); clear OW hB; have OW := n_; clear n_)
    | (go_at_call 37; (with_reducible refine (HN.out _).mono ?_); rintro e w_ ⟨rfl, hB⟩; have n_ := Aside0.mk (OW.out.step hB); clear OW hB; have OW := n_; clear n_))
  go_ret
  exact ⟨rfl, OW.out.below⟩
set_option maxRecDepth 100000 in
set_option maxHeartbeats 8000000 in
theorem args_next (A : Option Addr) (c : Nat) (l : List ByteArray) (n : Nat) (root : ByteArray) (b : Bool) (lv ix : Int) (w : World) (hr : Kd.C Kd.string w A l.length l) (x : Want) (hb : fewB l 64 40 = true) (h1 : n ≤ 64) (h2 : root.size = 32) (h3 : 0 < n) (hx : nextF (mt n root) = some x) (hw : (b, lv, ix) = x) :
    Calls Try.prog 10 #[.slice A l.length c, .agg #[.int .i64 (n : Int), .string root], .agg #[.bool b, .int .i64 lv, .int .i64 ix]] w fun e w' => e = .returned (.bool true) ∧ Below w.heap.size w w' := by
  have OW := Aside0.mk (Mem.Own.nil w)
  have HI := Aside0.mk info_tab
  have HAW := Aside0.mk awake21_c
  have HF := Aside0.mk (fun W h => few6440 A c l W h)
  have HR := Aside0.mk hr
  rw [hb] at HF
  subst hw
  have HN := Aside0.mk (fun W => new_good n root W h1 h2 (fun e => absurd e (by omega)))
  have HX := Aside0.mk hx
  have HTN := Aside0.mk (takeS_nil n root h1 _ hx)
  have hsi : (root.size : Int) ≤ 40 := by omega
  have h3b : ((root.size : Int) == 32) = true := by rw [beq_iff_eq]; omega
  have h3i : (0 : Int) < (n : Int) := by omega
  have h1i : (n : Int) ≤ 64 := by omega
  have hdn : decide (0 < n) = true := decide_eq_true h3
  have hask : (mt n root).asked = 0 := rfl
  have heq := fun W => eql_want W b b lv ix lv ix
  rw [show (b == b && (lv == lv && (ix == ix))) = true by simp] at heq
  clear hb hr hx h1 h2
  go_enter Try.func10, Try.ntmps10
  go_wp2_with (first
    | ((with_reducible refine gate_dst (N := 4) rfl ?_); refine box_event ?hg (N := 4) ?hd (cs := #[.int .i64 (n : Int), .string root]) (t := 66) ?hr ?_; (case hd => rfl); (case hg => rfl); (case hr => first | (go_simp; done) | (go_simp; rfl)); intro gH hg W_ hb hbb; have n_ : Aside0 (Mem.Own w W_ [(gH, #[.int .i64 (n : Int), .string root], 66)]) := ⟨OW.out.new hg hb hbb⟩; clear OW hb hbb hg; have OW := n_; clear n_)
    | ((with_reducible refine gate_dst (N := 5) rfl ?_); refine box_event ?hg (N := 5) ?hd (cs := #[.bool b, .int .i64 lv, .int .i64 ix]) (t := 58) ?hr ?_; (case hd => rfl); (case hg => rfl); (case hr => first | (go_simp; done) | (go_simp; rfl)); intro gW hg W_ hb hbb; have n_ : Aside0 (Mem.Own w W_ [(gH, #[.int .i64 (n : Int), .string root], 66), (gW, #[.bool b, .int .i64 lv, .int .i64 ix], 58)]) := ⟨OW.out.new hg hb hbb⟩; clear OW hb hbb hg; have OW := n_; clear n_))
  have OD := Aside0.mk OW.out.drew
  have b0 : W_.drew.cell? ⟨gH, 0, none⟩ = some (.int .i64 (n : Int)) := (OD.out.cell 0 rfl 0).trans rfl
  have b1 : W_.drew.cell? ⟨gH, 1, none⟩ = some (.string root) := (OD.out.cell 0 rfl 1).trans rfl
  clear OW
  refine start_ (n := 6) (S := fun w' => Below (W_).drew.heap.size (W_).drew w') (ds := []) #[false, false, false, false, false, false] (by kernel_rfl) rfl rfl (Below.refl _ _) (fun hHeld => ?_)
  generalize (W_).drew = W1 at *
  refine pure_ (i := 0) (N := (some 17)) (v := ?_) (a' := ?_) #[true, false, false, false, false, false] rfl rfl (by kernel_rfl) (fun _ _ _ h => h) (Or.inl ⟨by rfl, ?_⟩) ?_ ?_
  rotate_left
  · intro w'
    go_simp
    first | done | with_reducible rfl
  rotate_left
  · simp only [Act.put, List.setIfInBounds_toArray, List.set_cons_zero, List.set_cons_succ, i64_w, i32_w]
    rfl
  refine take_ (i := 1) (N := (some 18)) (v := ?_) (a' := ?_) #[true, true, false, false, false, false] rfl rfl (by kernel_rfl) (fun _ _ _ h => h) (Or.inl ⟨by rfl, ?_⟩) hHeld ?_ ?_
  rotate_left
  · intro w' hS
    have s0 := pw_cell_below hS b0
    go_simp
    first | done | with_reducible rfl
  rotate_left
  · simp only [Act.put, List.setIfInBounds_toArray, List.set_cons_zero, List.set_cons_succ, i64_w, i32_w]
    rfl
  refine pure_ (i := 2) (N := (some 19)) (v := ?_) (a' := ?_) #[true, true, true, false, false, false] rfl rfl (by kernel_rfl) (fun _ _ _ h => h) (Or.inl ⟨by rfl, ?_⟩) ?_ ?_
  rotate_left
  · intro w'
    go_simp
    first | done | with_reducible rfl
  rotate_left
  · simp only [Act.put, List.setIfInBounds_toArray, List.set_cons_zero, List.set_cons_succ, i64_w, i32_w]
    rfl
  refine take_ (i := 3) (N := (some 20)) (v := ?_) (a' := ?_) #[true, true, true, true, false, false] rfl rfl (by kernel_rfl) (fun _ _ _ h => h) (Or.inl ⟨by rfl, ?_⟩) hHeld ?_ ?_
  rotate_left
  · intro w' hS
    have s0 := pw_cell_below hS b1
    go_simp
    first | done | with_reducible rfl
  rotate_left
  · simp only [Act.put, List.setIfInBounds_toArray, List.set_cons_zero, List.set_cons_succ, i64_w, i32_w]
    rfl
  refine pure_ (i := 4) (N := (some 7)) (v := ?_) (a' := ?_) #[true, true, true, true, true, false] rfl rfl (by kernel_rfl) (fun _ _ _ h => h) (Or.inl ⟨by rfl, ?_⟩) ?_ ?_
  rotate_left
  · intro w'
    go_simp
    first | done | with_reducible rfl
  rotate_left
  · simp only [Act.put, List.setIfInBounds_toArray, List.set_cons_zero, List.set_cons_succ, i64_w, i32_w]
    rfl
  refine pure_ (i := 5) (N := (some 8)) (v := ?_) (a' := ?_) #[true, true, true, true, true, true] rfl rfl (by kernel_rfl) (fun _ _ _ h => h) (Or.inl ⟨by rfl, ?_⟩) ?_ ?_
  rotate_left
  · intro w'
    go_simp
    first | done | with_reducible rfl
  rotate_left
  · simp only [Act.put, List.setIfInBounds_toArray, List.set_cons_zero, List.set_cons_succ, i64_w, i32_w]
    rfl
  refine done_ (by kernel_rfl) ?_
  have OW := Aside0.mk (OD.out.step hHeld)
  clear OD b0 b1 hHeld
  go_wp2_with (first
    | (go_at_call 31; (with_reducible refine (HAW.out _).mono ?_); rintro e w_ ⟨rfl, hB⟩; have n_ := Aside0.mk (OW.out.step hB); clear OW hB; have OW := n_; clear n_)
    | (go_at_call 15; (with_reducible refine (HF.out _ (Kd.C_below HR.out OW.out.below)).mono ?_); rintro e w_ ⟨rfl, rfl⟩)
    | (go_at_call 16; (with_reducible refine (make_c _).mono ?_); rintro e wz ⟨rfl, hB⟩; have n_ := Aside0.mk (OW.out.step hB); clear OW hB; have OW := n_; clear n_)
    | ((with_reducible refine gate_dst (N := 9) rfl ?_); refine tab_event (N := 9) rfl rfl rfl rfl rfl rfl (fun _ => rfl) (fun _ => rfl) ?_; intro gT hg wz hb hbb; have n_ : Aside0 (Mem.Own w (wz) [(gH, #[.int .i64 (n : Int), .string root], 66), (gW, #[.bool b, .int .i64 lv, .int .i64 ix], 58), (gT, TV, 31)]) := ⟨OW.out.new hg hb hbb⟩; clear OW hb hbb hg; have OW := n_; clear n_)
    | ((with_reducible refine gate_dst (N := 36) rfl ?_); refine wpList_load_row rfl 31 (.tmp 9) rfl gT rfl 31 TV (0, 0) _ (OW.out.blk 2 rfl) Try.underlying31 rfl HI.out ?_)
    | (go_at_call 38; (with_reducible refine (HH.out _).mono ?_); rintro e w_ ⟨rfl, hB⟩; have n_ := Aside0.mk (OW.out.step hB); clear OW hB; have OW := n_; clear n_)
    | (go_at_call 37; (with_reducible refine (HN.out _).mono ?_); rintro e wn ⟨g, gt, gb, rfl, hI, hB⟩; have HK := Aside0.mk (show ∃ base, IsF base wn g gt gb (mt n root) ∧ w.heap.size ≤ base ∧ base ≤ wn.heap.size from ⟨_, hI, OW.out.size, hB.size⟩); have n_ := Aside0.mk (OW.out.step hB); clear OW hB hI; have OW := n_; clear n_))
  obtain ⟨base, hI9, hbw, hbn⟩ := HK.out
  have HI9 := Aside0.mk hI9
  have HBN := Aside0.mk hbn
  have HBW := Aside0.mk hbw
  clear hI9 hbw hbn HK
  refine (next_c _ HI9.out).mono ?_
  rintro e wx ⟨y, ok, rfl, hcs, hB⟩
  rcases hcs with ⟨hy, rfl⟩ | ⟨hy, _, _⟩
  · obtain rfl : y = (b, lv, ix) := Option.some.inj (hy.symm.trans HX.out)
    simp only [wcs]
    have hal := below_alloc hB (.cells #[.bool b, .int .i64 lv, .int .i64 ix] 58)
    have HI8 := Aside0.mk (HI9.out.below hal)
    have OW2 := Aside0.mk (OW.out.step hal)
    have HSZ := Aside0.mk hal.size
    have j0 := (OW2.out.cell 1 rfl 0).trans rfl
    have j1 := (OW2.out.cell 1 rfl 1).trans rfl
    have j2 := (OW2.out.cell 1 rfl 2).trans rfl
    have HTK := Aside0.mk (fun W (h : IsF base W g gt gb (mt n root)) (hb : base ≤ W.heap.size) => Take_yes (b, lv, ix) none 0 [] h (inv_mt n root) HX.out hb (Nat.zero_le _) (fun y hy => by cases hy) (Nat.le_refl _) (Kd.R_reads' (Kd.R_nil Kd.string 9 W W.heap.size (fun _ => True))).2.2 (by rw [HTN.out.1]; exact Int.le_refl 0) (by rw [HTN.out.1]; show (0 : Int) ≤ 1000000; decide))
    rw [HTN.out.2] at HTK
    simp only [List.length_nil] at HTK
    clear hal hB hy OW HI9
    go_wp2_with (first
      | (go_at_call 40; (with_reducible refine (HTK.out _ HI8.out (Nat.le_trans HBN.out HSZ.out)).mono ?_); rintro e wt ⟨rfl, hI, hT⟩; have HI7 := Aside0.mk hI; have HT7 := Aside0.mk hT; clear hI hT j0 j1 j2)
      | (go_at_call 41; (with_reducible refine (asked_c HI7.out).mono ?_); rintro e wt2 ⟨rfl, rfl⟩))
    go_ret
    exact ⟨rfl, OW2.out.below.trans (HT7.out.to_below (fun k hk => Nat.le_trans HBW.out (HI8.out.foot_ge k hk)) OW2.out.size)⟩
  · exact absurd hy (by rw [HX.out]; simp)
set_option maxRecDepth 100000 in
set_option maxHeartbeats 8000000 in
theorem args_other (A : Option Addr) (c : Nat) (l : List ByteArray) (n : Nat) (root : ByteArray) (b : Bool) (lv ix : Int) (w : World) (hr : Kd.C Kd.string w A l.length l) (x0 : Bool) (x1 x2 : Int) (hb : fewB l 64 40 = true) (h1 : n ≤ 64) (h2 : root.size = 32) (h3 : 0 < n) (hx : nextF (mt n root) = some (x0, x1, x2)) (hw : (b, lv, ix) ≠ (x0, x1, x2)) :
    Calls Try.prog 10 #[.slice A l.length c, .agg #[.int .i64 (n : Int), .string root], .agg #[.bool b, .int .i64 lv, .int .i64 ix]] w fun e w' => e = .returned (.bool true) ∧ Below w.heap.size w w' := by
  have OW := Aside0.mk (Mem.Own.nil w)
  have HI := Aside0.mk info_tab
  have HAW := Aside0.mk awake21_c
  have HF := Aside0.mk (fun W h => few6440 A c l W h)
  have HR := Aside0.mk hr
  rw [hb] at HF
  have h0 : n = 0 → root = emptyF := fun e => absurd e (by omega)
  have HX := Aside0.mk hx
  have HNE := Aside0.mk (show nextF (mt n root) ≠ some (b, lv, ix) from fun e => hw (Option.some.inj (e.symm.trans hx)))
  have h3i : (0 : Int) < (n : Int) := by omega
  have hdn : decide (0 < n) = true := decide_eq_true h3
  have heq := fun W => eql_want W b x0 lv ix x1 x2
  have hwe := want_eq (b, lv, ix) (x0, x1, x2)
  rw [decide_eq_false hw] at hwe
  simp only at hwe
  rw [hwe] at heq
  clear hx hw hwe
  have HN := Aside0.mk (fun W => new_good n root W h1 h2 h0)
  have hsi : (root.size : Int) ≤ 40 := by omega
  have h3b : ((root.size : Int) == 32) = true := by rw [beq_iff_eq]; omega
  have h1i : (n : Int) ≤ 64 := by omega
  have hask : (mt n root).asked = 0 := rfl
  have HH := Aside0.mk (fun W => h_c ⟨#[]⟩ (by decide) W)
  have hfold : Ref01.sumF ⟨#[]⟩ = emptyF := rfl
  rw [hfold] at HH
  have heq2 := fun W => eql_want W x0 x0 x1 x2 x1 x2
  rw [show (x0 == x0 && (x1 == x1 && (x2 == x2))) = true by simp] at heq2
  clear hfold hb hr h1 h2 h0
  go_enter Try.func10, Try.ntmps10
  go_wp2_with (first
    | ((with_reducible refine gate_dst (N := 4) rfl ?_); refine box_event ?hg (N := 4) ?hd (cs := #[.int .i64 (n : Int), .string root]) (t := 66) ?hr ?_; (case hd => rfl); (case hg => rfl); (case hr => first | (go_simp; done) | (go_simp; rfl)); intro gH hg W_ hb hbb; have n_ : Aside0 (Mem.Own w W_ [(gH, #[.int .i64 (n : Int), .string root], 66)]) := ⟨OW.out.new hg hb hbb⟩; clear OW hb hbb hg; have OW := n_; clear n_)
    | ((with_reducible refine gate_dst (N := 5) rfl ?_); refine box_event ?hg (N := 5) ?hd (cs := #[.bool b, .int .i64 lv, .int .i64 ix]) (t := 58) ?hr ?_; (case hd => rfl); (case hg => rfl); (case hr => first | (go_simp; done) | (go_simp; rfl)); intro gW hg W_ hb hbb; have n_ : Aside0 (Mem.Own w W_ [(gH, #[.int .i64 (n : Int), .string root], 66), (gW, #[.bool b, .int .i64 lv, .int .i64 ix], 58)]) := ⟨OW.out.new hg hb hbb⟩; clear OW hb hbb hg; have OW := n_; clear n_))
  have OD := Aside0.mk OW.out.drew
  have b0 : W_.drew.cell? ⟨gH, 0, none⟩ = some (.int .i64 (n : Int)) := (OD.out.cell 0 rfl 0).trans rfl
  have b1 : W_.drew.cell? ⟨gH, 1, none⟩ = some (.string root) := (OD.out.cell 0 rfl 1).trans rfl
  clear OW
  refine start_ (n := 6) (S := fun w' => Below (W_).drew.heap.size (W_).drew w') (ds := []) #[false, false, false, false, false, false] (by kernel_rfl) rfl rfl (Below.refl _ _) (fun hHeld => ?_)
  generalize (W_).drew = W1 at *
  refine pure_ (i := 0) (N := (some 17)) (v := ?_) (a' := ?_) #[true, false, false, false, false, false] rfl rfl (by kernel_rfl) (fun _ _ _ h => h) (Or.inl ⟨by rfl, ?_⟩) ?_ ?_
  rotate_left
  · intro w'
    go_simp
    first | done | with_reducible rfl
  rotate_left
  · simp only [Act.put, List.setIfInBounds_toArray, List.set_cons_zero, List.set_cons_succ, i64_w, i32_w]
    rfl
  refine take_ (i := 1) (N := (some 18)) (v := ?_) (a' := ?_) #[true, true, false, false, false, false] rfl rfl (by kernel_rfl) (fun _ _ _ h => h) (Or.inl ⟨by rfl, ?_⟩) hHeld ?_ ?_
  rotate_left
  · intro w' hS
    have s0 := pw_cell_below hS b0
    go_simp
    first | done | with_reducible rfl
  rotate_left
  · simp only [Act.put, List.setIfInBounds_toArray, List.set_cons_zero, List.set_cons_succ, i64_w, i32_w]
    rfl
  refine pure_ (i := 2) (N := (some 19)) (v := ?_) (a' := ?_) #[true, true, true, false, false, false] rfl rfl (by kernel_rfl) (fun _ _ _ h => h) (Or.inl ⟨by rfl, ?_⟩) ?_ ?_
  rotate_left
  · intro w'
    go_simp
    first | done | with_reducible rfl
  rotate_left
  · simp only [Act.put, List.setIfInBounds_toArray, List.set_cons_zero, List.set_cons_succ, i64_w, i32_w]
    rfl
  refine take_ (i := 3) (N := (some 20)) (v := ?_) (a' := ?_) #[true, true, true, true, false, false] rfl rfl (by kernel_rfl) (fun _ _ _ h => h) (Or.inl ⟨by rfl, ?_⟩) hHeld ?_ ?_
  rotate_left
  · intro w' hS
    have s0 := pw_cell_below hS b1
    go_simp
    first | done | with_reducible rfl
  rotate_left
  · simp only [Act.put, List.setIfInBounds_toArray, List.set_cons_zero, List.set_cons_succ, i64_w, i32_w]
    rfl
  refine pure_ (i := 4) (N := (some 7)) (v := ?_) (a' := ?_) #[true, true, true, true, true, false] rfl rfl (by kernel_rfl) (fun _ _ _ h => h) (Or.inl ⟨by rfl, ?_⟩) ?_ ?_
  rotate_left
  · intro w'
    go_simp
    first | done | with_reducible rfl
  rotate_left
  · simp only [Act.put, List.setIfInBounds_toArray, List.set_cons_zero, List.set_cons_succ, i64_w, i32_w]
    rfl
  refine pure_ (i := 5) (N := (some 8)) (v := ?_) (a' := ?_) #[true, true, true, true, true, true] rfl rfl (by kernel_rfl) (fun _ _ _ h => h) (Or.inl ⟨by rfl, ?_⟩) ?_ ?_
  rotate_left
  · intro w'
    go_simp
    first | done | with_reducible rfl
  rotate_left
  · simp only [Act.put, List.setIfInBounds_toArray, List.set_cons_zero, List.set_cons_succ, i64_w, i32_w]
    rfl
  refine done_ (by kernel_rfl) ?_
  have OW := Aside0.mk (OD.out.step hHeld)
  clear OD b0 b1 hHeld
  go_wp2_with (first
    | (go_at_call 31; (with_reducible refine (HAW.out _).mono ?_); rintro e w_ ⟨rfl, hB⟩; have n_ := Aside0.mk (OW.out.step hB); clear OW hB; have OW := n_; clear n_)
    | (go_at_call 15; (with_reducible refine (HF.out _ (Kd.C_below HR.out OW.out.below)).mono ?_); rintro e w_ ⟨rfl, rfl⟩)
    | (go_at_call 16; (with_reducible refine (make_c _).mono ?_); rintro e wz ⟨rfl, hB⟩; have n_ := Aside0.mk (OW.out.step hB); clear OW hB; have OW := n_; clear n_)
    | ((with_reducible refine gate_dst (N := 9) rfl ?_); refine tab_event (N := 9) rfl rfl rfl rfl rfl rfl (fun _ => rfl) (fun _ => rfl) ?_; intro gT hg wz hb hbb; have n_ : Aside0 (Mem.Own w (wz) [(gH, #[.int .i64 (n : Int), .string root], 66), (gW, #[.bool b, .int .i64 lv, .int .i64 ix], 58), (gT, TV, 31)]) := ⟨OW.out.new hg hb hbb⟩; clear OW hb hbb hg; have OW := n_; clear n_)
    | ((with_reducible refine gate_dst (N := 36) rfl ?_); refine wpList_load_row rfl 31 (.tmp 9) rfl gT rfl 31 TV (0, 0) _ (OW.out.blk 2 rfl) Try.underlying31 rfl HI.out ?_)
    | (go_at_call 38; (with_reducible refine (HH.out _).mono ?_); rintro e w_ ⟨rfl, hB⟩; have n_ := Aside0.mk (OW.out.step hB); clear OW hB; have OW := n_; clear n_)
    | (go_at_call 37; (with_reducible refine (HN.out _).mono ?_); rintro e wn ⟨g, gt, gb, rfl, hI, hB⟩; have HK := Aside0.mk (show ∃ base, IsF base wn g gt gb (mt n root) from ⟨_, hI⟩); have n_ := Aside0.mk (OW.out.step hB); clear OW hB hI; have OW := n_; clear n_))
  obtain ⟨base, hI9⟩ := HK.out
  have HI9 := Aside0.mk hI9
  clear hI9 HK
  refine (next_c _ HI9.out).mono ?_
  rintro e wx ⟨y, ok, rfl, hcs, hB⟩
  obtain ⟨rfl, rfl⟩ : y = (x0, x1, x2) ∧ ok = true := by
    rcases hcs with ⟨h, h'⟩ | ⟨h, _⟩
    · exact ⟨Option.some.inj (h.symm.trans HX.out), h'⟩
    · exact absurd h (by rw [HX.out]; simp)
  simp only [wcs]
  have hal := below_alloc hB (.cells #[.bool x0, .int .i64 x1, .int .i64 x2] 58)
  have hnb := blk_new wx (.cells #[.bool x0, .int .i64 x1, .int .i64 x2] 58)
  have HI8 := Aside0.mk (HI9.out.below hal)
  have OX := Aside0.mk (OW.out.step hB)
  have OW2 := Aside0.mk (OX.out.new rfl hnb (below_alloc (Below.refl _ _) _))
  have j0 := (OW2.out.cell 1 rfl 0).trans rfl
  have j1 := (OW2.out.cell 1 rfl 1).trans rfl
  have j2 := (OW2.out.cell 1 rfl 2).trans rfl
  have k0 := (OW2.out.cell 3 rfl 0).trans rfl
  have k1 := (OW2.out.cell 3 rfl 1).trans rfl
  have k2 := (OW2.out.cell 3 rfl 2).trans rfl
  clear hal hB hcs OW HI9 OX hnb
  go_wp2_with fail
  refine (next_c _ HI8.out).mono ?_
  rintro e wu ⟨y, ok, rfl, hcs, hB⟩
  obtain ⟨rfl, rfl⟩ : y = (x0, x1, x2) ∧ ok = true := by
    rcases hcs with ⟨h, h'⟩ | ⟨h, _⟩
    · exact ⟨Option.some.inj (h.symm.trans HX.out), h'⟩
    · exact absurd h (by rw [HX.out]; simp)
  simp only [wcs]
  have hnb := blk_new wu (.cells #[.bool x0, .int .i64 x1, .int .i64 x2] 58)
  have HI7 := Aside0.mk (HI8.out.below (below_alloc hB (.cells #[.bool x0, .int .i64 x1, .int .i64 x2] 58)))
  have OX := Aside0.mk (OW2.out.step hB)
  have OW3 := Aside0.mk (OX.out.new rfl hnb (below_alloc (Below.refl _ _) _))
  clear hB hcs OW2 HI8 OX hnb j0 j1 j2 k0 k1 k2
  have j0 := (OW3.out.cell 1 rfl 0).trans rfl
  have j1 := (OW3.out.cell 1 rfl 1).trans rfl
  have j2 := (OW3.out.cell 1 rfl 2).trans rfl
  have HTK := Aside0.mk (Take_no (b, lv, ix) A c l.length HI7.out HNE.out)
  simp only at HTK
  go_wp2_with (first
    | (go_at_call 40; (with_reducible refine HTK.out.mono ?_); rintro e wt ⟨rfl, hB⟩; have HI6 := Aside0.mk (HI7.out.below hB); have OW4 := Aside0.mk (OW3.out.step hB); clear hB j0 j1 j2 HTK OW3; have k0 := (OW4.out.cell 3 rfl 0).trans rfl; have k1 := (OW4.out.cell 3 rfl 1).trans rfl; have k2 := (OW4.out.cell 3 rfl 2).trans rfl; have m0 := (OW4.out.cell 4 rfl 0).trans rfl; have m1 := (OW4.out.cell 4 rfl 1).trans rfl; have m2 := (OW4.out.cell 4 rfl 2).trans rfl)
    | (go_at_call 41; (with_reducible refine (asked_c HI6.out).mono ?_); rintro e wt2 ⟨rfl, rfl⟩))
  go_ret
  exact ⟨rfl, OW4.out.below⟩
set_option maxRecDepth 100000 in
set_option maxHeartbeats 8000000 in
theorem args_none (A : Option Addr) (c : Nat) (l : List ByteArray) (n : Nat) (root : ByteArray) (b : Bool) (lv ix : Int) (w : World) (hr : Kd.C Kd.string w A l.length l) (hb : fewB l 64 40 = true) (h1 : n ≤ 64) (h2 : root.size = 32) (h3 : n = 0) (h4 : root = emptyF) :
    Calls Try.prog 10 #[.slice A l.length c, .agg #[.int .i64 (n : Int), .string root], .agg #[.bool b, .int .i64 lv, .int .i64 ix]] w fun e w' => e = .returned (.bool true) ∧ Below w.heap.size w w' := by
  have OW := Aside0.mk (Mem.Own.nil w)
  have HI := Aside0.mk info_tab
  have HAW := Aside0.mk awake21_c
  have HF := Aside0.mk (fun W h => few6440 A c l W h)
  have HR := Aside0.mk hr
  rw [hb] at HF
  have h0 : n = 0 → root = emptyF := fun _ => h4
  have HX := Aside0.mk ((next_mt n root h1).1 h3)
  have HNE := Aside0.mk (show nextF (mt n root) ≠ some (b, lv, ix) by rw [HX.out]; simp)
  have h3i : ¬ (0 : Int) < (n : Int) := by omega
  have h3n : ¬ 0 < n := by omega
  have hdn : decide (0 < n) = false := decide_eq_false h3n
  have h4b : (root.toList == emptyF.toList) = true := by rw [h4]; simp
  clear h3 h4
  have HN := Aside0.mk (fun W => new_good n root W h1 h2 h0)
  have hsi : (root.size : Int) ≤ 40 := by omega
  have h3b : ((root.size : Int) == 32) = true := by rw [beq_iff_eq]; omega
  have h1i : (n : Int) ≤ 64 := by omega
  have hask : (mt n root).asked = 0 := rfl
  have HH := Aside0.mk (fun W => h_c ⟨#[]⟩ (by decide) W)
  have hfold : Ref01.sumF ⟨#[]⟩ = emptyF := rfl
  rw [hfold] at HH
  have heq2 := fun W => eql_want W false false (0 : Int) (0 : Int) (0 : Int) (0 : Int)
  rw [show (false == false && ((0 : Int) == (0 : Int) && ((0 : Int) == (0 : Int)))) = true by simp] at heq2
  clear hfold hb hr h1 h2 h0
  go_enter Try.func10, Try.ntmps10
  go_wp2_with (first
    | ((with_reducible refine gate_dst (N := 4) rfl ?_); refine box_event ?hg (N := 4) ?hd (cs := #[.int .i64 (n : Int), .string root]) (t := 66) ?hr ?_; (case hd => rfl); (case hg => rfl); (case hr => first | (go_simp; done) | (go_simp; rfl)); intro gH hg W_ hb hbb; have n_ : Aside0 (Mem.Own w W_ [(gH, #[.int .i64 (n : Int), .string root], 66)]) := ⟨OW.out.new hg hb hbb⟩; clear OW hb hbb hg; have OW := n_; clear n_)
    | ((with_reducible refine gate_dst (N := 5) rfl ?_); refine box_event ?hg (N := 5) ?hd (cs := #[.bool b, .int .i64 lv, .int .i64 ix]) (t := 58) ?hr ?_; (case hd => rfl); (case hg => rfl); (case hr => first | (go_simp; done) | (go_simp; rfl)); intro gW hg W_ hb hbb; have n_ : Aside0 (Mem.Own w W_ [(gH, #[.int .i64 (n : Int), .string root], 66), (gW, #[.bool b, .int .i64 lv, .int .i64 ix], 58)]) := ⟨OW.out.new hg hb hbb⟩; clear OW hb hbb hg; have OW := n_; clear n_))
  have OD := Aside0.mk OW.out.drew
  have b0 : W_.drew.cell? ⟨gH, 0, none⟩ = some (.int .i64 (n : Int)) := (OD.out.cell 0 rfl 0).trans rfl
  have b1 : W_.drew.cell? ⟨gH, 1, none⟩ = some (.string root) := (OD.out.cell 0 rfl 1).trans rfl
  clear OW
  refine start_ (n := 6) (S := fun w' => Below (W_).drew.heap.size (W_).drew w') (ds := []) #[false, false, false, false, false, false] (by kernel_rfl) rfl rfl (Below.refl _ _) (fun hHeld => ?_)
  generalize (W_).drew = W1 at *
  refine pure_ (i := 0) (N := (some 17)) (v := ?_) (a' := ?_) #[true, false, false, false, false, false] rfl rfl (by kernel_rfl) (fun _ _ _ h => h) (Or.inl ⟨by rfl, ?_⟩) ?_ ?_
  rotate_left
  · intro w'
    go_simp
    first | done | with_reducible rfl
  rotate_left
  · simp only [Act.put, List.setIfInBounds_toArray, List.set_cons_zero, List.set_cons_succ, i64_w, i32_w]
    rfl
  refine take_ (i := 1) (N := (some 18)) (v := ?_) (a' := ?_) #[true, true, false, false, false, false] rfl rfl (by kernel_rfl) (fun _ _ _ h => h) (Or.inl ⟨by rfl, ?_⟩) hHeld ?_ ?_
  rotate_left
  · intro w' hS
    have s0 := pw_cell_below hS b0
    go_simp
    first | done | with_reducible rfl
  rotate_left
  · simp only [Act.put, List.setIfInBounds_toArray, List.set_cons_zero, List.set_cons_succ, i64_w, i32_w]
    rfl
  refine pure_ (i := 2) (N := (some 19)) (v := ?_) (a' := ?_) #[true, true, true, false, false, false] rfl rfl (by kernel_rfl) (fun _ _ _ h => h) (Or.inl ⟨by rfl, ?_⟩) ?_ ?_
  rotate_left
  · intro w'
    go_simp
    first | done | with_reducible rfl
  rotate_left
  · simp only [Act.put, List.setIfInBounds_toArray, List.set_cons_zero, List.set_cons_succ, i64_w, i32_w]
    rfl
  refine take_ (i := 3) (N := (some 20)) (v := ?_) (a' := ?_) #[true, true, true, true, false, false] rfl rfl (by kernel_rfl) (fun _ _ _ h => h) (Or.inl ⟨by rfl, ?_⟩) hHeld ?_ ?_
  rotate_left
  · intro w' hS
    have s0 := pw_cell_below hS b1
    go_simp
    first | done | with_reducible rfl
  rotate_left
  · simp only [Act.put, List.setIfInBounds_toArray, List.set_cons_zero, List.set_cons_succ, i64_w, i32_w]
    rfl
  refine pure_ (i := 4) (N := (some 7)) (v := ?_) (a' := ?_) #[true, true, true, true, true, false] rfl rfl (by kernel_rfl) (fun _ _ _ h => h) (Or.inl ⟨by rfl, ?_⟩) ?_ ?_
  rotate_left
  · intro w'
    go_simp
    first | done | with_reducible rfl
  rotate_left
  · simp only [Act.put, List.setIfInBounds_toArray, List.set_cons_zero, List.set_cons_succ, i64_w, i32_w]
    rfl
  refine pure_ (i := 5) (N := (some 8)) (v := ?_) (a' := ?_) #[true, true, true, true, true, true] rfl rfl (by kernel_rfl) (fun _ _ _ h => h) (Or.inl ⟨by rfl, ?_⟩) ?_ ?_
  rotate_left
  · intro w'
    go_simp
    first | done | with_reducible rfl
  rotate_left
  · simp only [Act.put, List.setIfInBounds_toArray, List.set_cons_zero, List.set_cons_succ, i64_w, i32_w]
    rfl
  refine done_ (by kernel_rfl) ?_
  have OW := Aside0.mk (OD.out.step hHeld)
  clear OD b0 b1 hHeld
  go_wp2_with (first
    | (go_at_call 31; (with_reducible refine (HAW.out _).mono ?_); rintro e w_ ⟨rfl, hB⟩; have n_ := Aside0.mk (OW.out.step hB); clear OW hB; have OW := n_; clear n_)
    | (go_at_call 15; (with_reducible refine (HF.out _ (Kd.C_below HR.out OW.out.below)).mono ?_); rintro e w_ ⟨rfl, rfl⟩)
    | (go_at_call 16; (with_reducible refine (make_c _).mono ?_); rintro e wz ⟨rfl, hB⟩; have n_ := Aside0.mk (OW.out.step hB); clear OW hB; have OW := n_; clear n_)
    | ((with_reducible refine gate_dst (N := 9) rfl ?_); refine tab_event (N := 9) rfl rfl rfl rfl rfl rfl (fun _ => rfl) (fun _ => rfl) ?_; intro gT hg wz hb hbb; have n_ : Aside0 (Mem.Own w (wz) [(gH, #[.int .i64 (n : Int), .string root], 66), (gW, #[.bool b, .int .i64 lv, .int .i64 ix], 58), (gT, TV, 31)]) := ⟨OW.out.new hg hb hbb⟩; clear OW hb hbb hg; have OW := n_; clear n_)
    | ((with_reducible refine gate_dst (N := 36) rfl ?_); refine wpList_load_row rfl 31 (.tmp 9) rfl gT rfl 31 TV (0, 0) _ (OW.out.blk 2 rfl) Try.underlying31 rfl HI.out ?_)
    | (go_at_call 38; (with_reducible refine (HH.out _).mono ?_); rintro e w_ ⟨rfl, hB⟩; have n_ := Aside0.mk (OW.out.step hB); have n2 := Aside0.mk (show ∃ base, IsF base w_ g gt gb (mt n root) from (by obtain ⟨b0, h0⟩ := HK.out; exact ⟨b0, h0.below hB⟩)); clear OW hB HK; have OW := n_; have HK := n2; clear n_ n2)
    | (go_at_call 37; (with_reducible refine (HN.out _).mono ?_); rintro e wn ⟨g, gt, gb, rfl, hI, hB⟩; have HK := Aside0.mk (show ∃ base, IsF base wn g gt gb (mt n root) from ⟨_, hI⟩); have n_ := Aside0.mk (OW.out.step hB); clear OW hB hI; have OW := n_; clear n_))
  obtain ⟨base, hI9⟩ := HK.out
  have HI9 := Aside0.mk hI9
  clear hI9 HK
  refine (next_c _ HI9.out).mono ?_
  rintro e wx ⟨y, ok, rfl, hcs, hB⟩
  obtain ⟨rfl, rfl⟩ : y = (false, (0 : Int), (0 : Int)) ∧ ok = false := by
    rcases hcs with ⟨h, _⟩ | ⟨_, h, h'⟩
    · exact absurd h (by rw [HX.out]; simp)
    · exact ⟨h, h'⟩
  simp only [wcs]
  have hal := below_alloc hB (.cells #[.bool false, .int .i64 (0 : Int), .int .i64 (0 : Int)] 58)
  have hnb := blk_new wx (.cells #[.bool false, .int .i64 (0 : Int), .int .i64 (0 : Int)] 58)
  have HI8 := Aside0.mk (HI9.out.below hal)
  have OX := Aside0.mk (OW.out.step hB)
  have OW2 := Aside0.mk (OX.out.new rfl hnb (below_alloc (Below.refl _ _) _))
  have j0 := (OW2.out.cell 1 rfl 0).trans rfl
  have j1 := (OW2.out.cell 1 rfl 1).trans rfl
  have j2 := (OW2.out.cell 1 rfl 2).trans rfl
  have k0 := (OW2.out.cell 3 rfl 0).trans rfl
  have k1 := (OW2.out.cell 3 rfl 1).trans rfl
  have k2 := (OW2.out.cell 3 rfl 2).trans rfl
  clear hal hB hcs OW HI9 OX hnb
  go_wp2_with fail
  refine (next_c _ HI8.out).mono ?_
  rintro e wu ⟨y, ok, rfl, hcs, hB⟩
  obtain ⟨rfl, rfl⟩ : y = (false, (0 : Int), (0 : Int)) ∧ ok = false := by
    rcases hcs with ⟨h, _⟩ | ⟨_, h, h'⟩
    · exact absurd h (by rw [HX.out]; simp)
    · exact ⟨h, h'⟩
  simp only [wcs]
  have hnb := blk_new wu (.cells #[.bool false, .int .i64 (0 : Int), .int .i64 (0 : Int)] 58)
  have HI7 := Aside0.mk (HI8.out.below (below_alloc hB (.cells #[.bool false, .int .i64 (0 : Int), .int .i64 (0 : Int)] 58)))
  have OX := Aside0.mk (OW2.out.step hB)
  have OW3 := Aside0.mk (OX.out.new rfl hnb (below_alloc (Below.refl _ _) _))
  clear hB hcs OW2 HI8 OX hnb j0 j1 j2 k0 k1 k2
  have j0 := (OW3.out.cell 1 rfl 0).trans rfl
  have j1 := (OW3.out.cell 1 rfl 1).trans rfl
  have j2 := (OW3.out.cell 1 rfl 2).trans rfl
  have HTK := Aside0.mk (Take_no (b, lv, ix) A c l.length HI7.out HNE.out)
  simp only at HTK
  go_wp2_with (first
    | (go_at_call 40; (with_reducible refine HTK.out.mono ?_); rintro e wt ⟨rfl, hB⟩; have HI6 := Aside0.mk (HI7.out.below hB); have OW4 := Aside0.mk (OW3.out.step hB); clear hB j0 j1 j2 HTK OW3; have k0 := (OW4.out.cell 3 rfl 0).trans rfl; have k1 := (OW4.out.cell 3 rfl 1).trans rfl; have k2 := (OW4.out.cell 3 rfl 2).trans rfl; have m0 := (OW4.out.cell 4 rfl 0).trans rfl; have m1 := (OW4.out.cell 4 rfl 1).trans rfl; have m2 := (OW4.out.cell 4 rfl 2).trans rfl)
    | (go_at_call 41; (with_reducible refine (asked_c HI6.out).mono ?_); rintro e wt2 ⟨rfl, rfl⟩))
  go_ret
  exact ⟨rfl, OW4.out.below⟩
theorem law_args (A : Option Addr) (c : Nat) (l : List ByteArray) (size : Int) (root : ByteArray) (b : Bool) (lv ix : Int) (w : World) (hc : l.length ≤ c) (hr : Kd.C Kd.string w A l.length l) :
    Calls Try.prog 10 #[.slice A l.length c, .agg #[.int .i64 size, .string root], .agg #[.bool b, .int .i64 lv, .int .i64 ix]] w fun e w' => e = .returned (.bool true) ∧ Below w.heap.size w w' := by
  cases hb : fewB l 64 40 with
  | false => exact args_few A c l size root b lv ix w hr hb
  | true =>
    by_cases hl : 40 < root.size
    · exact args_long A c l size root b lv ix w hr hb hl
    have hl : root.size ≤ 40 := by omega
    by_cases h1 : size < 0
    · exact args_bad0 A c l size root b lv ix w hr hb hl h1
    by_cases h2 : 64 < size
    · exact args_bad1 A c l size root b lv ix w hr hb hl h1 h2
    by_cases h3 : root.size = 32
    · obtain ⟨n, rfl⟩ : ∃ n : Nat, size = n := ⟨size.toNat, by omega⟩
      rcases Nat.eq_zero_or_pos n with hz | hz
      · by_cases h4 : root = emptyF
        · exact args_none A c l n root b lv ix w hr hb (by omega) h3 hz h4
        · subst hz
          exact args_bad3 A c l root b lv ix w hr hb hl h3 h4
      · obtain ⟨⟨x0, x1, x2⟩, hx⟩ := (next_mt n root (by omega)).2 hz
        by_cases hw : (b, lv, ix) = (x0, x1, x2)
        · exact args_next A c l n root b lv ix w hr _ hb (by omega) h3 hz hx hw
        · exact args_other A c l n root b lv ix w hr x0 x1 x2 hb (by omega) h3 hz hx hw
    · exact args_bad2 A c l size root b lv ix w hr hb hl ⟨h1, h2⟩ h3
end Go.Proofs.Ytondnammkcgjpaa.Ft
namespace Go.Proofs.YtondnammkcgjpaaOpens
open Go.ChangeShapes Go.WideShapes Go.Deep Go.Proofs.YtondnammkcgjpaaW.PrintWords

/-- whatever the reader reads at type e is of kind d, and Q holds of it -/
def Reads {α : Type} (d : Kd α) (P : Program) (e : TypeId) (Q : α → Prop) : Prop :=
  ∀ (H : Type) (enc : TypeId × Value → H) (w : World) (base : Nat) (spare : Nat → Bool) (held : Bool) (n : Nat) (cs : List Value) (x : DataW H × List MemPlace),
    DataW.trod enc P w base spare held n e cs = some x → ∃ a : α, d.K w a cs ∧ Q a

theorem reads_int {P : Program} {e : TypeId} {k : IntKind} (he : P.underlying e = some (.int k)) : Reads (Kd.int k) P e (fun n => (Lit.int k n).wf = true) := by
  intro H enc w base spare held n cs x h
  obtain ⟨m, rfl, _, hw⟩ := DataW.trod_int he h
  exact ⟨m, rfl, hw⟩
theorem reads_bool {P : Program} {e : TypeId} (he : P.underlying e = some .bool) : Reads Kd.bool P e (fun _ => True) := by
  intro H enc w base spare held n cs x h
  obtain ⟨m, rfl, _⟩ := DataW.trod_bool he h
  exact ⟨m, rfl, trivial⟩
theorem reads_string {P : Program} {e : TypeId} (he : P.underlying e = some .string) : Reads Kd.string P e (fun s => s.size ≤ maxLen) := by
  intro H enc w base spare held n cs x h
  obtain ⟨m, rfl, _, hs⟩ := DataW.trod_string he h
  exact ⟨m, rfl, hs⟩
/-- fields, from cell 'off' on -/
def ReadsFs {α : Type} (d : Kd α) (P : Program) (fs : List Field) (off : Nat) (Q : α → Prop) : Prop :=
  ∀ (H : Type) (enc : TypeId × Value → H) (w : World) (base : Nat) (spare : Nat → Bool) (held : Bool) (n : Nat) (cs : List Value),
    cs.length = d.sz → (∀ f, f ∈ fs → ∃ y, DataW.trod enc P w base spare held n f.type ((cs.drop (f.offset - off)).take (P.cellsOf f.type)) = some y) → ∃ a : α, d.K w a cs ∧ Q a

theorem fs_last {α : Type} {d : Kd α} {P : Program} {f : Field} {off : Nat} {Q : α → Prop} (h : Reads d P f.type Q) (hs : P.cellsOf f.type = d.sz) (ho : f.offset = off) : ReadsFs d P [f] off Q := by
  intro H enc w base spare held n cs hl hf
  obtain ⟨y, hy⟩ := hf f (List.mem_singleton.2 rfl)
  rw [ho, Nat.sub_self, List.drop_zero, hs, List.take_of_length_le (by omega)] at hy
  exact h H enc w base spare held n cs y hy
theorem fs_cons {α β : Type} {a : Kd α} {b : Kd β} {P : Program} {f : Field} {fs : List Field} {off : Nat} {Qa : α → Prop} {Qb : β → Prop} (h : Reads a P f.type Qa) (hs : P.cellsOf f.type = a.sz) (ho : f.offset = off)
    (hr : ∀ g, g ∈ fs → off + a.sz ≤ g.offset) (hb : ReadsFs b P fs (off + a.sz) Qb) : ReadsFs (Kd.pair a b) P (f :: fs) off (fun x => Qa x.1 ∧ Qb x.2) := by
  intro H enc w base spare held n cs hl hf
  have hl' : cs.length = a.sz + b.sz := hl
  obtain ⟨y, hy⟩ := hf f (List.mem_cons_self ..)
  rw [ho, Nat.sub_self, List.drop_zero, hs] at hy
  obtain ⟨x, hx, hqx⟩ := h H enc w base spare held n _ y hy
  obtain ⟨z, hz, hqz⟩ := hb H enc w base spare held n (cs.drop a.sz) (by rw [List.length_drop]; omega) (fun g hg => by
    obtain ⟨u, hu⟩ := hf g (List.mem_cons_of_mem _ hg)
    refine ⟨u, ?_⟩
    have := hr g hg
    rw [List.drop_drop, show a.sz + (g.offset - (off + a.sz)) = g.offset - off from by omega]
    exact hu)
  exact ⟨(x, z), ⟨cs.take a.sz, cs.drop a.sz, (List.take_append_drop _ _).symm, hx, hz⟩, hqx, hqz⟩
theorem reads_struct {α : Type} {d : Kd α} {P : Program} {t : TypeId} {fs : Array Field} {Q : α → Prop} (ht : P.underlying t = some (.struct fs)) (hs : P.cellsOf t = d.sz) (h : ReadsFs d P fs.toList 0 Q) : Reads d P t Q := by
  intro H enc w base spare held n cs x hx
  obtain ⟨xs, m, _, _, hl, hlen, hf⟩ := DataW.trod_struct ht hx
  refine h H enc w base spare held m cs (hl.trans hs) (fun f hm => ?_)
  obtain ⟨i, hi, rfl⟩ := List.mem_iff_getElem.1 hm
  have hi' : i < fs.size := by rw [Array.length_toList] at hi; exact hi
  have e := hf i (fs.toList[i]) (by rw [Array.getElem?_eq_getElem hi']; rfl)
  have hx2 : i < xs.length := by omega
  exact ⟨xs[i], by rw [Nat.sub_zero, e]; exact List.getElem?_eq_getElem hx2⟩

theorem collect {α : Type} (len : Nat) (R : Nat → α → Prop) (each : ∀ i, i < len → ∃ z, R i z) : ∃ xs : List α, xs.length = len ∧ ∀ i z, xs[i]? = some z → R i z := by
  induction len with
  | zero => exact ⟨[], rfl, fun i z hz => by cases hz⟩
  | succ len ih =>
    obtain ⟨xs, hxl, hxs⟩ := ih (fun i hil => each i (by omega))
    obtain ⟨z, hz⟩ := each len (by omega)
    refine ⟨xs ++ [z], by rw [List.length_append, hxl]; rfl, fun i y hy => ?_⟩
    by_cases hil : i < xs.length
    · rw [List.getElem?_append_left hil] at hy; exact hxs i y hy
    · rw [List.getElem?_append_right (by omega)] at hy
      obtain ⟨hj, rfl⟩ := List.getElem?_eq_some_iff.1 hy
      have : i = len := by simp at hj; omega
      subst this
      simpa using hz

/-- a slice -/
theorem slice_row {α : Type} {d : Kd α} {P : Program} {t e : TypeId} {Q : α → Prop} (ht : P.underlying t = some (.slice e)) (hs : P.cellsOf e = d.sz) (h : Reads d P e Q)
    (H : Type) (enc : TypeId × Value → H) (w : World) (base : Nat) (spare : Nat → Bool) (held : Bool) (n : Nat) (cs : List Value) (x : DataW H × List MemPlace)
    (hx : DataW.trod enc P w base spare held n t cs = some x) : ∃ (A : Option Addr) (c : Nat) (xs : List α), cs = [.slice A xs.length c] ∧ xs.length ≤ c ∧ c ≤ maxLen ∧ d.C w A xs.length xs ∧ ∀ a ∈ xs, Q a := by
  rcases open_slice ht hx with ⟨rfl, _⟩ | ⟨a, len, cap, m, n', D, Pl, rfl, hb, hl, hm, hmm, _, hi⟩
  · exact ⟨none, 0, [], rfl, Nat.le_refl _, by decide, ⟨rfl, Nat.zero_le _, fun h0 => absurd h0 (Nat.lt_irrefl 0)⟩, fun a ha => by cases ha⟩
  · have hlm : len ≤ m := by rw [hmm]; split <;> omega
    have each : ∀ i, i < len → ∃ z : α, Q z ∧ ∃ c : List Value, c.length = d.sz ∧ d.K w z c ∧ ∀ j u, c[j]? = some u → w.cell? (a.add (i * d.sz + j)) = some u := by
      intro i hil
      obtain ⟨cs', hc, hy⟩ := hi i (by omega)
      rw [hs] at hc
      obtain ⟨z, hz, hq⟩ := h H enc w base spare held n' cs' _ hy
      obtain ⟨_, hcl, hat⟩ := World.cells?_some hc
      refine ⟨z, hq, cs', d.K_len hz, hz, fun j u hu => ?_⟩
      obtain ⟨hj, hu2⟩ := List.getElem?_eq_some_iff.1 hu
      have := hat j (by omega)
      rw [← Go.Deep.add_add, this]
      exact hu
    have hex := collect len _ each
    obtain ⟨xs, rfl, hxs⟩ := hex
    refine ⟨some a, cap, xs, rfl, hl, hm, ⟨rfl, by have : xs.length ≤ maxLen := by omega
                                                   unfold maxLen at this; exact this, fun _ => ⟨a, rfl, fun j p hp => (hxs j p hp).2⟩⟩, fun z hz => ?_⟩
    obtain ⟨i, hi2, rfl⟩ := List.mem_iff_getElem.1 hz
    exact (hxs i _ (List.getElem?_eq_getElem hi2)).1
/-- a slice as an argument -/
theorem arg_slice {α : Type} {d : Kd α} {P : Program} {t e : TypeId} {Q : α → Prop} (ht : P.underlying t = some (.slice e)) (hs : P.cellsOf e = d.sz) (h : Reads d P e Q)
    {H : Type} {enc : TypeId × Value → H} {w : World} {base : Nat} {spare : Nat → Bool} {held : Bool} {r : Reach} {b0 : Nat} {v : Value} {dd : DataW H} {p : List MemPlace} (hv : Value.okWide P w r b0 t v) (hx : DataW.Trod enc P w base spare held t v dd p) :
    ∃ (A : Option Addr) (c : Nat) (xs : List α), v = .slice A xs.length c ∧ xs.length ≤ c ∧ c ≤ maxLen ∧ d.C w A xs.length xs ∧ ∀ a ∈ xs, Q a := by
  obtain ⟨a, len, cap, rfl⟩ := okWide_slice ht hv
  obtain ⟨fuel, hf⟩ := hx
  obtain ⟨A, c, xs, hcs, hl, hm, hC, hq⟩ := slice_row ht hs h H enc w base spare held fuel _ _ hf
  simp only [Value.cells, List.cons.injEq, and_true] at hcs
  exact ⟨A, c, xs, hcs, hl, hm, hC, hq⟩

/-- a struct as an argument -/
theorem arg_agg {α : Type} {d : Kd α} {P : Program} {t : TypeId} {fs : Array Field} {Q : α → Prop} (ht : P.underlying t = some (.struct fs)) (h : Reads d P t Q)
    {H : Type} {enc : TypeId × Value → H} {w : World} {base : Nat} {spare : Nat → Bool} {held : Bool} {r : Reach} {b0 : Nat} {v : Value} {dd : DataW H} {p : List MemPlace} (hv : Value.okWide P w r b0 t v) (hx : DataW.Trod enc P w base spare held t v dd p) :
    ∃ (cs : Array Value) (a : α), v = .agg cs ∧ d.K w a cs.toList ∧ Q a := by
  obtain ⟨cs, rfl, hsz⟩ := okWide_struct ht hv
  obtain ⟨fuel, hf⟩ := hx
  obtain ⟨a, hk, hq⟩ := h H enc w base spare held fuel _ _ hf
  exact ⟨cs, a, rfl, hk, hq⟩

end Go.Proofs.YtondnammkcgjpaaOpens
namespace Go.Proofs.Ytondnammkcgjpaa.fetchArgs
open Go.ChangeShapes Go.WideShapes Go.ChangeAt Go.RowKit
open Go.ChangeMaps (open_string shut_string)
open Go.Proofs.Ytondnammkcgjpaa Go.Proofs.YtondnammkcgjpaaOpens Go.Proofs.YtondnammkcgjpaaW.PrintWords
set_option linter.unusedVariables false
theorem own : ownKnob Try.prog.godebug = none := by kernel_rfl
theorem laidOut : laidOutB Try.prog = true := by kernel_rfl
set_option maxRecDepth 100000 in
theorem lifted (os : Os) (started : os.Started) (H : Type) (enc : TypeId × Value → H) :
    ReturnsInHanded {} Try.checked os 10 .any (Rows.fetchArgsSpec.pre6 enc Try.prog Try.f10 Rows.fetchArgsRow.domain false) (Rows.fetchArgsSpec.post enc Try.prog Try.f10 false true false false) := by
  refine returnsInHanded_of_change_sized (C := Try.checked) own started (by kernel_rfl) Try.func10
    (ChangeSpec.witness6 (enc := enc) (C := Try.checked) false ⟨#[], #[.slice none 0 0, .agg #[.int .i64 0, .string ⟨#[]⟩], .agg #[.bool false, .int .i64 0, .int .i64 0]], []⟩ 8 (by kernel_rfl) (by kernel_rfl) (by kernel_rfl) (by kernel_rfl)) ?_
  intro W base args ds gs before hval0 hW hcnd hsz0 _
  have hsz : (DataW.weightsEach Try.prog (Try.f10.params.toList ++ Rows.fetchArgsSpec.plain.varTypes Try.prog) (ds ++ gs)).all (· ≤ reachBytes) = true := hsz0
  have hval : ∀ (j : Nat) t v, Try.f10.params[j]? = some t → args[j]? = some v → Value.okWide Try.prog W .any base t v := hval0
  have hW' := hW
  obtain ⟨p, q, hA0, hV, rfl, hfz, hnd⟩ := hW
  have hA : DataW.TrodAll enc Try.prog W 0 (fun _ => true) true Try.f10.params.toList args.toList ds p := hA0
  rw [Try.params10] at hA hval hsz
  obtain ⟨v0, vs0, d0, ds0, p0, q0, hargs, rfl, rfl, h0, r0⟩ := trodAll_cons hA
  obtain ⟨v1, vs1, d1, ds1, p1, q1, rfl, rfl, rfl, h1, r1⟩ := trodAll_cons r0
  obtain ⟨v2, vs2, d2, ds2, p2, q2, rfl, rfl, rfl, h2, r2⟩ := trodAll_cons r1
  obtain ⟨rfl, rfl, rfl⟩ := trodAll_nil r2
  obtain rfl : args = #[v0, v1, v2] := by cases args; simp_all
  obtain ⟨rfl, rfl⟩ := trodVars_none hV
  have k0 := h0
  have lt0 : ∀ x ∈ p0, x.block < W.heap.size := by obtain ⟨m, hm⟩ := k0; exact DataW.trod_lt m _ _ _ hm
  obtain ⟨A0, c0, l0, rfl, hl0, hm0, hC0, hq0⟩ := arg_slice Try.underlying22 (by kernel_rfl) (reads_string Try.underlying9) (hval 0 22 v0 rfl rfl) h0
  have k1 := h1
  have lt1 : ∀ x ∈ p1, x.block < W.heap.size := by obtain ⟨m, hm⟩ := k1; exact DataW.trod_lt m _ _ _ hm
  obtain ⟨cs1, x1, rfl, hK1, hq1⟩ := arg_agg (d := (Kd.pair (Kd.int .i64) Kd.string)) Try.underlying66 (reads_struct Try.underlying66 (by kernel_rfl) (fs_cons (reads_int Try.underlying3) (by kernel_rfl) rfl (by decide) (fs_last (reads_string Try.underlying9) (by kernel_rfl) rfl))) (hval 1 66 v1 rfl rfl) h1
  obtain ⟨ls1⟩ := cs1
  obtain ⟨x1_0, x1_1⟩ := x1
  obtain ⟨_, _, rfl, rfl, rfl⟩ := hK1
  have k2 := h2
  have lt2 : ∀ x ∈ p2, x.block < W.heap.size := by obtain ⟨m, hm⟩ := k2; exact DataW.trod_lt m _ _ _ hm
  obtain ⟨cs2, x2, rfl, hK2, hq2⟩ := arg_agg (d := (Kd.pair Kd.bool (Kd.pair (Kd.int .i64) (Kd.int .i64)))) Try.underlying58 (reads_struct Try.underlying58 (by kernel_rfl) (fs_cons (reads_bool Try.underlying4) (by kernel_rfl) rfl (by decide) (fs_last (reads_struct Try.underlying24 (by kernel_rfl) (fs_cons (reads_int Try.underlying3) (by kernel_rfl) rfl (by decide) (fs_last (reads_int Try.underlying3) (by kernel_rfl) rfl))) (by kernel_rfl) rfl))) (hval 2 58 v2 rfl rfl) h2
  obtain ⟨ls2⟩ := cs2
  obtain ⟨x2_0, ⟨x2_1, x2_2⟩⟩ := x2
  obtain ⟨_, _, rfl, rfl, ⟨_, _, rfl, rfl, rfl⟩⟩ := hK2
  clear hA0 hval0 hsz0 hsz
  refine (Go.Proofs.Ytondnammkcgjpaa.Ft.law_args A0 c0 l0 x1_0 x1_1 x2_0 x2_1 x2_2 W hl0 hC0).mono fun e W' ⟨he, bel⟩ => ?_
  subst he
  exact ⟨_, rfl, _, _, _, [], _, [], hW', trodAll_mk1 (shut_bool Try.underlying4 _), (trodAll_cons_mk (Below.trod laidOut (by kernel_rfl) (of_decide_eq_true (by kernel_rfl)) k0 bel lt0) (trodAll_cons_mk (Below.trod laidOut (by kernel_rfl) (of_decide_eq_true (by kernel_rfl)) k1 bel lt1) (trodAll_cons_mk (Below.trod laidOut (by kernel_rfl) (of_decide_eq_true (by kernel_rfl)) k2 bel lt2) trodAll_mk0))), rfl, bel.frame _, fun h => by cases h⟩
theorem over : Rows.fetchArgsRow.holds Try.pinned (OpenSpec.ofChange Rows.fetchArgsSpec) :=
  OpenClaim.holds_of_wide 10 Try.f10 rfl rfl rfl rfl rfl rfl rfl ⟨rfl, rfl, rfl, rfl, rfl⟩ rfl rfl rfl rfl rfl (by kernel_rfl) Try.func10 (by kernel_rfl)
    (of_decide_eq_true (by kernel_rfl)) (by unfold Func.isWrapper; first | (rw [if_pos (by decide +kernel)]; kernel_rfl) | (rw [if_neg (by decide +kernel)]; exact ⟨rfl, rfl⟩))
    (fun os started H enc _ => lifted os started H enc)
theorem proved : Rows.FetchArgsSaid := over
#print axioms proved
end Go.Proofs.Ytondnammkcgjpaa.fetchArgs
namespace Go.Proofs.Ytondnammkcgjpaa
/-- The row, under a short name, for the claim. -/
theorem fetchArgs_holds : Rows.FetchArgsSaid := fetchArgs.proved
end Go.Proofs.Ytondnammkcgjpaa
