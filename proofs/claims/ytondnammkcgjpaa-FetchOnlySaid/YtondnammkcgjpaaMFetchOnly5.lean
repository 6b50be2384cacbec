/- Here is proved: what (*fetch.Fetch).take does. Conditions: what is given is wanted. -/
import Derived.Test.YtondnammkcgjpaaMFetchOnly3
import Derived.Test.YtondnammkcgjpaaMFetchOnly4
import Derived.Deep.Slices
import Derived.ChangeSame
import Derived.OpenShut
import Derived.Test.YtondnammkcgjpaaWMore
import Derived.Test.YtondnammkcgjpaaWArr
import Derived.Test.YtondnammkcgjpaaRows
import Derived.WalkKit
import Derived.ProofKit
import Derived.ShutString
import Derived.ChangeOld
import Derived.Below
import Derived.SizedLaws
namespace Go.Proofs.Ytondnammkcgjpaa.Ft
open Go Go.RowKit Go.Shelf Go.Proofs.YtondnammkcgjpaaW.PrintWords Go.Proofs.YtondnammkcgjpaaW.PrintLast Go.Proofs.YtondnammkcgjpaaW.PrintMore Go.Proofs.Ytondnammkcgjpaa.Mp
open Go.Proofs.Ytondnammkcgjpaa.ShaP Go.Proofs.Ytondnammkcgjpaa.Mk Go.Proofs.Ytondnammkcgjpaa.Rg Go.Proofs.Ytondnammkcgjpaa.RgP Go.Proofs.Ytondnammkcgjpaa.Rf Go.Proofs.Ytondnammkcgjpaa.RgL Go.Proofs.Ytondnammkcgjpaa.Til Go.Proofs.Ytondnammkcgjpaa.Fg Go.Proofs.Ytondnammkcgjpaa.Fun Go.Proofs.Ytondnammkcgjpaa.Rng
set_option linter.unusedVariables false
set_option linter.unusedSimpArgs false
variable {base g gt gb : Nat} {s : FS} {w W : World}
set_option maxRecDepth 100000 in
set_option maxHeartbeats 8000000 in
theorem take_width (b : Bool) (x0 x1 : Int) (A : Option Addr) (c : Nat) (l : List ByteArray) (h : IsF base w g gt gb s) (hb : base ≤ w.heap.size) (hmax : l.length ≤ maxLen) (hr : Kd.C Kd.string w A l.length l) (hw : (l.length : Int) ≠ wdF s.size x0 x1) :
    Calls Try.prog 71 #[.pointer (some ⟨g, 0, none⟩), .agg #[.bool b, .int .i64 x0, .int .i64 x1], .slice A l.length c] w fun e w' => e = .returned (.int .i64 2) ∧ IsF base w' g gt gb s ∧ Turn (Foot g gt gb) w w' := by
  have OW := Aside0.mk (Mem.Own.nil w)
  have HF := Aside0.mk h
  have HR := Aside0.mk hr
  have HB := Aside0.mk hb
  have HMX := Aside0.mk hmax
  have HWD := Aside0.mk (fun W => width_c (s.size : Int) x0 x1 W)
  have hne : ((l.length : Int) != inTile x1 (cntv s.size x0)) = true := bne_iff_ne.2 hw
  generalize inTile x1 (cntv s.size x0) = q at *
  clear h hr hb
  go_enter Try.func71, Try.ntmps71
  go_wp2_with (first
    | ((with_reducible refine gate_dst (N := 4) rfl ?_); refine box_event ?hg (N := 4) ?hd (cs := #[.bool b, .int .i64 x0, .int .i64 x1]) (t := 58) ?hr ?_; (case hd => rfl); (case hg => rfl); (case hr => first | (go_simp; done) | (go_simp; rfl)); intro gI hg W_ hb hbb; have n_ : Aside0 (Mem.Own w W_ [(gI, #[.bool b, .int .i64 x0, .int .i64 x1], 58)]) := ⟨OW.out.new hg hb hbb⟩; clear OW hb hbb hg; have OW := n_; clear n_))
  have OD := Aside0.mk OW.out.drew
  have HFD := Aside0.mk ((HF.out.below OW.out.below).drew)
  have HRD := Aside0.mk (Kd.C_drew (Kd.C_below HR.out OW.out.below))
  have b0 : W_.drew.cell? ⟨gI, 0, none⟩ = some (.bool b) := (OD.out.cell 0 rfl 0).trans rfl
  have b1 : W_.drew.cell? ⟨gI, 1, none⟩ = some (.int .i64 x0) := (OD.out.cell 0 rfl 1).trans rfl
  have b2 : W_.drew.cell? ⟨gI, 2, none⟩ = some (.int .i64 x1) := (OD.out.cell 0 rfl 2).trans rfl
  have c0 : W_.drew.cell? ⟨g, 72, none⟩ = some (.int .i64 s.size) := (HFD.out.cell 0).trans rfl
  clear OW
  go_wp2_with fail
  refine start_ (n := 20) (S := fun w' => Below (W_).drew.heap.size (W_).drew w') (ds := []) #[false, false, false, false, false, false, false, false, false, false, false, false, false, false, false, false, false, false, false, false] (by kernel_rfl) rfl rfl (Below.refl _ _) (fun hHeld => ?_)
  generalize (W_).drew = W1 at *
  refine pure_ (i := 0) (N := (some 8)) (v := ?_) (a' := ?_) #[true, false, false, false, false, false, false, false, false, false, false, false, false, false, false, false, false, false, false, false] rfl rfl (by kernel_rfl) (fun _ _ _ h => h) (Or.inl ⟨by rfl, ?_⟩) ?_ ?_
  rotate_left
  · intro w'
    go_simp
    first | done | with_reducible rfl
  rotate_left
  · simp only [Act.put, List.setIfInBounds_toArray, List.set_cons_zero, List.set_cons_succ, i64_w, i32_w]
    rfl
  refine pure_ (i := 1) (N := (some 9)) (v := ?_) (a' := ?_) #[true, true, false, false, false, false, false, false, false, false, false, false, false, false, false, false, false, false, false, false] rfl rfl (by kernel_rfl) (fun _ _ _ h => h) (Or.inl ⟨by rfl, ?_⟩) ?_ ?_
  rotate_left
  · intro w'
    go_simp
    first | done | with_reducible rfl
  rotate_left
  · simp only [Act.put, List.setIfInBounds_toArray, List.set_cons_zero, List.set_cons_succ, i64_w, i32_w]
    rfl
  refine pure_ (i := 2) (N := (some 10)) (v := ?_) (a' := ?_) #[true, true, true, false, false, false, false, false, false, false, false, false, false, false, false, false, false, false, false, false] rfl rfl (by kernel_rfl) (fun _ _ _ h => h) (Or.inl ⟨by rfl, ?_⟩) ?_ ?_
  rotate_left
  · intro w'
    go_simp
    first | done | with_reducible rfl
  rotate_left
  · simp only [Act.put, List.setIfInBounds_toArray, List.set_cons_zero, List.set_cons_succ, i64_w, i32_w]
    rfl
  refine pure_ (i := 3) (N := (some 11)) (v := ?_) (a' := ?_) #[true, true, true, true, false, false, false, false, false, false, false, false, false, false, false, false, false, false, false, false] rfl rfl (by kernel_rfl) (fun _ _ _ h => h) (Or.inl ⟨by rfl, ?_⟩) ?_ ?_
  rotate_left
  · intro w'
    skip
    go_simp
    first | done | with_reducible rfl
  rotate_left
  · simp only [Act.put, List.setIfInBounds_toArray, List.set_cons_zero, List.set_cons_succ, i64_w, i32_w]
    rfl
  refine pure_ (i := 4) (N := (some 12)) (v := ?_) (a' := ?_) #[true, true, true, true, true, false, false, false, false, false, false, false, false, false, false, false, false, false, false, false] rfl rfl (by kernel_rfl) (fun _ _ _ h => h) (Or.inl ⟨by rfl, ?_⟩) ?_ ?_
  rotate_left
  · intro w'
    go_simp
    first | done | with_reducible rfl
  rotate_left
  · simp only [Act.put, List.setIfInBounds_toArray, List.set_cons_zero, List.set_cons_succ, i64_w, i32_w]
    rfl
  refine take_ (i := 5) (N := (some 13)) (v := ?_) (a' := ?_) #[true, true, true, true, true, true, false, false, false, false, false, false, false, false, false, false, false, false, false, false] rfl rfl (by kernel_rfl) (fun _ _ _ h => h) (Or.inl ⟨by rfl, ?_⟩) hHeld ?_ ?_
  rotate_left
  · intro w' hS
    have s0 := pw_cell_below hS c0
    go_simp
    first | done | with_reducible rfl
  rotate_left
  · simp only [Act.put, List.setIfInBounds_toArray, List.set_cons_zero, List.set_cons_succ, i64_w, i32_w]
    rfl
  refine pure_ (i := 6) (N := (some 14)) (v := ?_) (a' := ?_) #[true, true, true, true, true, true, true, false, false, false, false, false, false, false, false, false, false, false, false, false] rfl rfl (by kernel_rfl) (fun _ _ _ h => h) (Or.inl ⟨by rfl, ?_⟩) ?_ ?_
  rotate_left
  · intro w'
    go_simp
    first | done | with_reducible rfl
  rotate_left
  · simp only [Act.put, List.setIfInBounds_toArray, List.set_cons_zero, List.set_cons_succ, i64_w, i32_w]
    rfl
  refine take_ (i := 7) (N := (some 15)) (v := ?_) (a' := ?_) #[true, true, true, true, true, true, true, true, false, false, false, false, false, false, false, false, false, false, false, false] rfl rfl (by kernel_rfl) (fun _ _ _ h => h) (Or.inl ⟨by rfl, ?_⟩) hHeld ?_ ?_
  rotate_left
  · intro w' hS
    have s0 := pw_cell_below hS b1
    have s1 := pw_cell_below hS b2
    go_simp
    first | done | with_reducible rfl
  rotate_left
  · simp only [Act.put, List.setIfInBounds_toArray, List.set_cons_zero, List.set_cons_succ, i64_w, i32_w]
    rfl
  refine one_ (i := 8) (N := (some 16)) #[true, true, true, true, true, true, true, true, true, false, false, false, false, false, false, false, false, false, false, false] rfl rfl (by kernel_rfl) (by decide) (fun K hK => ?_)
  refine goes_ Try.func50 (by kernel_rfl) rfl #[.int .i64 s.size, .agg #[.int .i64 x0, .int .i64 x1]] (by rfl) rfl rfl (by (try simp only [List.map_toArray, List.map_cons, List.map_nil]); first | done | rfl) ?_
  (with_reducible refine (HWD.out _).mono ?_)
  rintro e wa ⟨rfl, hB⟩
  refine ⟨_, rfl, ?_⟩
  have hS2 : Below W1.heap.size W1 wa := below_step hHeld hB
  clear hB hHeld
  refine hK.out _ _ hS2 (fun hHeld => ?_)
  clear hK K
  refine norm_ (a' := ?_) ?_ ?_
  rotate_left
  · show Act.put _ (some 16) _ = _
    simp only [Act.put, List.setIfInBounds_toArray, List.set_cons_zero, List.set_cons_succ, i64_w, i32_w]
    rfl
  refine pure_ (i := 9) (N := (some 17)) (v := ?_) (a' := ?_) #[true, true, true, true, true, true, true, true, true, true, false, false, false, false, false, false, false, false, false, false] rfl rfl (by kernel_rfl) (fun _ _ _ h => h) (Or.inl ⟨by rfl, ?_⟩) ?_ ?_
  rotate_left
  · intro w'
    go_simp
    first | done | with_reducible rfl
  rotate_left
  · simp only [Act.put, List.setIfInBounds_toArray, List.set_cons_zero, List.set_cons_succ, i64_w, i32_w]
    rfl
  refine pure_ (i := 10) (N := (some 18)) (v := ?_) (a' := ?_) #[true, true, true, true, true, true, true, true, true, true, true, false, false, false, false, false, false, false, false, false] rfl rfl (by kernel_rfl) (fun _ _ _ h => h) (Or.inl ⟨by rfl, ?_⟩) ?_ ?_
  rotate_left
  · intro w'
    go_simp
    first | done | with_reducible rfl
  rotate_left
  · simp only [Act.put, List.setIfInBounds_toArray, List.set_cons_zero, List.set_cons_succ, i64_w, i32_w]
    rfl
  refine pure_ (i := 11) (N := (some 19)) (v := undef) (a' := ?_) #[true, true, true, true, true, true, true, true, true, true, true, true, false, false, false, false, false, false, false, false] rfl rfl (by kernel_rfl) (fun _ _ _ h => h) (Or.inr ⟨by rfl, rfl⟩) ?_ ?_
  rotate_left
  · simp only [Act.put, List.setIfInBounds_toArray, List.set_cons_zero, List.set_cons_succ, i64_w, i32_w]
    rfl
  refine pure_ (i := 12) (N := (some 20)) (v := undef) (a' := ?_) #[true, true, true, true, true, true, true, true, true, true, true, true, true, false, false, false, false, false, false, false] rfl rfl (by kernel_rfl) (fun _ _ _ h => h) (Or.inr ⟨by rfl, rfl⟩) ?_ ?_
  rotate_left
  · simp only [Act.put, List.setIfInBounds_toArray, List.set_cons_zero, List.set_cons_succ, i64_w, i32_w]
    rfl
  refine pure_ (i := 13) (N := (some 21)) (v := undef) (a' := ?_) #[true, true, true, true, true, true, true, true, true, true, true, true, true, true, false, false, false, false, false, false] rfl rfl (by kernel_rfl) (fun _ _ _ h => h) (Or.inr ⟨by rfl, rfl⟩) ?_ ?_
  rotate_left
  · simp only [Act.put, List.setIfInBounds_toArray, List.set_cons_zero, List.set_cons_succ, i64_w, i32_w]
    rfl
  refine pure_ (i := 14) (N := (some 22)) (v := undef) (a' := ?_) #[true, true, true, true, true, true, true, true, true, true, true, true, true, true, true, false, false, false, false, false] rfl rfl (by kernel_rfl) (fun _ _ _ h => h) (Or.inr ⟨by rfl, rfl⟩) ?_ ?_
  rotate_left
  · simp only [Act.put, List.setIfInBounds_toArray, List.set_cons_zero, List.set_cons_succ, i64_w, i32_w]
    rfl
  refine pure_ (i := 15) (N := (some 23)) (v := undef) (a' := ?_) #[true, true, true, true, true, true, true, true, true, true, true, true, true, true, true, true, false, false, false, false] rfl rfl (by kernel_rfl) (fun _ _ _ h => h) (Or.inr ⟨by rfl, rfl⟩) ?_ ?_
  rotate_left
  · simp only [Act.put, List.setIfInBounds_toArray, List.set_cons_zero, List.set_cons_succ, i64_w, i32_w]
    rfl
  refine pure_ (i := 16) (N := (some 24)) (v := undef) (a' := ?_) #[true, true, true, true, true, true, true, true, true, true, true, true, true, true, true, true, true, false, false, false] rfl rfl (by kernel_rfl) (fun _ _ _ h => h) (Or.inr ⟨by rfl, rfl⟩) ?_ ?_
  rotate_left
  · simp only [Act.put, List.setIfInBounds_toArray, List.set_cons_zero, List.set_cons_succ, i64_w, i32_w]
    rfl
  refine pure_ (i := 17) (N := (some 25)) (v := undef) (a' := ?_) #[true, true, true, true, true, true, true, true, true, true, true, true, true, true, true, true, true, true, false, false] rfl rfl (by kernel_rfl) (fun _ _ _ h => h) (Or.inr ⟨by rfl, rfl⟩) ?_ ?_
  rotate_left
  · simp only [Act.put, List.setIfInBounds_toArray, List.set_cons_zero, List.set_cons_succ, i64_w, i32_w]
    rfl
  refine pure_ (i := 18) (N := (some 26)) (v := ?_) (a' := ?_) #[true, true, true, true, true, true, true, true, true, true, true, true, true, true, true, true, true, true, true, false] rfl rfl (by kernel_rfl) (fun _ _ _ h => h) (Or.inl ⟨by rfl, ?_⟩) ?_ ?_
  rotate_left
  · intro w'
    go_simp
    first | done | with_reducible rfl
  rotate_left
  · simp only [Act.put, List.setIfInBounds_toArray, List.set_cons_zero, List.set_cons_succ, i64_w, i32_w]
    rfl
  refine pure_ (i := 19) (N := (some 7)) (v := ?_) (a' := ?_) #[true, true, true, true, true, true, true, true, true, true, true, true, true, true, true, true, true, true, true, true] rfl rfl (by kernel_rfl) (fun _ _ _ h => h) (Or.inl ⟨by rfl, ?_⟩) ?_ ?_
  rotate_left
  · intro w'
    go_simp
    first | done | with_reducible rfl
  rotate_left
  · simp only [Act.put, List.setIfInBounds_toArray, List.set_cons_zero, List.set_cons_succ, i64_w, i32_w]
    rfl
  refine done_ (by kernel_rfl) ?_
  have HBW := Aside0.mk (below_step OD.out.below hHeld)
  clear hHeld b0 b1 b2 c0 HRD
  go_wp2_with fail
  go_ret
  exact ⟨rfl, HF.out.below HBW.out, Turn.below HBW.out⟩
set_option maxRecDepth 100000 in
set_option maxHeartbeats 8000000 in
theorem take_bad (x0 x1 : Int) (A : Option Addr) (c : Nat) (l : List ByteArray) (h : IsF base w g gt gb s) (hb : base ≤ w.heap.size) (hmax : l.length ≤ maxLen) (hr : Kd.C Kd.string w A l.length l) (hw : (l.length : Int) = wdF s.size x0 x1) (h32 : all32 l = false) :
    Calls Try.prog 71 #[.pointer (some ⟨g, 0, none⟩), .agg #[.bool false, .int .i64 x0, .int .i64 x1], .slice A l.length c] w fun e w' => e = .returned (.int .i64 2) ∧ IsF base w' g gt gb s ∧ Turn (Foot g gt gb) w w' := by
  have OW := Aside0.mk (Mem.Own.nil w)
  have HF := Aside0.mk h
  have HR := Aside0.mk hr
  have HB := Aside0.mk hb
  have HMX := Aside0.mk hmax
  have HWD := Aside0.mk (fun W => width_c (s.size : Int) x0 x1 W)
  rw [show inTile x1 (cntv s.size x0) = (l.length : Int) from hw.symm] at HWD
  have hne : ((l.length : Int) != (l.length : Int)) = false := by simp
  have HSH := Aside0.mk (fun W (h : Kd.C Kd.string W A l.length l) => short_c A c l W HMX.out h)
  rw [h32] at HSH
  clear h hr hb h32 hw
  go_enter Try.func71, Try.ntmps71
  go_wp2_with (first
    | ((with_reducible refine gate_dst (N := 4) rfl ?_); refine box_event ?hg (N := 4) ?hd (cs := #[.bool false, .int .i64 x0, .int .i64 x1]) (t := 58) ?hr ?_; (case hd => rfl); (case hg => rfl); (case hr => first | (go_simp; done) | (go_simp; rfl)); intro gI hg W_ hb hbb; have n_ : Aside0 (Mem.Own w W_ [(gI, #[.bool false, .int .i64 x0, .int .i64 x1], 58)]) := ⟨OW.out.new hg hb hbb⟩; clear OW hb hbb hg; have OW := n_; clear n_))
  have OD := Aside0.mk OW.out.drew
  have HFD := Aside0.mk ((HF.out.below OW.out.below).drew)
  have HRD := Aside0.mk (Kd.C_drew (Kd.C_below HR.out OW.out.below))
  have b0 : W_.drew.cell? ⟨gI, 0, none⟩ = some (.bool false) := (OD.out.cell 0 rfl 0).trans rfl
  have b1 : W_.drew.cell? ⟨gI, 1, none⟩ = some (.int .i64 x0) := (OD.out.cell 0 rfl 1).trans rfl
  have b2 : W_.drew.cell? ⟨gI, 2, none⟩ = some (.int .i64 x1) := (OD.out.cell 0 rfl 2).trans rfl
  have c0 : W_.drew.cell? ⟨g, 72, none⟩ = some (.int .i64 s.size) := (HFD.out.cell 0).trans rfl
  clear OW
  go_wp2_with fail
  refine start_ (n := 20) (S := fun w' => Below (W_).drew.heap.size (W_).drew w') (ds := []) #[false, false, false, false, false, false, false, false, false, false, false, false, false, false, false, false, false, false, false, false] (by kernel_rfl) rfl rfl (Below.refl _ _) (fun hHeld => ?_)
  generalize (W_).drew = W1 at *
  refine pure_ (i := 0) (N := (some 8)) (v := ?_) (a' := ?_) #[true, false, false, false, false, false, false, false, false, false, false, false, false, false, false, false, false, false, false, false] rfl rfl (by kernel_rfl) (fun _ _ _ h => h) (Or.inl ⟨by rfl, ?_⟩) ?_ ?_
  rotate_left
  · intro w'
    go_simp
    first | done | with_reducible rfl
  rotate_left
  · simp only [Act.put, List.setIfInBounds_toArray, List.set_cons_zero, List.set_cons_succ, i64_w, i32_w]
    rfl
  refine pure_ (i := 1) (N := (some 9)) (v := ?_) (a' := ?_) #[true, true, false, false, false, false, false, false, false, false, false, false, false, false, false, false, false, false, false, false] rfl rfl (by kernel_rfl) (fun _ _ _ h => h) (Or.inl ⟨by rfl, ?_⟩) ?_ ?_
  rotate_left
  · intro w'
    go_simp
    first | done | with_reducible rfl
  rotate_left
  · simp only [Act.put, List.setIfInBounds_toArray, List.set_cons_zero, List.set_cons_succ, i64_w, i32_w]
    rfl
  refine pure_ (i := 2) (N := (some 10)) (v := ?_) (a' := ?_) #[true, true, true, false, false, false, false, false, false, false, false, false, false, false, false, false, false, false, false, false] rfl rfl (by kernel_rfl) (fun _ _ _ h => h) (Or.inl ⟨by rfl, ?_⟩) ?_ ?_
  rotate_left
  · intro w'
    go_simp
    first | done | with_reducible rfl
  rotate_left
  · simp only [Act.put, List.setIfInBounds_toArray, List.set_cons_zero, List.set_cons_succ, i64_w, i32_w]
    rfl
  refine pure_ (i := 3) (N := (some 11)) (v := ?_) (a' := ?_) #[true, true, true, true, false, false, false, false, false, false, false, false, false, false, false, false, false, false, false, false] rfl rfl (by kernel_rfl) (fun _ _ _ h => h) (Or.inl ⟨by rfl, ?_⟩) ?_ ?_
  rotate_left
  · intro w'
    skip
    go_simp
    first | done | with_reducible rfl
  rotate_left
  · simp only [Act.put, List.setIfInBounds_toArray, List.set_cons_zero, List.set_cons_succ, i64_w, i32_w]
    rfl
  refine pure_ (i := 4) (N := (some 12)) (v := ?_) (a' := ?_) #[true, true, true, true, true, false, false, false, false, false, false, false, false, false, false, false, false, false, false, false] rfl rfl (by kernel_rfl) (fun _ _ _ h => h) (Or.inl ⟨by rfl, ?_⟩) ?_ ?_
  rotate_left
  · intro w'
    go_simp
    first | done | with_reducible rfl
  rotate_left
  · simp only [Act.put, List.setIfInBounds_toArray, List.set_cons_zero, List.set_cons_succ, i64_w, i32_w]
    rfl
  refine take_ (i := 5) (N := (some 13)) (v := ?_) (a' := ?_) #[true, true, true, true, true, true, false, false, false, false, false, false, false, false, false, false, false, false, false, false] rfl rfl (by kernel_rfl) (fun _ _ _ h => h) (Or.inl ⟨by rfl, ?_⟩) hHeld ?_ ?_
  rotate_left
  · intro w' hS
    have s0 := pw_cell_below hS c0
    go_simp
    first | done | with_reducible rfl
  rotate_left
  · simp only [Act.put, List.setIfInBounds_toArray, List.set_cons_zero, List.set_cons_succ, i64_w, i32_w]
    rfl
  refine pure_ (i := 6) (N := (some 14)) (v := ?_) (a' := ?_) #[true, true, true, true, true, true, true, false, false, false, false, false, false, false, false, false, false, false, false, false] rfl rfl (by kernel_rfl) (fun _ _ _ h => h) (Or.inl ⟨by rfl, ?_⟩) ?_ ?_
  rotate_left
  · intro w'
    go_simp
    first | done | with_reducible rfl
  rotate_left
  · simp only [Act.put, List.setIfInBounds_toArray, List.set_cons_zero, List.set_cons_succ, i64_w, i32_w]
    rfl
  refine take_ (i := 7) (N := (some 15)) (v := ?_) (a' := ?_) #[true, true, true, true, true, true, true, true, false, false, false, false, false, false, false, false, false, false, false, false] rfl rfl (by kernel_rfl) (fun _ _ _ h => h) (Or.inl ⟨by rfl, ?_⟩) hHeld ?_ ?_
  rotate_left
  · intro w' hS
    have s0 := pw_cell_below hS b1
    have s1 := pw_cell_below hS b2
    go_simp
    first | done | with_reducible rfl
  rotate_left
  · simp only [Act.put, List.setIfInBounds_toArray, List.set_cons_zero, List.set_cons_succ, i64_w, i32_w]
    rfl
  refine one_ (i := 8) (N := (some 16)) #[true, true, true, true, true, true, true, true, true, false, false, false, false, false, false, false, false, false, false, false] rfl rfl (by kernel_rfl) (by decide) (fun K hK => ?_)
  refine goes_ Try.func50 (by kernel_rfl) rfl #[.int .i64 s.size, .agg #[.int .i64 x0, .int .i64 x1]] (by rfl) rfl rfl (by (try simp only [List.map_toArray, List.map_cons, List.map_nil]); first | done | rfl) ?_
  (with_reducible refine (HWD.out _).mono ?_)
  rintro e wa ⟨rfl, hB⟩
  refine ⟨_, rfl, ?_⟩
  have hS2 : Below W1.heap.size W1 wa := below_step hHeld hB
  clear hB hHeld
  refine hK.out _ _ hS2 (fun hHeld => ?_)
  clear hK K
  refine norm_ (a' := ?_) ?_ ?_
  rotate_left
  · show Act.put _ (some 16) _ = _
    simp only [Act.put, List.setIfInBounds_toArray, List.set_cons_zero, List.set_cons_succ, i64_w, i32_w]
    rfl
  refine pure_ (i := 9) (N := (some 17)) (v := ?_) (a' := ?_) #[true, true, true, true, true, true, true, true, true, true, false, false, false, false, false, false, false, false, false, false] rfl rfl (by kernel_rfl) (fun _ _ _ h => h) (Or.inl ⟨by rfl, ?_⟩) ?_ ?_
  rotate_left
  · intro w'
    go_simp
    first | done | with_reducible rfl
  rotate_left
  · simp only [Act.put, List.setIfInBounds_toArray, List.set_cons_zero, List.set_cons_succ, i64_w, i32_w]
    rfl
  refine pure_ (i := 10) (N := (some 18)) (v := ?_) (a' := ?_) #[true, true, true, true, true, true, true, true, true, true, true, false, false, false, false, false, false, false, false, false] rfl rfl (by kernel_rfl) (fun _ _ _ h => h) (Or.inl ⟨by rfl, ?_⟩) ?_ ?_
  rotate_left
  · intro w'
    go_simp
    first | done | with_reducible rfl
  rotate_left
  · simp only [Act.put, List.setIfInBounds_toArray, List.set_cons_zero, List.set_cons_succ, i64_w, i32_w]
    rfl
  refine pure_ (i := 11) (N := (some 19)) (v := ?_) (a' := ?_) #[true, true, true, true, true, true, true, true, true, true, true, true, false, false, false, false, false, false, false, false] rfl rfl (by kernel_rfl) (fun _ _ _ h => h) (Or.inl ⟨by rfl, ?_⟩) ?_ ?_
  rotate_left
  · intro w'
    go_simp
    first | done | with_reducible rfl
  rotate_left
  · simp only [Act.put, List.setIfInBounds_toArray, List.set_cons_zero, List.set_cons_succ, i64_w, i32_w]
    rfl
  refine take_ (i := 12) (N := (some 20)) (v := ?_) (a' := ?_) #[true, true, true, true, true, true, true, true, true, true, true, true, true, false, false, false, false, false, false, false] rfl rfl (by kernel_rfl) (fun _ _ _ h => h) (Or.inl ⟨by rfl, ?_⟩) hHeld ?_ ?_
  rotate_left
  · intro w' hS
    have s0 := pw_cell_below hS b0
    go_simp
    first | done | with_reducible rfl
  rotate_left
  · simp only [Act.put, List.setIfInBounds_toArray, List.set_cons_zero, List.set_cons_succ, i64_w, i32_w]
    rfl
  refine pure_ (i := 13) (N := (some 21)) (v := ?_) (a' := ?_) #[true, true, true, true, true, true, true, true, true, true, true, true, true, true, false, false, false, false, false, false] rfl rfl (by kernel_rfl) (fun _ _ _ h => h) (Or.inl ⟨by rfl, ?_⟩) ?_ ?_
  rotate_left
  · intro w'
    go_simp
    first | done | with_reducible rfl
  rotate_left
  · simp only [Act.put, List.setIfInBounds_toArray, List.set_cons_zero, List.set_cons_succ, i64_w, i32_w]
    rfl
  refine pure_ (i := 14) (N := (some 22)) (v := ?_) (a' := ?_) #[true, true, true, true, true, true, true, true, true, true, true, true, true, true, true, false, false, false, false, false] rfl rfl (by kernel_rfl) (fun _ _ _ h => h) (Or.inl ⟨by rfl, ?_⟩) ?_ ?_
  rotate_left
  · intro w'
    go_simp
    first | done | with_reducible rfl
  rotate_left
  · simp only [Act.put, List.setIfInBounds_toArray, List.set_cons_zero, List.set_cons_succ, i64_w, i32_w]
    rfl
  refine pure_ (i := 15) (N := (some 23)) (v := ?_) (a' := ?_) #[true, true, true, true, true, true, true, true, true, true, true, true, true, true, true, true, false, false, false, false] rfl rfl (by kernel_rfl) (fun _ _ _ h => h) (Or.inl ⟨by rfl, ?_⟩) ?_ ?_
  rotate_left
  · intro w'
    go_simp
    first | done | with_reducible rfl
  rotate_left
  · simp only [Act.put, List.setIfInBounds_toArray, List.set_cons_zero, List.set_cons_succ, i64_w, i32_w]
    rfl
  refine one_ (i := 16) (N := (some 24)) #[true, true, true, true, true, true, true, true, true, true, true, true, true, true, true, true, true, false, false, false] rfl rfl (by kernel_rfl) (by decide) (fun K hK => ?_)
  refine goes_ Try.func96 (by kernel_rfl) rfl #[.slice A l.length c] (by rfl) rfl rfl (by (try simp only [List.map_toArray, List.map_cons, List.map_nil]); first | done | rfl) ?_
  (with_reducible refine (HSH.out _ (Kd.C_below HRD.out hHeld)).mono ?_)
  rintro e wb ⟨rfl, rfl⟩
  refine ⟨_, rfl, ?_⟩
  have hS2 : Below W1.heap.size W1 wb := hHeld
  clear hHeld
  refine hK.out _ _ hS2 (fun hHeld => ?_)
  clear hK K
  refine norm_ (a' := ?_) ?_ ?_
  rotate_left
  · show Act.put _ (some 24) _ = _
    simp only [Act.put, List.setIfInBounds_toArray, List.set_cons_zero, List.set_cons_succ, i64_w, i32_w]
    rfl
  refine pure_ (i := 17) (N := (some 25)) (v := ?_) (a' := ?_) #[true, true, true, true, true, true, true, true, true, true, true, true, true, true, true, true, true, true, false, false] rfl rfl (by kernel_rfl) (fun _ _ _ h => h) (Or.inl ⟨by rfl, ?_⟩) ?_ ?_
  rotate_left
  · intro w'
    go_simp
    first | done | with_reducible rfl
  rotate_left
  · simp only [Act.put, List.setIfInBounds_toArray, List.set_cons_zero, List.set_cons_succ, i64_w, i32_w]
    rfl
  refine pure_ (i := 18) (N := (some 26)) (v := ?_) (a' := ?_) #[true, true, true, true, true, true, true, true, true, true, true, true, true, true, true, true, true, true, true, false] rfl rfl (by kernel_rfl) (fun _ _ _ h => h) (Or.inl ⟨by rfl, ?_⟩) ?_ ?_
  rotate_left
  · intro w'
    go_simp
    first | done | with_reducible rfl
  rotate_left
  · simp only [Act.put, List.setIfInBounds_toArray, List.set_cons_zero, List.set_cons_succ, i64_w, i32_w]
    rfl
  refine pure_ (i := 19) (N := (some 7)) (v := ?_) (a' := ?_) #[true, true, true, true, true, true, true, true, true, true, true, true, true, true, true, true, true, true, true, true] rfl rfl (by kernel_rfl) (fun _ _ _ h => h) (Or.inl ⟨by rfl, ?_⟩) ?_ ?_
  rotate_left
  · intro w'
    go_simp
    first | done | with_reducible rfl
  rotate_left
  · simp only [Act.put, List.setIfInBounds_toArray, List.set_cons_zero, List.set_cons_succ, i64_w, i32_w]
    rfl
  refine done_ (by kernel_rfl) ?_
  have HBW := Aside0.mk (below_step OD.out.below hHeld)
  clear hHeld b0 b1 b2 c0 HRD
  go_wp2_with fail
  go_ret
  exact ⟨rfl, HF.out.below HBW.out, Turn.below HBW.out⟩
set_option maxRecDepth 100000 in
set_option maxHeartbeats 8000000 in
theorem take_b (x0 x1 : Int) (A : Option Addr) (c : Nat) (l : List ByteArray) (h : IsF base w g gt gb s) (hb : base ≤ w.heap.size) (hmax : l.length ≤ maxLen) (hr : Kd.C Kd.string w A l.length l) (hw : (l.length : Int) = wdF s.size x0 x1) (hlen : (tileOf s (x0, x1)).length ≤ l.length) (h0 : 0 < l.length) (h4 : l.length ≤ 4) (hsz : ∀ y ∈ l, y.size ≤ 100000) (w0 : wf x0) (w1 : wf x1) :
    Calls Try.prog 71 #[.pointer (some ⟨g, 0, none⟩), .agg #[.bool true, .int .i64 x0, .int .i64 x1], .slice A l.length c] w fun e w' => e = .returned (.int .i64 (if okB s (x0, x1) l then 0 else 8)) ∧ IsF base w' g gt gb (if okB s (x0, x1) l then putB s x1 l else s) ∧ Turn (Foot g gt gb) w w' := by
  have OW := Aside0.mk (Mem.Own.nil w)
  have HF := Aside0.mk h
  have HR := Aside0.mk hr
  have HB := Aside0.mk hb
  have HMX := Aside0.mk hmax
  have HWD := Aside0.mk (fun W => width_c (s.size : Int) x0 x1 W)
  rw [show inTile x1 (cntv s.size x0) = (l.length : Int) from hw.symm] at HWD
  have hne : ((l.length : Int) != (l.length : Int)) = false := by simp
  have HTB := Aside0.mk (fun W (h : IsF base W g gt gb s) (hb : base ≤ W.heap.size) (hr : Kd.C Kd.string W A l.length l) => takeB_c x0 x1 A c l h hb hlen h0 h4 hsz w0 w1 hr)
  generalize (if okB s (x0, x1) l then (0 : Int) else 8) = cd at *
  generalize (if okB s (x0, x1) l then putB s x1 l else s) = s9 at *
  clear h hr hb hw hlen h0 h4 hsz w0 w1
  go_enter Try.func71, Try.ntmps71
  go_wp2_with (first
    | ((with_reducible refine gate_dst (N := 4) rfl ?_); refine box_event ?hg (N := 4) ?hd (cs := #[.bool true, .int .i64 x0, .int .i64 x1]) (t := 58) ?hr ?_; (case hd => rfl); (case hg => rfl); (case hr => first | (go_simp; done) | (go_simp; rfl)); intro gI hg W_ hb hbb; have n_ : Aside0 (Mem.Own w W_ [(gI, #[.bool true, .int .i64 x0, .int .i64 x1], 58)]) := ⟨OW.out.new hg hb hbb⟩; clear OW hb hbb hg; have OW := n_; clear n_))
  have OD := Aside0.mk OW.out.drew
  have HFD := Aside0.mk ((HF.out.below OW.out.below).drew)
  have HRD := Aside0.mk (Kd.C_drew (Kd.C_below HR.out OW.out.below))
  have b0 : W_.drew.cell? ⟨gI, 0, none⟩ = some (.bool true) := (OD.out.cell 0 rfl 0).trans rfl
  have b1 : W_.drew.cell? ⟨gI, 1, none⟩ = some (.int .i64 x0) := (OD.out.cell 0 rfl 1).trans rfl
  have b2 : W_.drew.cell? ⟨gI, 2, none⟩ = some (.int .i64 x1) := (OD.out.cell 0 rfl 2).trans rfl
  have c0 : W_.drew.cell? ⟨g, 72, none⟩ = some (.int .i64 s.size) := (HFD.out.cell 0).trans rfl
  clear OW
  go_wp2_with fail
  refine start_ (n := 20) (S := fun w' => Below (W_).drew.heap.size (W_).drew w') (ds := []) #[false, false, false, false, false, false, false, false, false, false, false, false, false, false, false, false, false, false, false, false] (by kernel_rfl) rfl rfl (Below.refl _ _) (fun hHeld => ?_)
  generalize (W_).drew = W1 at *
  refine pure_ (i := 0) (N := (some 8)) (v := ?_) (a' := ?_) #[true, false, false, false, false, false, false, false, false, false, false, false, false, false, false, false, false, false, false, false] rfl rfl (by kernel_rfl) (fun _ _ _ h => h) (Or.inl ⟨by rfl, ?_⟩) ?_ ?_
  rotate_left
  · intro w'
    go_simp
    first | done | with_reducible rfl
  rotate_left
  · simp only [Act.put, List.setIfInBounds_toArray, List.set_cons_zero, List.set_cons_succ, i64_w, i32_w]
    rfl
  refine pure_ (i := 1) (N := (some 9)) (v := ?_) (a' := ?_) #[true, true, false, false, false, false, false, false, false, false, false, false, false, false, false, false, false, false, false, false] rfl rfl (by kernel_rfl) (fun _ _ _ h => h) (Or.inl ⟨by rfl, ?_⟩) ?_ ?_
  rotate_left
  · intro w'
    go_simp
    first | done | with_reducible rfl
  rotate_left
  · simp only [Act.put, List.setIfInBounds_toArray, List.set_cons_zero, List.set_cons_succ, i64_w, i32_w]
    rfl
  refine pure_ (i := 2) (N := (some 10)) (v := ?_) (a' := ?_) #[true, true, true, false, false, false, false, false, false, false, false, false, false, false, false, false, false, false, false, false] rfl rfl (by kernel_rfl) (fun _ _ _ h => h) (Or.inl ⟨by rfl, ?_⟩) ?_ ?_
  rotate_left
  · intro w'
    go_simp
    first | done | with_reducible rfl
  rotate_left
  · simp only [Act.put, List.setIfInBounds_toArray, List.set_cons_zero, List.set_cons_succ, i64_w, i32_w]
    rfl
  refine pure_ (i := 3) (N := (some 11)) (v := ?_) (a' := ?_) #[true, true, true, true, false, false, false, false, false, false, false, false, false, false, false, false, false, false, false, false] rfl rfl (by kernel_rfl) (fun _ _ _ h => h) (Or.inl ⟨by rfl, ?_⟩) ?_ ?_
  rotate_left
  · intro w'
    skip
    go_simp
    first | done | with_reducible rfl
  rotate_left
  · simp only [Act.put, List.setIfInBounds_toArray, List.set_cons_zero, List.set_cons_succ, i64_w, i32_w]
    rfl
  refine pure_ (i := 4) (N := (some 12)) (v := ?_) (a' := ?_) #[true, true, true, true, true, false, false, false, false, false, false, false, false, false, false, false, false, false, false, false] rfl rfl (by kernel_rfl) (fun _ _ _ h => h) (Or.inl ⟨by rfl, ?_⟩) ?_ ?_
  rotate_left
  · intro w'
    go_simp
    first | done | with_reducible rfl
  rotate_left
  · simp only [Act.put, List.setIfInBounds_toArray, List.set_cons_zero, List.set_cons_succ, i64_w, i32_w]
    rfl
  refine take_ (i := 5) (N := (some 13)) (v := ?_) (a' := ?_) #[true, true, true, true, true, true, false, false, false, false, false, false, false, false, false, false, false, false, false, false] rfl rfl (by kernel_rfl) (fun _ _ _ h => h) (Or.inl ⟨by rfl, ?_⟩) hHeld ?_ ?_
  rotate_left
  · intro w' hS
    have s0 := pw_cell_below hS c0
    go_simp
    first | done | with_reducible rfl
  rotate_left
  · simp only [Act.put, List.setIfInBounds_toArray, List.set_cons_zero, List.set_cons_succ, i64_w, i32_w]
    rfl
  refine pure_ (i := 6) (N := (some 14)) (v := ?_) (a' := ?_) #[true, true, true, true, true, true, true, false, false, false, false, false, false, false, false, false, false, false, false, false] rfl rfl (by kernel_rfl) (fun _ _ _ h => h) (Or.inl ⟨by rfl, ?_⟩) ?_ ?_
  rotate_left
  · intro w'
    go_simp
    first | done | with_reducible rfl
  rotate_left
  · simp only [Act.put, List.setIfInBounds_toArray, List.set_cons_zero, List.set_cons_succ, i64_w, i32_w]
    rfl
  refine take_ (i := 7) (N := (some 15)) (v := ?_) (a' := ?_) #[true, true, true, true, true, true, true, true, false, false, false, false, false, false, false, false, false, false, false, false] rfl rfl (by kernel_rfl) (fun _ _ _ h => h) (Or.inl ⟨by rfl, ?_⟩) hHeld ?_ ?_
  rotate_left
  · intro w' hS
    have s0 := pw_cell_below hS b1
    have s1 := pw_cell_below hS b2
    go_simp
    first | done | with_reducible rfl
  rotate_left
  · simp only [Act.put, List.setIfInBounds_toArray, List.set_cons_zero, List.set_cons_succ, i64_w, i32_w]
    rfl
  refine one_ (i := 8) (N := (some 16)) #[true, true, true, true, true, true, true, true, true, false, false, false, false, false, false, false, false, false, false, false] rfl rfl (by kernel_rfl) (by decide) (fun K hK => ?_)
  refine goes_ Try.func50 (by kernel_rfl) rfl #[.int .i64 s.size, .agg #[.int .i64 x0, .int .i64 x1]] (by rfl) rfl rfl (by (try simp only [List.map_toArray, List.map_cons, List.map_nil]); first | done | rfl) ?_
  (with_reducible refine (HWD.out _).mono ?_)
  rintro e wa ⟨rfl, hB⟩
  refine ⟨_, rfl, ?_⟩
  have hS2 : Below W1.heap.size W1 wa := below_step hHeld hB
  clear hB hHeld
  refine hK.out _ _ hS2 (fun hHeld => ?_)
  clear hK K
  refine norm_ (a' := ?_) ?_ ?_
  rotate_left
  · show Act.put _ (some 16) _ = _
    simp only [Act.put, List.setIfInBounds_toArray, List.set_cons_zero, List.set_cons_succ, i64_w, i32_w]
    rfl
  refine pure_ (i := 9) (N := (some 17)) (v := ?_) (a' := ?_) #[true, true, true, true, true, true, true, true, true, true, false, false, false, false, false, false, false, false, false, false] rfl rfl (by kernel_rfl) (fun _ _ _ h => h) (Or.inl ⟨by rfl, ?_⟩) ?_ ?_
  rotate_left
  · intro w'
    go_simp
    first | done | with_reducible rfl
  rotate_left
  · simp only [Act.put, List.setIfInBounds_toArray, List.set_cons_zero, List.set_cons_succ, i64_w, i32_w]
    rfl
  refine pure_ (i := 10) (N := (some 18)) (v := ?_) (a' := ?_) #[true, true, true, true, true, true, true, true, true, true, true, false, false, false, false, false, false, false, false, false] rfl rfl (by kernel_rfl) (fun _ _ _ h => h) (Or.inl ⟨by rfl, ?_⟩) ?_ ?_
  rotate_left
  · intro w'
    go_simp
    first | done | with_reducible rfl
  rotate_left
  · simp only [Act.put, List.setIfInBounds_toArray, List.set_cons_zero, List.set_cons_succ, i64_w, i32_w]
    rfl
  refine pure_ (i := 11) (N := (some 19)) (v := ?_) (a' := ?_) #[true, true, true, true, true, true, true, true, true, true, true, true, false, false, false, false, false, false, false, false] rfl rfl (by kernel_rfl) (fun _ _ _ h => h) (Or.inl ⟨by rfl, ?_⟩) ?_ ?_
  rotate_left
  · intro w'
    go_simp
    first | done | with_reducible rfl
  rotate_left
  · simp only [Act.put, List.setIfInBounds_toArray, List.set_cons_zero, List.set_cons_succ, i64_w, i32_w]
    rfl
  refine take_ (i := 12) (N := (some 20)) (v := ?_) (a' := ?_) #[true, true, true, true, true, true, true, true, true, true, true, true, true, false, false, false, false, false, false, false] rfl rfl (by kernel_rfl) (fun _ _ _ h => h) (Or.inl ⟨by rfl, ?_⟩) hHeld ?_ ?_
  rotate_left
  · intro w' hS
    have s0 := pw_cell_below hS b0
    go_simp
    first | done | with_reducible rfl
  rotate_left
  · simp only [Act.put, List.setIfInBounds_toArray, List.set_cons_zero, List.set_cons_succ, i64_w, i32_w]
    rfl
  refine pure_ (i := 13) (N := (some 21)) (v := ?_) (a' := ?_) #[true, true, true, true, true, true, true, true, true, true, true, true, true, true, false, false, false, false, false, false] rfl rfl (by kernel_rfl) (fun _ _ _ h => h) (Or.inl ⟨by rfl, ?_⟩) ?_ ?_
  rotate_left
  · intro w'
    go_simp
    first | done | with_reducible rfl
  rotate_left
  · simp only [Act.put, List.setIfInBounds_toArray, List.set_cons_zero, List.set_cons_succ, i64_w, i32_w]
    rfl
  refine pure_ (i := 14) (N := (some 22)) (v := ?_) (a' := ?_) #[true, true, true, true, true, true, true, true, true, true, true, true, true, true, true, false, false, false, false, false] rfl rfl (by kernel_rfl) (fun _ _ _ h => h) (Or.inl ⟨by rfl, ?_⟩) ?_ ?_
  rotate_left
  · intro w'
    go_simp
    first | done | with_reducible rfl
  rotate_left
  · simp only [Act.put, List.setIfInBounds_toArray, List.set_cons_zero, List.set_cons_succ, i64_w, i32_w]
    rfl
  refine pure_ (i := 15) (N := (some 23)) (v := undef) (a' := ?_) #[true, true, true, true, true, true, true, true, true, true, true, true, true, true, true, true, false, false, false, false] rfl rfl (by kernel_rfl) (fun _ _ _ h => h) (Or.inr ⟨by rfl, rfl⟩) ?_ ?_
  rotate_left
  · simp only [Act.put, List.setIfInBounds_toArray, List.set_cons_zero, List.set_cons_succ, i64_w, i32_w]
    rfl
  refine pure_ (i := 16) (N := (some 24)) (v := undef) (a' := ?_) #[true, true, true, true, true, true, true, true, true, true, true, true, true, true, true, true, true, false, false, false] rfl rfl (by kernel_rfl) (fun _ _ _ h => h) (Or.inr ⟨by rfl, rfl⟩) ?_ ?_
  rotate_left
  · simp only [Act.put, List.setIfInBounds_toArray, List.set_cons_zero, List.set_cons_succ, i64_w, i32_w]
    rfl
  refine pure_ (i := 17) (N := (some 25)) (v := ?_) (a' := ?_) #[true, true, true, true, true, true, true, true, true, true, true, true, true, true, true, true, true, true, false, false] rfl rfl (by kernel_rfl) (fun _ _ _ h => h) (Or.inl ⟨by rfl, ?_⟩) ?_ ?_
  rotate_left
  · intro w'
    go_simp
    first | done | with_reducible rfl
  rotate_left
  · simp only [Act.put, List.setIfInBounds_toArray, List.set_cons_zero, List.set_cons_succ, i64_w, i32_w]
    rfl
  refine pure_ (i := 18) (N := (some 26)) (v := ?_) (a' := ?_) #[true, true, true, true, true, true, true, true, true, true, true, true, true, true, true, true, true, true, true, false] rfl rfl (by kernel_rfl) (fun _ _ _ h => h) (Or.inl ⟨by rfl, ?_⟩) ?_ ?_
  rotate_left
  · intro w'
    go_simp
    first | done | with_reducible rfl
  rotate_left
  · simp only [Act.put, List.setIfInBounds_toArray, List.set_cons_zero, List.set_cons_succ, i64_w, i32_w]
    rfl
  refine pure_ (i := 19) (N := (some 7)) (v := ?_) (a' := ?_) #[true, true, true, true, true, true, true, true, true, true, true, true, true, true, true, true, true, true, true, true] rfl rfl (by kernel_rfl) (fun _ _ _ h => h) (Or.inl ⟨by rfl, ?_⟩) ?_ ?_
  rotate_left
  · intro w'
    go_simp
    first | done | with_reducible rfl
  rotate_left
  · simp only [Act.put, List.setIfInBounds_toArray, List.set_cons_zero, List.set_cons_succ, i64_w, i32_w]
    rfl
  refine done_ (by kernel_rfl) ?_
  have OE := Aside0.mk (OD.out.step hHeld)
  have HF1 := Aside0.mk (HFD.out.below hHeld)
  have HR1 := Aside0.mk (Kd.C_below HRD.out hHeld)
  have i0 := (OE.out.cell 0 rfl 0).trans rfl
  have i1 := (OE.out.cell 0 rfl 1).trans rfl
  have i2 := (OE.out.cell 0 rfl 2).trans rfl
  clear OD HFD HRD hHeld b0 b1 b2 c0
  go_wp2_with (first
    | (go_at_call 97; (with_reducible refine (HTB.out _ HF1.out (Nat.le_trans HB.out OE.out.size) HR1.out).mono ?_); rintro e wz ⟨rfl, hI, hT⟩; have HI := Aside0.mk hI; have HT := Aside0.mk ((Turn.below OE.out.below).trans hT); clear hI hT i0 i1 i2))
  go_ret
  exact ⟨rfl, HI.out, HT.out⟩
set_option maxRecDepth 100000 in
set_option maxHeartbeats 8000000 in
theorem take_e (x0 x1 : Int) (A : Option Addr) (c : Nat) (l : List ByteArray) (h : IsF base w g gt gb s) (hb : base ≤ w.heap.size) (hmax : l.length ≤ maxLen) (hr : Kd.C Kd.string w A l.length l) (hv : InvF s) (hw : (l.length : Int) = wdF s.size x0 x1) (h0 : 0 < l.length) (h4 : l.length ≤ 4) (h32 : A32 l) (he : edB s.size (x0, x1) = true) (w0 : wf x0) (w1 : wf x1) :
    Calls Try.prog 71 #[.pointer (some ⟨g, 0, none⟩), .agg #[.bool false, .int .i64 x0, .int .i64 x1], .slice A l.length c] w fun e w' => e = .returned (.int .i64 (if okE (putT s (x0, x1) l) then 0 else 8)) ∧ IsF base w' g gt gb (if okE (putT s (x0, x1) l) then putT s (x0, x1) l else dropE (putT s (x0, x1) l)) ∧ Turn (Foot g gt gb) w w' := by
  have OW := Aside0.mk (Mem.Own.nil w)
  have HF := Aside0.mk h
  have HR := Aside0.mk hr
  have HB := Aside0.mk hb
  have HMX := Aside0.mk hmax
  have HWD := Aside0.mk (fun W => width_c (s.size : Int) x0 x1 W)
  rw [show inTile x1 (cntv s.size x0) = (l.length : Int) from hw.symm] at HWD
  have hne : ((l.length : Int) != (l.length : Int)) = false := by simp
  have HSH := Aside0.mk (fun W (h : Kd.C Kd.string W A l.length l) => short_c A c l W HMX.out h)
  rw [show all32 l = true from List.all_eq_true.2 (fun y hy => by rw [h32 y hy]; rfl)] at HSH
  have HED := Aside0.mk (fun W (h : IsF base W g gt gb s) => edge1_f base g gt gb s x0 x1 W h)
  rw [he] at HED
  have HTE := Aside0.mk (fun W (h : IsF base W g gt gb s) (hb : base ≤ W.heap.size) (hr : Kd.C Kd.string W A l.length l) => takeE_c x0 x1 A c l h hv hb hw h0 h4 h32 w0 w1 hr)
  generalize (if okE (putT s (x0, x1) l) then (0 : Int) else 8) = cd at *
  generalize (if okE (putT s (x0, x1) l) then putT s (x0, x1) l else dropE (putT s (x0, x1) l)) = s9 at *
  clear h hr hb hv hw h0 h4 h32 he w0 w1
  go_enter Try.func71, Try.ntmps71
  go_wp2_with (first
    | ((with_reducible refine gate_dst (N := 4) rfl ?_); refine box_event ?hg (N := 4) ?hd (cs := #[.bool false, .int .i64 x0, .int .i64 x1]) (t := 58) ?hr ?_; (case hd => rfl); (case hg => rfl); (case hr => first | (go_simp; done) | (go_simp; rfl)); intro gI hg W_ hb hbb; have n_ : Aside0 (Mem.Own w W_ [(gI, #[.bool false, .int .i64 x0, .int .i64 x1], 58)]) := ⟨OW.out.new hg hb hbb⟩; clear OW hb hbb hg; have OW := n_; clear n_))
  have OD := Aside0.mk OW.out.drew
  have HFD := Aside0.mk ((HF.out.below OW.out.below).drew)
  have HRD := Aside0.mk (Kd.C_drew (Kd.C_below HR.out OW.out.below))
  have b0 : W_.drew.cell? ⟨gI, 0, none⟩ = some (.bool false) := (OD.out.cell 0 rfl 0).trans rfl
  have b1 : W_.drew.cell? ⟨gI, 1, none⟩ = some (.int .i64 x0) := (OD.out.cell 0 rfl 1).trans rfl
  have b2 : W_.drew.cell? ⟨gI, 2, none⟩ = some (.int .i64 x1) := (OD.out.cell 0 rfl 2).trans rfl
  have c0 : W_.drew.cell? ⟨g, 72, none⟩ = some (.int .i64 s.size) := (HFD.out.cell 0).trans rfl
  clear OW
  go_wp2_with fail
  refine start_ (n := 20) (S := fun w' => Below (W_).drew.heap.size (W_).drew w') (ds := []) #[false, false, false, false, false, false, false, false, false, false, false, false, false, false, false, false, false, false, false, false] (by kernel_rfl) rfl rfl (Below.refl _ _) (fun hHeld => ?_)
  generalize (W_).drew = W1 at *
  refine pure_ (i := 0) (N := (some 8)) (v := ?_) (a' := ?_) #[true, false, false, false, false, false, false, false, false, false, false, false, false, false, false, false, false, false, false, false] rfl rfl (by kernel_rfl) (fun _ _ _ h => h) (Or.inl ⟨by rfl, ?_⟩) ?_ ?_
  rotate_left
  · intro w'
    go_simp
    first | done | with_reducible rfl
  rotate_left
  · simp only [Act.put, List.setIfInBounds_toArray, List.set_cons_zero, List.set_cons_succ, i64_w, i32_w]
    rfl
  refine pure_ (i := 1) (N := (some 9)) (v := ?_) (a' := ?_) #[true, true, false, false, false, false, false, false, false, false, false, false, false, false, false, false, false, false, false, false] rfl rfl (by kernel_rfl) (fun _ _ _ h => h) (Or.inl ⟨by rfl, ?_⟩) ?_ ?_
  rotate_left
  · intro w'
    go_simp
    first | done | with_reducible rfl
  rotate_left
  · simp only [Act.put, List.setIfInBounds_toArray, List.set_cons_zero, List.set_cons_succ, i64_w, i32_w]
    rfl
  refine pure_ (i := 2) (N := (some 10)) (v := ?_) (a' := ?_) #[true, true, true, false, false, false, false, false, false, false, false, false, false, false, false, false, false, false, false, false] rfl rfl (by kernel_rfl) (fun _ _ _ h => h) (Or.inl ⟨by rfl, ?_⟩) ?_ ?_
  rotate_left
  · intro w'
    go_simp
    first | done | with_reducible rfl
  rotate_left
  · simp only [Act.put, List.setIfInBounds_toArray, List.set_cons_zero, List.set_cons_succ, i64_w, i32_w]
    rfl
  refine pure_ (i := 3) (N := (some 11)) (v := ?_) (a' := ?_) #[true, true, true, true, false, false, false, false, false, false, false, false, false, false, false, false, false, false, false, false] rfl rfl (by kernel_rfl) (fun _ _ _ h => h) (Or.inl ⟨by rfl, ?_⟩) ?_ ?_
  rotate_left
  · intro w'
    skip
    go_simp
    first | done | with_reducible rfl
  rotate_left
  · simp only [Act.put, List.setIfInBounds_toArray, List.set_cons_zero, List.set_cons_succ, i64_w, i32_w]
    rfl
  refine pure_ (i := 4) (N := (some 12)) (v := ?_) (a' := ?_) #[true, true, true, true, true, false, false, false, false, false, false, false, false, false, false, false, false, false, false, false] rfl rfl (by kernel_rfl) (fun _ _ _ h => h) (Or.inl ⟨by rfl, ?_⟩) ?_ ?_
  rotate_left
  · intro w'
    go_simp
    first | done | with_reducible rfl
  rotate_left
  · simp only [Act.put, List.setIfInBounds_toArray, List.set_cons_zero, List.set_cons_succ, i64_w, i32_w]
    rfl
  refine take_ (i := 5) (N := (some 13)) (v := ?_) (a' := ?_) #[true, true, true, true, true, true, false, false, false, false, false, false, false, false, false, false, false, false, false, false] rfl rfl (by kernel_rfl) (fun _ _ _ h => h) (Or.inl ⟨by rfl, ?_⟩) hHeld ?_ ?_
  rotate_left
  · intro w' hS
    have s0 := pw_cell_below hS c0
    go_simp
    first | done | with_reducible rfl
  rotate_left
  · simp only [Act.put, List.setIfInBounds_toArray, List.set_cons_zero, List.set_cons_succ, i64_w, i32_w]
    rfl
  refine pure_ (i := 6) (N := (some 14)) (v := ?_) (a' := ?_) #[true, true, true, true, true, true, true, false, false, false, false, false, false, false, false, false, false, false, false, false] rfl rfl (by kernel_rfl) (fun _ _ _ h => h) (Or.inl ⟨by rfl, ?_⟩) ?_ ?_
  rotate_left
  · intro w'
    go_simp
    first | done | with_reducible rfl
  rotate_left
  · simp only [Act.put, List.setIfInBounds_toArray, List.set_cons_zero, List.set_cons_succ, i64_w, i32_w]
    rfl
  refine take_ (i := 7) (N := (some 15)) (v := ?_) (a' := ?_) #[true, true, true, true, true, true, true, true, false, false, false, false, false, false, false, false, false, false, false, false] rfl rfl (by kernel_rfl) (fun _ _ _ h => h) (Or.inl ⟨by rfl, ?_⟩) hHeld ?_ ?_
  rotate_left
  · intro w' hS
    have s0 := pw_cell_below hS b1
    have s1 := pw_cell_below hS b2
    go_simp
    first | done | with_reducible rfl
  rotate_left
  · simp only [Act.put, List.setIfInBounds_toArray, List.set_cons_zero, List.set_cons_succ, i64_w, i32_w]
    rfl
  refine one_ (i := 8) (N := (some 16)) #[true, true, true, true, true, true, true, true, true, false, false, false, false, false, false, false, false, false, false, false] rfl rfl (by kernel_rfl) (by decide) (fun K hK => ?_)
  refine goes_ Try.func50 (by kernel_rfl) rfl #[.int .i64 s.size, .agg #[.int .i64 x0, .int .i64 x1]] (by rfl) rfl rfl (by (try simp only [List.map_toArray, List.map_cons, List.map_nil]); first | done | rfl) ?_
  (with_reducible refine (HWD.out _).mono ?_)
  rintro e wa ⟨rfl, hB⟩
  refine ⟨_, rfl, ?_⟩
  have hS2 : Below W1.heap.size W1 wa := below_step hHeld hB
  clear hB hHeld
  refine hK.out _ _ hS2 (fun hHeld => ?_)
  clear hK K
  refine norm_ (a' := ?_) ?_ ?_
  rotate_left
  · show Act.put _ (some 16) _ = _
    simp only [Act.put, List.setIfInBounds_toArray, List.set_cons_zero, List.set_cons_succ, i64_w, i32_w]
    rfl
  refine pure_ (i := 9) (N := (some 17)) (v := ?_) (a' := ?_) #[true, true, true, true, true, true, true, true, true, true, false, false, false, false, false, false, false, false, false, false] rfl rfl (by kernel_rfl) (fun _ _ _ h => h) (Or.inl ⟨by rfl, ?_⟩) ?_ ?_
  rotate_left
  · intro w'
    go_simp
    first | done | with_reducible rfl
  rotate_left
  · simp only [Act.put, List.setIfInBounds_toArray, List.set_cons_zero, List.set_cons_succ, i64_w, i32_w]
    rfl
  refine pure_ (i := 10) (N := (some 18)) (v := ?_) (a' := ?_) #[true, true, true, true, true, true, true, true, true, true, true, false, false, false, false, false, false, false, false, false] rfl rfl (by kernel_rfl) (fun _ _ _ h => h) (Or.inl ⟨by rfl, ?_⟩) ?_ ?_
  rotate_left
  · intro w'
    go_simp
    first | done | with_reducible rfl
  rotate_left
  · simp only [Act.put, List.setIfInBounds_toArray, List.set_cons_zero, List.set_cons_succ, i64_w, i32_w]
    rfl
  refine pure_ (i := 11) (N := (some 19)) (v := ?_) (a' := ?_) #[true, true, true, true, true, true, true, true, true, true, true, true, false, false, false, false, false, false, false, false] rfl rfl (by kernel_rfl) (fun _ _ _ h => h) (Or.inl ⟨by rfl, ?_⟩) ?_ ?_
  rotate_left
  · intro w'
    go_simp
    first | done | with_reducible rfl
  rotate_left
  · simp only [Act.put, List.setIfInBounds_toArray, List.set_cons_zero, List.set_cons_succ, i64_w, i32_w]
    rfl
  refine take_ (i := 12) (N := (some 20)) (v := ?_) (a' := ?_) #[true, true, true, true, true, true, true, true, true, true, true, true, true, false, false, false, false, false, false, false] rfl rfl (by kernel_rfl) (fun _ _ _ h => h) (Or.inl ⟨by rfl, ?_⟩) hHeld ?_ ?_
  rotate_left
  · intro w' hS
    have s0 := pw_cell_below hS b0
    go_simp
    first | done | with_reducible rfl
  rotate_left
  · simp only [Act.put, List.setIfInBounds_toArray, List.set_cons_zero, List.set_cons_succ, i64_w, i32_w]
    rfl
  refine pure_ (i := 13) (N := (some 21)) (v := ?_) (a' := ?_) #[true, true, true, true, true, true, true, true, true, true, true, true, true, true, false, false, false, false, false, false] rfl rfl (by kernel_rfl) (fun _ _ _ h => h) (Or.inl ⟨by rfl, ?_⟩) ?_ ?_
  rotate_left
  · intro w'
    go_simp
    first | done | with_reducible rfl
  rotate_left
  · simp only [Act.put, List.setIfInBounds_toArray, List.set_cons_zero, List.set_cons_succ, i64_w, i32_w]
    rfl
  refine pure_ (i := 14) (N := (some 22)) (v := ?_) (a' := ?_) #[true, true, true, true, true, true, true, true, true, true, true, true, true, true, true, false, false, false, false, false] rfl rfl (by kernel_rfl) (fun _ _ _ h => h) (Or.inl ⟨by rfl, ?_⟩) ?_ ?_
  rotate_left
  · intro w'
    go_simp
    first | done | with_reducible rfl
  rotate_left
  · simp only [Act.put, List.setIfInBounds_toArray, List.set_cons_zero, List.set_cons_succ, i64_w, i32_w]
    rfl
  refine pure_ (i := 15) (N := (some 23)) (v := ?_) (a' := ?_) #[true, true, true, true, true, true, true, true, true, true, true, true, true, true, true, true, false, false, false, false] rfl rfl (by kernel_rfl) (fun _ _ _ h => h) (Or.inl ⟨by rfl, ?_⟩) ?_ ?_
  rotate_left
  · intro w'
    go_simp
    first | done | with_reducible rfl
  rotate_left
  · simp only [Act.put, List.setIfInBounds_toArray, List.set_cons_zero, List.set_cons_succ, i64_w, i32_w]
    rfl
  refine one_ (i := 16) (N := (some 24)) #[true, true, true, true, true, true, true, true, true, true, true, true, true, true, true, true, true, false, false, false] rfl rfl (by kernel_rfl) (by decide) (fun K hK => ?_)
  refine goes_ Try.func96 (by kernel_rfl) rfl #[.slice A l.length c] (by rfl) rfl rfl (by (try simp only [List.map_toArray, List.map_cons, List.map_nil]); first | done | rfl) ?_
  (with_reducible refine (HSH.out _ (Kd.C_below HRD.out hHeld)).mono ?_)
  rintro e wb ⟨rfl, rfl⟩
  refine ⟨_, rfl, ?_⟩
  have hS2 : Below W1.heap.size W1 wb := hHeld
  clear hHeld
  refine hK.out _ _ hS2 (fun hHeld => ?_)
  clear hK K
  refine norm_ (a' := ?_) ?_ ?_
  rotate_left
  · show Act.put _ (some 24) _ = _
    simp only [Act.put, List.setIfInBounds_toArray, List.set_cons_zero, List.set_cons_succ, i64_w, i32_w]
    rfl
  refine pure_ (i := 17) (N := (some 25)) (v := ?_) (a' := ?_) #[true, true, true, true, true, true, true, true, true, true, true, true, true, true, true, true, true, true, false, false] rfl rfl (by kernel_rfl) (fun _ _ _ h => h) (Or.inl ⟨by rfl, ?_⟩) ?_ ?_
  rotate_left
  · intro w'
    go_simp
    first | done | with_reducible rfl
  rotate_left
  · simp only [Act.put, List.setIfInBounds_toArray, List.set_cons_zero, List.set_cons_succ, i64_w, i32_w]
    rfl
  refine pure_ (i := 18) (N := (some 26)) (v := ?_) (a' := ?_) #[true, true, true, true, true, true, true, true, true, true, true, true, true, true, true, true, true, true, true, false] rfl rfl (by kernel_rfl) (fun _ _ _ h => h) (Or.inl ⟨by rfl, ?_⟩) ?_ ?_
  rotate_left
  · intro w'
    go_simp
    first | done | with_reducible rfl
  rotate_left
  · simp only [Act.put, List.setIfInBounds_toArray, List.set_cons_zero, List.set_cons_succ, i64_w, i32_w]
    rfl
  refine pure_ (i := 19) (N := (some 7)) (v := ?_) (a' := ?_) #[true, true, true, true, true, true, true, true, true, true, true, true, true, true, true, true, true, true, true, true] rfl rfl (by kernel_rfl) (fun _ _ _ h => h) (Or.inl ⟨by rfl, ?_⟩) ?_ ?_
  rotate_left
  · intro w'
    go_simp
    first | done | with_reducible rfl
  rotate_left
  · simp only [Act.put, List.setIfInBounds_toArray, List.set_cons_zero, List.set_cons_succ, i64_w, i32_w]
    rfl
  refine done_ (by kernel_rfl) ?_
  have OE := Aside0.mk (OD.out.step hHeld)
  have HF1 := Aside0.mk (HFD.out.below hHeld)
  have HR1 := Aside0.mk (Kd.C_below HRD.out hHeld)
  have i0 := (OE.out.cell 0 rfl 0).trans rfl
  have i1 := (OE.out.cell 0 rfl 1).trans rfl
  have i2 := (OE.out.cell 0 rfl 2).trans rfl
  clear OD HFD HRD hHeld b0 b1 b2 c0
  go_wp2_with (first
    | (go_at_call 95; (with_reducible refine (HED.out _ HF1.out).mono ?_); rintro e wy ⟨rfl, hB⟩; have n1 := Aside0.mk (OE.out.step hB); have n2 := Aside0.mk (HF1.out.below hB); have n3 := Aside0.mk (Kd.C_below HR1.out hB); clear OE HF1 HR1 hB i0 i1 i2; have OE := n1; have HF1 := n2; have HR1 := n3; clear n1 n2 n3; have i1 := (OE.out.cell 0 rfl 1).trans rfl; have i2 := (OE.out.cell 0 rfl 2).trans rfl)
    | (go_at_call 98; (with_reducible refine (HTE.out _ HF1.out (Nat.le_trans HB.out OE.out.size) HR1.out).mono ?_); rintro e wz ⟨rfl, hI, hT⟩; have HI := Aside0.mk hI; have HT := Aside0.mk ((Turn.below OE.out.below).trans hT); clear hI hT i1 i2))
  go_ret
  exact ⟨rfl, HI.out, HT.out⟩
set_option maxRecDepth 100000 in
set_option maxHeartbeats 8000000 in
theorem take_f (k i : Nat) (A : Option Addr) (c : Nat) (l : List ByteArray) (h : IsF base w g gt gb s) (hb : base ≤ w.heap.size) (hmax : l.length ≤ maxLen) (hr : Kd.C Kd.string w A l.length l) (hk3 : k ≤ 3) (hi16 : i ≤ 16) (hw : (l.length : Int) = wdF s.size (k : Int) (i : Int)) (h4 : l.length = 4) (hc4 : 4 ≤ c) (h32 : A32 l) (he : edB s.size ((k : Int), (i : Int)) = false) :
    Calls Try.prog 71 #[.pointer (some ⟨g, 0, none⟩), .agg #[.bool false, .int .i64 (k : Int), .int .i64 (i : Int)], .slice A l.length c] w fun e w' => e = .returned (.int .i64 (if okF s k i l then 0 else 8)) ∧ IsF base w' g gt gb (if okF s k i l then putT s ((k : Int), (i : Int)) l else s) ∧ Turn (Foot g gt gb) w w' := by
  have OW := Aside0.mk (Mem.Own.nil w)
  have HF := Aside0.mk h
  have HR := Aside0.mk hr
  have HB := Aside0.mk hb
  have HMX := Aside0.mk hmax
  have HWD := Aside0.mk (fun W => width_c (s.size : Int) (k : Int) (i : Int) W)
  rw [show inTile (i : Int) (cntv s.size (k : Int)) = (l.length : Int) from hw.symm] at HWD
  have hne : ((l.length : Int) != (l.length : Int)) = false := by simp
  have HSH := Aside0.mk (fun W (h : Kd.C Kd.string W A l.length l) => short_c A c l W HMX.out h)
  rw [show all32 l = true from List.all_eq_true.2 (fun y hy => by rw [h32 y hy]; rfl)] at HSH
  have HED := Aside0.mk (fun W (h : IsF base W g gt gb s) => edge1_f base g gt gb s (k : Int) (i : Int) W h)
  rw [he] at HED
  have HTE := Aside0.mk (fun W (h : IsF base W g gt gb s) (hb : base ≤ W.heap.size) (hr : Kd.C Kd.string W A l.length l) => takeF_c k i A c l h hb h4 h32 hk3 hi16 hc4 (by rw [h4] at hr; exact hr))
  have HL4 := Aside0.mk h4
  generalize (if okF s k i l then (0 : Int) else 8) = cd at *
  generalize (if okF s k i l then putT s ((k : Int), (i : Int)) l else s) = s9 at *
  clear h hr hb hw hk3 hi16 h4 h32 he hc4
  go_enter Try.func71, Try.ntmps71
  go_wp2_with (first
    | ((with_reducible refine gate_dst (N := 4) rfl ?_); refine box_event ?hg (N := 4) ?hd (cs := #[.bool false, .int .i64 (k : Int), .int .i64 (i : Int)]) (t := 58) ?hr ?_; (case hd => rfl); (case hg => rfl); (case hr => first | (go_simp; done) | (go_simp; rfl)); intro gI hg W_ hb hbb; have n_ : Aside0 (Mem.Own w W_ [(gI, #[.bool false, .int .i64 (k : Int), .int .i64 (i : Int)], 58)]) := ⟨OW.out.new hg hb hbb⟩; clear OW hb hbb hg; have OW := n_; clear n_))
  have OD := Aside0.mk OW.out.drew
  have HFD := Aside0.mk ((HF.out.below OW.out.below).drew)
  have HRD := Aside0.mk (Kd.C_drew (Kd.C_below HR.out OW.out.below))
  have b0 : W_.drew.cell? ⟨gI, 0, none⟩ = some (.bool false) := (OD.out.cell 0 rfl 0).trans rfl
  have b1 : W_.drew.cell? ⟨gI, 1, none⟩ = some (.int .i64 (k : Int)) := (OD.out.cell 0 rfl 1).trans rfl
  have b2 : W_.drew.cell? ⟨gI, 2, none⟩ = some (.int .i64 (i : Int)) := (OD.out.cell 0 rfl 2).trans rfl
  have c0 : W_.drew.cell? ⟨g, 72, none⟩ = some (.int .i64 s.size) := (HFD.out.cell 0).trans rfl
  clear OW
  go_wp2_with fail
  refine start_ (n := 20) (S := fun w' => Below (W_).drew.heap.size (W_).drew w') (ds := []) #[false, false, false, false, false, false, false, false, false, false, false, false, false, false, false, false, false, false, false, false] (by kernel_rfl) rfl rfl (Below.refl _ _) (fun hHeld => ?_)
  generalize (W_).drew = W1 at *
  refine pure_ (i := 0) (N := (some 8)) (v := ?_) (a' := ?_) #[true, false, false, false, false, false, false, false, false, false, false, false, false, false, false, false, false, false, false, false] rfl rfl (by kernel_rfl) (fun _ _ _ h => h) (Or.inl ⟨by rfl, ?_⟩) ?_ ?_
  rotate_left
  · intro w'
    go_simp
    first | done | with_reducible rfl
  rotate_left
  · simp only [Act.put, List.setIfInBounds_toArray, List.set_cons_zero, List.set_cons_succ, i64_w, i32_w]
    rfl
  refine pure_ (i := 1) (N := (some 9)) (v := ?_) (a' := ?_) #[true, true, false, false, false, false, false, false, false, false, false, false, false, false, false, false, false, false, false, false] rfl rfl (by kernel_rfl) (fun _ _ _ h => h) (Or.inl ⟨by rfl, ?_⟩) ?_ ?_
  rotate_left
  · intro w'
    go_simp
    first | done | with_reducible rfl
  rotate_left
  · simp only [Act.put, List.setIfInBounds_toArray, List.set_cons_zero, List.set_cons_succ, i64_w, i32_w]
    rfl
  refine pure_ (i := 2) (N := (some 10)) (v := ?_) (a' := ?_) #[true, true, true, false, false, false, false, false, false, false, false, false, false, false, false, false, false, false, false, false] rfl rfl (by kernel_rfl) (fun _ _ _ h => h) (Or.inl ⟨by rfl, ?_⟩) ?_ ?_
  rotate_left
  · intro w'
    go_simp
    first | done | with_reducible rfl
  rotate_left
  · simp only [Act.put, List.setIfInBounds_toArray, List.set_cons_zero, List.set_cons_succ, i64_w, i32_w]
    rfl
  refine pure_ (i := 3) (N := (some 11)) (v := ?_) (a' := ?_) #[true, true, true, true, false, false, false, false, false, false, false, false, false, false, false, false, false, false, false, false] rfl rfl (by kernel_rfl) (fun _ _ _ h => h) (Or.inl ⟨by rfl, ?_⟩) ?_ ?_
  rotate_left
  · intro w'
    skip
    go_simp
    first | done | with_reducible rfl
  rotate_left
  · simp only [Act.put, List.setIfInBounds_toArray, List.set_cons_zero, List.set_cons_succ, i64_w, i32_w]
    rfl
  refine pure_ (i := 4) (N := (some 12)) (v := ?_) (a' := ?_) #[true, true, true, true, true, false, false, false, false, false, false, false, false, false, false, false, false, false, false, false] rfl rfl (by kernel_rfl) (fun _ _ _ h => h) (Or.inl ⟨by rfl, ?_⟩) ?_ ?_
  rotate_left
  · intro w'
    go_simp
    first | done | with_reducible rfl
  rotate_left
  · simp only [Act.put, List.setIfInBounds_toArray, List.set_cons_zero, List.set_cons_succ, i64_w, i32_w]
    rfl
  refine take_ (i := 5) (N := (some 13)) (v := ?_) (a' := ?_) #[true, true, true, true, true, true, false, false, false, false, false, false, false, false, false, false, false, false, false, false] rfl rfl (by kernel_rfl) (fun _ _ _ h => h) (Or.inl ⟨by rfl, ?_⟩) hHeld ?_ ?_
  rotate_left
  · intro w' hS
    have s0 := pw_cell_below hS c0
    go_simp
    first | done | with_reducible rfl
  rotate_left
  · simp only [Act.put, List.setIfInBounds_toArray, List.set_cons_zero, List.set_cons_succ, i64_w, i32_w]
    rfl
  refine pure_ (i := 6) (N := (some 14)) (v := ?_) (a' := ?_) #[true, true, true, true, true, true, true, false, false, false, false, false, false, false, false, false, false, false, false, false] rfl rfl (by kernel_rfl) (fun _ _ _ h => h) (Or.inl ⟨by rfl, ?_⟩) ?_ ?_
  rotate_left
  · intro w'
    go_simp
    first | done | with_reducible rfl
  rotate_left
  · simp only [Act.put, List.setIfInBounds_toArray, List.set_cons_zero, List.set_cons_succ, i64_w, i32_w]
    rfl
  refine take_ (i := 7) (N := (some 15)) (v := ?_) (a' := ?_) #[true, true, true, true, true, true, true, true, false, false, false, false, false, false, false, false, false, false, false, false] rfl rfl (by kernel_rfl) (fun _ _ _ h => h) (Or.inl ⟨by rfl, ?_⟩) hHeld ?_ ?_
  rotate_left
  · intro w' hS
    have s0 := pw_cell_below hS b1
    have s1 := pw_cell_below hS b2
    go_simp
    first | done | with_reducible rfl
  rotate_left
  · simp only [Act.put, List.setIfInBounds_toArray, List.set_cons_zero, List.set_cons_succ, i64_w, i32_w]
    rfl
  refine one_ (i := 8) (N := (some 16)) #[true, true, true, true, true, true, true, true, true, false, false, false, false, false, false, false, false, false, false, false] rfl rfl (by kernel_rfl) (by decide) (fun K hK => ?_)
  refine goes_ Try.func50 (by kernel_rfl) rfl #[.int .i64 s.size, .agg #[.int .i64 (k : Int), .int .i64 (i : Int)]] (by rfl) rfl rfl (by (try simp only [List.map_toArray, List.map_cons, List.map_nil]); first | done | rfl) ?_
  (with_reducible refine (HWD.out _).mono ?_)
  rintro e wa ⟨rfl, hB⟩
  refine ⟨_, rfl, ?_⟩
  have hS2 : Below W1.heap.size W1 wa := below_step hHeld hB
  clear hB hHeld
  refine hK.out _ _ hS2 (fun hHeld => ?_)
  clear hK K
  refine norm_ (a' := ?_) ?_ ?_
  rotate_left
  · show Act.put _ (some 16) _ = _
    simp only [Act.put, List.setIfInBounds_toArray, List.set_cons_zero, List.set_cons_succ, i64_w, i32_w]
    rfl
  refine pure_ (i := 9) (N := (some 17)) (v := ?_) (a' := ?_) #[true, true, true, true, true, true, true, true, true, true, false, false, false, false, false, false, false, false, false, false] rfl rfl (by kernel_rfl) (fun _ _ _ h => h) (Or.inl ⟨by rfl, ?_⟩) ?_ ?_
  rotate_left
  · intro w'
    go_simp
    first | done | with_reducible rfl
  rotate_left
  · simp only [Act.put, List.setIfInBounds_toArray, List.set_cons_zero, List.set_cons_succ, i64_w, i32_w]
    rfl
  refine pure_ (i := 10) (N := (some 18)) (v := ?_) (a' := ?_) #[true, true, true, true, true, true, true, true, true, true, true, false, false, false, false, false, false, false, false, false] rfl rfl (by kernel_rfl) (fun _ _ _ h => h) (Or.inl ⟨by rfl, ?_⟩) ?_ ?_
  rotate_left
  · intro w'
    go_simp
    first | done | with_reducible rfl
  rotate_left
  · simp only [Act.put, List.setIfInBounds_toArray, List.set_cons_zero, List.set_cons_succ, i64_w, i32_w]
    rfl
  refine pure_ (i := 11) (N := (some 19)) (v := ?_) (a' := ?_) #[true, true, true, true, true, true, true, true, true, true, true, true, false, false, false, false, false, false, false, false] rfl rfl (by kernel_rfl) (fun _ _ _ h => h) (Or.inl ⟨by rfl, ?_⟩) ?_ ?_
  rotate_left
  · intro w'
    go_simp
    first | done | with_reducible rfl
  rotate_left
  · simp only [Act.put, List.setIfInBounds_toArray, List.set_cons_zero, List.set_cons_succ, i64_w, i32_w]
    rfl
  refine take_ (i := 12) (N := (some 20)) (v := ?_) (a' := ?_) #[true, true, true, true, true, true, true, true, true, true, true, true, true, false, false, false, false, false, false, false] rfl rfl (by kernel_rfl) (fun _ _ _ h => h) (Or.inl ⟨by rfl, ?_⟩) hHeld ?_ ?_
  rotate_left
  · intro w' hS
    have s0 := pw_cell_below hS b0
    go_simp
    first | done | with_reducible rfl
  rotate_left
  · simp only [Act.put, List.setIfInBounds_toArray, List.set_cons_zero, List.set_cons_succ, i64_w, i32_w]
    rfl
  refine pure_ (i := 13) (N := (some 21)) (v := ?_) (a' := ?_) #[true, true, true, true, true, true, true, true, true, true, true, true, true, true, false, false, false, false, false, false] rfl rfl (by kernel_rfl) (fun _ _ _ h => h) (Or.inl ⟨by rfl, ?_⟩) ?_ ?_
  rotate_left
  · intro w'
    go_simp
    first | done | with_reducible rfl
  rotate_left
  · simp only [Act.put, List.setIfInBounds_toArray, List.set_cons_zero, List.set_cons_succ, i64_w, i32_w]
    rfl
  refine pure_ (i := 14) (N := (some 22)) (v := ?_) (a' := ?_) #[true, true, true, true, true, true, true, true, true, true, true, true, true, true, true, false, false, false, false, false] rfl rfl (by kernel_rfl) (fun _ _ _ h => h) (Or.inl ⟨by rfl, ?_⟩) ?_ ?_
  rotate_left
  · intro w'
    go_simp
    first | done | with_reducible rfl
  rotate_left
  · simp only [Act.put, List.setIfInBounds_toArray, List.set_cons_zero, List.set_cons_succ, i64_w, i32_w]
    rfl
  refine pure_ (i := 15) (N := (some 23)) (v := ?_) (a' := ?_) #[true, true, true, true, true, true, true, true, true, true, true, true, true, true, true, true, false, false, false, false] rfl rfl (by kernel_rfl) (fun _ _ _ h => h) (Or.inl ⟨by rfl, ?_⟩) ?_ ?_
  rotate_left
  · intro w'
    go_simp
    first | done | with_reducible rfl
  rotate_left
  · simp only [Act.put, List.setIfInBounds_toArray, List.set_cons_zero, List.set_cons_succ, i64_w, i32_w]
    rfl
  refine one_ (i := 16) (N := (some 24)) #[true, true, true, true, true, true, true, true, true, true, true, true, true, true, true, true, true, false, false, false] rfl rfl (by kernel_rfl) (by decide) (fun K hK => ?_)
  refine goes_ Try.func96 (by kernel_rfl) rfl #[.slice A l.length c] (by rfl) rfl rfl (by (try simp only [List.map_toArray, List.map_cons, List.map_nil]); first | done | rfl) ?_
  (with_reducible refine (HSH.out _ (Kd.C_below HRD.out hHeld)).mono ?_)
  rintro e wb ⟨rfl, rfl⟩
  refine ⟨_, rfl, ?_⟩
  have hS2 : Below W1.heap.size W1 wb := hHeld
  clear hHeld
  refine hK.out _ _ hS2 (fun hHeld => ?_)
  clear hK K
  refine norm_ (a' := ?_) ?_ ?_
  rotate_left
  · show Act.put _ (some 24) _ = _
    simp only [Act.put, List.setIfInBounds_toArray, List.set_cons_zero, List.set_cons_succ, i64_w, i32_w]
    rfl
  refine pure_ (i := 17) (N := (some 25)) (v := ?_) (a' := ?_) #[true, true, true, true, true, true, true, true, true, true, true, true, true, true, true, true, true, true, false, false] rfl rfl (by kernel_rfl) (fun _ _ _ h => h) (Or.inl ⟨by rfl, ?_⟩) ?_ ?_
  rotate_left
  · intro w'
    go_simp
    first | done | with_reducible rfl
  rotate_left
  · simp only [Act.put, List.setIfInBounds_toArray, List.set_cons_zero, List.set_cons_succ, i64_w, i32_w]
    rfl
  refine pure_ (i := 18) (N := (some 26)) (v := ?_) (a' := ?_) #[true, true, true, true, true, true, true, true, true, true, true, true, true, true, true, true, true, true, true, false] rfl rfl (by kernel_rfl) (fun _ _ _ h => h) (Or.inl ⟨by rfl, ?_⟩) ?_ ?_
  rotate_left
  · intro w'
    go_simp
    first | done | with_reducible rfl
  rotate_left
  · simp only [Act.put, List.setIfInBounds_toArray, List.set_cons_zero, List.set_cons_succ, i64_w, i32_w]
    rfl
  refine pure_ (i := 19) (N := (some 7)) (v := ?_) (a' := ?_) #[true, true, true, true, true, true, true, true, true, true, true, true, true, true, true, true, true, true, true, true] rfl rfl (by kernel_rfl) (fun _ _ _ h => h) (Or.inl ⟨by rfl, ?_⟩) ?_ ?_
  rotate_left
  · intro w'
    go_simp
    first | done | with_reducible rfl
  rotate_left
  · simp only [Act.put, List.setIfInBounds_toArray, List.set_cons_zero, List.set_cons_succ, i64_w, i32_w]
    rfl
  refine done_ (by kernel_rfl) ?_
  have OE := Aside0.mk (OD.out.step hHeld)
  have HF1 := Aside0.mk (HFD.out.below hHeld)
  have HR1 := Aside0.mk (Kd.C_below HRD.out hHeld)
  have i0 := (OE.out.cell 0 rfl 0).trans rfl
  have i1 := (OE.out.cell 0 rfl 1).trans rfl
  have i2 := (OE.out.cell 0 rfl 2).trans rfl
  clear OD HFD HRD hHeld b0 b1 b2 c0
  rw [HL4.out] at *
  go_wp2_with (first
    | (go_at_call 95; (with_reducible refine (HED.out _ HF1.out).mono ?_); rintro e wy ⟨rfl, hB⟩; have n1 := Aside0.mk (OE.out.step hB); have n2 := Aside0.mk (HF1.out.below hB); have n3 := Aside0.mk (Kd.C_below HR1.out hB); clear OE HF1 HR1 hB i0 i1 i2; have OE := n1; have HF1 := n2; have HR1 := n3; clear n1 n2 n3; have i1 := (OE.out.cell 0 rfl 1).trans rfl; have i2 := (OE.out.cell 0 rfl 2).trans rfl)
    | (go_at_call 99; (with_reducible refine (HTE.out _ HF1.out (Nat.le_trans HB.out OE.out.size) HR1.out).mono ?_); rintro e wz ⟨rfl, hI, hT⟩; have HI := Aside0.mk hI; have HT := Aside0.mk ((Turn.below OE.out.below).trans hT); clear hI hT i1 i2))
  go_ret
  exact ⟨rfl, HI.out, HT.out⟩
end Go.Proofs.Ytondnammkcgjpaa.Ft
namespace Go.Proofs.Ytondnammkcgjpaa.Ft
open Go Go.RowKit Go.Shelf Go.Proofs.YtondnammkcgjpaaW.PrintWords Go.Proofs.YtondnammkcgjpaaW.PrintLast Go.Proofs.YtondnammkcgjpaaW.PrintMore Go.Proofs.Ytondnammkcgjpaa.Mp
open Go.Proofs.Ytondnammkcgjpaa.ShaP Go.Proofs.Ytondnammkcgjpaa.Mk Go.Proofs.Ytondnammkcgjpaa.Rg Go.Proofs.Ytondnammkcgjpaa.RgP Go.Proofs.Ytondnammkcgjpaa.Rf Go.Proofs.Ytondnammkcgjpaa.RgL Go.Proofs.Ytondnammkcgjpaa.Til Go.Proofs.Ytondnammkcgjpaa.Fg Go.Proofs.Ytondnammkcgjpaa.Fun Go.Proofs.Ytondnammkcgjpaa.Rng
set_option linter.unusedVariables false
set_option linter.unusedSimpArgs false
variable {base g gt gb : Nat} {s : FS} {w W : World}
theorem eqA24 (d : Nat) (w : World) (a b c e : Int) : (Op.equalIn (d + 2) 24 (.agg #[.int .i64 a, .int .i64 b]) (.agg #[.int .i64 c, .int .i64 e])).run Try.prog w = .ok (a == c && (b == e)) w := by
  refine eqA_of Try.underlying24 (by kernel_rfl) ?_
  refine eqf_cons (by rfl) (by go_simp; rfl) (by go_simp; rfl) (by go_simp) ?_
  exact eqf_last (by rfl) (by go_simp; rfl) (by go_simp; rfl) (by go_simp)
theorem eqA58 (d : Nat) (w : World) (p q : Bool) (a b c e : Int) : (Op.equalIn (d + 3) 58 (.agg #[.bool p, .int .i64 a, .int .i64 b]) (.agg #[.bool q, .int .i64 c, .int .i64 e])).run Try.prog w = .ok (p == q && (a == c && (b == e))) w := by
  refine eqA_of Try.underlying58 (by kernel_rfl) ?_
  refine eqf_cons (by rfl) (by first | (go_simp; done) | (go_simp; rfl)) (by first | (go_simp; done) | (go_simp; rfl)) (by go_simp) ?_
  exact eqf_last (by rfl) (by first | (go_simp; done) | (go_simp; rfl)) (by first | (go_simp; done) | (go_simp; rfl)) (eqA24 d w a b c e)
theorem neq_want (w : World) (p q : Bool) (a b c e : Int) : (binOp .neq 58 (.agg #[.bool p, .int .i64 a, .int .i64 b]) (.agg #[.bool q, .int .i64 c, .int .i64 e])).run Try.prog w = .ok (.bool (!(p == q && (a == c && (b == e))))) w := by
  simp only [binOp]
  simp [Op.equal, Op.maxDepth, eqA58 9997 w p q a b c e]
open Classical in
/-- what take makes of a gift -/
noncomputable def takeS (s : FS) (x : Want) (l : List ByteArray) : FS × Int :=
  if (l.length : Int) ≠ wdF s.size x.2.1 x.2.2 then (s, 2)
  else if x.1 = false ∧ all32 l = false then (s, 2)
  else if x.1 = true then (if okB s x.2 l then putB s x.2.2 l else s, if okB s x.2 l then 0 else 8)
  else if edB s.size x.2 = true then (if okE (putT s x.2 l) then putT s x.2 l else dropE (putT s x.2 l), if okE (putT s x.2 l) then 0 else 8)
  else (if okF s x.2.1.toNat x.2.2.toNat l then putT s x.2 l else s, if okF s x.2.1.toNat x.2.2.toNat l then 0 else 8)
theorem plan_w : ∀ n : Nat, n < 65 → ∀ x ∈ planF n, 0 < wdF n x.1 x.2 ∧ wdF n x.1 x.2 ≤ 4 := by decide +kernel
theorem wants_w (n : Nat) (hn : n ≤ 64) (x : Want) (hx : x ∈ wantsF n) : 0 < wdF n x.2.1 x.2.2 ∧ wdF n x.2.1 x.2.2 ≤ 4 := by
  have key : x.2 ∈ planF n := by
    unfold wantsF pickT pickB at hx
    simp only [List.mem_append, List.mem_map, List.mem_filter] at hx
    rcases hx with (⟨y, hy, rfl⟩ | ⟨y, hy, rfl⟩) | ⟨y, hy, rfl⟩ <;> exact hy.1
  exact plan_w n (by omega) _ key
theorem all32_A (l : List ByteArray) (h : all32 l = true) : A32 l := fun y hy => by
  have := List.all_eq_true.1 h y hy
  simpa using this
theorem take_c (x : Want) (hx : x ∈ wantsF s.size) (A : Option Addr) (c : Nat) (l : List ByteArray) (h : IsF base w g gt gb s) (hv : InvF s) (hb : base ≤ w.heap.size) (hmax : l.length ≤ maxLen) (hsz : ∀ y ∈ l, y.size ≤ 100000) (hc : l.length ≤ c) (hr : Kd.C Kd.string w A l.length l) :
    Calls Try.prog 71 #[.pointer (some ⟨g, 0, none⟩), .agg #[.bool x.1, .int .i64 x.2.1, .int .i64 x.2.2], .slice A l.length c] w fun e w' => e = .returned (.int .i64 (takeS s x l).2) ∧ IsF base w' g gt gb (takeS s x l).1 ∧ Turn (Foot g gt gb) w w' := by
  obtain ⟨b, x0, x1⟩ := x
  have hw := wants_w s.size h.sz _ hx
  have hbd := wants_b s.size h.sz _ hx
  simp only at hw hbd
  by_cases h1 : (l.length : Int) = wdF s.size x0 x1
  · have h0 : 0 < l.length := by omega
    have h4 : l.length ≤ 4 := by omega
    have w0 : wf x0 := wf_of (by omega) (by omega)
    have w1 : wf x1 := wf_of (by omega) (by omega)
    cases b with
    | true =>
      have e : takeS s (true, x0, x1) l = (if okB s (x0, x1) l then putB s x1 l else s, if okB s (x0, x1) l then 0 else 8) := by
        unfold takeS
        rw [if_neg (by simpa using h1), if_neg (by simp), if_pos rfl]
      rw [e]
      refine take_b x0 x1 A c l h hb hmax hr h1 ?_ h0 h4 hsz w0 w1
      unfold tileOf
      cases hq : s.tiles (x0, x1) with
      | none => exact Nat.zero_le _
      | some l' =>
        have := (hv.tl _ _ hq).1
        show l'.length ≤ l.length
        simp only at this
        omega
    | false =>
      cases h32 : all32 l with
      | false =>
        have e : takeS s (false, x0, x1) l = (s, 2) := by
          unfold takeS
          rw [if_neg (by simpa using h1), if_pos ⟨rfl, h32⟩]
        rw [e]
        exact take_bad x0 x1 A c l h hb hmax hr h1 h32
      | true =>
        cases he : edB s.size (x0, x1) with
        | true =>
          have e : takeS s (false, x0, x1) l = (if okE (putT s (x0, x1) l) then putT s (x0, x1) l else dropE (putT s (x0, x1) l), if okE (putT s (x0, x1) l) then 0 else 8) := by
            unfold takeS
            rw [if_neg (by simpa using h1), if_neg (by rw [h32]; simp), if_neg (by simp), if_pos he]
          rw [e]
          exact take_e x0 x1 A c l h hb hmax hr hv h1 h0 h4 (all32_A l h32) he w0 w1
        | false =>
          obtain ⟨k, rfl⟩ : ∃ k : Nat, x0 = k := ⟨x0.toNat, by omega⟩
          obtain ⟨i, rfl⟩ : ∃ i : Nat, x1 = i := ⟨x1.toNat, by omega⟩
          have e : takeS s (false, (k : Int), (i : Int)) l = (if okF s k i l then putT s ((k : Int), (i : Int)) l else s, if okF s k i l then 0 else 8) := by
            unfold takeS
            rw [if_neg (by simpa using h1), if_neg (by rw [h32]; simp), if_neg (by simp), if_neg (by rw [he]; simp)]
            rfl
          rw [e]
          have h44 : l.length = 4 := by
            unfold edB at he
            have := of_decide_eq_false he
            unfold wdF at h1
            simp only at this
            omega
          exact take_f k i A c l h hb hmax hr (by omega) (by omega) h1 h44 (by omega) (all32_A l h32) he
  · have e : takeS s (b, x0, x1) l = (s, 2) := by
      unfold takeS
      rw [if_pos h1]
    rw [e]
    exact take_width b x0 x1 A c l h hb hmax hr h1
open Classical in
/-- what Take makes of a gift -/
noncomputable def takenS (s : FS) (x : Want) (l : List ByteArray) : FS × Int :=
  if nextF s = some x then (if (takeS s x l).2 = 0 then (⟨(takeS s x l).1.size, (takeS s x l).1.root, (takeS s x l).1.tiles, (takeS s x l).1.bund, (takeS s x l).1.asked + 1⟩, 0) else takeS s x l) else (s, 1)
theorem next_mem {x : Want} (h : nextF s = some x) : x ∈ wantsF s.size := List.mem_of_find?_eq_some h
end Go.Proofs.Ytondnammkcgjpaa.Ft
namespace Go.Proofs.Ytondnammkcgjpaa.Ft
open Go Go.RowKit Go.Shelf Go.Proofs.YtondnammkcgjpaaW.PrintWords Go.Proofs.YtondnammkcgjpaaW.PrintLast Go.Proofs.YtondnammkcgjpaaW.PrintMore Go.Proofs.Ytondnammkcgjpaa.Mp
open Go.Proofs.Ytondnammkcgjpaa.ShaP Go.Proofs.Ytondnammkcgjpaa.Mk Go.Proofs.Ytondnammkcgjpaa.Rg Go.Proofs.Ytondnammkcgjpaa.RgP Go.Proofs.Ytondnammkcgjpaa.Rf Go.Proofs.Ytondnammkcgjpaa.RgL Go.Proofs.Ytondnammkcgjpaa.Til Go.Proofs.Ytondnammkcgjpaa.Fg Go.Proofs.Ytondnammkcgjpaa.Fun Go.Proofs.Ytondnammkcgjpaa.Rng
set_option linter.unusedVariables false
set_option linter.unusedSimpArgs false
variable {base g gt gb : Nat} {s : FS} {w W : World}
set_option maxRecDepth 100000 in
set_option maxHeartbeats 8000000 in
theorem Take_yes (x : Want) (A : Option Addr) (c : Nat) (l : List ByteArray) (h : IsF base w g gt gb s) (hv : InvF s) (hn : nextF s = some x) (hb : base ≤ w.heap.size) (hmax : l.length ≤ maxLen) (hsz : ∀ y ∈ l, y.size ≤ 100000) (hc : l.length ≤ c) (hr : Kd.C Kd.string w A l.length l) (has : 0 ≤ (takeS s x l).1.asked) (has2 : (takeS s x l).1.asked ≤ 1000000) :
    Calls Try.prog 40 #[.pointer (some ⟨g, 0, none⟩), .agg #[.bool x.1, .int .i64 x.2.1, .int .i64 x.2.2], .slice A l.length c] w fun e w' => e = .returned (.int .i64 (takenS s x l).2) ∧ IsF base w' g gt gb (takenS s x l).1 ∧ Turn (Foot g gt gb) w w' := by
  have OW := Aside0.mk (Mem.Own.nil w)
  have HF := Aside0.mk h
  have HR := Aside0.mk hr
  have HB := Aside0.mk hb
  have HNX := Aside0.mk (fun W (h : IsF base W g gt gb s) => next_c W h)
  have HTK := Aside0.mk (fun W (h : IsF base W g gt gb s) (hb : base ≤ W.heap.size) (hr : Kd.C Kd.string W A l.length l) => take_c x (next_mem hn) A c l h hv hb hmax hsz hc hr)
  have hT : takenS s x l = (if (takeS s x l).2 = 0 then (⟨(takeS s x l).1.size, (takeS s x l).1.root, (takeS s x l).1.tiles, (takeS s x l).1.bund, (takeS s x l).1.asked + 1⟩, 0) else takeS s x l) := if_pos hn
  have HT := Aside0.mk hT
  generalize takeS s x l = r at *
  generalize takenS s x l = r9 at *
  obtain ⟨b, x0, x1⟩ := x
  have HN := Aside0.mk hn
  clear h hn hr hb hv hsz hc hmax hT
  go_enter Try.func40, Try.ntmps40
  go_wp2_with (first
    | ((with_reducible refine gate_dst (N := 4) rfl ?_); refine box_event ?hg (N := 4) ?hd (cs := #[.bool b, .int .i64 x0, .int .i64 x1]) (t := 58) ?hr ?_; (case hd => rfl); (case hg => rfl); (case hr => first | (go_simp; done) | (go_simp; rfl)); intro gW hg W_ hb hbb; have n_ : Aside0 (Mem.Own w W_ [(gW, #[.bool b, .int .i64 x0, .int .i64 x1], 58)]) := ⟨OW.out.new hg hb hbb⟩; clear OW hb hbb hg; have OW := n_; clear n_))
  refine (HNX.out _ (HF.out.below OW.out.below)).mono ?_
  rintro e wz ⟨y, ok, rfl, hcs, hB⟩
  have n_ := Aside0.mk (OW.out.step hB)
  clear OW hB
  have OW := n_
  clear n_
  obtain ⟨b', y0, y1⟩ := y
  rcases hcs with ⟨hy, rfl⟩ | ⟨hy, _, _⟩
  · obtain ⟨rfl, rfl, rfl⟩ : b' = b ∧ y0 = x0 ∧ y1 = x1 := by
      have := HN.out.symm.trans hy
      simp at this
      exact ⟨this.1.symm, this.2.1.symm, this.2.2.symm⟩
    have hnw := fun W => neq_want W b' b' y0 y1 y0 y1
    have hne : (b' == b' && (y0 == y0 && (y1 == y1))) = true := by simp
    rw [hne] at hnw
    have hal : Below wz.heap.size wz (wz.alloc (.cells #[.bool b', .int .i64 y0, .int .i64 y1] 58)) := below_alloc (Below.refl _ _) _
    have j0 := pw_cell_below hal ((OW.out.cell 0 rfl 0).trans rfl)
    have j1 := pw_cell_below hal ((OW.out.cell 0 rfl 1).trans rfl)
    have j2 := pw_cell_below hal ((OW.out.cell 0 rfl 2).trans rfl)
    have hBl := below_step OW.out.below hal
    have HF1 := Aside0.mk (HF.out.below hBl)
    have HR1 := Aside0.mk (Kd.C_below HR.out hBl)
    have HBL := Aside0.mk hBl
    simp only [wcs]
    clear hy hne hal OW hBl
    go_wp2_with fail
    refine (HTK.out _ HF1.out (Nat.le_trans HB.out HBL.out.size) HR1.out).mono ?_
    rintro e wa ⟨rfl, hI, hTu⟩
    have HI := Aside0.mk hI
    have HTU := Aside0.mk ((Turn.below (P := Foot g gt gb) HBL.out).trans hTu)
    clear hI hTu j0 j1 j2 hnw HF1 HR1
    obtain ⟨r1, cd⟩ := r
    simp only at has has2 HI ⊢
    by_cases hz : cd = 0
    · subst hz
      have e9 := HT.out
      simp only [if_true] at e9
      have c4 : wa.cell? ⟨g, 76, none⟩ = some (.int .i64 r1.asked) := (HI.out.cell 4).trans rfl
      have y4 : wa.frozen? ⟨g, 76, none⟩ = false := blk_frozen HI.out.blk 76
      have HAS := Aside0.mk (HI.out.asks (r1.asked + 1))
      have hwr : wrap64 (r1.asked + 1) = r1.asked + 1 := by unfold wrap64; omega
      have E9 := Aside0.mk e9
      clear e9
      go_wp2_with fail
      go_ret
      rw [E9.out]
      exact ⟨rfl, HAS.out.1, HTU.out.trans HAS.out.2⟩
    · have e9 := HT.out
      simp only [if_neg hz] at e9
      have hzb : (cd == 0) = false := beq_eq_false_iff_ne.2 hz
      have E9 := Aside0.mk e9
      clear e9
      go_wp2_with fail
      go_ret
      rw [E9.out]
      exact ⟨rfl, HI.out, HTU.out⟩
  · exact absurd hy (by rw [HN.out]; simp)
def bundOf (s : FS) (k : Nat) : List ByteArray := (s.bund (k : Int)).getD []
/-- the leaves of the first k bundles -/
def allK (s : FS) (k : Nat) : List ByteArray := (List.range k).flatMap (bundOf s)
theorem allK_succ (s : FS) (k : Nat) : allK s (k + 1) = allK s k ++ bundOf s k := by simp [allK, List.range_succ]
/-- how many bundles there are -/
def nb (n : Nat) : Nat := (n + 3) / 4
theorem IsF.bund_at (h : IsF base w g gt gb s) (k : Nat) (w0 : wf (k : Int)) : (bundOf s k).length ≤ 4 ∧ ∃ A c, SR w base (.slice A (bundOf s k).length c) (bundOf s k) ∧
    ∀ W, Below w.heap.size w W → (Instr.lookup 112 (.map (some gb)) (.int .i64 (k : Int)) false).run Try.prog W = .ok (.slice A (bundOf s k).length c) W := by
  obtain ⟨kl, hkl⟩ := key3 w0
  obtain ⟨f, hm, hx⟩ := h.bn
  obtain ⟨q1, q2⟩ := hx (k : Int)
  cases hq : s.bund (k : Int) with
  | none =>
    have e : bundOf s k = [] := by unfold bundOf; rw [hq]; rfl
    rw [e]
    exact ⟨by simp, none, 0, Kd.R_nil _ _ _ _ _, fun W hB => look_s (hm.below' hB) K3 Try.underlying112 hkl (by show (f (inV k)).getD _ = _; rw [q1 hq]; rfl)⟩
  | some l =>
    have e : bundOf s k = l := by unfold bundOf; rw [hq]; rfl
    obtain ⟨v, hf, hr, _, h4⟩ := q2 l hq
    obtain ⟨A, c, rfl⟩ := Kd.R_slice hr
    rw [e]
    exact ⟨h4, A, c, hr, fun W hB => look_s (hm.below' hB) K3 Try.underlying112 hkl (by show (f (inV k)).getD _ = _; rw [hf]; rfl)⟩
set_option maxRecDepth 100000 in
set_option maxHeartbeats 8000000 in
theorem leaves_no (h : IsF base w g gt gb s) (hn : nextF s ≠ none) :
    Calls Try.prog 42 #[.pointer (some ⟨g, 0, none⟩)] w fun e w' => e = .returned (.tuple #[.slice none 0 0, .bool false]) ∧ Below w.heap.size w w' := by
  have HNX := Aside0.mk (next_c w h)
  have HN := Aside0.mk hn
  clear h hn
  go_enter Try.func42, Try.ntmps42
  go_wp2_with fail
  refine HNX.out.mono ?_
  rintro e wz ⟨y, ok, rfl, hcs, hB⟩
  rcases hcs with ⟨_, rfl⟩ | ⟨hy, _, _⟩
  · have HB := Aside0.mk hB
    simp only [wcs]
    clear hB
    go_wp2_with fail
    go_ret2
    exact ⟨rfl, below_alloc HB.out _⟩
  · exact absurd hy HN.out
set_option maxRecDepth 100000 in
set_option maxHeartbeats 8000000 in
theorem leaves_yes (h : IsF base w g gt gb s) (hn : nextF s = none) :
    Calls Try.prog 42 #[.pointer (some ⟨g, 0, none⟩)] w fun e w' => ∃ A c, e = .returned (.tuple #[.slice A (allK s (nb s.size)).length c, .bool true]) ∧ SR w' w.heap.size (.slice A (allK s (nb s.size)).length c) (allK s (nb s.size)) ∧ Below w.heap.size w w' := by
  have HF := Aside0.mk h
  have HNX := Aside0.mk (next_c w h)
  have HN := Aside0.mk hn
  have hsz := h.sz
  clear h hn
  go_enter Try.func42, Try.ntmps42
  go_wp2_with fail
  refine HNX.out.mono ?_
  rintro e wz ⟨y, ok, rfl, hcs, hB⟩
  rcases hcs with ⟨hy, _⟩ | ⟨_, rfl, rfl⟩
  · exact absurd hy (by rw [HN.out]; simp)
  · have HB := Aside0.mk (below_alloc hB (.cells #[.bool false, .int .i64 0, .int .i64 0] 58))
    simp only [wcs]
    clear hB HNX
    go_wp2_with fail
    generalize wz.alloc (.cells #[.bool false, .int .i64 0, .int .i64 0] 58) = wy at *
    have hsi : (s.size : Int) ≤ 64 := by omega
    go_loopw [6, 7] (fun v6 v7 wr => ∃ (k o : Nat) (A3 : Option Addr) (c3 : Nat), v7 = .int .i64 k ∧ v6 = .slice A3 o c3 ∧ k ≤ nb s.size ∧ o ≤ 4 * k ∧ Aside0 (SR wr w.heap.size (.slice A3 o c3) (allK s k)) ∧ Aside0 (Below w.heap.size w wr)) (fun _ v7 _ => 64 - (intOf v7).toNat)
    case atStart => exact ⟨0, 0, none, 0, rfl, rfl, Nat.zero_le _, Nat.zero_le _, ⟨Kd.R_nil _ _ _ _ _⟩, HB⟩
    case round =>
      clear HB
      obtain ⟨k, o, A3, c3, rfl, rfl, hk, ho, HO, HB⟩ := hrel
      have hk16 : k ≤ 16 := by unfold nb at hk; omega
      have hk4 : wrap64 ((k : Int) * 4) = (k : Int) * 4 := by unfold wrap64; omega
      have hk5 : IntKind.i64.wrap ((k : Int) * 4) = (k : Int) * 4 := by rw [IntKind.wrap_i64]; omega
      have c0 : wr.cell? ⟨g, 72, none⟩ = some (.int .i64 s.size) := ((HF.out.below HB.out).cell 0).trans rfl
      have c3' : wr.cell? ⟨g, 75, none⟩ = some (.map (some gb)) := ((HF.out.below HB.out).cell 3).trans rfl
      by_cases h1 : 4 * k < s.size
      · have h1i : (k : Int) * 4 < (s.size : Int) := by omega
        have hk1 : k + 1 ≤ nb s.size := by unfold nb; omega
        obtain ⟨hb4, A, c, hrb, hlk⟩ := HF.out.bund_at k (wf_of (by omega) (by omega))
        have hl := hlk wr HB.out
        have HAK := Aside0.mk (allK_succ s k)
        have HRB := Aside0.mk ((Kd.R_reads' hrb).2.2)
        have HLO := Aside0.mk ((Kd.R_reads' HO.out).1)
        generalize bundOf s k = T at *
        generalize allK s k = ol at *
        have HI1 := Aside0.mk (show k + 1 ≤ nb s.size ∧ k ≤ 16 ∧ o ≤ 4 * k ∧ T.length ≤ 4 from ⟨hk1, hk16, ho, hb4⟩)
        clear hlk hrb hk1 hk hb4 h1 ho hk16
        go_wp2_with (first
          | ((with_reducible refine gate_builtin (b := .append) (xs := #[.tmp 23, .tmp 29]) rfl ?_); at_builtin; refine Kd.R_append_row (P := Try.prog) Value.string (⟨#[]⟩ : ByteArray) (w0 := w) w.heap.size rfl (.tmp 23) (.tmp 29) 22 9 (.string ⟨#[]⟩) 16 rfl Try.underlying22 info_str rfl (by decide) (.slice A3 o c3) ol T A T.length c (fun _ => True) rfl rfl (fun _ _ => trivial) HO.out (Kd.C_below HRB.out HB.out) HB.out HB.out.size (by have := HI1.out; have := HLO.out; omega) ?_; intro v2 w2 hr2 hb2 hg2 hat2; obtain ⟨A5, c5, e5⟩ := Kd.R_slice hr2; have e6 : (ol ++ T).length = o + T.length := (by rw [List.length_append, HLO.out]); rw [e6] at e5; subst e5; have HR2 := Aside0.mk hr2; have HB2 := Aside0.mk hb2; clear hr2 hb2 hg2 hat2 e6 c0 c3' hl))
        go_roundw
        case rel => exact ⟨k + 1, o + T.length, A5, c5, by go_num, rfl, HI1.out.1, by have := HI1.out; omega, by rw [HAK.out]; exact HR2, HB2⟩
        case measure => have := HI1.out; simp [intOf]; omega
      · have h1i : ¬ (k : Int) * 4 < (s.size : Int) := by omega
        have hkn : k = nb s.size := by unfold nb at hk ⊢; omega
        have HKN := Aside0.mk hkn
        have hlo := (Kd.R_reads' HO.out).1
        have HLO := Aside0.mk hlo
        clear hlo hkn hk ho h1
        go_wp2_with fail
        go_ret2
        rw [← HKN.out]
        have hR := HO.out
        rw [HLO.out] at hR ⊢
        exact ⟨_, _, rfl, hR, HB.out⟩
end Go.Proofs.Ytondnammkcgjpaa.Ft
namespace Go.Proofs.Ytondnammkcgjpaa.Ft
open Go Go.RowKit Go.Shelf Go.Proofs.YtondnammkcgjpaaW.PrintWords
open Go.Proofs.Ytondnammkcgjpaa.ShaP Go.Proofs.Ytondnammkcgjpaa.Mk Go.Proofs.Ytondnammkcgjpaa.Rg Go.Proofs.Ytondnammkcgjpaa.RgP Go.Proofs.Ytondnammkcgjpaa.Rf Go.Proofs.Ytondnammkcgjpaa.RgL Go.Proofs.Ytondnammkcgjpaa.Til Go.Proofs.Ytondnammkcgjpaa.Fg Go.Proofs.Ytondnammkcgjpaa.Rng
set_option linter.unusedVariables false
set_option linter.unusedSimpArgs false
/-- the root of a stretch of a level is that of the leaves below it -/
theorem rootF_lev (L : List ByteArray) (hl : L.length ≤ 64) : ∀ (k m a : Nat), m + 2 * k < 8 → (a + 2 ^ m) * 4 ^ k ≤ L.length → rootF (seg (levF k L) a (2 ^ m)) = rootF (seg L (a * 4 ^ k) (2 ^ m * 4 ^ k))
  | 0, m, a, _, h => by rw [levF, Nat.pow_zero, Nat.mul_one, Nat.mul_one]
  | k + 1, m, a, hm, h => by
    have hp : 4 ^ (k + 1) = 4 * 4 ^ k := by rw [Nat.pow_succ, Nat.mul_comm]
    rw [hp] at h
    have h2 : (4 * a + 4 * 2 ^ m) * 4 ^ k ≤ L.length := by
      rw [← Nat.mul_add, Nat.mul_assoc, Nat.mul_comm 4, Nat.mul_assoc, Nat.mul_comm (4 ^ k) 4]
      exact h
    have hp0 : 0 < 4 ^ k := Nat.pow_pos (by omega)
    have hlen : 4 * a + 4 * 2 ^ m ≤ (levF k L).length := by
      rw [lev_len]
      exact (Nat.le_div_iff_mul_le hp0).2 h2
    have h64 : (levF k L).length ≤ 64 := by rw [lev_len]; exact Nat.le_trans (Nat.div_le_self _ _) hl
    have hm6 : m < 6 := by
      rcases Nat.lt_or_ge m 6 with h' | h'
      · exact h'
      · exfalso
        have : 2 ^ 6 ≤ 2 ^ m := Nat.pow_le_pow_right (by omega) h'
        omega
    rw [lev_up, rootF_up (levF k L) h64 m a hm6 hlen]
    have e2 : 4 * 2 ^ m = 2 ^ (m + 2) := by rw [Nat.pow_add]; omega
    rw [e2]
    rw [e2] at h2
    rw [rootF_lev L hl k (m + 2) (4 * a) (by omega) h2]
    congr 2
    · rw [hp, Nat.mul_comm 4 a, Nat.mul_assoc]
    · rw [hp, Nat.pow_add, Nat.mul_assoc]
/-- where a range's stretches begin, and how long they are -/
def offs : Nat → List Nat → List (Nat × Nat)
  | _, [] => []
  | a, p :: r => (a, p) :: offs (a + p) r
theorem ofB_offs (l : List ByteArray) : ∀ (ps : List Nat) (a : Nat), ofB l a ps = (offs a ps).map fun x => rootF (seg l x.1 x.2)
  | [], _ => rfl
  | p :: ps, a => by rw [ofB, offs, List.map_cons, ofB_offs l ps]; rfl
/-- the stretches of an edge's tiles, in leaves -/
def offE (n : Nat) : List (Nat × Nat) := (edgeF wdF n).flatMap fun x => (offs 0 (pn (inTile x.2 (cntv n x.1)).toNat)).map fun y => ((4 * x.2.toNat + y.1) * 4 ^ x.1.toNat, y.2 * 4 ^ x.1.toNat)
theorem off_eq : ∀ n : Nat, n < 65 → offs 0 (pn n) = offE n := by decide +kernel
/-- stretches of a tile: powers of two, inside the level -/
theorem off_in : ∀ n : Nat, n < 65 → ∀ x ∈ edgeF wdF n, ∀ y ∈ offs 0 (pn (inTile x.2 (cntv n x.1)).toNat), (y.2 = 2 ^ 0 ∨ y.2 = 2 ^ 1) ∧ y.1 + y.2 ≤ (inTile x.2 (cntv n x.1)).toNat := by decide +kernel
theorem edge_fit : ∀ n : Nat, n < 65 → ∀ x ∈ edgeF wdF n, 0 ≤ x.1 ∧ x.1 ≤ 3 ∧ 0 ≤ x.2 ∧ 4 * x.2.toNat + (inTile x.2 (cntv n x.1)).toNat ≤ n / 4 ^ x.1.toNat := by decide +kernel
theorem seg_seg (l : List ByteArray) (a n b m : Nat) (h : b + m ≤ n) : seg (seg l a n) b m = seg l (a + b) m := by
  unfold seg
  rw [List.take_drop, List.drop_drop, List.take_take]
  congr 2
  omega
theorem flatMap_same {α β : Type} {l : List α} {f g : α → List β} (h : ∀ x ∈ l, f x = g x) : l.flatMap f = l.flatMap g := by
  induction l with
  | nil => rfl
  | cons x l ih => rw [List.flatMap_cons, List.flatMap_cons, h x (by simp), ih (fun y hy => h y (by simp [hy]))]
theorem stretch_eq (L : List ByteArray) (hl : L.length ≤ 64) (x : Int × Int) (hx : x ∈ edgeF wdF L.length) (y : Nat × Nat) (hy : y ∈ offs 0 (pn (inTile x.2 (cntv L.length x.1)).toNat)) :
    rootF (seg (seg (levF x.1.toNat L) (4 * x.2.toNat) (inTile x.2 (cntv L.length x.1)).toNat) y.1 y.2) = rootF (seg L ((4 * x.2.toNat + y.1) * 4 ^ x.1.toNat) (y.2 * 4 ^ x.1.toNat)) := by
  have hfit := edge_fit L.length (by omega) x hx
  obtain ⟨h2, h3⟩ := off_in L.length (by omega) x hx y hy
  rw [seg_seg _ _ _ _ _ h3]
  have hk : x.1.toNat ≤ 3 := by omega
  have hf := hfit.2.2.2
  clear hfit hx hy
  generalize inTile x.2 (cntv L.length x.1) = q at *
  generalize x.1.toNat = k at *
  generalize x.2.toNat = i at *
  obtain ⟨a, b⟩ := y
  simp only at h2 h3 ⊢
  have hab : 4 * i + a + b ≤ L.length / 4 ^ k := by omega
  have hle : (4 * i + a + b) * 4 ^ k ≤ L.length := Nat.le_trans (Nat.mul_le_mul_right _ hab) (Nat.div_mul_le_self _ _)
  rcases h2 with rfl | rfl
  · exact rootF_lev L hl k 0 _ (by omega) hle
  · exact rootF_lev L hl k 1 _ (by omega) hle
theorem ofF_tile (L : List ByteArray) (hl : L.length ≤ 64) (x : Int × Int) (hx : x ∈ edgeF wdF L.length) :
    ofF (seg (levF x.1.toNat L) (4 * x.2.toNat) (inTile x.2 (cntv L.length x.1)).toNat) = (offs 0 (pn (inTile x.2 (cntv L.length x.1)).toNat)).map fun y => rootF (seg L ((4 * x.2.toNat + y.1) * 4 ^ x.1.toNat) (y.2 * 4 ^ x.1.toNat)) := by
  have hfit := edge_fit L.length (by omega) x hx
  have hlen : (seg (levF x.1.toNat L) (4 * x.2.toNat) (inTile x.2 (cntv L.length x.1)).toNat).length = (inTile x.2 (cntv L.length x.1)).toNat := seg_len _ _ _ (by rw [lev_len]; exact hfit.2.2.2)
  rw [ofF_B, hlen, ofB_offs]
  exact List.map_congr_left fun y hy => stretch_eq L hl x hx y hy
/-- the root that an edge makes whose tiles are those of L -/
theorem root_edge (L : List ByteArray) (f : Int × Int → List ByteArray) (hl : L.length ≤ 64) (hf : ∀ x ∈ edgeF wdF L.length, f x = seg (levF x.1.toNat L) (4 * x.2.toNat) (inTile x.2 (cntv L.length x.1)).toNat) :
    rootR (accF ((edgeF wdF L.length).map f)) = rootF L := by
  have h1 : accF ((edgeF wdF L.length).map f) = (edgeF wdF L.length).flatMap fun x => (offs 0 (pn (inTile x.2 (cntv L.length x.1)).toNat)).map fun y => rootF (seg L ((4 * x.2.toNat + y.1) * 4 ^ x.1.toNat) (y.2 * 4 ^ x.1.toNat)) := by
    unfold accF
    rw [List.flatMap_map]
    exact flatMap_same fun x hx => by rw [hf x hx, ofF_tile L hl x hx]
  have h2 : ofF L = (edgeF wdF L.length).flatMap fun x => (offs 0 (pn (inTile x.2 (cntv L.length x.1)).toNat)).map fun y => rootF (seg L ((4 * x.2.toNat + y.1) * 4 ^ x.1.toNat) (y.2 * 4 ^ x.1.toNat)) := by
    rw [ofF_B, ofB_offs, off_eq L.length (by omega)]
    unfold offE
    rw [List.map_flatMap]
    exact flatMap_same fun x hx => by rw [List.map_map]; rfl
  rw [h1, ← h2]
  exact root_of 200 L (by omega) (by omega)
end Go.Proofs.Ytondnammkcgjpaa.Ft
namespace Go.Proofs.Ytondnammkcgjpaa.Ft
open Go Go.RowKit Go.Shelf Go.Proofs.YtondnammkcgjpaaW.PrintWords
open Go.Proofs.Ytondnammkcgjpaa.ShaP Go.Proofs.Ytondnammkcgjpaa.Mk Go.Proofs.Ytondnammkcgjpaa.Rg Go.Proofs.Ytondnammkcgjpaa.RgP Go.Proofs.Ytondnammkcgjpaa.Rf Go.Proofs.Ytondnammkcgjpaa.RgL Go.Proofs.Ytondnammkcgjpaa.Til Go.Proofs.Ytondnammkcgjpaa.Fg Go.Proofs.Ytondnammkcgjpaa.Rng
set_option linter.unusedVariables false
set_option linter.unusedSimpArgs false
theorem in_plan0 : ((List.range 65).all fun n => (List.range 4).all fun k => (List.range 17).all fun i => decide (inTile (i : Int) (cntv (n : Int) (k : Int)) ≤ 0) || (planF (n : Int)).contains ((k : Int), (i : Int))) = true := by decide +kernel
theorem in_plan (n : Nat) (hn : n < 65) (k : Nat) (hk : k < 4) (i : Nat) (hi : i < 17) : inTile (i : Int) (cntv n k) ≤ 0 ∨ ((k : Int), (i : Int)) ∈ planF n := by
  have h1 := List.all_eq_true.1 in_plan0 n (List.mem_range.2 hn)
  have h2 := List.all_eq_true.1 h1 k (List.mem_range.2 hk)
  have h3 := List.all_eq_true.1 h2 i (List.mem_range.2 hi)
  rcases Bool.or_eq_true_iff.1 h3 with h | h
  · exact .inl (of_decide_eq_true h)
  · exact .inr (by simpa using h)
/-- a level's hashes, as the tiles have them -/
def LV (s : FS) (k : Nat) : List ByteArray := (List.range (s.size / 4 ^ k)).map fun j => ((tileOf s ((k : Int), ((j / 4 : Nat) : Int)))[j % 4]?).getD ByteArray.empty
theorem LV_len (s : FS) (k : Nat) : (LV s k).length = s.size / 4 ^ k := by unfold LV; rw [List.length_map, List.length_range]
theorem LV_get (s : FS) (k j : Nat) (h : j < s.size / 4 ^ k) : (LV s k)[j]? = some (((tileOf s ((k : Int), ((j / 4 : Nat) : Int)))[j % 4]?).getD ByteArray.empty) := by
  unfold LV
  rw [List.getElem?_map, List.getElem?_range h]
  rfl
/-- how many hashes a tile has -/
def tw (n k i : Nat) : Nat := min 4 (n / 4 ^ k - 4 * i)
theorem tw_in (n k i : Nat) (hn : n ≤ 64) (hk : k < 4) : inTile (i : Int) (cntv n k) = (tw n k i : Int) := by
  rw [cnt_pow n (by omega) k hk]
  unfold inTile tw
  rw [if_neg (by omega)]
  generalize n / 4 ^ k = c
  omega
structure Full (s : FS) : Prop where
  sz : s.size ≤ 64
  inv : InvF s
  all : ∀ x ∈ planF s.size, (s.tiles x).isSome = true
  up : ∀ k i : Nat, k < 4 → tw s.size k i = 4 → okF s k i (tileOf s ((k : Int), (i : Int))) = true
  bn : ∀ i : Nat, 4 * i < s.size → ∃ l, s.bund (i : Int) = some l ∧ okB s (0, (i : Int)) l = true
variable {s : FS}
theorem quo_le (n k : Nat) (hn : n ≤ 64) : n / 4 ^ k ≤ 64 := Nat.le_trans (Nat.div_le_self _ _) hn
theorem Full.len (h : Full s) (k i : Nat) (hk : k < 4) (hp : 0 < tw s.size k i) : (tileOf s ((k : Int), (i : Int))).length = tw s.size k i := by
  have hi : i < 17 := by
    have := quo_le s.size k h.sz
    unfold tw at hp
    omega
  have hm : ((k : Int), (i : Int)) ∈ planF s.size := (in_plan s.size (by have := h.sz; omega) k hk i hi).resolve_left (by rw [tw_in s.size k i h.sz hk]; omega)
  have h1 := h.all _ hm
  cases hq : s.tiles ((k : Int), (i : Int)) with
  | none => rw [hq] at h1; cases h1
  | some l =>
    have e : tileOf s ((k : Int), (i : Int)) = l := by unfold tileOf; rw [hq]; rfl
    rw [e]
    have h2 := (h.inv.tl _ _ hq).1
    unfold wdF at h2
    simp only at h2
    rw [tw_in s.size k i h.sz hk] at h2
    omega
theorem Full.seg (h : Full s) (k i : Nat) (hk : k < 4) (hp : 0 < tw s.size k i) : tileOf s ((k : Int), (i : Int)) = Til.seg (LV s k) (4 * i) (tw s.size k i) := by
  have hl := h.len k i hk hp
  have hfit : 4 * i + tw s.size k i ≤ (LV s k).length := by rw [LV_len]; unfold tw at hp ⊢; omega
  have hsl := seg_len (LV s k) (4 * i) (tw s.size k i) hfit
  have hm4 : tw s.size k i ≤ 4 := by unfold tw; omega
  refine List.ext_getElem? fun t => ?_
  by_cases ht : t < tw s.size k i
  · unfold Til.seg
    rw [List.getElem?_drop, List.getElem?_take, if_pos (by omega), LV_get s k (4 * i + t) (by rw [LV_len] at hfit; omega)]
    have e1 : (4 * i + t) / 4 = i := by omega
    have e2 : (4 * i + t) % 4 = t := by omega
    rw [e1, e2, List.getElem?_eq_getElem (by omega)]
    rfl
  · rw [List.getElem?_eq_none (by omega), List.getElem?_eq_none (by omega)]
theorem Full.lv_up (h : Full s) (k : Nat) (hk : k < 3) : LV s (k + 1) = upF (LV s k) := by
  have hq : s.size / 4 ^ (k + 1) = s.size / 4 ^ k / 4 := by rw [Nat.pow_succ, Nat.div_div_eq_div_mul]
  refine List.ext_getElem? fun j => ?_
  by_cases hj : j < s.size / 4 ^ (k + 1)
  · have h4 : 4 * j + 4 ≤ (LV s k).length := by rw [LV_len]; omega
    have ht : tw s.size k j = 4 := by rw [LV_len] at h4; unfold tw; omega
    rw [LV_get s (k + 1) j hj, upF_get (LV s k) j h4]
    have h1 := h.seg k j (by omega) (by omega)
    rw [ht] at h1
    have h2 := of_decide_eq_true (h.up k j (by omega) ht)
    rw [h1] at h2
    show some (((tileOf s (((k : Int) + 1), ((j / 4 : Nat) : Int)))[j % 4]?).getD ByteArray.empty) = _
    rw [h2]
    rfl
  · rw [List.getElem?_eq_none (by rw [LV_len]; omega), List.getElem?_eq_none (by rw [upF_length, LV_len]; omega)]
theorem Full.lv_lev (h : Full s) : ∀ k : Nat, k < 4 → LV s k = levF k (LV s 0)
  | 0, _ => rfl
  | k + 1, hk => by rw [h.lv_up k (by omega), h.lv_lev k (by omega), lev_up]
theorem LV0_len (s : FS) : (LV s 0).length = s.size := by rw [LV_len, Nat.pow_zero, Nat.div_one]
theorem edge_pos : ∀ n : Nat, n < 65 → ∀ x ∈ edgeF wdF n, 0 < inTile x.2 (cntv n x.1) := by decide +kernel
theorem edge_nat (n : Nat) (hn : n ≤ 64) (x : Int × Int) (hx : x ∈ edgeF wdF n) : ∃ k i : Nat, k < 4 ∧ x = ((k : Int), (i : Int)) ∧ 0 < tw n k i := by
  obtain ⟨a, b⟩ := x
  have h1 := edge_in n (by omega) _ hx
  have h2 := edge_pos n (by omega) _ hx
  simp only at h1 h2
  obtain ⟨k, rfl⟩ : ∃ k : Nat, a = k := ⟨a.toNat, by omega⟩
  obtain ⟨i, rfl⟩ : ∃ i : Nat, b = i := ⟨b.toNat, by omega⟩
  refine ⟨k, i, by omega, rfl, ?_⟩
  rw [tw_in n k i hn (by omega)] at h2
  omega
theorem Full.root (h : Full s) : rootE s = rootF (LV s 0) := by
  have hl := LV0_len s
  have h64 := h.sz
  have h1 := root_edge (LV s 0) (tileOf s) (by omega) (fun x hx => by
    rw [hl] at hx ⊢
    obtain ⟨k, i, hk, rfl, hp⟩ := edge_nat s.size (by omega) x hx
    simp only [Int.toNat_natCast]
    rw [tw_in s.size k i h64 hk, Int.toNat_natCast, ← h.lv_lev k hk]
    exact h.seg k i hk hp)
  rw [hl] at h1
  exact h1
theorem leavesF_app (a b : List ByteArray) : leavesF (a ++ b) = leavesF a ++ leavesF b := by unfold leavesF; rw [List.map_append]
theorem Full.bund (h : Full s) (i : Nat) (hi : 4 * i < s.size) : leavesF (bundOf s i) = Til.seg (LV s 0) (4 * i) (tw s.size 0 i) := by
  obtain ⟨l, hl, hok⟩ := h.bn i hi
  have hp : 0 < tw s.size 0 i := by unfold tw; rw [Nat.pow_zero, Nat.div_one]; omega
  have e : bundOf s i = l := by unfold bundOf; rw [hl]; rfl
  have h1 := of_decide_eq_true hok
  have h2 := h.inv.bn _ _ hl
  unfold wdF at h2
  have h3 := tw_in s.size 0 i h.sz (by omega)
  rw [show ((0 : Nat) : Int) = 0 from rfl] at h3
  rw [h3] at h2
  have h4 := h.len 0 i (by omega) hp
  rw [show ((0 : Nat) : Int) = 0 from rfl] at h4
  have h5 := h.seg 0 i (by omega) hp
  rw [show ((0 : Nat) : Int) = 0 from rfl] at h5
  rw [e, ← h5]
  rw [h4, List.take_of_length_le (by rw [List.length_map]; omega)] at h1
  exact h1
theorem Full.leaves (h : Full s) : ∀ k : Nat, k ≤ nb s.size → leavesF (allK s k) = (LV s 0).take (4 * k)
  | 0, _ => rfl
  | k + 1, hk => by
    have hlt : 4 * k < s.size := by unfold nb at hk; omega
    rw [allK_succ, leavesF_app, h.leaves k (by omega), h.bund k hlt]
    unfold Til.seg tw
    rw [Nat.pow_zero, Nat.div_one]
    have hl := LV0_len s
    generalize LV s 0 = X at *
    have e : X.take (4 * (k + 1)) = X.take (4 * k + min 4 (s.size - 4 * k)) := by
      rcases Nat.lt_or_ge (s.size - 4 * k) 4 with h5 | h5
      · rw [List.take_of_length_le (by omega), List.take_of_length_le (by omega)]
      · rw [show 4 * (k + 1) = 4 * k + min 4 (s.size - 4 * k) by omega]
    rw [e]
    have := List.take_append_drop (4 * k) (X.take (4 * k + min 4 (s.size - 4 * k)))
    rw [List.take_take, Nat.min_eq_left (by omega)] at this
    exact this
/-- who has all has leaves whose root is the edge's -/
theorem Full.sound (h : Full s) : (allK s (nb s.size)).length = s.size ∧ rootF (leavesF (allK s (nb s.size))) = rootE s := by
  have h1 := h.leaves (nb s.size) (Nat.le_refl _)
  have hl := LV0_len s
  rw [List.take_of_length_le (by unfold nb; omega)] at h1
  refine ⟨?_, by rw [h1, h.root]⟩
  have := congrArg List.length h1
  unfold leavesF at this
  rw [List.length_map] at this
  omega
end Go.Proofs.Ytondnammkcgjpaa.Ft
namespace Go.Proofs.Ytondnammkcgjpaa.Ft
open Go Go.RowKit Go.Shelf Go.Proofs.YtondnammkcgjpaaW.PrintWords
open Go.Proofs.Ytondnammkcgjpaa.ShaP Go.Proofs.Ytondnammkcgjpaa.Mk Go.Proofs.Ytondnammkcgjpaa.Rg Go.Proofs.Ytondnammkcgjpaa.RgP Go.Proofs.Ytondnammkcgjpaa.Rf Go.Proofs.Ytondnammkcgjpaa.RgL Go.Proofs.Ytondnammkcgjpaa.Til Go.Proofs.Ytondnammkcgjpaa.Fg Go.Proofs.Ytondnammkcgjpaa.Rng
set_option linter.unusedVariables false
set_option linter.unusedSimpArgs false
structure Snd (s : FS) : Prop where
  sz : s.size ≤ 64
  inv : InvF s
  edge : haveE s = true → rootE s = s.root
  full : ∀ k i : Nat, k < 4 → tw s.size k i = 4 → (s.tiles ((k : Int), (i : Int))).isSome = true → haveE s = true ∧ okF s k i (tileOf s ((k : Int), (i : Int))) = true
  bund : ∀ i : Nat, ∀ l, s.bund (i : Int) = some l → (∀ x ∈ planF s.size, (s.tiles x).isSome = true) ∧ okB s (0, (i : Int)) l = true
variable {s : FS} {x : Want} {l : List ByteArray}
theorem find_left {α : Type} {A B : List α} {p : α → Bool} {x : α} (h : (A ++ B).find? p = some x) (hx : x ∉ A) : A.find? p = none := by
  rw [List.find?_append] at h
  cases hA : A.find? p with
  | none => rfl
  | some y =>
    rw [hA] at h
    have e : y = x := by simpa using h
    exact absurd (e ▸ List.mem_of_find?_eq_some hA) hx
theorem next_not (h : nextF s = some x) : hasF s x = false := by
  have := List.find?_some h
  simpa using this
theorem mem_pickT {n : Nat} {e : Bool} {l : List (Int × Int)} {x : Want} : x ∈ pickT n e l ↔ x.1 = false ∧ x.2 ∈ l ∧ edB n x.2 = e := by
  unfold pickT
  simp only [List.mem_map, List.mem_filter]
  constructor
  · rintro ⟨y, ⟨h1, h2⟩, rfl⟩
    exact ⟨rfl, h1, by simpa using h2⟩
  · rintro ⟨h1, h2, h3⟩
    obtain ⟨b, y⟩ := x
    simp only at h1 h2 h3
    subst h1
    exact ⟨y, ⟨h2, by simpa using h3⟩, rfl⟩
theorem mem_pickB {l : List (Int × Int)} {x : Want} : x ∈ pickB l ↔ x.1 = true ∧ x.2 ∈ l ∧ x.2.1 = 0 := by
  unfold pickB
  simp only [List.mem_map, List.mem_filter]
  constructor
  · rintro ⟨y, ⟨h1, h2⟩, rfl⟩
    exact ⟨rfl, h1, by simpa using h2⟩
  · rintro ⟨h1, h2, h3⟩
    obtain ⟨b, y⟩ := x
    simp only at h1 h2 h3
    subst h1
    exact ⟨y, ⟨h2, by simpa using h3⟩, rfl⟩
theorem mem_edge {n : Nat} {y : Int × Int} : y ∈ edgeF wdF n ↔ y ∈ planF n ∧ edB n y = true := by rw [edF_eq, List.mem_filter]
theorem haveE_iff : haveE s = true ↔ ∀ y ∈ edgeF wdF s.size, (s.tiles y).isSome = true := by unfold haveE; exact List.all_eq_true
theorem next_full {y : Int × Int} (h : nextF s = some (false, y)) (he : edB s.size y = false) : haveE s = true := by
  unfold nextF wantsF at h
  rw [List.append_assoc] at h
  have h1 := find_left h (fun hm => by have := (mem_pickT.1 hm).2.2; rw [he] at this; cases this)
  rw [haveE_iff]
  intro z hz
  have h2 := List.find?_eq_none.1 h1 (false, z) (mem_pickT.2 ⟨rfl, (mem_edge.1 hz).1, (mem_edge.1 hz).2⟩)
  unfold hasF at h2
  cases hq : s.tiles z with
  | none => rw [hq] at h2; exact absurd rfl h2
  | some q => rfl
theorem next_bund {y : Int × Int} (h : nextF s = some (true, y)) : ∀ z ∈ planF s.size, (s.tiles z).isSome = true := by
  unfold nextF wantsF at h
  have h1 := find_left h (fun hm => by
    rcases List.mem_append.1 hm with h | h <;> exact absurd (mem_pickT.1 h).1 (by simp))
  intro z hz
  have h2 := List.find?_eq_none.1 h1 (false, z) (List.mem_append.2 (by
    cases he : edB s.size z with
    | true => exact .inl (mem_pickT.2 ⟨rfl, hz, he⟩)
    | false => exact .inr (mem_pickT.2 ⟨rfl, hz, he⟩)))
  unfold hasF at h2
  cases hq : s.tiles z with
  | none => rw [hq] at h2; exact absurd rfl h2
  | some q => rfl
theorem next_plan (h : nextF s = some x) : x.2 ∈ planF s.size ∧ (x.1 = true → x.2.1 = 0) := by
  have hm := next_mem h
  unfold wantsF at hm
  rcases List.mem_append.1 hm with hm | hm
  · rcases List.mem_append.1 hm with hm | hm
    · exact ⟨(mem_pickT.1 hm).2.1, fun e => by rw [(mem_pickT.1 hm).1] at e; cases e⟩
    · exact ⟨(mem_pickT.1 hm).2.1, fun e => by rw [(mem_pickT.1 hm).1] at e; cases e⟩
  · exact ⟨(mem_pickB.1 hm).2.1, fun _ => (mem_pickB.1 hm).2.2⟩
theorem drops_tiles (l : List (Int × Int)) : ∀ (s : FS) (z : Int × Int), (l.foldl dropT s).tiles z = if z ∈ l then none else s.tiles z := by
  induction l with
  | nil => intro s z; simp
  | cons y l ih =>
    intro s z
    rw [List.foldl_cons, ih]
    by_cases h1 : z ∈ l
    · rw [if_pos h1, if_pos (by simp [h1])]
    · rw [if_neg h1]
      by_cases h2 : z = y
      · subst h2
        rw [if_pos (by simp)]
        exact upd_self _ _ _
      · rw [if_neg (by simp [h1, h2])]
        exact upd_ne _ _ h2
theorem drops_bund (l : List (Int × Int)) : ∀ s : FS, (l.foldl dropT s).bund = s.bund := by
  induction l with
  | nil => intro s; rfl
  | cons y l ih => intro s; rw [List.foldl_cons, ih]; rfl
theorem drops_root (l : List (Int × Int)) : ∀ s : FS, (l.foldl dropT s).root = s.root := by
  induction l with
  | nil => intro s; rfl
  | cons y l ih => intro s; rw [List.foldl_cons, ih]; rfl
theorem putT_self (s : FS) (y : Int × Int) (l : List ByteArray) : (putT s y l).tiles y = some l := upd_self _ _ _
theorem putT_ne (s : FS) {y z : Int × Int} (l : List ByteArray) (h : z ≠ y) : (putT s y l).tiles z = s.tiles z := upd_ne _ _ h
theorem tileOf_ne (s : FS) {y z : Int × Int} (l : List ByteArray) (h : z ≠ y) : tileOf (putT s y l) z = tileOf s z := by unfold tileOf; rw [putT_ne s l h]
theorem tw_edB {n k i : Nat} (hn : n ≤ 64) (hk : k < 4) (h : tw n k i = 4) : edB n ((k : Int), (i : Int)) = false := by
  unfold edB
  have := tw_in n k i hn hk
  simp only
  rw [this, h]
  rfl
theorem mt_snd (n : Nat) (r : ByteArray) (hn : n ≤ 64) (h0 : 0 < n) : Snd (mt n r) := by
  refine ⟨hn, ⟨fun x l h => (by cases h), fun k l h => (by cases h)⟩, fun h => ?_, fun k i _ _ h => (by cases h), fun i l h => (by cases h)⟩
  exfalso
  have h1 : ∀ m : Nat, m < 65 → (edgeF wdF m = [] → m = 0) := by decide +kernel
  rw [haveE_iff] at h
  cases he : edgeF wdF (mt n r).size with
  | nil => exact absurd (h1 n (by omega) he) (by omega)
  | cons y l =>
    have := h y (by rw [he]; simp)
    cases this
theorem Snd.take (h : Snd s) (hx : nextF s = some x) (l : List ByteArray) : Snd (takeS s x l).1 := by
  have hnot := next_not hx
  have hpl := next_plan hx
  unfold takeS
  by_cases h1 : (l.length : Int) ≠ wdF s.size x.2.1 x.2.2
  · rw [if_pos h1]; exact h
  rw [if_neg h1]
  have hlw : (l.length : Int) = wdF s.size x.2.1 x.2.2 := Decidable.byContradiction h1
  by_cases h2 : x.1 = false ∧ all32 l = false
  · rw [if_pos h2]; exact h
  rw [if_neg h2]
  obtain ⟨b, y⟩ := x
  cases b with
  | true =>
    rw [if_pos rfl]
    show Snd (if okB s y l then putB s y.2 l else s)
    have hy0 : y = (0, y.2) := Prod.ext (hpl.2 rfl) rfl
    cases hok : okB s y l with
    | false => exact h
    | true =>
      show Snd (putB s y.2 l)
      have hall := next_bund hx
      refine ⟨h.sz, ⟨h.inv.tl, fun k l' hk => ?_⟩, h.edge, h.full, fun i l' hi => ?_⟩
      · by_cases e : k = y.2
        · subst e
          have : (putB s y.2 l).bund y.2 = some l := upd_self _ _ _
          rw [this] at hk
          cases hk
          rw [hy0] at hlw
          exact hlw
        · have : (putB s y.2 l).bund k = s.bund k := upd_ne _ _ e
          rw [this] at hk
          exact h.inv.bn k l' hk
      · by_cases e : (i : Int) = y.2
        · have : (putB s y.2 l).bund i = some l := by rw [e]; exact upd_self _ _ _
          rw [this] at hi
          cases hi
          refine ⟨hall, ?_⟩
          rw [e]
          rw [hy0] at hok
          exact hok
        · have : (putB s y.2 l).bund i = s.bund i := upd_ne _ _ e
          rw [this] at hi
          exact h.bund i l' hi
  | false =>
    rw [if_neg (by simp)]
    have hnone : s.tiles y = none := by
      unfold hasF at hnot
      cases hq : s.tiles y with
      | none => rfl
      | some l' => simp [hq] at hnot
    have h32 : A32 l := all32_A l (by
      cases hq : all32 l with
      | true => rfl
      | false => exact absurd ⟨rfl, hq⟩ h2)
    have hinv := inv_put (x := y) h.inv hlw h32
    have hnb : ∀ (i : Nat) (l' : List ByteArray), s.bund (i : Int) = some l' → False := fun i l' hi => by
      have := (h.bund i l' hi).1 y hpl.1
      rw [hnone] at this
      cases this
    cases he : edB s.size y with
    | true =>
      show Snd (if true = true then (if okE (putT s y l) then putT s y l else dropE (putT s y l), _) else _).1
      rw [if_pos rfl]
      show Snd (if okE (putT s y l) then putT s y l else dropE (putT s y l))
      have hnf : ∀ k i : Nat, k < 4 → tw s.size k i = 4 → (s.tiles ((k : Int), (i : Int))).isSome = true → False := fun k i hk ht hs => by
        have h3 := (h.full k i hk ht hs).1
        rw [haveE_iff] at h3
        have := h3 y (mem_edge.2 ⟨hpl.1, he⟩)
        rw [hnone] at this
        cases this
      have hne : ∀ k i : Nat, k < 4 → tw s.size k i = 4 → ((k : Int), (i : Int)) ≠ y := fun k i hk ht e => by
        have := tw_edB h.sz hk ht
        rw [e, he] at this
        cases this
      cases hok : okE (putT s y l) with
      | true =>
        show Snd (putT s y l)
        refine ⟨h.sz, hinv, fun hh => ?_, fun k i hk ht hs => ?_, fun i l' hi => (hnb i l' hi).elim⟩
        · show rootE (putT s y l) = (putT s y l).root
          have hh : haveE (putT s y l) = true := hh
          unfold okE at hok
          rw [hh] at hok
          simpa using hok
        · have hs : ((putT s y l).tiles ((k : Int), (i : Int))).isSome = true := hs
          rw [putT_ne s l (hne k i hk ht)] at hs
          exact (hnf k i hk ht hs).elim
      | false =>
        show Snd (dropE (putT s y l))
        have hsz : (dropE (putT s y l)).size = s.size := drops_size _ _
        have htl : ∀ z, (dropE (putT s y l)).tiles z = if z ∈ edgeF wdF s.size then none else (putT s y l).tiles z := drops_tiles _ _
        have hbn : (dropE (putT s y l)).bund = s.bund := drops_bund _ _
        refine ⟨by show (dropE (putT s y l)).size ≤ 64; rw [hsz]; exact h.sz, ⟨fun z l' hz => ?_, fun k l' hk => ?_⟩, fun hh => ?_, fun k i hk ht hs => ?_, fun i l' hi => ?_⟩
        · have hz : (dropE (putT s y l)).tiles z = some l' := hz
          rw [htl] at hz
          split at hz
          · cases hz
          · have := hinv.tl z l' hz
            show (l'.length : Int) = wdF (dropE (putT s y l)).size z.1 z.2 ∧ A32 l'
            rw [hsz]
            exact this
        · have hk : (dropE (putT s y l)).bund k = some l' := hk
          rw [hbn] at hk
          show (l'.length : Int) = wdF (dropE (putT s y l)).size 0 k
          rw [hsz]
          exact h.inv.bn k l' hk
        · exfalso
          have hh : haveE (dropE (putT s y l)) = true := hh
          rw [haveE_iff, hsz] at hh
          have := hh y (mem_edge.2 ⟨hpl.1, he⟩)
          rw [htl, if_pos (mem_edge.2 ⟨hpl.1, he⟩)] at this
          cases this
        · have ht : tw (dropE (putT s y l)).size k i = 4 := ht
          rw [hsz] at ht
          have hs : ((dropE (putT s y l)).tiles ((k : Int), (i : Int))).isSome = true := hs
          rw [htl] at hs
          split at hs
          · cases hs
          · rw [putT_ne s l (hne k i hk ht)] at hs
            exact (hnf k i hk ht hs).elim
        · have hi : (dropE (putT s y l)).bund i = some l' := hi
          rw [hbn] at hi
          exact (hnb i l' hi).elim
    | false =>
      show Snd (if false = true then _ else (if okF s y.1.toNat y.2.toNat l then putT s y l else s, _)).1
      rw [if_neg (by simp)]
      show Snd (if okF s y.1.toNat y.2.toNat l then putT s y l else s)
      have hhe := next_full hx he
      cases hok : okF s y.1.toNat y.2.toNat l with
      | false => exact h
      | true =>
        show Snd (putT s y l)
        have hb := plan_b s.size (by have := h.sz; omega) y hpl.1
        obtain ⟨k0, i0, rfl⟩ : ∃ k0 i0 : Nat, y = ((k0 : Int), (i0 : Int)) := ⟨y.1.toNat, y.2.toNat, Prod.ext (by simp only; omega) (by simp only; omega)⟩
        simp only [Int.toNat_natCast] at hok
        have hez : ∀ z ∈ edgeF wdF s.size, z ≠ ((k0 : Int), (i0 : Int)) := fun z hz e => by
          have := (mem_edge.1 hz).2
          rw [e, he] at this
          cases this
        have hh1 : haveE (putT s ((k0 : Int), (i0 : Int)) l) = true := by
          rw [haveE_iff] at hhe ⊢
          intro z hz
          have hz : z ∈ edgeF wdF s.size := hz
          rw [putT_ne s l (hez z hz)]
          exact hhe z hz
        have hrt : rootE (putT s ((k0 : Int), (i0 : Int)) l) = rootE s := by
          unfold rootE
          show rootR (accF ((edgeF wdF s.size).map (tileOf (putT s ((k0 : Int), (i0 : Int)) l)))) = _
          rw [List.map_congr_left (fun z hz => tileOf_ne s l (hez z hz))]
        refine ⟨h.sz, hinv, fun _ => hrt.trans (h.edge hhe), fun k i hk ht hs => ⟨hh1, ?_⟩, fun i l' hi => (hnb i l' hi).elim⟩
        have hs : ((putT s ((k0 : Int), (i0 : Int)) l).tiles ((k : Int), (i : Int))).isSome = true := hs
        have ht : tw s.size k i = 4 := ht
        by_cases e : ((k : Int), (i : Int)) = ((k0 : Int), (i0 : Int))
        · obtain ⟨rfl, rfl⟩ : k = k0 ∧ i = i0 := by simp at e; omega
          have e1 : tileOf (putT s ((k : Int), (i : Int)) l) ((k : Int), (i : Int)) = l := by unfold tileOf; rw [putT_self]; rfl
          rw [e1]
          unfold okF at hok ⊢
          rw [tileOf_ne s l (fun q => by have := congrArg Prod.fst q; simp only at this; omega)]
          exact hok
        · rw [putT_ne s l e] at hs
          rw [tileOf_ne s l e]
          have h3 := (h.full k i hk ht hs).2
          unfold okF at h3 ⊢
          have hne : (((k : Int) + 1, ((i / 4 : Nat) : Int)) : Int × Int) ≠ ((k0 : Int), (i0 : Int)) := fun q => by
            rw [q] at h3
            have e2 : tileOf s ((k0 : Int), (i0 : Int)) = [] := by unfold tileOf; rw [hnone]; rfl
            rw [e2] at h3
            have := of_decide_eq_true h3
            simp at this
          rw [tileOf_ne s l hne]
          exact h3
theorem Snd.asked (h : Snd s) (a : Int) : Snd ⟨s.size, s.root, s.tiles, s.bund, a⟩ := ⟨h.sz, ⟨h.inv.tl, h.inv.bn⟩, h.edge, h.full, h.bund⟩
theorem Snd.taken (h : Snd s) (x : Want) (l : List ByteArray) : Snd (takenS s x l).1 := by
  unfold takenS
  split
  · rename_i hx
    have h1 := h.take hx l
    split
    · exact h1.asked _
    · exact h1
  · exact h
/-- who wants nothing has leaves whose root is the head's -/
theorem Snd.done (h : Snd s) (hn : nextF s = none) : (allK s (nb s.size)).length = s.size ∧ rootF (leavesF (allK s (nb s.size))) = s.root := by
  have hall := List.find?_eq_none.1 hn
  have hpt : ∀ z ∈ planF s.size, (s.tiles z).isSome = true := fun z hz => by
    have := hall (false, z) (by
      unfold wantsF
      refine List.mem_append.2 (.inl (List.mem_append.2 ?_))
      cases he : edB s.size z with
      | true => exact .inl (mem_pickT.2 ⟨rfl, hz, he⟩)
      | false => exact .inr (mem_pickT.2 ⟨rfl, hz, he⟩))
    unfold hasF at this
    cases hq : s.tiles z with
    | none => rw [hq] at this; exact absurd rfl this
    | some q => rfl
  have hpp : ∀ k i : Nat, k < 4 → 0 < tw s.size k i → ((k : Int), (i : Int)) ∈ planF s.size := fun k i hk hp => by
    have := quo_le s.size k h.sz
    exact (in_plan s.size (by have := h.sz; omega) k hk i (by unfold tw at hp; omega)).resolve_left (by rw [tw_in s.size k i h.sz hk]; omega)
  have hF : Full s := ⟨h.sz, h.inv, hpt, fun k i hk ht => (h.full k i hk ht (hpt _ (hpp k i hk (by omega)))).2, fun i hi => by
    have hm := hpp 0 i (by omega) (by unfold tw; rw [Nat.pow_zero, Nat.div_one]; omega)
    have := hall (true, (0, (i : Int))) (by
      unfold wantsF
      exact List.mem_append.2 (.inr (mem_pickB.2 ⟨rfl, hm, rfl⟩)))
    unfold hasF at this
    simp only [if_true] at this
    cases hq : s.bund (i : Int) with
    | none => rw [hq] at this; simp at this
    | some l => exact ⟨l, rfl, (h.bund i l hq).2⟩⟩
  have he : haveE s = true := haveE_iff.2 (fun y hy => hpt y (mem_edge.1 hy).1)
  exact ⟨hF.sound.1, hF.sound.2.trans (h.edge he)⟩
end Go.Proofs.Ytondnammkcgjpaa.Ft
namespace Go.Proofs.Ytondnammkcgjpaa.Ft
open Go Go.RowKit Go.Shelf Go.Proofs.YtondnammkcgjpaaW.PrintWords Go.Proofs.YtondnammkcgjpaaW.PrintLast Go.Proofs.YtondnammkcgjpaaW.PrintMore Go.Proofs.Ytondnammkcgjpaa.Mp
open Go.Proofs.Ytondnammkcgjpaa.ShaP Go.Proofs.Ytondnammkcgjpaa.Mk Go.Proofs.Ytondnammkcgjpaa.Rg Go.Proofs.Ytondnammkcgjpaa.RgP Go.Proofs.Ytondnammkcgjpaa.Rf Go.Proofs.Ytondnammkcgjpaa.RgL Go.Proofs.Ytondnammkcgjpaa.Til Go.Proofs.Ytondnammkcgjpaa.Fg Go.Proofs.Ytondnammkcgjpaa.Fun Go.Proofs.Ytondnammkcgjpaa.Rng
set_option linter.unusedVariables false
set_option linter.unusedSimpArgs false
theorem drops_asked (l : List (Int × Int)) : ∀ s : FS, (l.foldl dropT s).asked = s.asked := by
  induction l with
  | nil => intro s; rfl
  | cons y l ih => intro s; rw [List.foldl_cons, ih]; rfl
theorem takeS_keeps (s : FS) (x : Want) (l : List ByteArray) : (takeS s x l).1.size = s.size ∧ (takeS s x l).1.root = s.root ∧ (takeS s x l).1.asked = s.asked := by
  unfold takeS
  split
  · exact ⟨rfl, rfl, rfl⟩
  split
  · exact ⟨rfl, rfl, rfl⟩
  split
  · dsimp only
    split <;> exact ⟨rfl, rfl, rfl⟩
  split
  · dsimp only
    split
    · exact ⟨rfl, rfl, rfl⟩
    · exact ⟨drops_size _ _, drops_root _ _, drops_asked _ _⟩
  · dsimp only
    split <;> exact ⟨rfl, rfl, rfl⟩
/-- texts of leaves are small -/
def BSm (s : FS) : Prop := ∀ k l, s.bund k = some l → ∀ y ∈ l, y.size ≤ 60
theorem takeS_bsm (s : FS) (x : Want) (l : List ByteArray) (h : BSm s) (hl : ∀ y ∈ l, y.size ≤ 60) : BSm (takeS s x l).1 := by
  unfold takeS
  split
  · exact h
  split
  · exact h
  split
  · dsimp only
    split
    · intro k l' hk
      by_cases e : k = x.2.2
      · subst e
        have : (putB s x.2.2 l).bund x.2.2 = some l := upd_self _ _ _
        rw [this] at hk
        cases hk
        exact hl
      · have : (putB s x.2.2 l).bund k = s.bund k := upd_ne _ _ e
        rw [this] at hk
        exact h k l' hk
    · exact h
  split
  · dsimp only
    split
    · exact h
    · intro k l' hk
      have hbn : (dropE (putT s x.2 l)).bund = s.bund := drops_bund _ _
      rw [hbn] at hk
      exact h k l' hk
  · dsimp only
    split
    · exact h
    · exact h
theorem takenS_keeps (s : FS) (x : Want) (l : List ByteArray) : (takenS s x l).1.size = s.size ∧ (takenS s x l).1.root = s.root ∧ s.asked ≤ (takenS s x l).1.asked ∧ (takenS s x l).1.asked ≤ s.asked + 1 := by
  have h := takeS_keeps s x l
  unfold takenS
  split
  · split
    · refine ⟨h.1, h.2.1, ?_, ?_⟩
      · show s.asked ≤ (takeS s x l).1.asked + 1
        rw [h.2.2]; omega
      · show (takeS s x l).1.asked + 1 ≤ s.asked + 1
        rw [h.2.2]; omega
    · exact ⟨h.1, h.2.1, by rw [h.2.2]; omega, by rw [h.2.2]; omega⟩
  · exact ⟨rfl, rfl, Int.le_refl _, by show s.asked ≤ s.asked + 1; omega⟩
theorem takenS_bsm (s : FS) (x : Want) (l : List ByteArray) (h : BSm s) (hl : ∀ y ∈ l, y.size ≤ 60) : BSm (takenS s x l).1 := by
  have h1 := takeS_bsm s x l h hl
  unfold takenS
  split
  · split
    · exact h1
    · exact h1
  · exact h
theorem allK_small (s : FS) (h : BSm s) : ∀ k : Nat, ∀ y ∈ allK s k, y.size ≤ 60
  | 0, y, hy => by cases hy
  | k + 1, y, hy => by
    rw [allK_succ] at hy
    rcases List.mem_append.1 hy with hy | hy
    · exact allK_small s h k y hy
    · unfold bundOf at hy
      cases hq : s.bund (k : Int) with
      | none => rw [hq] at hy; cases hy
      | some l => rw [hq] at hy; exact h k l hq y hy
theorem few1060 (A : Option Addr) (c : Nat) (l : List ByteArray) (w : World) (hr : Kd.C Kd.string w A l.length l) :
    Calls Try.prog 15 #[.slice A l.length c, .int .i64 10, .int .i64 60] w fun e w' => e = .returned (.bool (fewB l 10 60)) ∧ w = w' := few_c A c l 10 60 w (by omega) (by omega) hr
/-- a row of rows of texts -/
abbrev KL : Kd (List ByteArray) := Kd.slice 9 Kd.string
theorem row_at {W : World} {A : Option Addr} {L : List (List ByteArray)} (h : KL.C W A L.length L) (k : Nat) (hk : k < L.length) :
    ∃ ad Ai ci l, A = some ad ∧ l = L[k] ∧ l.length ≤ ci ∧ Kd.C Kd.string W Ai l.length l ∧ W.cell? (ad.add k) = some (.slice Ai l.length ci) := by
  obtain ⟨ad, cs, e, hl, ⟨Ai, ci, rfl, hc, hC⟩, hx⟩ := Kd.C_get h [] (k : Int) (by omega) (by omega)
  have e2 : L.getD (k : Int).toNat [] = L[k] := by simp [hk]
  rw [e2] at hC hc hx
  have := hx 0 _ rfl
  refine ⟨ad, Ai, ci, _, e, rfl, hc, hC, ?_⟩
  have e3 : (k : Int).toNat * KL.sz + 0 = k := by show (k : Int).toNat * 1 + 0 = k; omega
  rw [e3] at this
  exact this
set_option maxRecDepth 100000 in
set_option maxHeartbeats 8000000 in
theorem only_off (A : Option Addr) (c : Nat) (L : List (List ByteArray)) (size : Int) (root : ByteArray) (w : World) (h : 200 < L.length ∨ root.size ≠ 32) :
    Calls Try.prog 11 #[.int .u8 size, .string root, .slice A L.length c] w fun e w' => e = .returned (.bool true) ∧ Below w.heap.size w w' := by
  have OW := Aside0.mk (Mem.Own.nil w)
  have HAW := Aside0.mk awake21_c
  rcases Nat.lt_or_ge 200 L.length with h1 | h1
  · have h1i : (200 : Int) < (L.length : Int) := by omega
    clear h
    go_enter Try.func11, Try.ntmps11
    go_wp2_with (first
      | (go_at_call 31; (with_reducible refine (HAW.out _).mono ?_); rintro e w_ ⟨rfl, hB⟩; have n_ := Aside0.mk (OW.out.step hB); clear OW hB; have OW := n_; clear n_))
    go_ret
    exact ⟨rfl, OW.out.below⟩
  · have h2 := h.resolve_left (by omega)
    have h3b : ((root.size : Int) != 32) = true := by rw [bne_iff_ne]; omega
    have h3d : (root.size : Int) ≠ 32 := by omega
    have h1i : ¬ (200 : Int) < (L.length : Int) := by omega
    clear h
    go_enter Try.func11, Try.ntmps11
    go_wp2_with (first
      | (go_at_call 31; (with_reducible refine (HAW.out _).mono ?_); rintro e w_ ⟨rfl, hB⟩; have n_ := Aside0.mk (OW.out.step hB); clear OW hB; have OW := n_; clear n_))
    go_ret
    exact ⟨rfl, OW.out.below⟩
set_option maxRecDepth 100000 in
set_option maxHeartbeats 8000000 in
theorem only_main (A : Option Addr) (c : Nat) (L : List (List ByteArray)) (size : Int) (root : ByteArray) (w : World) (hr : KL.C w A L.length L) (hs0 : 0 ≤ size) (hs1 : size < 256) (hL : L.length ≤ 200) (hR : root.size = 32) :
    Calls Try.prog 11 #[.int .u8 size, .string root, .slice A L.length c] w fun e w' => e = .returned (.bool true) ∧ Below w.heap.size w w' := by
  have OW := Aside0.mk (Mem.Own.nil w)
  have HAW := Aside0.mk awake21_c
  have HR := Aside0.mk hr
  obtain ⟨n, hn⟩ : ∃ n : Nat, 1 + size % 64 = (n : Int) := ⟨(1 + size % 64).toNat, by omega⟩
  have hn1 : 1 ≤ n := by omega
  have hn2 : n ≤ 64 := by omega
  have HN := Aside0.mk (fun W => new_good n root W hn2 hR (fun e => absurd e (by omega)))
  have h1i : ¬ (200 : Int) < (L.length : Int) := by omega
  have h3b : ((root.size : Int) != 32) = false := by rw [bne_eq_false_iff_eq]; omega
  have HS := Aside0.mk (show Snd (mt n root) from mt_snd n root hn2 hn1)
  have HL := Aside0.mk hL
  have HN2 := Aside0.mk (And.intro hn1 hn2)
  have HRT := Aside0.mk hR
  clear hr hL hR hn1 hn2
  go_enter Try.func11, Try.ntmps11
  go_wp2_with (first
    | (go_at_call 31; (with_reducible refine (HAW.out _).mono ?_); rintro e w_ ⟨rfl, hB⟩; have n_ := Aside0.mk (OW.out.step hB); clear OW hB; have OW := n_; clear n_)
    | (go_at_call 16; (with_reducible refine (make_c _).mono ?_); rintro e wz ⟨rfl, hB⟩; have n_ := Aside0.mk (OW.out.step hB); clear OW hB; have OW := n_; clear n_)
    | (go_at_call 37; (with_reducible refine (HN.out _).mono ?_); rintro e wn ⟨g, gt, gb, rfl, hI, hB⟩; have HK := Aside0.mk (show ∃ base, IsF base wn g gt gb (mt n root) ∧ w.heap.size ≤ base ∧ base ≤ wn.heap.size from ⟨_, hI, OW.out.size, hB.size⟩); have n_ := Aside0.mk (OW.out.step hB); clear OW hB hI; have OW := n_; clear n_))
  obtain ⟨base, hI9, hbw, hbn⟩ := HK.out
  have HI9 := Aside0.mk hI9
  have HBN := Aside0.mk hbn
  have HBW := Aside0.mk hbw
  clear hI9 hbw hbn HK HN
  go_loopw [10] (fun v10 wr => ∃ (k : Nat) (s : FS), v10 = .int .i64 k ∧ k ≤ L.length ∧ Aside0 (IsF base wr g gt gb s) ∧ Aside0 (Snd s) ∧ Aside0 (BSm s) ∧ Aside0 (s.size = n ∧ s.root = root ∧ 0 ≤ s.asked ∧ s.asked ≤ k) ∧ Aside0 (Mem.Own w wr []) ∧ Aside0 (base ≤ wr.heap.size)) (fun v10 _ => L.length - (intOf v10).toNat)
  case atStart => exact ⟨0, mt n root, rfl, Nat.zero_le _, HI9, HS, ⟨fun k l h => by cases h⟩, ⟨rfl, rfl, Int.le_refl 0, Int.le_refl 0⟩, OW, HBN⟩
  case round =>
    clear OW HI9 HBN HS
    obtain ⟨k, s, rfl, hk, HI, HS, HBS, HE, OW, HBN⟩ := hrel
    by_cases hkl : k < L.length
    · have hki : (k : Int) < (L.length : Int) := by omega
      obtain ⟨ad, Ai, ci, l, hA, hl, hci, hC, hx⟩ := row_at (Kd.C_below HR.out OW.out.below) k hkl
      subst hA
      clear hl
      have HC := Aside0.mk hC
      have HCI := Aside0.mk hci
      clear hC hci
      have HF := Aside0.mk (fun W h => few1060 Ai ci l W h)
      by_cases hb : fewB l 10 60 = true
      · have HFY := Aside0.mk (few_yes hb (by omega))
        rw [hb] at HF
        clear hb
        go_wp2_with (first
          | (go_at_call 15; (with_reducible refine (HF.out _ HC.out).mono ?_); rintro e w_ ⟨rfl, rfl⟩))
        refine (next_c _ HI.out).mono ?_
        rintro e wx ⟨y, ok, rfl, hcs, hB⟩
        obtain ⟨yb, yl, yi⟩ := y
        rcases hcs with ⟨hy, rfl⟩ | ⟨hy, _, rfl⟩
        · have hal := below_alloc hB (.cells #[.bool yb, .int .i64 yl, .int .i64 yi] 58)
          have hnb := blk_new wx (.cells #[.bool yb, .int .i64 yl, .int .i64 yi] 58)
          have HI8 := Aside0.mk (HI.out.below hal)
          have OW8 := Aside0.mk (OW.out.step hal)
          have HC8 := Aside0.mk (Kd.C_below HC.out hal)
          have HX8 := Aside0.mk (pw_cell_below hal hx)
          have HBN8 := Aside0.mk (Nat.le_trans HBN.out hal.size)
          have HTK := Aside0.mk (fun W (h : IsF base W g gt gb s) (hb : base ≤ W.heap.size) (hr : Kd.C Kd.string W Ai l.length l) => Take_yes (yb, yl, yi) Ai ci l h HS.out.inv hy hb (by have := HFY.out.1; unfold maxLen; omega) (fun z hz => by have := HFY.out.2 z hz; omega) HCI.out hr (by rw [(takeS_keeps s (yb, yl, yi) l).2.2]; exact HE.out.2.2.1) (by rw [(takeS_keeps s (yb, yl, yi) l).2.2]; have := HE.out.2.2.2; have := HL.out; omega))
          have HS2 := Aside0.mk (HS.out.taken (yb, yl, yi) l)
          have HBS2 := Aside0.mk (takenS_bsm s (yb, yl, yi) l HBS.out HFY.out.2)
          have hkp := takenS_keeps s (yb, yl, yi) l
          have HE2 := Aside0.mk (show (takenS s (yb, yl, yi) l).1.size = n ∧ (takenS s (yb, yl, yi) l).1.root = root ∧ 0 ≤ (takenS s (yb, yl, yi) l).1.asked ∧ (takenS s (yb, yl, yi) l).1.asked ≤ ((k + 1 : Nat) : Int) from ⟨hkp.1.trans HE.out.1, hkp.2.1.trans HE.out.2.1, Int.le_trans HE.out.2.2.1 hkp.2.2.1, by have := HE.out.2.2.2; omega⟩)
          clear hkp HBS HE HFY HF hx hy HS HC
          simp only [wcs]
          go_wp2_with fail
          obtain ⟨gx, hgx⟩ : ∃ gx, wx.heap.size = gx := ⟨_, rfl⟩
          rw [hgx] at hnb ⊢
          clear hgx hB hal
          obtain ⟨wy, hwy⟩ : ∃ wy, wx.alloc (.cells #[.bool yb, .int .i64 yl, .int .i64 yi] 58) = wy := ⟨_, rfl⟩
          rw [hwy] at hnb HI8 OW8 HC8 HX8 HBN8 ⊢
          clear hwy
          have j0 : wy.drew.cell? ⟨gx, 0, none⟩ = some (.bool yb) := (blk_cell hnb 0).trans rfl
          have j1 : wy.drew.cell? ⟨gx, 1, none⟩ = some (.int .i64 yl) := (blk_cell hnb 1).trans rfl
          have j2 : wy.drew.cell? ⟨gx, 2, none⟩ = some (.int .i64 yi) := (blk_cell hnb 2).trans rfl
          have x0 : wy.drew.cell? (ad.add k) = some (.slice Ai l.length ci) := HX8.out
          have HI9 := Aside0.mk HI8.out.drew
          have OW9 := Aside0.mk OW8.out.drew
          have HC9 : Aside0 (Kd.C Kd.string wy.drew Ai l.length l) := ⟨HC8.out⟩
          have HBN9 : Aside0 (base ≤ wy.drew.heap.size) := ⟨HBN8.out⟩
          clear hnb HX8 HI8 OW8 HC8 HBN8 OW HI HBN
          refine start_ (n := 7) (S := fun w' => Below (wy).drew.heap.size (wy).drew w') (ds := [6]) #[false, false, false, false, false, false, false] (by kernel_rfl) rfl rfl (Below.refl _ _) (fun hHeld => ?_)
          generalize (wy).drew = W1 at *
          refine pure_ (i := 0) (N := (some 59)) (v := ?_) (a' := ?_) #[true, false, false, false, false, false, false] rfl rfl (by kernel_rfl) (fun _ _ _ h => h) (Or.inl ⟨by rfl, ?_⟩) ?_ ?_
          rotate_left
          · intro w'
            go_simp
            first | done | with_reducible rfl
          rotate_left
          · simp only [Act.put, List.setIfInBounds_toArray, List.set_cons_zero, List.set_cons_succ, i64_w, i32_w]
            rfl
          refine take_ (i := 1) (N := (some 60)) (v := ?_) (a' := ?_) #[true, true, false, false, false, false, false] rfl rfl (by kernel_rfl) (fun _ _ _ h => h) (Or.inl ⟨by rfl, ?_⟩) hHeld ?_ ?_
          rotate_left
          · intro w' hS
            have s0 := pw_cell_below hS j0
            have s1 := pw_cell_below hS j1
            have s2 := pw_cell_below hS j2
            go_simp
            first | done | with_reducible rfl
          rotate_left
          · simp only [Act.put, List.setIfInBounds_toArray, List.set_cons_zero, List.set_cons_succ, i64_w, i32_w]
            rfl
          refine pure_ (i := 2) (N := (some 61)) (v := ?_) (a' := ?_) #[true, true, true, false, false, false, false] rfl rfl (by kernel_rfl) (fun _ _ _ h => h) (Or.inl ⟨by rfl, ?_⟩) ?_ ?_
          rotate_left
          · intro w'
            go_simp
            first | done | with_reducible rfl
          rotate_left
          · simp only [Act.put, List.setIfInBounds_toArray, List.set_cons_zero, List.set_cons_succ, i64_w, i32_w]
            rfl
          refine pure_ (i := 3) (N := (some 62)) (v := ?_) (a' := ?_) #[true, true, true, true, false, false, false] rfl rfl (by kernel_rfl) (fun _ _ _ h => h) (Or.inl ⟨by rfl, ?_⟩) ?_ ?_
          rotate_left
          · intro w'
            go_simp
            first | done | with_reducible rfl
          rotate_left
          · simp only [Act.put, List.setIfInBounds_toArray, List.set_cons_zero, List.set_cons_succ, i64_w, i32_w]
            rfl
          refine pure_ (i := 4) (N := (some 63)) (v := ?_) (a' := ?_) #[true, true, true, true, true, false, false] rfl rfl (by kernel_rfl) (fun _ _ _ h => h) (Or.inl ⟨by rfl, ?_⟩) ?_ ?_
          rotate_left
          · intro w'
            go_simp
            first | done | with_reducible rfl
          rotate_left
          · simp only [Act.put, List.setIfInBounds_toArray, List.set_cons_zero, List.set_cons_succ, i64_w, i32_w]
            rfl
          refine take_ (i := 5) (N := (some 64)) (v := ?_) (a' := ?_) #[true, true, true, true, true, true, false] rfl rfl (by kernel_rfl) (fun _ _ _ h => h) (Or.inl ⟨by rfl, ?_⟩) hHeld ?_ ?_
          rotate_left
          · intro w' hS
            have s0 := pw_cell_below hS x0
            go_simp
            first | done | with_reducible rfl
          rotate_left
          · simp only [Act.put, List.setIfInBounds_toArray, List.set_cons_zero, List.set_cons_succ, i64_w, i32_w]
            rfl
          refine last_ (i := 6) (N := (some 65)) #[true, true, true, true, true, true, true] rfl rfl (by kernel_rfl) (by decide) (fun K hK => ?_)
          refine goes_ Try.func40 (by kernel_rfl) rfl #[.pointer (some ⟨g, 0, none⟩), .agg #[.bool yb, .int .i64 yl, .int .i64 yi], .slice Ai l.length ci] (by rfl) rfl rfl (by (try simp only [List.map_toArray, List.map_cons, List.map_nil]); first | done | rfl) ?_
          (with_reducible refine (HTK.out _ (HI9.out.below hHeld) (Nat.le_trans HBN9.out hHeld.size) (Kd.C_below HC9.out hHeld)).mono ?_)
          rintro e wb ⟨rfl, hI, hT⟩
          have HI7 := Aside0.mk hI
          have OW7 : Aside0 (Mem.Own w wb []) := ⟨(OW9.out.step hHeld).below.trans (hT.to_below (fun q hq => Nat.le_trans HBW.out ((HI9.out.below hHeld).foot_ge q hq)) (OW9.out.step hHeld).size), fun q b hq => absurd hq (by simp), fun i j a b hi => absurd hi (by simp)⟩
          have HB7 := Aside0.mk (Nat.le_trans (Nat.le_trans HBN9.out hHeld.size) hT.size)
          clear hI hT hHeld
          refine ⟨_, rfl, ?_⟩
          refine hK.out _ _ ?_
          clear hK K
          refine norm_ (a' := ?_) ?_ ?_
          rotate_left
          · show Act.put _ (some 65) _ = _
            simp only [Act.put, List.setIfInBounds_toArray, List.set_cons_zero, List.set_cons_succ, i64_w, i32_w]
            rfl
          refine done_ (by kernel_rfl) ?_
          clear j0 j1 j2 x0 HI9 OW9 HC9 HBN9 HTK
          go_wp2_with fail
          go_roundw
          case rel => exact ⟨k + 1, (takenS s (yb, yl, yi) l).1, by go_num, hkl, HI7, HS2, HBS2, HE2, OW7, HB7⟩
          case measure => simp [intOf]; omega
        · have hal := below_alloc hB (.cells (wcs (yb, yl, yi)) 58)
          have HI8 := Aside0.mk (HI.out.below hal)
          have OW8 := Aside0.mk (OW.out.step hal)
          have HBN8 := Aside0.mk (Nat.le_trans HBN.out hal.size)
          have HE2 := Aside0.mk (show s.size = n ∧ s.root = root ∧ 0 ≤ s.asked ∧ s.asked ≤ ((k + 1 : Nat) : Int) from ⟨HE.out.1, HE.out.2.1, HE.out.2.2.1, by have := HE.out.2.2.2; omega⟩)
          clear hal hB hy HE HF hx
          simp only [wcs] at *
          go_wp2_with fail
          go_roundw
          case rel => exact ⟨k + 1, s, by go_num, hkl, HI8, HS, HBS, HE2, OW8, HBN8⟩
          case measure => simp [intOf]; omega
      · have hb2 : fewB l 10 60 = false := by simpa using hb
        rw [hb2] at HF
        clear hb hb2
        go_wp2_with (first
          | (go_at_call 15; (with_reducible refine (HF.out _ HC.out).mono ?_); rintro e w_ ⟨rfl, rfl⟩))
        go_ret
        exact ⟨rfl, OW.out.below⟩
    · have hki : ¬ (k : Int) < (L.length : Int) := by omega
      clear hkl
      go_wp2_with fail
      by_cases hnx : nextF s = none
      · have HY := Aside0.mk (leaves_yes HI.out hnx)
        obtain ⟨d1, d2⟩ := HS.out.done hnx
        have hsm := allK_small s HBS.out (nb s.size)
        replace d1 := d1.trans HE.out.1
        replace d2 := d2.trans HE.out.2.1
        generalize allK s (nb s.size) = X at *
        have HXL := Aside0.mk d1
        have HD2 := Aside0.mk d2
        have HSM := Aside0.mk hsm
        have HQ := Aside0.mk (show rootN 100000 (leavesF X) = root from d2)
        clear d1 d2 hsm hnx HI HBS HS HE
        refine HY.out.mono ?_
        rintro e wx ⟨A2, c2, rfl, hS, hB⟩
        have hC := (Kd.R_reads' hS).2.2
        have HLV := Aside0.mk (fun W (h : Kd.C Kd.string W A2 X.length X) => leaves_c A2 c2 X W (by have := HXL.out; have := HN2.out.2; omega) (fun z hz => by have := HSM.out z hz; omega) h)
        rw [HXL.out] at HLV hC ⊢
        have HC := Aside0.mk hC
        have OW2 := Aside0.mk (OW.out.step hB)
        clear hB hS hC HY OW
        go_wp2_with (first
          | (go_at_call 17; (with_reducible refine (HLV.out _ HC.out).mono ?_); rintro e wz ⟨v4, rfl, hr4, hB⟩; obtain ⟨A8, c8, rfl, h8, hC8⟩ := Kd.R_reads hr4; have C8 := Aside0.mk hC8; have H8 := Aside0.mk h8; have n_ := Aside0.mk (OW2.out.step hB); clear OW2 hB hr4 h8 hC8; have OW2 := n_; clear n_)
          | (go_at_call 36; go_loud ((with_reducible refine (rfroot_c 100000 A8 c8 (leavesF X) _ (by have := HXL.out; have := HN2.out.2; unfold leavesF; rw [List.length_map]; omega) (by have := HXL.out; have := HN2.out.2; unfold leavesF; rw [List.length_map]; omega) (leaves_sm X) H8.out C8.out).mono ?_); rintro e wz ⟨rfl, hB⟩; rw [HQ.out]; have n_ := Aside0.mk (OW2.out.step hB); clear OW2 hB; have OW2 := n_; clear n_)))
        go_ret
        exact ⟨rfl, OW2.out.below⟩
      · refine (leaves_no HI.out hnx).mono ?_
        rintro e wx ⟨rfl, hB⟩
        have OW2 := Aside0.mk (OW.out.step hB)
        clear hB hnx
        go_wp2_with fail
        go_ret
        exact ⟨rfl, OW2.out.below⟩
theorem law_only (A : Option Addr) (c : Nat) (L : List (List ByteArray)) (size : Int) (root : ByteArray) (w : World) (hs : (Lit.int .u8 size).wf = true) (hr : KL.C w A L.length L) :
    Calls Try.prog 11 #[.int .u8 size, .string root, .slice A L.length c] w fun e w' => e = .returned (.bool true) ∧ Below w.heap.size w w' := by
  have h1 : 0 ≤ size ∧ size < 256 := by
    simp [Lit.wf, IntKind.min, IntKind.max, IntKind.bits, IntKind.signed] at hs
    omega
  by_cases h2 : 200 < L.length ∨ root.size ≠ 32
  · exact only_off A c L size root w h2
  · exact only_main A c L size root w hr h1.1 h1.2 (by omega) (by omega)
end Go.Proofs.Ytondnammkcgjpaa.Ft
namespace Go.Proofs.YtondnammkcgjpaaOpens
open Go.ChangeShapes Go.WideShapes Go.Deep Go.Proofs.YtondnammkcgjpaaW.PrintWords

/-- whatever the reader reads at type e is of kind d, and Q holds of it -/
def Reads {α : Type} (d : Kd α) (P : Program) (e : TypeId) (Q : α → Prop) : Prop :=
  ∀ (H : Type) (enc : TypeId × Value → H) (w : World) (base : Nat) (spare : Nat → Bool) (held : Bool) (n : Nat) (cs : List Value) (x : DataW H × List MemPlace),
    DataW.trod enc P w base spare held n e cs = some x → ∃ a : α, d.K w a cs ∧ Q a

theorem reads_string {P : Program} {e : TypeId} (he : P.underlying e = some .string) : Reads Kd.string P e (fun s => s.size ≤ maxLen) := by
  intro H enc w base spare held n cs x h
  obtain ⟨m, rfl, _, hs⟩ := DataW.trod_string he h
  exact ⟨m, rfl, hs⟩
theorem collect {α : Type} (len : Nat) (R : Nat → α → Prop) (each : ∀ i, i < len → ∃ z, R i z) : ∃ xs : List α, xs.length = len ∧ ∀ i z, xs[i]? = some z → R i z := by
  induction len with
  | zero => exact ⟨[], rfl, fun i z hz => by cases hz⟩
  | succ len ih =>
    obtain ⟨xs, hxl, hxs⟩ := ih (fun i hil => each i (by omega))
    obtain ⟨z, hz⟩ := each len (by omega)
    refine ⟨xs ++ [z], by rw [List.length_append, hxl]; rfl, fun i y hy => ?_⟩
    by_cases hil : i < xs.length
    · rw [List.getElem?_append_left hil] at hy; exact hxs i y hy
    · rw [List.getElem?_append_right (by omega)] at hy
      obtain ⟨hj, rfl⟩ := List.getElem?_eq_some_iff.1 hy
      have : i = len := by simp at hj; omega
      subst this
      simpa using hz

/-- a slice -/
theorem slice_row {α : Type} {d : Kd α} {P : Program} {t e : TypeId} {Q : α → Prop} (ht : P.underlying t = some (.slice e)) (hs : P.cellsOf e = d.sz) (h : Reads d P e Q)
    (H : Type) (enc : TypeId × Value → H) (w : World) (base : Nat) (spare : Nat → Bool) (held : Bool) (n : Nat) (cs : List Value) (x : DataW H × List MemPlace)
    (hx : DataW.trod enc P w base spare held n t cs = some x) : ∃ (A : Option Addr) (c : Nat) (xs : List α), cs = [.slice A xs.length c] ∧ xs.length ≤ c ∧ c ≤ maxLen ∧ d.C w A xs.length xs ∧ ∀ a ∈ xs, Q a := by
  rcases open_slice ht hx with ⟨rfl, _⟩ | ⟨a, len, cap, m, n', D, Pl, rfl, hb, hl, hm, hmm, _, hi⟩
  · exact ⟨none, 0, [], rfl, Nat.le_refl _, by decide, ⟨rfl, Nat.zero_le _, fun h0 => absurd h0 (Nat.lt_irrefl 0)⟩, fun a ha => by cases ha⟩
  · have hlm : len ≤ m := by rw [hmm]; split <;> omega
    have each : ∀ i, i < len → ∃ z : α, Q z ∧ ∃ c : List Value, c.length = d.sz ∧ d.K w z c ∧ ∀ j u, c[j]? = some u → w.cell? (a.add (i * d.sz + j)) = some u := by
      intro i hil
      obtain ⟨cs', hc, hy⟩ := hi i (by omega)
      rw [hs] at hc
      obtain ⟨z, hz, hq⟩ := h H enc w base spare held n' cs' _ hy
      obtain ⟨_, hcl, hat⟩ := World.cells?_some hc
      refine ⟨z, hq, cs', d.K_len hz, hz, fun j u hu => ?_⟩
      obtain ⟨hj, hu2⟩ := List.getElem?_eq_some_iff.1 hu
      have := hat j (by omega)
      rw [← Go.Deep.add_add, this]
      exact hu
    have hex := collect len _ each
    obtain ⟨xs, rfl, hxs⟩ := hex
    refine ⟨some a, cap, xs, rfl, hl, hm, ⟨rfl, by have : xs.length ≤ maxLen := by omega
                                                   unfold maxLen at this; exact this, fun _ => ⟨a, rfl, fun j p hp => (hxs j p hp).2⟩⟩, fun z hz => ?_⟩
    obtain ⟨i, hi2, rfl⟩ := List.mem_iff_getElem.1 hz
    exact (hxs i _ (List.getElem?_eq_getElem hi2)).1
theorem reads_slice {α : Type} {d : Kd α} {P : Program} {t e : TypeId} {Q : α → Prop} (ht : P.underlying t = some (.slice e)) (hs : P.cellsOf e = d.sz) (h : Reads d P e Q) : Reads (Kd.slice e d) P t (fun xs => xs.length ≤ maxLen ∧ ∀ a ∈ xs, Q a) := by
  intro H enc w base spare held n cs x hx
  obtain ⟨A, c, xs, rfl, hl, hm, hC, hq⟩ := slice_row ht hs h H enc w base spare held n cs x hx
  exact ⟨xs, ⟨A, c, rfl, hl, hC⟩, by omega, hq⟩
/-- a slice as an argument -/
theorem arg_slice {α : Type} {d : Kd α} {P : Program} {t e : TypeId} {Q : α → Prop} (ht : P.underlying t = some (.slice e)) (hs : P.cellsOf e = d.sz) (h : Reads d P e Q)
    {H : Type} {enc : TypeId × Value → H} {w : World} {base : Nat} {spare : Nat → Bool} {held : Bool} {r : Reach} {b0 : Nat} {v : Value} {dd : DataW H} {p : List MemPlace} (hv : Value.okWide P w r b0 t v) (hx : DataW.Trod enc P w base spare held t v dd p) :
    ∃ (A : Option Addr) (c : Nat) (xs : List α), v = .slice A xs.length c ∧ xs.length ≤ c ∧ c ≤ maxLen ∧ d.C w A xs.length xs ∧ ∀ a ∈ xs, Q a := by
  obtain ⟨a, len, cap, rfl⟩ := okWide_slice ht hv
  obtain ⟨fuel, hf⟩ := hx
  obtain ⟨A, c, xs, hcs, hl, hm, hC, hq⟩ := slice_row ht hs h H enc w base spare held fuel _ _ hf
  simp only [Value.cells, List.cons.injEq, and_true] at hcs
  exact ⟨A, c, xs, hcs, hl, hm, hC, hq⟩

end Go.Proofs.YtondnammkcgjpaaOpens
namespace Go.Proofs.Ytondnammkcgjpaa.fetchOnly
open Go.ChangeShapes Go.WideShapes Go.ChangeAt Go.RowKit
open Go.ChangeMaps (open_string shut_string)
open Go.Proofs.Ytondnammkcgjpaa Go.Proofs.YtondnammkcgjpaaOpens Go.Proofs.YtondnammkcgjpaaW.PrintWords
set_option linter.unusedVariables false
theorem own : ownKnob Try.prog.godebug = none := by kernel_rfl
theorem laidOut : laidOutB Try.prog = true := by kernel_rfl
set_option maxRecDepth 100000 in
theorem lifted (os : Os) (started : os.Started) (H : Type) (enc : TypeId × Value → H) :
    ReturnsInHanded {} Try.checked os 11 .any (Rows.fetchOnlySpec.pre6 enc Try.prog Try.f11 Rows.fetchOnlyRow.domain false) (Rows.fetchOnlySpec.post enc Try.prog Try.f11 false true false false) := by
  refine returnsInHanded_of_change_sized (C := Try.checked) own started (by kernel_rfl) Try.func11
    (ChangeSpec.witness6 (enc := enc) (C := Try.checked) false ⟨#[], #[.int .u8 0, .string ⟨#[]⟩, .slice none 0 0], []⟩ 8 (by kernel_rfl) (by kernel_rfl) (by kernel_rfl) (by kernel_rfl)) ?_
  intro W base args ds gs before hval0 hW hcnd hsz0 _
  have hsz : (DataW.weightsEach Try.prog (Try.f11.params.toList ++ Rows.fetchOnlySpec.plain.varTypes Try.prog) (ds ++ gs)).all (· ≤ reachBytes) = true := hsz0
  have hval : ∀ (j : Nat) t v, Try.f11.params[j]? = some t → args[j]? = some v → Value.okWide Try.prog W .any base t v := hval0
  have hW' := hW
  obtain ⟨p, q, hA0, hV, rfl, hfz, hnd⟩ := hW
  have hA : DataW.TrodAll enc Try.prog W 0 (fun _ => true) true Try.f11.params.toList args.toList ds p := hA0
  rw [Try.params11] at hA hval hsz
  obtain ⟨v0, vs0, d0, ds0, p0, q0, hargs, rfl, rfl, h0, r0⟩ := trodAll_cons hA
  obtain ⟨v1, vs1, d1, ds1, p1, q1, rfl, rfl, rfl, h1, r1⟩ := trodAll_cons r0
  obtain ⟨v2, vs2, d2, ds2, p2, q2, rfl, rfl, rfl, h2, r2⟩ := trodAll_cons r1
  obtain ⟨rfl, rfl, rfl⟩ := trodAll_nil r2
  obtain rfl : args = #[v0, v1, v2] := by cases args; simp_all
  obtain ⟨rfl, rfl⟩ := trodVars_none hV
  obtain ⟨a0, rfl, rfl, rfl, w0⟩ := open_int Try.underlying5 (hval 0 5 v0 rfl rfl) h0
  obtain ⟨a1, rfl, rfl, rfl, y1⟩ := open_string Try.underlying9 (hval 1 9 v1 rfl rfl) h1
  have w1 : a1.size ≤ 140737488351232 := by
    have z := sized_string hsz (j := 1) (t := 9) rfl rfl
    rw [Array.length_toList] at z
    exact z
  have k2 := h2
  have lt2 : ∀ x ∈ p2, x.block < W.heap.size := by obtain ⟨m, hm⟩ := k2; exact DataW.trod_lt m _ _ _ hm
  obtain ⟨A2, c2, l2, rfl, hl2, hm2, hC2, hq2⟩ := arg_slice Try.underlying76 (by kernel_rfl) (reads_slice Try.underlying22 (by kernel_rfl) (reads_string Try.underlying9)) (hval 2 76 v2 rfl rfl) h2
  clear hA0 hval0 hsz0 hsz
  refine (Go.Proofs.Ytondnammkcgjpaa.Ft.law_only A2 c2 l2 a0 a1 W w0 hC2).mono fun e W' ⟨he, bel⟩ => ?_
  subst he
  exact ⟨_, rfl, _, _, _, [], _, [], hW', trodAll_mk1 (shut_bool Try.underlying4 _), (trodAll_cons_mk (shut_int Try.underlying5 w0) (trodAll_cons_mk (shut_string Try.underlying9 y1) (trodAll_cons_mk (Below.trod laidOut (by kernel_rfl) (of_decide_eq_true (by kernel_rfl)) k2 bel lt2) trodAll_mk0))), rfl, bel.frame _, fun h => by cases h⟩
theorem over : Rows.fetchOnlyRow.holds Try.pinned (OpenSpec.ofChange Rows.fetchOnlySpec) :=
  OpenClaim.holds_of_wide 11 Try.f11 rfl rfl rfl rfl rfl rfl rfl ⟨rfl, rfl, rfl, rfl, rfl⟩ rfl rfl rfl rfl rfl (by kernel_rfl) Try.func11 (by kernel_rfl)
    (of_decide_eq_true (by kernel_rfl)) (by unfold Func.isWrapper; first | (rw [if_pos (by decide +kernel)]; kernel_rfl) | (rw [if_neg (by decide +kernel)]; exact ⟨rfl, rfl⟩))
    (fun os started H enc _ => lifted os started H enc)
theorem proved : Rows.FetchOnlySaid := over
#print axioms proved
end Go.Proofs.Ytondnammkcgjpaa.fetchOnly
namespace Go.Proofs.Ytondnammkcgjpaa
/-- The row, under a short name, for the claim. -/
theorem fetchOnly_holds : Rows.FetchOnlySaid := fetchOnly.proved
end Go.Proofs.Ytondnammkcgjpaa
