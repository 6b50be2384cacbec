/- Here is proved: what (*decree.Decree).Do does, kind by kind. Conditions: one to five nodes, not too many letters. -/
import Derived.Test.YtnhnbobgfadhpaaMDecreeEnds4
import Derived.Deep.Slices
import Derived.ChangeSame
import Derived.OpenShut
import Derived.Test.YtnhnbobgfadhpaaWMore
import Derived.Test.YtnhnbobgfadhpaaWArr
import Derived.Test.YtnhnbobgfadhpaaRows
import Derived.WalkKit
import Derived.ProofKit
import Derived.ShutString
import Derived.ChangeOld
import Derived.Below
import Derived.SizedLaws
namespace Go.Proofs.Ytnhnbobgfadhpaa.Dec
open Go Go.RowKit Go.Shelf Go.Proofs.YtnhnbobgfadhpaaW.PrintWords Go.Proofs.YtnhnbobgfadhpaaW.PrintLast Go.Proofs.YtnhnbobgfadhpaaW.PrintMore Go.Proofs.Ytnhnbobgfadhpaa.Mp Go.Proofs.Ytnhnbobgfadhpaa.PDecreeStill
set_option linter.unusedVariables false
set_option linter.unusedSimpArgs false
variable {g : Nat} {L L' : Lay} {d : D} {W W1 w0 : World}
theorem wrap_succ (i m : Nat) (h : (i : Int) < (m : Int)) (hm : m ≤ 1000000) : wrap64 ((i : Int) + 1) = (i : Int) + 1 := by unfold wrap64; omega
theorem add0 (gl n : Nat) : (⟨gl, 0, none⟩ : Addr).add n = ⟨gl, n, none⟩ := by
  unfold Addr.add
  split
  · rename_i h; rw [h]
  · rw [Nat.zero_add]
/-- an element's cells -/
theorem kl_elem {w : World} {base i n c gl : Nat} {xs : List Lt} {x : Lt} (h : KL.R 49 w base (fun _ => True) (.slice (some ⟨gl, 0, none⟩) n c) xs) (hx : xs[i]? = some x) :
    w.cell? ⟨gl, i * 6, none⟩ = some (.int .i64 x.kd) ∧ w.cell? ⟨gl, i * 6 + 1, none⟩ = some (.int .i64 x.fr) ∧ w.cell? ⟨gl, i * 6 + 2, none⟩ = some (.int .i64 x.dst) ∧ w.cell? ⟨gl, i * 6 + 3, none⟩ = some (.int .i64 x.bal) ∧ w.cell? ⟨gl, i * 6 + 4, none⟩ = some (.int .i64 x.acc) ∧ w.cell? ⟨gl, i * 6 + 5, none⟩ = some (.string x.val) := by
  obtain ⟨A, c2, e, hl, hC⟩ := Kd.R_reads h
  injection e with e1 e2 e3
  subst e1
  have hlt := (List.getElem?_eq_some_iff.1 hx).1
  obtain ⟨ad2, e4, hc⟩ := hC.2.2 (by omega)
  cases e4
  obtain ⟨cs, _, hcs, hcell⟩ := hc i x hx
  subst hcs
  have hk : KL.sz = 6 := rfl
  rw [hk] at hcell
  have h0 := hcell 0 _ rfl
  have h1 := hcell 1 _ rfl
  have h2 := hcell 2 _ rfl
  have h3 := hcell 3 _ rfl
  have h4 := hcell 4 _ rfl
  have h5 := hcell 5 _ rfl
  rw [add0] at h0 h1 h2 h3 h4 h5
  exact ⟨h0, h1, h2, h3, h4, h5⟩
set_option maxRecDepth 100000 in
set_option maxHeartbeats 8000000 in
theorem do_begin (who sn : Int) (val : ByteArray) (w : World) (h : IsD w0.heap.size w g L d) (hB0 : Below w0.heap.size w0 w) (hwf : Wf d.sl.length d) (hn0 : 0 < d.sl.length) (hl : d.lt.length ≤ 1000000) (hlc : d.ch.length ≤ 1000000) :
    Calls Try.prog 9 #[.pointer (some ⟨g, 0, none⟩), .agg #[.int .i64 0, .int .i64 who, .int .i64 sn, .string val]] w fun e w' => e = .returned (.tuple #[]) ∧
      ∃ L', IsD w0.heap.size w' g L' (doD d ⟨0, who, sn, val⟩) ∧ Turn w w' (Foot L g) (Foot L' g) := by
  have OW := Aside0.mk (Mem.Own.nil w)
  have HD := Aside0.mk h
  have HB0 := Aside0.mk hB0
  have HW := Aside0.mk hwf
  have HL := Aside0.mk hl
  have HLC := Aside0.mk hlc
  have HFT := Aside0.mk (fun k hk => h.foot_lt k hk)
  obtain ⟨n, hn⟩ : ∃ n, d.sl.length = n := ⟨_, rfl⟩
  have hn5 : n ≤ 5 := by have := h.sm; omega
  have hn1 : 0 < n := by omega
  have hmod := modulo_md who n hn1 (by omega)
  obtain ⟨a, ha⟩ : ∃ a, md who n = a := ⟨_, rfl⟩
  have hab := md_in who n hn1
  rw [ha] at hmod hab
  have HA := Aside0.mk ha
  have HAB := Aside0.mk hab
  have HMO := Aside0.mk (fun W => decree_modulo.calls who n a W hmod)
  have HN1 := Aside0.mk hn1
  have HN5 := Aside0.mk hn5
  clear h hB0 hwf hl hlc hmod hab ha hn0 hn1 hn5
  go_enter Try.func9, Try.ntmps9
  go_wp2_with (first
    | ((with_reducible refine gate_dst (N := 3) rfl ?_); refine box_event ?hg (N := 3) ?hd (cs := #[.int .i64 0, .int .i64 who, .int .i64 sn, .string val]) (t := 28) ?hr ?_; (case hd => rfl); (case hg => rfl); (case hr => first | (go_simp; done) | (go_simp; rfl)); intro gS hg W_ hb hbb; have n2 := Aside0.mk (HD.out.below hbb); clear HD; have HD := n2; clear n2; have n_ : Aside0 (Mem.Own w W_ [(gS, #[.int .i64 0, .int .i64 who, .int .i64 sn, .string val], 28)]) := ⟨OW.out.new hg hb hbb⟩; clear OW hb hbb hg; have OW := n_; clear n_))
  have OD := Aside0.mk OW.out.drew
  have ID := Aside0.mk HD.out.drew
  have c0 : W_.drew.cell? ⟨g, 0, none⟩ = some (.slice (some ⟨L.gs, 0, none⟩) n n) := by rw [← hn]; exact (blk_cell ID.out.blk 0).trans rfl
  have e1 : W_.drew.cell? ⟨gS, 1, none⟩ = some (.int .i64 who) := (OD.out.cell 0 rfl 1).trans rfl
  clear OW HD
  refine start_ (n := 9) (S := fun w' => Below (W_).drew.heap.size (W_).drew w') (ds := []) #[false, false, false, false, false, false, false, false, false] (by kernel_rfl) rfl rfl (Below.refl _ _) (fun hHeld => ?_)
  generalize (W_).drew = W0 at *
  refine pure_ (i := 0) (N := (some 7)) (v := ?_) (a' := ?_) #[true, false, false, false, false, false, false, false, false] rfl rfl (by kernel_rfl) (fun _ _ _ h => h) (Or.inl ⟨by rfl, ?_⟩) ?_ ?_
  rotate_left
  · intro w'
    go_simp
    first | done | with_reducible rfl
  rotate_left
  · simp only [Act.put, List.setIfInBounds_toArray, List.set_cons_zero, List.set_cons_succ, i64_w, i32_w]
    rfl
  refine take_ (i := 1) (N := (some 8)) (v := ?_) (a' := ?_) #[true, true, false, false, false, false, false, false, false] rfl rfl (by kernel_rfl) (fun _ _ _ h => h) (Or.inl ⟨by rfl, ?_⟩) hHeld ?_ ?_
  rotate_left
  · intro w' hS
    have s0 := pw_cell_below hS e1
    go_simp
    first | done | with_reducible rfl
  rotate_left
  · simp only [Act.put, List.setIfInBounds_toArray, List.set_cons_zero, List.set_cons_succ, i64_w, i32_w]
    rfl
  refine pure_ (i := 2) (N := (some 9)) (v := ?_) (a' := ?_) #[true, true, true, false, false, false, false, false, false] rfl rfl (by kernel_rfl) (fun _ _ _ h => h) (Or.inl ⟨by rfl, ?_⟩) ?_ ?_
  rotate_left
  · intro w'
    go_simp
    first | done | with_reducible rfl
  rotate_left
  · simp only [Act.put, List.setIfInBounds_toArray, List.set_cons_zero, List.set_cons_succ, i64_w, i32_w]
    rfl
  refine pure_ (i := 3) (N := (some 10)) (v := ?_) (a' := ?_) #[true, true, true, true, false, false, false, false, false] rfl rfl (by kernel_rfl) (fun _ _ _ h => h) (Or.inl ⟨by rfl, ?_⟩) ?_ ?_
  rotate_left
  · intro w'
    skip
    go_simp
    first | done | with_reducible rfl
  rotate_left
  · simp only [Act.put, List.setIfInBounds_toArray, List.set_cons_zero, List.set_cons_succ, i64_w, i32_w]
    rfl
  refine pure_ (i := 4) (N := (some 11)) (v := ?_) (a' := ?_) #[true, true, true, true, true, false, false, false, false] rfl rfl (by kernel_rfl) (fun _ _ _ h => h) (Or.inl ⟨by rfl, ?_⟩) ?_ ?_
  rotate_left
  · intro w'
    go_simp
    first | done | with_reducible rfl
  rotate_left
  · simp only [Act.put, List.setIfInBounds_toArray, List.set_cons_zero, List.set_cons_succ, i64_w, i32_w]
    rfl
  refine take_ (i := 5) (N := (some 12)) (v := ?_) (a' := ?_) #[true, true, true, true, true, true, false, false, false] rfl rfl (by kernel_rfl) (fun _ _ _ h => h) (Or.inl ⟨by rfl, ?_⟩) hHeld ?_ ?_
  rotate_left
  · intro w' hS
    have s0 := pw_cell_below hS c0
    go_simp
    first | done | with_reducible rfl
  rotate_left
  · simp only [Act.put, List.setIfInBounds_toArray, List.set_cons_zero, List.set_cons_succ, i64_w, i32_w]
    rfl
  refine pure_ (i := 6) (N := (some 13)) (v := ?_) (a' := ?_) #[true, true, true, true, true, true, true, false, false] rfl rfl (by kernel_rfl) (fun _ _ _ h => h) (Or.inl ⟨by rfl, ?_⟩) ?_ ?_
  rotate_left
  · intro w'
    go_simp
    first | done | with_reducible rfl
  rotate_left
  · simp only [Act.put, List.setIfInBounds_toArray, List.set_cons_zero, List.set_cons_succ, i64_w, i32_w]
    rfl
  refine one_ (i := 7) (N := (some 14)) #[true, true, true, true, true, true, true, true, false] rfl rfl (by kernel_rfl) (by decide) (fun K hK => ?_)
  refine goes_ Try.func15 (by kernel_rfl) rfl #[.int .i64 who, .int .i64 (n : Int)] (by rfl) rfl rfl (by (try simp only [List.map_toArray, List.map_cons, List.map_nil]); first | done | rfl) ?_
  refine (HMO.out _).mono ?_
  rintro e wa ⟨rfl, hB⟩
  obtain ⟨dm, hdm⟩ := hB.out
  refine ⟨_, rfl, ?_⟩
  have hS2 : Below W0.heap.size W0 wa := by rw [hdm]; exact pw_below_drewN hHeld dm
  clear hB hHeld hdm dm
  refine hK.out _ _ hS2 (fun hHeld => ?_)
  clear hK K
  refine norm_ (a' := ?_) ?_ ?_
  rotate_left
  · show Act.put _ (some 14) _ = _
    simp only [Act.put, List.setIfInBounds_toArray, List.set_cons_zero, List.set_cons_succ, i64_w, i32_w]
    rfl
  refine pure_ (i := 8) (N := (some 4)) (v := ?_) (a' := ?_) #[true, true, true, true, true, true, true, true, true] rfl rfl (by kernel_rfl) (fun _ _ _ h => h) (Or.inl ⟨by rfl, ?_⟩) ?_ ?_
  rotate_left
  · intro w'
    go_simp
    first | done | with_reducible rfl
  rotate_left
  · simp only [Act.put, List.setIfInBounds_toArray, List.set_cons_zero, List.set_cons_succ, i64_w, i32_w]
    rfl
  refine done_ (by kernel_rfl) ?_
  have OE := Aside0.mk (OD.out.step hHeld)
  have IE := Aside0.mk (ID.out.below hHeld)
  have BE := Aside0.mk (show Below w0.heap.size w0 wa from below_step HB0.out OE.out.below)
  have a0 := (OE.out.cell 0 rfl 0).trans (show _ = some (Value.int .i64 0) from rfl)
  have a2 := (OE.out.cell 0 rfl 2).trans (show _ = some (Value.int .i64 sn) from rfl)
  have a3 := (OE.out.cell 0 rfl 3).trans (show _ = some (Value.string val) from rfl)
  clear OD ID c0 e1 hHeld HMO
  go_wp2_with (first
    | (go_at_call 16; go_loud (refine (begin_c a val _ IE.out (by rw [hn]; exact HN1.out) HAB.out.1 (by have := HAB.out.2; have := HN5.out; omega) HL.out BE.out.size).mono ?_; rintro e wz ⟨rfl, L9, hI, hT⟩; have I9 := Aside0.mk hI; have T9 := Aside0.mk hT; clear hI hT)))
  go_end0
  refine ⟨rfl, L9, ?_, (Turn.below (F := Foot L g) OE.out.below).trans T9.out⟩
  rw [show doD d ⟨0, who, sn, val⟩ = beginD d (md who d.sl.length) val from if_pos rfl, hn, HA.out]
  exact I9.out
set_option maxRecDepth 100000 in
set_option maxHeartbeats 8000000 in
theorem do_forget (who sn : Int) (val : ByteArray) (w : World) (h : IsD w0.heap.size w g L d) (hB0 : Below w0.heap.size w0 w) (hwf : Wf d.sl.length d) (hn0 : 0 < d.sl.length) (hl : d.lt.length ≤ 1000000) (hlc : d.ch.length ≤ 1000000) :
    Calls Try.prog 9 #[.pointer (some ⟨g, 0, none⟩), .agg #[.int .i64 4, .int .i64 who, .int .i64 sn, .string val]] w fun e w' => e = .returned (.tuple #[]) ∧
      ∃ L', IsD w0.heap.size w' g L' (doD d ⟨4, who, sn, val⟩) ∧ Turn w w' (Foot L g) (Foot L' g) := by
  have OW := Aside0.mk (Mem.Own.nil w)
  have HD := Aside0.mk h
  have HB0 := Aside0.mk hB0
  have HW := Aside0.mk hwf
  have HL := Aside0.mk hl
  have HLC := Aside0.mk hlc
  have HFT := Aside0.mk (fun k hk => h.foot_lt k hk)
  obtain ⟨n, hn⟩ : ∃ n, d.sl.length = n := ⟨_, rfl⟩
  have hn5 : n ≤ 5 := by have := h.sm; omega
  have hn1 : 0 < n := by omega
  have hmod := modulo_md who n hn1 (by omega)
  obtain ⟨a, ha⟩ : ∃ a, md who n = a := ⟨_, rfl⟩
  have hab := md_in who n hn1
  rw [ha] at hmod hab
  have HA := Aside0.mk ha
  have HAB := Aside0.mk hab
  have HMO := Aside0.mk (fun W => decree_modulo.calls who n a W hmod)
  have HN1 := Aside0.mk hn1
  have HN5 := Aside0.mk hn5
  clear h hB0 hwf hl hlc hmod hab ha hn0 hn1 hn5
  go_enter Try.func9, Try.ntmps9
  go_wp2_with (first
    | ((with_reducible refine gate_dst (N := 3) rfl ?_); refine box_event ?hg (N := 3) ?hd (cs := #[.int .i64 4, .int .i64 who, .int .i64 sn, .string val]) (t := 28) ?hr ?_; (case hd => rfl); (case hg => rfl); (case hr => first | (go_simp; done) | (go_simp; rfl)); intro gS hg W_ hb hbb; have n2 := Aside0.mk (HD.out.below hbb); clear HD; have HD := n2; clear n2; have n_ : Aside0 (Mem.Own w W_ [(gS, #[.int .i64 4, .int .i64 who, .int .i64 sn, .string val], 28)]) := ⟨OW.out.new hg hb hbb⟩; clear OW hb hbb hg; have OW := n_; clear n_))
  have OD := Aside0.mk OW.out.drew
  have ID := Aside0.mk HD.out.drew
  have c0 : W_.drew.cell? ⟨g, 0, none⟩ = some (.slice (some ⟨L.gs, 0, none⟩) n n) := by rw [← hn]; exact (blk_cell ID.out.blk 0).trans rfl
  have e1 : W_.drew.cell? ⟨gS, 1, none⟩ = some (.int .i64 who) := (OD.out.cell 0 rfl 1).trans rfl
  clear OW HD
  refine start_ (n := 9) (S := fun w' => Below (W_).drew.heap.size (W_).drew w') (ds := []) #[false, false, false, false, false, false, false, false, false] (by kernel_rfl) rfl rfl (Below.refl _ _) (fun hHeld => ?_)
  generalize (W_).drew = W0 at *
  refine pure_ (i := 0) (N := (some 7)) (v := ?_) (a' := ?_) #[true, false, false, false, false, false, false, false, false] rfl rfl (by kernel_rfl) (fun _ _ _ h => h) (Or.inl ⟨by rfl, ?_⟩) ?_ ?_
  rotate_left
  · intro w'
    go_simp
    first | done | with_reducible rfl
  rotate_left
  · simp only [Act.put, List.setIfInBounds_toArray, List.set_cons_zero, List.set_cons_succ, i64_w, i32_w]
    rfl
  refine take_ (i := 1) (N := (some 8)) (v := ?_) (a' := ?_) #[true, true, false, false, false, false, false, false, false] rfl rfl (by kernel_rfl) (fun _ _ _ h => h) (Or.inl ⟨by rfl, ?_⟩) hHeld ?_ ?_
  rotate_left
  · intro w' hS
    have s0 := pw_cell_below hS e1
    go_simp
    first | done | with_reducible rfl
  rotate_left
  · simp only [Act.put, List.setIfInBounds_toArray, List.set_cons_zero, List.set_cons_succ, i64_w, i32_w]
    rfl
  refine pure_ (i := 2) (N := (some 9)) (v := ?_) (a' := ?_) #[true, true, true, false, false, false, false, false, false] rfl rfl (by kernel_rfl) (fun _ _ _ h => h) (Or.inl ⟨by rfl, ?_⟩) ?_ ?_
  rotate_left
  · intro w'
    go_simp
    first | done | with_reducible rfl
  rotate_left
  · simp only [Act.put, List.setIfInBounds_toArray, List.set_cons_zero, List.set_cons_succ, i64_w, i32_w]
    rfl
  refine pure_ (i := 3) (N := (some 10)) (v := ?_) (a' := ?_) #[true, true, true, true, false, false, false, false, false] rfl rfl (by kernel_rfl) (fun _ _ _ h => h) (Or.inl ⟨by rfl, ?_⟩) ?_ ?_
  rotate_left
  · intro w'
    skip
    go_simp
    first | done | with_reducible rfl
  rotate_left
  · simp only [Act.put, List.setIfInBounds_toArray, List.set_cons_zero, List.set_cons_succ, i64_w, i32_w]
    rfl
  refine pure_ (i := 4) (N := (some 11)) (v := ?_) (a' := ?_) #[true, true, true, true, true, false, false, false, false] rfl rfl (by kernel_rfl) (fun _ _ _ h => h) (Or.inl ⟨by rfl, ?_⟩) ?_ ?_
  rotate_left
  · intro w'
    go_simp
    first | done | with_reducible rfl
  rotate_left
  · simp only [Act.put, List.setIfInBounds_toArray, List.set_cons_zero, List.set_cons_succ, i64_w, i32_w]
    rfl
  refine take_ (i := 5) (N := (some 12)) (v := ?_) (a' := ?_) #[true, true, true, true, true, true, false, false, false] rfl rfl (by kernel_rfl) (fun _ _ _ h => h) (Or.inl ⟨by rfl, ?_⟩) hHeld ?_ ?_
  rotate_left
  · intro w' hS
    have s0 := pw_cell_below hS c0
    go_simp
    first | done | with_reducible rfl
  rotate_left
  · simp only [Act.put, List.setIfInBounds_toArray, List.set_cons_zero, List.set_cons_succ, i64_w, i32_w]
    rfl
  refine pure_ (i := 6) (N := (some 13)) (v := ?_) (a' := ?_) #[true, true, true, true, true, true, true, false, false] rfl rfl (by kernel_rfl) (fun _ _ _ h => h) (Or.inl ⟨by rfl, ?_⟩) ?_ ?_
  rotate_left
  · intro w'
    go_simp
    first | done | with_reducible rfl
  rotate_left
  · simp only [Act.put, List.setIfInBounds_toArray, List.set_cons_zero, List.set_cons_succ, i64_w, i32_w]
    rfl
  refine one_ (i := 7) (N := (some 14)) #[true, true, true, true, true, true, true, true, false] rfl rfl (by kernel_rfl) (by decide) (fun K hK => ?_)
  refine goes_ Try.func15 (by kernel_rfl) rfl #[.int .i64 who, .int .i64 (n : Int)] (by rfl) rfl rfl (by (try simp only [List.map_toArray, List.map_cons, List.map_nil]); first | done | rfl) ?_
  refine (HMO.out _).mono ?_
  rintro e wa ⟨rfl, hB⟩
  obtain ⟨dm, hdm⟩ := hB.out
  refine ⟨_, rfl, ?_⟩
  have hS2 : Below W0.heap.size W0 wa := by rw [hdm]; exact pw_below_drewN hHeld dm
  clear hB hHeld hdm dm
  refine hK.out _ _ hS2 (fun hHeld => ?_)
  clear hK K
  refine norm_ (a' := ?_) ?_ ?_
  rotate_left
  · show Act.put _ (some 14) _ = _
    simp only [Act.put, List.setIfInBounds_toArray, List.set_cons_zero, List.set_cons_succ, i64_w, i32_w]
    rfl
  refine pure_ (i := 8) (N := (some 4)) (v := ?_) (a' := ?_) #[true, true, true, true, true, true, true, true, true] rfl rfl (by kernel_rfl) (fun _ _ _ h => h) (Or.inl ⟨by rfl, ?_⟩) ?_ ?_
  rotate_left
  · intro w'
    go_simp
    first | done | with_reducible rfl
  rotate_left
  · simp only [Act.put, List.setIfInBounds_toArray, List.set_cons_zero, List.set_cons_succ, i64_w, i32_w]
    rfl
  refine done_ (by kernel_rfl) ?_
  have OE := Aside0.mk (OD.out.step hHeld)
  have IE := Aside0.mk (ID.out.below hHeld)
  have BE := Aside0.mk (show Below w0.heap.size w0 wa from below_step HB0.out OE.out.below)
  have a0 := (OE.out.cell 0 rfl 0).trans (show _ = some (Value.int .i64 4) from rfl)
  have a2 := (OE.out.cell 0 rfl 2).trans (show _ = some (Value.int .i64 sn) from rfl)
  have a3 := (OE.out.cell 0 rfl 3).trans (show _ = some (Value.string val) from rfl)
  clear OD ID c0 e1 hHeld HMO
  go_wp2_with (first
    | (go_at_call 17; go_loud (refine (forget_c a _ IE.out).mono ?_; rintro e wz ⟨rfl, L9, hI, hT⟩; have I9 := Aside0.mk hI; have T9 := Aside0.mk hT; clear hI hT)))
  go_end0
  refine ⟨rfl, L9, ?_, (Turn.below (F := Foot L g) OE.out.below).trans T9.out⟩
  rw [show doD d ⟨4, who, sn, val⟩ = forgD d (md who d.sl.length) from rfl, hn, HA.out]
  exact I9.out
set_option maxRecDepth 100000 in
set_option maxHeartbeats 8000000 in
theorem do_other (kd : Int) (who sn : Int) (val : ByteArray) (w : World) (h : IsD w0.heap.size w g L d) (hB0 : Below w0.heap.size w0 w) (hwf : Wf d.sl.length d) (hn0 : 0 < d.sl.length) (hl : d.lt.length ≤ 1000000) (hlc : d.ch.length ≤ 1000000) (h0 : kd ≠ 0) (h1 : kd ≠ 1) (h2 : kd ≠ 2) (h3 : kd ≠ 3) (h4 : kd ≠ 4) :
    Calls Try.prog 9 #[.pointer (some ⟨g, 0, none⟩), .agg #[.int .i64 kd, .int .i64 who, .int .i64 sn, .string val]] w fun e w' => e = .returned (.tuple #[]) ∧
      ∃ L', IsD w0.heap.size w' g L' (doD d ⟨kd, who, sn, val⟩) ∧ Turn w w' (Foot L g) (Foot L' g) := by
  have OW := Aside0.mk (Mem.Own.nil w)
  have HD := Aside0.mk h
  have HB0 := Aside0.mk hB0
  have HW := Aside0.mk hwf
  have HL := Aside0.mk hl
  have HLC := Aside0.mk hlc
  have HFT := Aside0.mk (fun k hk => h.foot_lt k hk)
  obtain ⟨n, hn⟩ : ∃ n, d.sl.length = n := ⟨_, rfl⟩
  have hn5 : n ≤ 5 := by have := h.sm; omega
  have hn1 : 0 < n := by omega
  have hmod := modulo_md who n hn1 (by omega)
  obtain ⟨a, ha⟩ : ∃ a, md who n = a := ⟨_, rfl⟩
  have hab := md_in who n hn1
  rw [ha] at hmod hab
  have HA := Aside0.mk ha
  have HAB := Aside0.mk hab
  have HMO := Aside0.mk (fun W => decree_modulo.calls who n a W hmod)
  have HN1 := Aside0.mk hn1
  have HN5 := Aside0.mk hn5
  clear h hB0 hwf hl hlc hmod hab ha hn0 hn1 hn5
  go_enter Try.func9, Try.ntmps9
  go_wp2_with (first
    | ((with_reducible refine gate_dst (N := 3) rfl ?_); refine box_event ?hg (N := 3) ?hd (cs := #[.int .i64 kd, .int .i64 who, .int .i64 sn, .string val]) (t := 28) ?hr ?_; (case hd => rfl); (case hg => rfl); (case hr => first | (go_simp; done) | (go_simp; rfl)); intro gS hg W_ hb hbb; have n2 := Aside0.mk (HD.out.below hbb); clear HD; have HD := n2; clear n2; have n_ : Aside0 (Mem.Own w W_ [(gS, #[.int .i64 kd, .int .i64 who, .int .i64 sn, .string val], 28)]) := ⟨OW.out.new hg hb hbb⟩; clear OW hb hbb hg; have OW := n_; clear n_))
  have OD := Aside0.mk OW.out.drew
  have ID := Aside0.mk HD.out.drew
  have c0 : W_.drew.cell? ⟨g, 0, none⟩ = some (.slice (some ⟨L.gs, 0, none⟩) n n) := by rw [← hn]; exact (blk_cell ID.out.blk 0).trans rfl
  have e1 : W_.drew.cell? ⟨gS, 1, none⟩ = some (.int .i64 who) := (OD.out.cell 0 rfl 1).trans rfl
  clear OW HD
  refine start_ (n := 9) (S := fun w' => Below (W_).drew.heap.size (W_).drew w') (ds := []) #[false, false, false, false, false, false, false, false, false] (by kernel_rfl) rfl rfl (Below.refl _ _) (fun hHeld => ?_)
  generalize (W_).drew = W0 at *
  refine pure_ (i := 0) (N := (some 7)) (v := ?_) (a' := ?_) #[true, false, false, false, false, false, false, false, false] rfl rfl (by kernel_rfl) (fun _ _ _ h => h) (Or.inl ⟨by rfl, ?_⟩) ?_ ?_
  rotate_left
  · intro w'
    go_simp
    first | done | with_reducible rfl
  rotate_left
  · simp only [Act.put, List.setIfInBounds_toArray, List.set_cons_zero, List.set_cons_succ, i64_w, i32_w]
    rfl
  refine take_ (i := 1) (N := (some 8)) (v := ?_) (a' := ?_) #[true, true, false, false, false, false, false, false, false] rfl rfl (by kernel_rfl) (fun _ _ _ h => h) (Or.inl ⟨by rfl, ?_⟩) hHeld ?_ ?_
  rotate_left
  · intro w' hS
    have s0 := pw_cell_below hS e1
    go_simp
    first | done | with_reducible rfl
  rotate_left
  · simp only [Act.put, List.setIfInBounds_toArray, List.set_cons_zero, List.set_cons_succ, i64_w, i32_w]
    rfl
  refine pure_ (i := 2) (N := (some 9)) (v := ?_) (a' := ?_) #[true, true, true, false, false, false, false, false, false] rfl rfl (by kernel_rfl) (fun _ _ _ h => h) (Or.inl ⟨by rfl, ?_⟩) ?_ ?_
  rotate_left
  · intro w'
    go_simp
    first | done | with_reducible rfl
  rotate_left
  · simp only [Act.put, List.setIfInBounds_toArray, List.set_cons_zero, List.set_cons_succ, i64_w, i32_w]
    rfl
  refine pure_ (i := 3) (N := (some 10)) (v := ?_) (a' := ?_) #[true, true, true, true, false, false, false, false, false] rfl rfl (by kernel_rfl) (fun _ _ _ h => h) (Or.inl ⟨by rfl, ?_⟩) ?_ ?_
  rotate_left
  · intro w'
    skip
    go_simp
    first | done | with_reducible rfl
  rotate_left
  · simp only [Act.put, List.setIfInBounds_toArray, List.set_cons_zero, List.set_cons_succ, i64_w, i32_w]
    rfl
  refine pure_ (i := 4) (N := (some 11)) (v := ?_) (a' := ?_) #[true, true, true, true, true, false, false, false, false] rfl rfl (by kernel_rfl) (fun _ _ _ h => h) (Or.inl ⟨by rfl, ?_⟩) ?_ ?_
  rotate_left
  · intro w'
    go_simp
    first | done | with_reducible rfl
  rotate_left
  · simp only [Act.put, List.setIfInBounds_toArray, List.set_cons_zero, List.set_cons_succ, i64_w, i32_w]
    rfl
  refine take_ (i := 5) (N := (some 12)) (v := ?_) (a' := ?_) #[true, true, true, true, true, true, false, false, false] rfl rfl (by kernel_rfl) (fun _ _ _ h => h) (Or.inl ⟨by rfl, ?_⟩) hHeld ?_ ?_
  rotate_left
  · intro w' hS
    have s0 := pw_cell_below hS c0
    go_simp
    first | done | with_reducible rfl
  rotate_left
  · simp only [Act.put, List.setIfInBounds_toArray, List.set_cons_zero, List.set_cons_succ, i64_w, i32_w]
    rfl
  refine pure_ (i := 6) (N := (some 13)) (v := ?_) (a' := ?_) #[true, true, true, true, true, true, true, false, false] rfl rfl (by kernel_rfl) (fun _ _ _ h => h) (Or.inl ⟨by rfl, ?_⟩) ?_ ?_
  rotate_left
  · intro w'
    go_simp
    first | done | with_reducible rfl
  rotate_left
  · simp only [Act.put, List.setIfInBounds_toArray, List.set_cons_zero, List.set_cons_succ, i64_w, i32_w]
    rfl
  refine one_ (i := 7) (N := (some 14)) #[true, true, true, true, true, true, true, true, false] rfl rfl (by kernel_rfl) (by decide) (fun K hK => ?_)
  refine goes_ Try.func15 (by kernel_rfl) rfl #[.int .i64 who, .int .i64 (n : Int)] (by rfl) rfl rfl (by (try simp only [List.map_toArray, List.map_cons, List.map_nil]); first | done | rfl) ?_
  refine (HMO.out _).mono ?_
  rintro e wa ⟨rfl, hB⟩
  obtain ⟨dm, hdm⟩ := hB.out
  refine ⟨_, rfl, ?_⟩
  have hS2 : Below W0.heap.size W0 wa := by rw [hdm]; exact pw_below_drewN hHeld dm
  clear hB hHeld hdm dm
  refine hK.out _ _ hS2 (fun hHeld => ?_)
  clear hK K
  refine norm_ (a' := ?_) ?_ ?_
  rotate_left
  · show Act.put _ (some 14) _ = _
    simp only [Act.put, List.setIfInBounds_toArray, List.set_cons_zero, List.set_cons_succ, i64_w, i32_w]
    rfl
  refine pure_ (i := 8) (N := (some 4)) (v := ?_) (a' := ?_) #[true, true, true, true, true, true, true, true, true] rfl rfl (by kernel_rfl) (fun _ _ _ h => h) (Or.inl ⟨by rfl, ?_⟩) ?_ ?_
  rotate_left
  · intro w'
    go_simp
    first | done | with_reducible rfl
  rotate_left
  · simp only [Act.put, List.setIfInBounds_toArray, List.set_cons_zero, List.set_cons_succ, i64_w, i32_w]
    rfl
  refine done_ (by kernel_rfl) ?_
  have OE := Aside0.mk (OD.out.step hHeld)
  have IE := Aside0.mk (ID.out.below hHeld)
  have BE := Aside0.mk (show Below w0.heap.size w0 wa from below_step HB0.out OE.out.below)
  have a0 := (OE.out.cell 0 rfl 0).trans (show _ = some (Value.int .i64 kd) from rfl)
  have a2 := (OE.out.cell 0 rfl 2).trans (show _ = some (Value.int .i64 sn) from rfl)
  have a3 := (OE.out.cell 0 rfl 3).trans (show _ = some (Value.string val) from rfl)
  clear OD ID c0 e1 hHeld HMO
  have f0 : (kd == 0) = false := beq_eq_false_iff_ne.2 h0
  have f1 : (kd == 1) = false := beq_eq_false_iff_ne.2 h1
  have f2 : (kd == 2) = false := beq_eq_false_iff_ne.2 h2
  have f3 : (kd == 3) = false := beq_eq_false_iff_ne.2 h3
  have f4 : (kd == 4) = false := beq_eq_false_iff_ne.2 h4
  have HR := Aside0.mk (show doD d ⟨kd, who, sn, val⟩ = d by unfold doD; rw [if_neg h0, if_neg h4, if_neg (fun hh => by rcases hh with e | e | e; exact h1 e; exact h2 e; exact h3 e)])
  clear h0 h1 h2 h3 h4
  go_wp2_with fail
  go_end0
  refine ⟨rfl, L, ?_, Turn.below (F := Foot L g) OE.out.below⟩
  rw [HR.out]
  exact IE.out
set_option maxRecDepth 100000 in
set_option maxHeartbeats 8000000 in
theorem do_none1 (who sn : Int) (val : ByteArray) (w : World) (h : IsD w0.heap.size w g L d) (hB0 : Below w0.heap.size w0 w) (hwf : Wf d.sl.length d) (hn0 : 0 < d.sl.length) (hl : d.lt.length ≤ 1000000) (hlc : d.ch.length ≤ 1000000) (he : d.lt = []) :
    Calls Try.prog 9 #[.pointer (some ⟨g, 0, none⟩), .agg #[.int .i64 1, .int .i64 who, .int .i64 sn, .string val]] w fun e w' => e = .returned (.tuple #[]) ∧
      ∃ L', IsD w0.heap.size w' g L' (doD d ⟨1, who, sn, val⟩) ∧ Turn w w' (Foot L g) (Foot L' g) := by
  have OW := Aside0.mk (Mem.Own.nil w)
  have HD := Aside0.mk h
  have HB0 := Aside0.mk hB0
  have HW := Aside0.mk hwf
  have HL := Aside0.mk hl
  have HLC := Aside0.mk hlc
  have HFT := Aside0.mk (fun k hk => h.foot_lt k hk)
  obtain ⟨n, hn⟩ : ∃ n, d.sl.length = n := ⟨_, rfl⟩
  have hn5 : n ≤ 5 := by have := h.sm; omega
  have hn1 : 0 < n := by omega
  have hmod := modulo_md who n hn1 (by omega)
  obtain ⟨a, ha⟩ : ∃ a, md who n = a := ⟨_, rfl⟩
  have hab := md_in who n hn1
  rw [ha] at hmod hab
  have HA := Aside0.mk ha
  have HAB := Aside0.mk hab
  have HMO := Aside0.mk (fun W => decree_modulo.calls who n a W hmod)
  have HN1 := Aside0.mk hn1
  have HN5 := Aside0.mk hn5
  clear h hB0 hwf hl hlc hmod hab ha hn0 hn1 hn5
  go_enter Try.func9, Try.ntmps9
  go_wp2_with (first
    | ((with_reducible refine gate_dst (N := 3) rfl ?_); refine box_event ?hg (N := 3) ?hd (cs := #[.int .i64 1, .int .i64 who, .int .i64 sn, .string val]) (t := 28) ?hr ?_; (case hd => rfl); (case hg => rfl); (case hr => first | (go_simp; done) | (go_simp; rfl)); intro gS hg W_ hb hbb; have n2 := Aside0.mk (HD.out.below hbb); clear HD; have HD := n2; clear n2; have n_ : Aside0 (Mem.Own w W_ [(gS, #[.int .i64 1, .int .i64 who, .int .i64 sn, .string val], 28)]) := ⟨OW.out.new hg hb hbb⟩; clear OW hb hbb hg; have OW := n_; clear n_))
  have OD := Aside0.mk OW.out.drew
  have ID := Aside0.mk HD.out.drew
  have c0 : W_.drew.cell? ⟨g, 0, none⟩ = some (.slice (some ⟨L.gs, 0, none⟩) n n) := by rw [← hn]; exact (blk_cell ID.out.blk 0).trans rfl
  have e1 : W_.drew.cell? ⟨gS, 1, none⟩ = some (.int .i64 who) := (OD.out.cell 0 rfl 1).trans rfl
  clear OW HD
  refine start_ (n := 9) (S := fun w' => Below (W_).drew.heap.size (W_).drew w') (ds := []) #[false, false, false, false, false, false, false, false, false] (by kernel_rfl) rfl rfl (Below.refl _ _) (fun hHeld => ?_)
  generalize (W_).drew = W0 at *
  refine pure_ (i := 0) (N := (some 7)) (v := ?_) (a' := ?_) #[true, false, false, false, false, false, false, false, false] rfl rfl (by kernel_rfl) (fun _ _ _ h => h) (Or.inl ⟨by rfl, ?_⟩) ?_ ?_
  rotate_left
  · intro w'
    go_simp
    first | done | with_reducible rfl
  rotate_left
  · simp only [Act.put, List.setIfInBounds_toArray, List.set_cons_zero, List.set_cons_succ, i64_w, i32_w]
    rfl
  refine take_ (i := 1) (N := (some 8)) (v := ?_) (a' := ?_) #[true, true, false, false, false, false, false, false, false] rfl rfl (by kernel_rfl) (fun _ _ _ h => h) (Or.inl ⟨by rfl, ?_⟩) hHeld ?_ ?_
  rotate_left
  · intro w' hS
    have s0 := pw_cell_below hS e1
    go_simp
    first | done | with_reducible rfl
  rotate_left
  · simp only [Act.put, List.setIfInBounds_toArray, List.set_cons_zero, List.set_cons_succ, i64_w, i32_w]
    rfl
  refine pure_ (i := 2) (N := (some 9)) (v := ?_) (a' := ?_) #[true, true, true, false, false, false, false, false, false] rfl rfl (by kernel_rfl) (fun _ _ _ h => h) (Or.inl ⟨by rfl, ?_⟩) ?_ ?_
  rotate_left
  · intro w'
    go_simp
    first | done | with_reducible rfl
  rotate_left
  · simp only [Act.put, List.setIfInBounds_toArray, List.set_cons_zero, List.set_cons_succ, i64_w, i32_w]
    rfl
  refine pure_ (i := 3) (N := (some 10)) (v := ?_) (a' := ?_) #[true, true, true, true, false, false, false, false, false] rfl rfl (by kernel_rfl) (fun _ _ _ h => h) (Or.inl ⟨by rfl, ?_⟩) ?_ ?_
  rotate_left
  · intro w'
    skip
    go_simp
    first | done | with_reducible rfl
  rotate_left
  · simp only [Act.put, List.setIfInBounds_toArray, List.set_cons_zero, List.set_cons_succ, i64_w, i32_w]
    rfl
  refine pure_ (i := 4) (N := (some 11)) (v := ?_) (a' := ?_) #[true, true, true, true, true, false, false, false, false] rfl rfl (by kernel_rfl) (fun _ _ _ h => h) (Or.inl ⟨by rfl, ?_⟩) ?_ ?_
  rotate_left
  · intro w'
    go_simp
    first | done | with_reducible rfl
  rotate_left
  · simp only [Act.put, List.setIfInBounds_toArray, List.set_cons_zero, List.set_cons_succ, i64_w, i32_w]
    rfl
  refine take_ (i := 5) (N := (some 12)) (v := ?_) (a' := ?_) #[true, true, true, true, true, true, false, false, false] rfl rfl (by kernel_rfl) (fun _ _ _ h => h) (Or.inl ⟨by rfl, ?_⟩) hHeld ?_ ?_
  rotate_left
  · intro w' hS
    have s0 := pw_cell_below hS c0
    go_simp
    first | done | with_reducible rfl
  rotate_left
  · simp only [Act.put, List.setIfInBounds_toArray, List.set_cons_zero, List.set_cons_succ, i64_w, i32_w]
    rfl
  refine pure_ (i := 6) (N := (some 13)) (v := ?_) (a' := ?_) #[true, true, true, true, true, true, true, false, false] rfl rfl (by kernel_rfl) (fun _ _ _ h => h) (Or.inl ⟨by rfl, ?_⟩) ?_ ?_
  rotate_left
  · intro w'
    go_simp
    first | done | with_reducible rfl
  rotate_left
  · simp only [Act.put, List.setIfInBounds_toArray, List.set_cons_zero, List.set_cons_succ, i64_w, i32_w]
    rfl
  refine one_ (i := 7) (N := (some 14)) #[true, true, true, true, true, true, true, true, false] rfl rfl (by kernel_rfl) (by decide) (fun K hK => ?_)
  refine goes_ Try.func15 (by kernel_rfl) rfl #[.int .i64 who, .int .i64 (n : Int)] (by rfl) rfl rfl (by (try simp only [List.map_toArray, List.map_cons, List.map_nil]); first | done | rfl) ?_
  refine (HMO.out _).mono ?_
  rintro e wa ⟨rfl, hB⟩
  obtain ⟨dm, hdm⟩ := hB.out
  refine ⟨_, rfl, ?_⟩
  have hS2 : Below W0.heap.size W0 wa := by rw [hdm]; exact pw_below_drewN hHeld dm
  clear hB hHeld hdm dm
  refine hK.out _ _ hS2 (fun hHeld => ?_)
  clear hK K
  refine norm_ (a' := ?_) ?_ ?_
  rotate_left
  · show Act.put _ (some 14) _ = _
    simp only [Act.put, List.setIfInBounds_toArray, List.set_cons_zero, List.set_cons_succ, i64_w, i32_w]
    rfl
  refine pure_ (i := 8) (N := (some 4)) (v := ?_) (a' := ?_) #[true, true, true, true, true, true, true, true, true] rfl rfl (by kernel_rfl) (fun _ _ _ h => h) (Or.inl ⟨by rfl, ?_⟩) ?_ ?_
  rotate_left
  · intro w'
    go_simp
    first | done | with_reducible rfl
  rotate_left
  · simp only [Act.put, List.setIfInBounds_toArray, List.set_cons_zero, List.set_cons_succ, i64_w, i32_w]
    rfl
  refine done_ (by kernel_rfl) ?_
  have OE := Aside0.mk (OD.out.step hHeld)
  have IE := Aside0.mk (ID.out.below hHeld)
  have BE := Aside0.mk (show Below w0.heap.size w0 wa from below_step HB0.out OE.out.below)
  have a0 := (OE.out.cell 0 rfl 0).trans (show _ = some (Value.int .i64 1) from rfl)
  have a2 := (OE.out.cell 0 rfl 2).trans (show _ = some (Value.int .i64 sn) from rfl)
  have a3 := (OE.out.cell 0 rfl 3).trans (show _ = some (Value.string val) from rfl)
  clear OD ID c0 e1 hHeld HMO
  obtain ⟨A3, c3, ev3⟩ := Kd.R_slice IE.out.lt
  rw [he] at ev3
  have cL := (blk_cell IE.out.blk 2).trans (show _ = some L.vl from rfl)
  rw [ev3] at cL
  have HE := Aside0.mk he
  clear he ev3
  go_wp2_with fail
  refine bodyPost_ret (results_none rfl _ _ _) rfl ⟨rfl, L, ?_, Turn.below (F := Foot L g) OE.out.below⟩
  rw [show doD d ⟨1, who, sn, val⟩ = d by
    unfold doD
    rw [if_neg (show ¬ (1 : Int) = 0 by decide), if_neg (show ¬ (1 : Int) = 4 by decide), if_pos (show ((1 : Int) = 1 ∨ (1 : Int) = 2 ∨ (1 : Int) = 3) by decide), HE.out]
    rfl]
  exact IE.out
set_option maxRecDepth 100000 in
set_option maxHeartbeats 8000000 in
theorem do_none2 (who sn : Int) (val : ByteArray) (w : World) (h : IsD w0.heap.size w g L d) (hB0 : Below w0.heap.size w0 w) (hwf : Wf d.sl.length d) (hn0 : 0 < d.sl.length) (hl : d.lt.length ≤ 1000000) (hlc : d.ch.length ≤ 1000000) (he : d.lt = []) :
    Calls Try.prog 9 #[.pointer (some ⟨g, 0, none⟩), .agg #[.int .i64 2, .int .i64 who, .int .i64 sn, .string val]] w fun e w' => e = .returned (.tuple #[]) ∧
      ∃ L', IsD w0.heap.size w' g L' (doD d ⟨2, who, sn, val⟩) ∧ Turn w w' (Foot L g) (Foot L' g) := by
  have OW := Aside0.mk (Mem.Own.nil w)
  have HD := Aside0.mk h
  have HB0 := Aside0.mk hB0
  have HW := Aside0.mk hwf
  have HL := Aside0.mk hl
  have HLC := Aside0.mk hlc
  have HFT := Aside0.mk (fun k hk => h.foot_lt k hk)
  obtain ⟨n, hn⟩ : ∃ n, d.sl.length = n := ⟨_, rfl⟩
  have hn5 : n ≤ 5 := by have := h.sm; omega
  have hn1 : 0 < n := by omega
  have hmod := modulo_md who n hn1 (by omega)
  obtain ⟨a, ha⟩ : ∃ a, md who n = a := ⟨_, rfl⟩
  have hab := md_in who n hn1
  rw [ha] at hmod hab
  have HA := Aside0.mk ha
  have HAB := Aside0.mk hab
  have HMO := Aside0.mk (fun W => decree_modulo.calls who n a W hmod)
  have HN1 := Aside0.mk hn1
  have HN5 := Aside0.mk hn5
  clear h hB0 hwf hl hlc hmod hab ha hn0 hn1 hn5
  go_enter Try.func9, Try.ntmps9
  go_wp2_with (first
    | ((with_reducible refine gate_dst (N := 3) rfl ?_); refine box_event ?hg (N := 3) ?hd (cs := #[.int .i64 2, .int .i64 who, .int .i64 sn, .string val]) (t := 28) ?hr ?_; (case hd => rfl); (case hg => rfl); (case hr => first | (go_simp; done) | (go_simp; rfl)); intro gS hg W_ hb hbb; have n2 := Aside0.mk (HD.out.below hbb); clear HD; have HD := n2; clear n2; have n_ : Aside0 (Mem.Own w W_ [(gS, #[.int .i64 2, .int .i64 who, .int .i64 sn, .string val], 28)]) := ⟨OW.out.new hg hb hbb⟩; clear OW hb hbb hg; have OW := n_; clear n_))
  have OD := Aside0.mk OW.out.drew
  have ID := Aside0.mk HD.out.drew
  have c0 : W_.drew.cell? ⟨g, 0, none⟩ = some (.slice (some ⟨L.gs, 0, none⟩) n n) := by rw [← hn]; exact (blk_cell ID.out.blk 0).trans rfl
  have e1 : W_.drew.cell? ⟨gS, 1, none⟩ = some (.int .i64 who) := (OD.out.cell 0 rfl 1).trans rfl
  clear OW HD
  refine start_ (n := 9) (S := fun w' => Below (W_).drew.heap.size (W_).drew w') (ds := []) #[false, false, false, false, false, false, false, false, false] (by kernel_rfl) rfl rfl (Below.refl _ _) (fun hHeld => ?_)
  generalize (W_).drew = W0 at *
  refine pure_ (i := 0) (N := (some 7)) (v := ?_) (a' := ?_) #[true, false, false, false, false, false, false, false, false] rfl rfl (by kernel_rfl) (fun _ _ _ h => h) (Or.inl ⟨by rfl, ?_⟩) ?_ ?_
  rotate_left
  · intro w'
    go_simp
    first | done | with_reducible rfl
  rotate_left
  · simp only [Act.put, List.setIfInBounds_toArray, List.set_cons_zero, List.set_cons_succ, i64_w, i32_w]
    rfl
  refine take_ (i := 1) (N := (some 8)) (v := ?_) (a' := ?_) #[true, true, false, false, false, false, false, false, false] rfl rfl (by kernel_rfl) (fun _ _ _ h => h) (Or.inl ⟨by rfl, ?_⟩) hHeld ?_ ?_
  rotate_left
  · intro w' hS
    have s0 := pw_cell_below hS e1
    go_simp
    first | done | with_reducible rfl
  rotate_left
  · simp only [Act.put, List.setIfInBounds_toArray, List.set_cons_zero, List.set_cons_succ, i64_w, i32_w]
    rfl
  refine pure_ (i := 2) (N := (some 9)) (v := ?_) (a' := ?_) #[true, true, true, false, false, false, false, false, false] rfl rfl (by kernel_rfl) (fun _ _ _ h => h) (Or.inl ⟨by rfl, ?_⟩) ?_ ?_
  rotate_left
  · intro w'
    go_simp
    first | done | with_reducible rfl
  rotate_left
  · simp only [Act.put, List.setIfInBounds_toArray, List.set_cons_zero, List.set_cons_succ, i64_w, i32_w]
    rfl
  refine pure_ (i := 3) (N := (some 10)) (v := ?_) (a' := ?_) #[true, true, true, true, false, false, false, false, false] rfl rfl (by kernel_rfl) (fun _ _ _ h => h) (Or.inl ⟨by rfl, ?_⟩) ?_ ?_
  rotate_left
  · intro w'
    skip
    go_simp
    first | done | with_reducible rfl
  rotate_left
  · simp only [Act.put, List.setIfInBounds_toArray, List.set_cons_zero, List.set_cons_succ, i64_w, i32_w]
    rfl
  refine pure_ (i := 4) (N := (some 11)) (v := ?_) (a' := ?_) #[true, true, true, true, true, false, false, false, false] rfl rfl (by kernel_rfl) (fun _ _ _ h => h) (Or.inl ⟨by rfl, ?_⟩) ?_ ?_
  rotate_left
  · intro w'
    go_simp
    first | done | with_reducible rfl
  rotate_left
  · simp only [Act.put, List.setIfInBounds_toArray, List.set_cons_zero, List.set_cons_succ, i64_w, i32_w]
    rfl
  refine take_ (i := 5) (N := (some 12)) (v := ?_) (a' := ?_) #[true, true, true, true, true, true, false, false, false] rfl rfl (by kernel_rfl) (fun _ _ _ h => h) (Or.inl ⟨by rfl, ?_⟩) hHeld ?_ ?_
  rotate_left
  · intro w' hS
    have s0 := pw_cell_below hS c0
    go_simp
    first | done | with_reducible rfl
  rotate_left
  · simp only [Act.put, List.setIfInBounds_toArray, List.set_cons_zero, List.set_cons_succ, i64_w, i32_w]
    rfl
  refine pure_ (i := 6) (N := (some 13)) (v := ?_) (a' := ?_) #[true, true, true, true, true, true, true, false, false] rfl rfl (by kernel_rfl) (fun _ _ _ h => h) (Or.inl ⟨by rfl, ?_⟩) ?_ ?_
  rotate_left
  · intro w'
    go_simp
    first | done | with_reducible rfl
  rotate_left
  · simp only [Act.put, List.setIfInBounds_toArray, List.set_cons_zero, List.set_cons_succ, i64_w, i32_w]
    rfl
  refine one_ (i := 7) (N := (some 14)) #[true, true, true, true, true, true, true, true, false] rfl rfl (by kernel_rfl) (by decide) (fun K hK => ?_)
  refine goes_ Try.func15 (by kernel_rfl) rfl #[.int .i64 who, .int .i64 (n : Int)] (by rfl) rfl rfl (by (try simp only [List.map_toArray, List.map_cons, List.map_nil]); first | done | rfl) ?_
  refine (HMO.out _).mono ?_
  rintro e wa ⟨rfl, hB⟩
  obtain ⟨dm, hdm⟩ := hB.out
  refine ⟨_, rfl, ?_⟩
  have hS2 : Below W0.heap.size W0 wa := by rw [hdm]; exact pw_below_drewN hHeld dm
  clear hB hHeld hdm dm
  refine hK.out _ _ hS2 (fun hHeld => ?_)
  clear hK K
  refine norm_ (a' := ?_) ?_ ?_
  rotate_left
  · show Act.put _ (some 14) _ = _
    simp only [Act.put, List.setIfInBounds_toArray, List.set_cons_zero, List.set_cons_succ, i64_w, i32_w]
    rfl
  refine pure_ (i := 8) (N := (some 4)) (v := ?_) (a' := ?_) #[true, true, true, true, true, true, true, true, true] rfl rfl (by kernel_rfl) (fun _ _ _ h => h) (Or.inl ⟨by rfl, ?_⟩) ?_ ?_
  rotate_left
  · intro w'
    go_simp
    first | done | with_reducible rfl
  rotate_left
  · simp only [Act.put, List.setIfInBounds_toArray, List.set_cons_zero, List.set_cons_succ, i64_w, i32_w]
    rfl
  refine done_ (by kernel_rfl) ?_
  have OE := Aside0.mk (OD.out.step hHeld)
  have IE := Aside0.mk (ID.out.below hHeld)
  have BE := Aside0.mk (show Below w0.heap.size w0 wa from below_step HB0.out OE.out.below)
  have a0 := (OE.out.cell 0 rfl 0).trans (show _ = some (Value.int .i64 2) from rfl)
  have a2 := (OE.out.cell 0 rfl 2).trans (show _ = some (Value.int .i64 sn) from rfl)
  have a3 := (OE.out.cell 0 rfl 3).trans (show _ = some (Value.string val) from rfl)
  clear OD ID c0 e1 hHeld HMO
  obtain ⟨A3, c3, ev3⟩ := Kd.R_slice IE.out.lt
  rw [he] at ev3
  have cL := (blk_cell IE.out.blk 2).trans (show _ = some L.vl from rfl)
  rw [ev3] at cL
  have HE := Aside0.mk he
  clear he ev3
  go_wp2_with fail
  refine bodyPost_ret (results_none rfl _ _ _) rfl ⟨rfl, L, ?_, Turn.below (F := Foot L g) OE.out.below⟩
  rw [show doD d ⟨2, who, sn, val⟩ = d by
    unfold doD
    rw [if_neg (show ¬ (2 : Int) = 0 by decide), if_neg (show ¬ (2 : Int) = 4 by decide), if_pos (show ((2 : Int) = 1 ∨ (2 : Int) = 2 ∨ (2 : Int) = 3) by decide), HE.out]
    rfl]
  exact IE.out
set_option maxRecDepth 100000 in
set_option maxHeartbeats 8000000 in
theorem do_none3 (who sn : Int) (val : ByteArray) (w : World) (h : IsD w0.heap.size w g L d) (hB0 : Below w0.heap.size w0 w) (hwf : Wf d.sl.length d) (hn0 : 0 < d.sl.length) (hl : d.lt.length ≤ 1000000) (hlc : d.ch.length ≤ 1000000) (he : d.lt = []) :
    Calls Try.prog 9 #[.pointer (some ⟨g, 0, none⟩), .agg #[.int .i64 3, .int .i64 who, .int .i64 sn, .string val]] w fun e w' => e = .returned (.tuple #[]) ∧
      ∃ L', IsD w0.heap.size w' g L' (doD d ⟨3, who, sn, val⟩) ∧ Turn w w' (Foot L g) (Foot L' g) := by
  have OW := Aside0.mk (Mem.Own.nil w)
  have HD := Aside0.mk h
  have HB0 := Aside0.mk hB0
  have HW := Aside0.mk hwf
  have HL := Aside0.mk hl
  have HLC := Aside0.mk hlc
  have HFT := Aside0.mk (fun k hk => h.foot_lt k hk)
  obtain ⟨n, hn⟩ : ∃ n, d.sl.length = n := ⟨_, rfl⟩
  have hn5 : n ≤ 5 := by have := h.sm; omega
  have hn1 : 0 < n := by omega
  have hmod := modulo_md who n hn1 (by omega)
  obtain ⟨a, ha⟩ : ∃ a, md who n = a := ⟨_, rfl⟩
  have hab := md_in who n hn1
  rw [ha] at hmod hab
  have HA := Aside0.mk ha
  have HAB := Aside0.mk hab
  have HMO := Aside0.mk (fun W => decree_modulo.calls who n a W hmod)
  have HN1 := Aside0.mk hn1
  have HN5 := Aside0.mk hn5
  clear h hB0 hwf hl hlc hmod hab ha hn0 hn1 hn5
  go_enter Try.func9, Try.ntmps9
  go_wp2_with (first
    | ((with_reducible refine gate_dst (N := 3) rfl ?_); refine box_event ?hg (N := 3) ?hd (cs := #[.int .i64 3, .int .i64 who, .int .i64 sn, .string val]) (t := 28) ?hr ?_; (case hd => rfl); (case hg => rfl); (case hr => first | (go_simp; done) | (go_simp; rfl)); intro gS hg W_ hb hbb; have n2 := Aside0.mk (HD.out.below hbb); clear HD; have HD := n2; clear n2; have n_ : Aside0 (Mem.Own w W_ [(gS, #[.int .i64 3, .int .i64 who, .int .i64 sn, .string val], 28)]) := ⟨OW.out.new hg hb hbb⟩; clear OW hb hbb hg; have OW := n_; clear n_))
  have OD := Aside0.mk OW.out.drew
  have ID := Aside0.mk HD.out.drew
  have c0 : W_.drew.cell? ⟨g, 0, none⟩ = some (.slice (some ⟨L.gs, 0, none⟩) n n) := by rw [← hn]; exact (blk_cell ID.out.blk 0).trans rfl
  have e1 : W_.drew.cell? ⟨gS, 1, none⟩ = some (.int .i64 who) := (OD.out.cell 0 rfl 1).trans rfl
  clear OW HD
  refine start_ (n := 9) (S := fun w' => Below (W_).drew.heap.size (W_).drew w') (ds := []) #[false, false, false, false, false, false, false, false, false] (by kernel_rfl) rfl rfl (Below.refl _ _) (fun hHeld => ?_)
  generalize (W_).drew = W0 at *
  refine pure_ (i := 0) (N := (some 7)) (v := ?_) (a' := ?_) #[true, false, false, false, false, false, false, false, false] rfl rfl (by kernel_rfl) (fun _ _ _ h => h) (Or.inl ⟨by rfl, ?_⟩) ?_ ?_
  rotate_left
  · intro w'
    go_simp
    first | done | with_reducible rfl
  rotate_left
  · simp only [Act.put, List.setIfInBounds_toArray, List.set_cons_zero, List.set_cons_succ, i64_w, i32_w]
    rfl
  refine take_ (i := 1) (N := (some 8)) (v := ?_) (a' := ?_) #[true, true, false, false, false, false, false, false, false] rfl rfl (by kernel_rfl) (fun _ _ _ h => h) (Or.inl ⟨by rfl, ?_⟩) hHeld ?_ ?_
  rotate_left
  · intro w' hS
    have s0 := pw_cell_below hS e1
    go_simp
    first | done | with_reducible rfl
  rotate_left
  · simp only [Act.put, List.setIfInBounds_toArray, List.set_cons_zero, List.set_cons_succ, i64_w, i32_w]
    rfl
  refine pure_ (i := 2) (N := (some 9)) (v := ?_) (a' := ?_) #[true, true, true, false, false, false, false, false, false] rfl rfl (by kernel_rfl) (fun _ _ _ h => h) (Or.inl ⟨by rfl, ?_⟩) ?_ ?_
  rotate_left
  · intro w'
    go_simp
    first | done | with_reducible rfl
  rotate_left
  · simp only [Act.put, List.setIfInBounds_toArray, List.set_cons_zero, List.set_cons_succ, i64_w, i32_w]
    rfl
  refine pure_ (i := 3) (N := (some 10)) (v := ?_) (a' := ?_) #[true, true, true, true, false, false, false, false, false] rfl rfl (by kernel_rfl) (fun _ _ _ h => h) (Or.inl ⟨by rfl, ?_⟩) ?_ ?_
  rotate_left
  · intro w'
    skip
    go_simp
    first | done | with_reducible rfl
  rotate_left
  · simp only [Act.put, List.setIfInBounds_toArray, List.set_cons_zero, List.set_cons_succ, i64_w, i32_w]
    rfl
  refine pure_ (i := 4) (N := (some 11)) (v := ?_) (a' := ?_) #[true, true, true, true, true, false, false, false, false] rfl rfl (by kernel_rfl) (fun _ _ _ h => h) (Or.inl ⟨by rfl, ?_⟩) ?_ ?_
  rotate_left
  · intro w'
    go_simp
    first | done | with_reducible rfl
  rotate_left
  · simp only [Act.put, List.setIfInBounds_toArray, List.set_cons_zero, List.set_cons_succ, i64_w, i32_w]
    rfl
  refine take_ (i := 5) (N := (some 12)) (v := ?_) (a' := ?_) #[true, true, true, true, true, true, false, false, false] rfl rfl (by kernel_rfl) (fun _ _ _ h => h) (Or.inl ⟨by rfl, ?_⟩) hHeld ?_ ?_
  rotate_left
  · intro w' hS
    have s0 := pw_cell_below hS c0
    go_simp
    first | done | with_reducible rfl
  rotate_left
  · simp only [Act.put, List.setIfInBounds_toArray, List.set_cons_zero, List.set_cons_succ, i64_w, i32_w]
    rfl
  refine pure_ (i := 6) (N := (some 13)) (v := ?_) (a' := ?_) #[true, true, true, true, true, true, true, false, false] rfl rfl (by kernel_rfl) (fun _ _ _ h => h) (Or.inl ⟨by rfl, ?_⟩) ?_ ?_
  rotate_left
  · intro w'
    go_simp
    first | done | with_reducible rfl
  rotate_left
  · simp only [Act.put, List.setIfInBounds_toArray, List.set_cons_zero, List.set_cons_succ, i64_w, i32_w]
    rfl
  refine one_ (i := 7) (N := (some 14)) #[true, true, true, true, true, true, true, true, false] rfl rfl (by kernel_rfl) (by decide) (fun K hK => ?_)
  refine goes_ Try.func15 (by kernel_rfl) rfl #[.int .i64 who, .int .i64 (n : Int)] (by rfl) rfl rfl (by (try simp only [List.map_toArray, List.map_cons, List.map_nil]); first | done | rfl) ?_
  refine (HMO.out _).mono ?_
  rintro e wa ⟨rfl, hB⟩
  obtain ⟨dm, hdm⟩ := hB.out
  refine ⟨_, rfl, ?_⟩
  have hS2 : Below W0.heap.size W0 wa := by rw [hdm]; exact pw_below_drewN hHeld dm
  clear hB hHeld hdm dm
  refine hK.out _ _ hS2 (fun hHeld => ?_)
  clear hK K
  refine norm_ (a' := ?_) ?_ ?_
  rotate_left
  · show Act.put _ (some 14) _ = _
    simp only [Act.put, List.setIfInBounds_toArray, List.set_cons_zero, List.set_cons_succ, i64_w, i32_w]
    rfl
  refine pure_ (i := 8) (N := (some 4)) (v := ?_) (a' := ?_) #[true, true, true, true, true, true, true, true, true] rfl rfl (by kernel_rfl) (fun _ _ _ h => h) (Or.inl ⟨by rfl, ?_⟩) ?_ ?_
  rotate_left
  · intro w'
    go_simp
    first | done | with_reducible rfl
  rotate_left
  · simp only [Act.put, List.setIfInBounds_toArray, List.set_cons_zero, List.set_cons_succ, i64_w, i32_w]
    rfl
  refine done_ (by kernel_rfl) ?_
  have OE := Aside0.mk (OD.out.step hHeld)
  have IE := Aside0.mk (ID.out.below hHeld)
  have BE := Aside0.mk (show Below w0.heap.size w0 wa from below_step HB0.out OE.out.below)
  have a0 := (OE.out.cell 0 rfl 0).trans (show _ = some (Value.int .i64 3) from rfl)
  have a2 := (OE.out.cell 0 rfl 2).trans (show _ = some (Value.int .i64 sn) from rfl)
  have a3 := (OE.out.cell 0 rfl 3).trans (show _ = some (Value.string val) from rfl)
  clear OD ID c0 e1 hHeld HMO
  obtain ⟨A3, c3, ev3⟩ := Kd.R_slice IE.out.lt
  rw [he] at ev3
  have cL := (blk_cell IE.out.blk 2).trans (show _ = some L.vl from rfl)
  rw [ev3] at cL
  have HE := Aside0.mk he
  clear he ev3
  go_wp2_with fail
  refine bodyPost_ret (results_none rfl _ _ _) rfl ⟨rfl, L, ?_, Turn.below (F := Foot L g) OE.out.below⟩
  rw [show doD d ⟨3, who, sn, val⟩ = d by
    unfold doD
    rw [if_neg (show ¬ (3 : Int) = 0 by decide), if_neg (show ¬ (3 : Int) = 4 by decide), if_pos (show ((3 : Int) = 1 ∨ (3 : Int) = 2 ∨ (3 : Int) = 3) by decide), HE.out]
    rfl]
  exact IE.out
end Go.Proofs.Ytnhnbobgfadhpaa.Dec
namespace Go.Proofs.Ytnhnbobgfadhpaa.Dec
open Go Go.RowKit Go.Shelf Go.Proofs.YtnhnbobgfadhpaaW.PrintWords Go.Proofs.YtnhnbobgfadhpaaW.PrintLast Go.Proofs.YtnhnbobgfadhpaaW.PrintMore Go.Proofs.Ytnhnbobgfadhpaa.Mp Go.Proofs.Ytnhnbobgfadhpaa.PDecreeStill
set_option linter.unusedVariables false
set_option linter.unusedSimpArgs false
variable {g : Nat} {L L' : Lay} {d : D} {W W1 w0 : World}
theorem below_of_turn {w0 W W1 : World} {g : Nat} {L L' : Lay} {d : D} (hB : Below w0.heap.size w0 W) (hT : Turn W W1 (Foot L g) (Foot L' g)) (h : IsD w0.heap.size W g L d) : Below w0.heap.size w0 W1 :=
  hB.trans (hT.to_below (fun k hk => h.foot_ge k hk) hB.size)
set_option maxRecDepth 100000 in
set_option maxHeartbeats 8000000 in
theorem do_twice (who sn : Int) (val : ByteArray) (w : World) (h : IsD w0.heap.size w g L d) (hB0 : Below w0.heap.size w0 w) (hwf : Wf d.sl.length d) (hn0 : 0 < d.sl.length) (hl : d.lt.length ≤ 1000000) (hlc : d.ch.length ≤ 1000000) (he : d.lt ≠ []) :
    Calls Try.prog 9 #[.pointer (some ⟨g, 0, none⟩), .agg #[.int .i64 3, .int .i64 who, .int .i64 sn, .string val]] w fun e w' => e = .returned (.tuple #[]) ∧
      ∃ L', IsD w0.heap.size w' g L' (doD d ⟨3, who, sn, val⟩) ∧ Turn w w' (Foot L g) (Foot L' g) := by
  have OW := Aside0.mk (Mem.Own.nil w)
  have HD := Aside0.mk h
  have HB0 := Aside0.mk hB0
  have HW := Aside0.mk hwf
  have HL := Aside0.mk hl
  have HLC := Aside0.mk hlc
  have HFT := Aside0.mk (fun k hk => h.foot_lt k hk)
  obtain ⟨n, hn⟩ : ∃ n, d.sl.length = n := ⟨_, rfl⟩
  have hn5 : n ≤ 5 := by have := h.sm; omega
  have hn1 : 0 < n := by omega
  have hmod := modulo_md who n hn1 (by omega)
  obtain ⟨a, ha⟩ : ∃ a, md who n = a := ⟨_, rfl⟩
  have hab := md_in who n hn1
  rw [ha] at hmod hab
  have HA := Aside0.mk ha
  have HAB := Aside0.mk hab
  have HMO := Aside0.mk (fun W => decree_modulo.calls who n a W hmod)
  have HN1 := Aside0.mk hn1
  have HN5 := Aside0.mk hn5
  clear h hB0 hwf hl hlc hmod hab ha hn0 hn1 hn5
  go_enter Try.func9, Try.ntmps9
  go_wp2_with (first
    | ((with_reducible refine gate_dst (N := 3) rfl ?_); refine box_event ?hg (N := 3) ?hd (cs := #[.int .i64 3, .int .i64 who, .int .i64 sn, .string val]) (t := 28) ?hr ?_; (case hd => rfl); (case hg => rfl); (case hr => first | (go_simp; done) | (go_simp; rfl)); intro gS hg W_ hb hbb; have n2 := Aside0.mk (HD.out.below hbb); clear HD; have HD := n2; clear n2; have n_ : Aside0 (Mem.Own w W_ [(gS, #[.int .i64 3, .int .i64 who, .int .i64 sn, .string val], 28)]) := ⟨OW.out.new hg hb hbb⟩; clear OW hb hbb hg; have OW := n_; clear n_))
  have OD := Aside0.mk OW.out.drew
  have ID := Aside0.mk HD.out.drew
  have c0 : W_.drew.cell? ⟨g, 0, none⟩ = some (.slice (some ⟨L.gs, 0, none⟩) n n) := by rw [← hn]; exact (blk_cell ID.out.blk 0).trans rfl
  have e1 : W_.drew.cell? ⟨gS, 1, none⟩ = some (.int .i64 who) := (OD.out.cell 0 rfl 1).trans rfl
  clear OW HD
  refine start_ (n := 9) (S := fun w' => Below (W_).drew.heap.size (W_).drew w') (ds := []) #[false, false, false, false, false, false, false, false, false] (by kernel_rfl) rfl rfl (Below.refl _ _) (fun hHeld => ?_)
  generalize (W_).drew = W0 at *
  refine pure_ (i := 0) (N := (some 7)) (v := ?_) (a' := ?_) #[true, false, false, false, false, false, false, false, false] rfl rfl (by kernel_rfl) (fun _ _ _ h => h) (Or.inl ⟨by rfl, ?_⟩) ?_ ?_
  rotate_left
  · intro w'
    go_simp
    first | done | with_reducible rfl
  rotate_left
  · simp only [Act.put, List.setIfInBounds_toArray, List.set_cons_zero, List.set_cons_succ, i64_w, i32_w]
    rfl
  refine take_ (i := 1) (N := (some 8)) (v := ?_) (a' := ?_) #[true, true, false, false, false, false, false, false, false] rfl rfl (by kernel_rfl) (fun _ _ _ h => h) (Or.inl ⟨by rfl, ?_⟩) hHeld ?_ ?_
  rotate_left
  · intro w' hS
    have s0 := pw_cell_below hS e1
    go_simp
    first | done | with_reducible rfl
  rotate_left
  · simp only [Act.put, List.setIfInBounds_toArray, List.set_cons_zero, List.set_cons_succ, i64_w, i32_w]
    rfl
  refine pure_ (i := 2) (N := (some 9)) (v := ?_) (a' := ?_) #[true, true, true, false, false, false, false, false, false] rfl rfl (by kernel_rfl) (fun _ _ _ h => h) (Or.inl ⟨by rfl, ?_⟩) ?_ ?_
  rotate_left
  · intro w'
    go_simp
    first | done | with_reducible rfl
  rotate_left
  · simp only [Act.put, List.setIfInBounds_toArray, List.set_cons_zero, List.set_cons_succ, i64_w, i32_w]
    rfl
  refine pure_ (i := 3) (N := (some 10)) (v := ?_) (a' := ?_) #[true, true, true, true, false, false, false, false, false] rfl rfl (by kernel_rfl) (fun _ _ _ h => h) (Or.inl ⟨by rfl, ?_⟩) ?_ ?_
  rotate_left
  · intro w'
    skip
    go_simp
    first | done | with_reducible rfl
  rotate_left
  · simp only [Act.put, List.setIfInBounds_toArray, List.set_cons_zero, List.set_cons_succ, i64_w, i32_w]
    rfl
  refine pure_ (i := 4) (N := (some 11)) (v := ?_) (a' := ?_) #[true, true, true, true, true, false, false, false, false] rfl rfl (by kernel_rfl) (fun _ _ _ h => h) (Or.inl ⟨by rfl, ?_⟩) ?_ ?_
  rotate_left
  · intro w'
    go_simp
    first | done | with_reducible rfl
  rotate_left
  · simp only [Act.put, List.setIfInBounds_toArray, List.set_cons_zero, List.set_cons_succ, i64_w, i32_w]
    rfl
  refine take_ (i := 5) (N := (some 12)) (v := ?_) (a' := ?_) #[true, true, true, true, true, true, false, false, false] rfl rfl (by kernel_rfl) (fun _ _ _ h => h) (Or.inl ⟨by rfl, ?_⟩) hHeld ?_ ?_
  rotate_left
  · intro w' hS
    have s0 := pw_cell_below hS c0
    go_simp
    first | done | with_reducible rfl
  rotate_left
  · simp only [Act.put, List.setIfInBounds_toArray, List.set_cons_zero, List.set_cons_succ, i64_w, i32_w]
    rfl
  refine pure_ (i := 6) (N := (some 13)) (v := ?_) (a' := ?_) #[true, true, true, true, true, true, true, false, false] rfl rfl (by kernel_rfl) (fun _ _ _ h => h) (Or.inl ⟨by rfl, ?_⟩) ?_ ?_
  rotate_left
  · intro w'
    go_simp
    first | done | with_reducible rfl
  rotate_left
  · simp only [Act.put, List.setIfInBounds_toArray, List.set_cons_zero, List.set_cons_succ, i64_w, i32_w]
    rfl
  refine one_ (i := 7) (N := (some 14)) #[true, true, true, true, true, true, true, true, false] rfl rfl (by kernel_rfl) (by decide) (fun K hK => ?_)
  refine goes_ Try.func15 (by kernel_rfl) rfl #[.int .i64 who, .int .i64 (n : Int)] (by rfl) rfl rfl (by (try simp only [List.map_toArray, List.map_cons, List.map_nil]); first | done | rfl) ?_
  refine (HMO.out _).mono ?_
  rintro e wa ⟨rfl, hB⟩
  obtain ⟨dm, hdm⟩ := hB.out
  refine ⟨_, rfl, ?_⟩
  have hS2 : Below W0.heap.size W0 wa := by rw [hdm]; exact pw_below_drewN hHeld dm
  clear hB hHeld hdm dm
  refine hK.out _ _ hS2 (fun hHeld => ?_)
  clear hK K
  refine norm_ (a' := ?_) ?_ ?_
  rotate_left
  · show Act.put _ (some 14) _ = _
    simp only [Act.put, List.setIfInBounds_toArray, List.set_cons_zero, List.set_cons_succ, i64_w, i32_w]
    rfl
  refine pure_ (i := 8) (N := (some 4)) (v := ?_) (a' := ?_) #[true, true, true, true, true, true, true, true, true] rfl rfl (by kernel_rfl) (fun _ _ _ h => h) (Or.inl ⟨by rfl, ?_⟩) ?_ ?_
  rotate_left
  · intro w'
    go_simp
    first | done | with_reducible rfl
  rotate_left
  · simp only [Act.put, List.setIfInBounds_toArray, List.set_cons_zero, List.set_cons_succ, i64_w, i32_w]
    rfl
  refine done_ (by kernel_rfl) ?_
  have OE := Aside0.mk (OD.out.step hHeld)
  have IE := Aside0.mk (ID.out.below hHeld)
  have BE := Aside0.mk (show Below w0.heap.size w0 wa from below_step HB0.out OE.out.below)
  have a0 := (OE.out.cell 0 rfl 0).trans (show _ = some (Value.int .i64 3) from rfl)
  have a2 := (OE.out.cell 0 rfl 2).trans (show _ = some (Value.int .i64 sn) from rfl)
  have a3 := (OE.out.cell 0 rfl 3).trans (show _ = some (Value.string val) from rfl)
  clear OD ID c0 e1 hHeld HMO
  obtain ⟨m, hm⟩ : ∃ m, d.lt.length = m := ⟨_, rfl⟩
  have hm0 : 0 < m := by rw [← hm]; exact List.length_pos_iff.2 he
  have hm1 : m ≤ 1000000 := by have := HL.out; omega
  obtain ⟨gl, c3, ev3, hc3⟩ : ∃ gl c3, L.vl = .slice (some ⟨gl, 0, none⟩) m c3 ∧ m ≤ c3 := by
    obtain ⟨A3, c3, ev3, hc3, _⟩ := Kd.R_reads IE.out.lt
    obtain ⟨gl, cp, e2, _⟩ := Kd.R_form IE.out.lt (by rw [hm]; exact hm0)
    rw [ev3] at e2
    injection e2 with e2 _ _
    exact ⟨gl, c3, by rw [ev3, e2, hm], by rw [← hm]; exact hc3⟩
  have hmod2 := modulo_md sn m hm0 (by omega)
  obtain ⟨i, hi⟩ : ∃ i : Nat, md sn m = i := ⟨(md sn m).toNat, by have := (md_in sn m hm0).1; omega⟩
  have hib := (md_in sn m hm0).2
  rw [hi] at hmod2 hib
  have HMO2 := Aside0.mk (fun W => decree_modulo.calls sn m i W hmod2)
  obtain ⟨x, hx⟩ : ∃ x, d.lt[i]? = some x := ⟨_, List.getElem?_eq_getElem (by omega)⟩
  have HX := Aside0.mk hx
  have HXW := Aside0.mk (HW.out.lt x (List.mem_of_getElem? hx))
  rw [hn] at HXW
  have HI := Aside0.mk hi
  have HM := Aside0.mk hm
  have HC3 := Aside0.mk hc3
  have HM1 := Aside0.mk hm1
  have HEV := Aside0.mk ev3
  have hwi := wrap_succ i m hib hm1
  have hmz : ((m : Int) == 0) = false := beq_eq_false_iff_ne.2 (by omega)
  have cL := (blk_cell IE.out.blk 2).trans (show _ = some L.vl from rfl)
  rw [ev3] at cL
  have HR : Aside0 (doD d ⟨3, who, sn, val⟩ = { d with lt := d.lt ++ [x] }) := ⟨by
    unfold doD
    rw [if_neg (show ¬ (3 : Int) = 0 by decide), if_neg (show ¬ (3 : Int) = 4 by decide), if_pos (show ((3 : Int) = 1 ∨ (3 : Int) = 2 ∨ (3 : Int) = 3) by decide)]
    show (match d.lt[(md sn d.lt.length).toNat]? with | none => d | some x => _) = _
    rw [hm, hi, Int.toNat_natCast, hx]
    rfl⟩
  obtain ⟨x0, x1, x2, x3, x4, x5⟩ := x
  clear he hm0 hm1 hc3 hmod2 hi hx hm ev3
  go_wp2_with fail
  have OD := Aside0.mk OE.out.drew
  have ID := Aside0.mk IE.out.drew
  have cLd : wa.drew.cell? ⟨g, 2, none⟩ = some (.slice (some ⟨gl, 0, none⟩) m c3) := cL
  have e2 : wa.drew.cell? ⟨gS, 2, none⟩ = some (.int .i64 sn) := a2
  have BD := Aside0.mk BE.out.drew
  clear OE IE a0 a2 a3 BE cL
  refine start_ (n := 9) (S := fun w' => Below (wa).drew.heap.size (wa).drew w') (ds := []) #[false, false, false, false, false, false, false, false, false] (by kernel_rfl) rfl rfl (Below.refl _ _) (fun hHeld => ?_)
  generalize (wa).drew = W0 at *
  refine pure_ (i := 0) (N := (some 39)) (v := ?_) (a' := ?_) #[true, false, false, false, false, false, false, false, false] rfl rfl (by kernel_rfl) (fun _ _ _ h => h) (Or.inl ⟨by rfl, ?_⟩) ?_ ?_
  rotate_left
  · intro w'
    go_simp
    first | done | with_reducible rfl
  rotate_left
  · simp only [Act.put, List.setIfInBounds_toArray, List.set_cons_zero, List.set_cons_succ, i64_w, i32_w]
    rfl
  refine take_ (i := 1) (N := (some 40)) (v := ?_) (a' := ?_) #[true, true, false, false, false, false, false, false, false] rfl rfl (by kernel_rfl) (fun _ _ _ h => h) (Or.inl ⟨by rfl, ?_⟩) hHeld ?_ ?_
  rotate_left
  · intro w' hS
    have s0 := pw_cell_below hS e2
    go_simp
    first | done | with_reducible rfl
  rotate_left
  · simp only [Act.put, List.setIfInBounds_toArray, List.set_cons_zero, List.set_cons_succ, i64_w, i32_w]
    rfl
  refine pure_ (i := 2) (N := (some 41)) (v := ?_) (a' := ?_) #[true, true, true, false, false, false, false, false, false] rfl rfl (by kernel_rfl) (fun _ _ _ h => h) (Or.inl ⟨by rfl, ?_⟩) ?_ ?_
  rotate_left
  · intro w'
    go_simp
    first | done | with_reducible rfl
  rotate_left
  · simp only [Act.put, List.setIfInBounds_toArray, List.set_cons_zero, List.set_cons_succ, i64_w, i32_w]
    rfl
  refine pure_ (i := 3) (N := (some 42)) (v := ?_) (a' := ?_) #[true, true, true, true, false, false, false, false, false] rfl rfl (by kernel_rfl) (fun _ _ _ h => h) (Or.inl ⟨by rfl, ?_⟩) ?_ ?_
  rotate_left
  · intro w'
    skip
    go_simp
    first | done | with_reducible rfl
  rotate_left
  · simp only [Act.put, List.setIfInBounds_toArray, List.set_cons_zero, List.set_cons_succ, i64_w, i32_w]
    rfl
  refine pure_ (i := 4) (N := (some 43)) (v := ?_) (a' := ?_) #[true, true, true, true, true, false, false, false, false] rfl rfl (by kernel_rfl) (fun _ _ _ h => h) (Or.inl ⟨by rfl, ?_⟩) ?_ ?_
  rotate_left
  · intro w'
    go_simp
    first | done | with_reducible rfl
  rotate_left
  · simp only [Act.put, List.setIfInBounds_toArray, List.set_cons_zero, List.set_cons_succ, i64_w, i32_w]
    rfl
  refine take_ (i := 5) (N := (some 44)) (v := ?_) (a' := ?_) #[true, true, true, true, true, true, false, false, false] rfl rfl (by kernel_rfl) (fun _ _ _ h => h) (Or.inl ⟨by rfl, ?_⟩) hHeld ?_ ?_
  rotate_left
  · intro w' hS
    have s0 := pw_cell_below hS cLd
    go_simp
    first | done | with_reducible rfl
  rotate_left
  · simp only [Act.put, List.setIfInBounds_toArray, List.set_cons_zero, List.set_cons_succ, i64_w, i32_w]
    rfl
  refine pure_ (i := 6) (N := (some 45)) (v := ?_) (a' := ?_) #[true, true, true, true, true, true, true, false, false] rfl rfl (by kernel_rfl) (fun _ _ _ h => h) (Or.inl ⟨by rfl, ?_⟩) ?_ ?_
  rotate_left
  · intro w'
    go_simp
    first | done | with_reducible rfl
  rotate_left
  · simp only [Act.put, List.setIfInBounds_toArray, List.set_cons_zero, List.set_cons_succ, i64_w, i32_w]
    rfl
  refine one_ (i := 7) (N := (some 46)) #[true, true, true, true, true, true, true, true, false] rfl rfl (by kernel_rfl) (by decide) (fun K hK => ?_)
  refine goes_ Try.func15 (by kernel_rfl) rfl #[.int .i64 sn, .int .i64 (m : Int)] (by rfl) rfl rfl (by (try simp only [List.map_toArray, List.map_cons, List.map_nil]); first | done | rfl) ?_
  refine (HMO2.out _).mono ?_
  rintro e wb ⟨rfl, hB⟩
  obtain ⟨dm, hdm⟩ := hB.out
  refine ⟨_, rfl, ?_⟩
  have hS2 : Below W0.heap.size W0 wb := by rw [hdm]; exact pw_below_drewN hHeld dm
  clear hB hHeld hdm dm
  refine hK.out _ _ hS2 (fun hHeld => ?_)
  clear hK K
  refine norm_ (a' := ?_) ?_ ?_
  rotate_left
  · show Act.put _ (some 46) _ = _
    simp only [Act.put, List.setIfInBounds_toArray, List.set_cons_zero, List.set_cons_succ, i64_w, i32_w]
    rfl
  refine pure_ (i := 8) (N := (some 5)) (v := ?_) (a' := ?_) #[true, true, true, true, true, true, true, true, true] rfl rfl (by kernel_rfl) (fun _ _ _ h => h) (Or.inl ⟨by rfl, ?_⟩) ?_ ?_
  rotate_left
  · intro w'
    go_simp
    first | done | with_reducible rfl
  rotate_left
  · simp only [Act.put, List.setIfInBounds_toArray, List.set_cons_zero, List.set_cons_succ, i64_w, i32_w]
    rfl
  refine done_ (by kernel_rfl) ?_
  have OW := Aside0.mk (OD.out.step hHeld)
  have IE := Aside0.mk (ID.out.below hHeld)
  have BE := Aside0.mk (below_step BD.out hHeld)
  have hRw := IE.out.lt
  rw [HEV.out] at hRw
  obtain ⟨p0, p1, p2, p3, p4, p5⟩ := kl_elem hRw HX.out
  have q0 : wb.cell? ⟨gl, i * 6, none⟩ = some (.int .i64 x0) := p0
  have q1 : wb.cell? ⟨gl, i * 6 + 1, none⟩ = some (.int .i64 x1) := p1
  have q2 : wb.cell? ⟨gl, i * 6 + 2, none⟩ = some (.int .i64 x2) := p2
  have q3 : wb.cell? ⟨gl, i * 6 + 3, none⟩ = some (.int .i64 x3) := p3
  have q4 : wb.cell? ⟨gl, i * 6 + 4, none⟩ = some (.int .i64 x4) := p4
  have q5 : wb.cell? ⟨gl, i * 6 + 5, none⟩ = some (.string x5) := p5
  clear p0 p1 p2 p3 p4 p5
  have cL := (blk_cell IE.out.blk 2).trans (show _ = some L.vl from rfl)
  rw [HEV.out] at cL
  have a0 : ∀ o, (wb.alloc o).cell? ⟨gS, 0, none⟩ = some (Value.int .i64 3) := fun o => (blk_cell ((Below.heap_alloc wb o gS (blk_lt (OW.out.blk 0 rfl))).trans (OW.out.blk 0 rfl)) 0).trans rfl
  have cLo : ∀ o, (wb.alloc o).cell? ⟨g, 2, none⟩ = some (.slice (some ⟨gl, 0, none⟩) m c3) := fun o => ((below_alloc (Below.refl wb.heap.size wb) o).cell (World.block_lt_of_cell? _ _ cL)).trans cL
  clear OD ID BD cLd e2 hHeld HMO2 hRw
  go_wp2_with fail
  have HBY := Aside0.mk (below_alloc (Below.refl wb.heap.size wb) (.cells #[.int .i64 x0, .int .i64 x1, .int .i64 x2, .int .i64 x3, .int .i64 x4, .string x5] 49))
  have YB := Aside0.mk (blk_new wb (.cells #[.int .i64 x0, .int .i64 x1, .int .i64 x2, .int .i64 x3, .int .i64 x4, .string x5] 49))
  obtain ⟨gY, hgY⟩ : ∃ gY, wb.heap.size = gY := ⟨_, rfl⟩
  rw [hgY] at YB ⊢
  generalize wb.alloc (.cells #[.int .i64 x0, .int .i64 x1, .int .i64 x2, .int .i64 x3, .int .i64 x4, .string x5] 49) = wc at *
  have IC := Aside0.mk (IE.out.below HBY.out)
  have TC := Aside0.mk (Turn.below (F := Foot L g) (show Below w.heap.size w wc from below_step OW.out.below HBY.out))
  have BC := Aside0.mk (below_step BE.out HBY.out)
  have GY := Aside0.mk (show w.heap.size ≤ gY by rw [← hgY]; exact OW.out.size)
  have SB := Aside0.mk (blk_below (OW.out.blk 0 rfl) HBY.out)
  have GS := Aside0.mk (OW.out.new_le 0 rfl)
  clear IE BE HBY cL cLo q0 q1 q2 q3 q4 q5 a0 OW
  have ID := Aside0.mk IC.out.drew
  have TD := Aside0.mk TC.out.drew
  have BD := Aside0.mk BC.out.drew
  have YD : Aside0 (wc.drew.heap[gY]? = _) := ⟨YB.out⟩
  have cL : wc.drew.cell? ⟨g, 2, none⟩ = some L.vl := (blk_cell ID.out.blk 2).trans rfl
  have e0 : wc.drew.cell? ⟨gY, 0, none⟩ = some (.int .i64 x0) := (blk_cell YD.out 0).trans rfl
  have e1 : wc.drew.cell? ⟨gY, 1, none⟩ = some (.int .i64 x1) := (blk_cell YD.out 1).trans rfl
  have e2 : wc.drew.cell? ⟨gY, 2, none⟩ = some (.int .i64 x2) := (blk_cell YD.out 2).trans rfl
  have e3 : wc.drew.cell? ⟨gY, 3, none⟩ = some (.int .i64 x3) := (blk_cell YD.out 3).trans rfl
  have e4 : wc.drew.cell? ⟨gY, 4, none⟩ = some (.int .i64 x4) := (blk_cell YD.out 4).trans rfl
  have e5 : wc.drew.cell? ⟨gY, 5, none⟩ = some (.string x5) := (blk_cell YD.out 5).trans rfl
  clear IC TC BC YB SB
  refine start_ (n := 11) (S := fun w' => Below (wc).drew.heap.size (wc).drew w') (ds := [7, 10]) #[false, false, false, false, false, false, false, false, false, false, false] (by kernel_rfl) rfl rfl (Below.refl _ _) (fun hHeld => ?_)
  generalize (wc).drew = W0 at *
  refine pure_ (i := 0) (N := (some 57)) (v := ?_) (a' := ?_) #[true, false, false, false, false, false, false, false, false, false, false] rfl rfl (by kernel_rfl) (fun _ _ _ h => h) (Or.inl ⟨by rfl, ?_⟩) ?_ ?_
  rotate_left
  · intro w'
    go_simp
    first | done | with_reducible rfl
  rotate_left
  · simp only [Act.put, List.setIfInBounds_toArray, List.set_cons_zero, List.set_cons_succ, i64_w, i32_w]
    rfl
  refine pure_ (i := 1) (N := (some 58)) (v := ?_) (a' := ?_) #[true, true, false, false, false, false, false, false, false, false, false] rfl rfl (by kernel_rfl) (fun _ _ _ h => h) (Or.inl ⟨by rfl, ?_⟩) ?_ ?_
  rotate_left
  · intro w'
    go_simp
    first | done | with_reducible rfl
  rotate_left
  · simp only [Act.put, List.setIfInBounds_toArray, List.set_cons_zero, List.set_cons_succ, i64_w, i32_w]
    rfl
  refine pure_ (i := 2) (N := (some 59)) (v := ?_) (a' := ?_) #[true, true, true, false, false, false, false, false, false, false, false] rfl rfl (by kernel_rfl) (fun _ _ _ h => h) (Or.inl ⟨by rfl, ?_⟩) ?_ ?_
  rotate_left
  · intro w'
    skip
    go_simp
    first | done | with_reducible rfl
  rotate_left
  · simp only [Act.put, List.setIfInBounds_toArray, List.set_cons_zero, List.set_cons_succ, i64_w, i32_w]
    rfl
  refine pure_ (i := 3) (N := (some 60)) (v := ?_) (a' := ?_) #[true, true, true, true, false, false, false, false, false, false, false] rfl rfl (by kernel_rfl) (fun _ _ _ h => h) (Or.inl ⟨by rfl, ?_⟩) ?_ ?_
  rotate_left
  · intro w'
    go_simp
    first | done | with_reducible rfl
  rotate_left
  · simp only [Act.put, List.setIfInBounds_toArray, List.set_cons_zero, List.set_cons_succ, i64_w, i32_w]
    rfl
  refine take_ (i := 4) (N := (some 61)) (v := ?_) (a' := ?_) #[true, true, true, true, true, false, false, false, false, false, false] rfl rfl (by kernel_rfl) (fun _ _ _ h => h) (Or.inl ⟨by rfl, ?_⟩) hHeld ?_ ?_
  rotate_left
  · intro w' hS
    have s0 := pw_cell_below hS cL
    go_simp
    first | done | with_reducible rfl
  rotate_left
  · simp only [Act.put, List.setIfInBounds_toArray, List.set_cons_zero, List.set_cons_succ, i64_w, i32_w]
    rfl
  refine take_ (i := 5) (N := (some 62)) (v := ?_) (a' := ?_) #[true, true, true, true, true, true, false, false, false, false, false] rfl rfl (by kernel_rfl) (fun _ _ _ h => h) (Or.inl ⟨by rfl, ?_⟩) hHeld ?_ ?_
  rotate_left
  · intro w' hS
    have s0 := pw_cell_below hS e0
    have s1 := pw_cell_below hS e1
    have s2 := pw_cell_below hS e2
    have s3 := pw_cell_below hS e3
    have s4 := pw_cell_below hS e4
    have s5 := pw_cell_below hS e5
    go_simp
    first | done | with_reducible rfl
  rotate_left
  · simp only [Act.put, List.setIfInBounds_toArray, List.set_cons_zero, List.set_cons_succ, i64_w, i32_w]
    rfl
  refine one_ (i := 6) (N := (some 63)) #[true, true, true, true, true, true, true, false, false, false, false] rfl rfl (by kernel_rfl) (by decide) (fun K hK => ?_)
  refine value_ (v := .slice (some ⟨W0.heap.size, 0, none⟩) 1 1) (w1 := W0.alloc (.cells (encL ⟨x0, x1, x2, x3, x4, x5⟩).toArray 49)) (by rfl) rfl (by first | (go_simp; done) | (go_simp; rfl)) ?_
  have hS2 : Below W0.heap.size W0 (W0.alloc (.cells (encL ⟨x0, x1, x2, x3, x4, x5⟩).toArray 49)) := below_alloc (Below.refl _ _) _
  refine hK.out _ _ hS2 (fun hHeld => ?_)
  clear hK K
  refine norm_ (a' := ?_) ?_ ?_
  rotate_left
  · show Act.put _ (some 63) _ = _
    simp only [Act.put, List.setIfInBounds_toArray, List.set_cons_zero, List.set_cons_succ, i64_w, i32_w]
    rfl
  refine last_ (i := 7) (N := (some 64)) #[true, true, true, true, true, true, true, true, false, false, false] rfl rfl (by kernel_rfl) (by decide) (fun K hK => ?_)
  refine Kd.R_append_step (P := Try.prog) KL (w0 := W0) (W := W0) w0.heap.size (by rfl) (.tmp 61) (.tmp 63) 42 49 (.agg #[.int .i64 0, .int .i64 0, .int .i64 0, .int .i64 0, .int .i64 0, .string ⟨#[]⟩]) 56 rfl Try.underlying42 info_L rfl (by decide) (by decide) L.vl d.lt ⟨x0, x1, x2, x3, x4, x5⟩ (encL ⟨x0, x1, x2, x3, x4, x5⟩) (fun _ => True) (fun _ => False) rfl rfl rfl (fun _ h => h.elim) (fun _ _ => trivial) ID.out.lt (Below.refl _ _) BD.out.size (by have := HL.out; omega) ?_
  intro v1 w1 hr1 hb1 hg1 hat1
  have hgb := ID.out.blk_lt_ hg1
  have z2 := (blk_cell hgb 2).trans rfl
  have y2 := blk_frozen hgb 2
  have HA := Aside0.mk (ID.out.app_lt hr1 hg1 hat1)
  obtain ⟨A1, m1, c1, ev1⟩ := R_sl hr1
  clear hr1 hb1 hg1 hat1 hgb
  subst ev1
  refine hK.out _ _ ?_
  clear hK K
  refine norm_ (a' := ?_) ?_ ?_
  rotate_left
  · show Act.put _ (some 64) _ = _
    simp only [Act.put, List.setIfInBounds_toArray, List.set_cons_zero, List.set_cons_succ, i64_w, i32_w]
    rfl
  refine pure_ (i := 8) (N := (some 65)) (v := ?_) (a' := ?_) #[true, true, true, true, true, true, true, true, true, false, false] rfl rfl (by kernel_rfl) (fun _ _ _ h => h) (Or.inl ⟨by rfl, ?_⟩) ?_ ?_
  rotate_left
  · intro w'
    skip
    go_simp
    first | done | with_reducible rfl
  rotate_left
  · simp only [Act.put, List.setIfInBounds_toArray, List.set_cons_zero, List.set_cons_succ, i64_w, i32_w]
    rfl
  refine pure_ (i := 9) (N := (some 66)) (v := ?_) (a' := ?_) #[true, true, true, true, true, true, true, true, true, true, false] rfl rfl (by kernel_rfl) (fun _ _ _ h => h) (Or.inl ⟨by rfl, ?_⟩) ?_ ?_
  rotate_left
  · intro w'
    go_simp
    first | done | with_reducible rfl
  rotate_left
  · simp only [Act.put, List.setIfInBounds_toArray, List.set_cons_zero, List.set_cons_succ, i64_w, i32_w]
    rfl
  refine last_ (i := 10) (N := none) #[true, true, true, true, true, true, true, true, true, true, true] rfl rfl (by kernel_rfl) (by decide) (fun K hK => ?_)
  refine skip_ (by rfl) rfl (by first | (go_simp; done) | (go_simp; rfl)) ?_
  refine hK.out _ _ ?_
  clear hK K
  refine done_ (by kernel_rfl) ?_
  go_wp2_with fail
  refine bodyPost_ret (results_none rfl _ _ _) rfl ⟨rfl, _, ?_, TD.out.trans HA.out.2⟩
  rw [HR.out]
  exact HA.out.1
set_option maxRecDepth 100000 in
set_option maxHeartbeats 8000000 in
theorem do_lose (who sn : Int) (val : ByteArray) (w : World) (h : IsD w0.heap.size w g L d) (hB0 : Below w0.heap.size w0 w) (hwf : Wf d.sl.length d) (hn0 : 0 < d.sl.length) (hl : d.lt.length ≤ 1000000) (hlc : d.ch.length ≤ 1000000) (he : d.lt ≠ []) :
    Calls Try.prog 9 #[.pointer (some ⟨g, 0, none⟩), .agg #[.int .i64 2, .int .i64 who, .int .i64 sn, .string val]] w fun e w' => e = .returned (.tuple #[]) ∧
      ∃ L', IsD w0.heap.size w' g L' (doD d ⟨2, who, sn, val⟩) ∧ Turn w w' (Foot L g) (Foot L' g) := by
  have OW := Aside0.mk (Mem.Own.nil w)
  have HD := Aside0.mk h
  have HB0 := Aside0.mk hB0
  have HW := Aside0.mk hwf
  have HL := Aside0.mk hl
  have HLC := Aside0.mk hlc
  have HFT := Aside0.mk (fun k hk => h.foot_lt k hk)
  obtain ⟨n, hn⟩ : ∃ n, d.sl.length = n := ⟨_, rfl⟩
  have hn5 : n ≤ 5 := by have := h.sm; omega
  have hn1 : 0 < n := by omega
  have hmod := modulo_md who n hn1 (by omega)
  obtain ⟨a, ha⟩ : ∃ a, md who n = a := ⟨_, rfl⟩
  have hab := md_in who n hn1
  rw [ha] at hmod hab
  have HA := Aside0.mk ha
  have HAB := Aside0.mk hab
  have HMO := Aside0.mk (fun W => decree_modulo.calls who n a W hmod)
  have HN1 := Aside0.mk hn1
  have HN5 := Aside0.mk hn5
  clear h hB0 hwf hl hlc hmod hab ha hn0 hn1 hn5
  go_enter Try.func9, Try.ntmps9
  go_wp2_with (first
    | ((with_reducible refine gate_dst (N := 3) rfl ?_); refine box_event ?hg (N := 3) ?hd (cs := #[.int .i64 2, .int .i64 who, .int .i64 sn, .string val]) (t := 28) ?hr ?_; (case hd => rfl); (case hg => rfl); (case hr => first | (go_simp; done) | (go_simp; rfl)); intro gS hg W_ hb hbb; have n2 := Aside0.mk (HD.out.below hbb); clear HD; have HD := n2; clear n2; have n_ : Aside0 (Mem.Own w W_ [(gS, #[.int .i64 2, .int .i64 who, .int .i64 sn, .string val], 28)]) := ⟨OW.out.new hg hb hbb⟩; clear OW hb hbb hg; have OW := n_; clear n_))
  have OD := Aside0.mk OW.out.drew
  have ID := Aside0.mk HD.out.drew
  have c0 : W_.drew.cell? ⟨g, 0, none⟩ = some (.slice (some ⟨L.gs, 0, none⟩) n n) := by rw [← hn]; exact (blk_cell ID.out.blk 0).trans rfl
  have e1 : W_.drew.cell? ⟨gS, 1, none⟩ = some (.int .i64 who) := (OD.out.cell 0 rfl 1).trans rfl
  clear OW HD
  refine start_ (n := 9) (S := fun w' => Below (W_).drew.heap.size (W_).drew w') (ds := []) #[false, false, false, false, false, false, false, false, false] (by kernel_rfl) rfl rfl (Below.refl _ _) (fun hHeld => ?_)
  generalize (W_).drew = W0 at *
  refine pure_ (i := 0) (N := (some 7)) (v := ?_) (a' := ?_) #[true, false, false, false, false, false, false, false, false] rfl rfl (by kernel_rfl) (fun _ _ _ h => h) (Or.inl ⟨by rfl, ?_⟩) ?_ ?_
  rotate_left
  · intro w'
    go_simp
    first | done | with_reducible rfl
  rotate_left
  · simp only [Act.put, List.setIfInBounds_toArray, List.set_cons_zero, List.set_cons_succ, i64_w, i32_w]
    rfl
  refine take_ (i := 1) (N := (some 8)) (v := ?_) (a' := ?_) #[true, true, false, false, false, false, false, false, false] rfl rfl (by kernel_rfl) (fun _ _ _ h => h) (Or.inl ⟨by rfl, ?_⟩) hHeld ?_ ?_
  rotate_left
  · intro w' hS
    have s0 := pw_cell_below hS e1
    go_simp
    first | done | with_reducible rfl
  rotate_left
  · simp only [Act.put, List.setIfInBounds_toArray, List.set_cons_zero, List.set_cons_succ, i64_w, i32_w]
    rfl
  refine pure_ (i := 2) (N := (some 9)) (v := ?_) (a' := ?_) #[true, true, true, false, false, false, false, false, false] rfl rfl (by kernel_rfl) (fun _ _ _ h => h) (Or.inl ⟨by rfl, ?_⟩) ?_ ?_
  rotate_left
  · intro w'
    go_simp
    first | done | with_reducible rfl
  rotate_left
  · simp only [Act.put, List.setIfInBounds_toArray, List.set_cons_zero, List.set_cons_succ, i64_w, i32_w]
    rfl
  refine pure_ (i := 3) (N := (some 10)) (v := ?_) (a' := ?_) #[true, true, true, true, false, false, false, false, false] rfl rfl (by kernel_rfl) (fun _ _ _ h => h) (Or.inl ⟨by rfl, ?_⟩) ?_ ?_
  rotate_left
  · intro w'
    skip
    go_simp
    first | done | with_reducible rfl
  rotate_left
  · simp only [Act.put, List.setIfInBounds_toArray, List.set_cons_zero, List.set_cons_succ, i64_w, i32_w]
    rfl
  refine pure_ (i := 4) (N := (some 11)) (v := ?_) (a' := ?_) #[true, true, true, true, true, false, false, false, false] rfl rfl (by kernel_rfl) (fun _ _ _ h => h) (Or.inl ⟨by rfl, ?_⟩) ?_ ?_
  rotate_left
  · intro w'
    go_simp
    first | done | with_reducible rfl
  rotate_left
  · simp only [Act.put, List.setIfInBounds_toArray, List.set_cons_zero, List.set_cons_succ, i64_w, i32_w]
    rfl
  refine take_ (i := 5) (N := (some 12)) (v := ?_) (a' := ?_) #[true, true, true, true, true, true, false, false, false] rfl rfl (by kernel_rfl) (fun _ _ _ h => h) (Or.inl ⟨by rfl, ?_⟩) hHeld ?_ ?_
  rotate_left
  · intro w' hS
    have s0 := pw_cell_below hS c0
    go_simp
    first | done | with_reducible rfl
  rotate_left
  · simp only [Act.put, List.setIfInBounds_toArray, List.set_cons_zero, List.set_cons_succ, i64_w, i32_w]
    rfl
  refine pure_ (i := 6) (N := (some 13)) (v := ?_) (a' := ?_) #[true, true, true, true, true, true, true, false, false] rfl rfl (by kernel_rfl) (fun _ _ _ h => h) (Or.inl ⟨by rfl, ?_⟩) ?_ ?_
  rotate_left
  · intro w'
    go_simp
    first | done | with_reducible rfl
  rotate_left
  · simp only [Act.put, List.setIfInBounds_toArray, List.set_cons_zero, List.set_cons_succ, i64_w, i32_w]
    rfl
  refine one_ (i := 7) (N := (some 14)) #[true, true, true, true, true, true, true, true, false] rfl rfl (by kernel_rfl) (by decide) (fun K hK => ?_)
  refine goes_ Try.func15 (by kernel_rfl) rfl #[.int .i64 who, .int .i64 (n : Int)] (by rfl) rfl rfl (by (try simp only [List.map_toArray, List.map_cons, List.map_nil]); first | done | rfl) ?_
  refine (HMO.out _).mono ?_
  rintro e wa ⟨rfl, hB⟩
  obtain ⟨dm, hdm⟩ := hB.out
  refine ⟨_, rfl, ?_⟩
  have hS2 : Below W0.heap.size W0 wa := by rw [hdm]; exact pw_below_drewN hHeld dm
  clear hB hHeld hdm dm
  refine hK.out _ _ hS2 (fun hHeld => ?_)
  clear hK K
  refine norm_ (a' := ?_) ?_ ?_
  rotate_left
  · show Act.put _ (some 14) _ = _
    simp only [Act.put, List.setIfInBounds_toArray, List.set_cons_zero, List.set_cons_succ, i64_w, i32_w]
    rfl
  refine pure_ (i := 8) (N := (some 4)) (v := ?_) (a' := ?_) #[true, true, true, true, true, true, true, true, true] rfl rfl (by kernel_rfl) (fun _ _ _ h => h) (Or.inl ⟨by rfl, ?_⟩) ?_ ?_
  rotate_left
  · intro w'
    go_simp
    first | done | with_reducible rfl
  rotate_left
  · simp only [Act.put, List.setIfInBounds_toArray, List.set_cons_zero, List.set_cons_succ, i64_w, i32_w]
    rfl
  refine done_ (by kernel_rfl) ?_
  have OE := Aside0.mk (OD.out.step hHeld)
  have IE := Aside0.mk (ID.out.below hHeld)
  have BE := Aside0.mk (show Below w0.heap.size w0 wa from below_step HB0.out OE.out.below)
  have a0 := (OE.out.cell 0 rfl 0).trans (show _ = some (Value.int .i64 2) from rfl)
  have a2 := (OE.out.cell 0 rfl 2).trans (show _ = some (Value.int .i64 sn) from rfl)
  have a3 := (OE.out.cell 0 rfl 3).trans (show _ = some (Value.string val) from rfl)
  clear OD ID c0 e1 hHeld HMO
  obtain ⟨m, hm⟩ : ∃ m, d.lt.length = m := ⟨_, rfl⟩
  have hm0 : 0 < m := by rw [← hm]; exact List.length_pos_iff.2 he
  have hm1 : m ≤ 1000000 := by have := HL.out; omega
  obtain ⟨gl, c3, ev3, hc3⟩ : ∃ gl c3, L.vl = .slice (some ⟨gl, 0, none⟩) m c3 ∧ m ≤ c3 := by
    obtain ⟨A3, c3, ev3, hc3, _⟩ := Kd.R_reads IE.out.lt
    obtain ⟨gl, cp, e2, _⟩ := Kd.R_form IE.out.lt (by rw [hm]; exact hm0)
    rw [ev3] at e2
    injection e2 with e2 _ _
    exact ⟨gl, c3, by rw [ev3, e2, hm], by rw [← hm]; exact hc3⟩
  have hmod2 := modulo_md sn m hm0 (by omega)
  obtain ⟨i, hi⟩ : ∃ i : Nat, md sn m = i := ⟨(md sn m).toNat, by have := (md_in sn m hm0).1; omega⟩
  have hib := (md_in sn m hm0).2
  rw [hi] at hmod2 hib
  have HMO2 := Aside0.mk (fun W => decree_modulo.calls sn m i W hmod2)
  obtain ⟨x, hx⟩ : ∃ x, d.lt[i]? = some x := ⟨_, List.getElem?_eq_getElem (by omega)⟩
  have HX := Aside0.mk hx
  have HXW := Aside0.mk (HW.out.lt x (List.mem_of_getElem? hx))
  rw [hn] at HXW
  have HI := Aside0.mk hi
  have HM := Aside0.mk hm
  have HC3 := Aside0.mk hc3
  have HM1 := Aside0.mk hm1
  have HEV := Aside0.mk ev3
  have hwi := wrap_succ i m hib hm1
  have hmz : ((m : Int) == 0) = false := beq_eq_false_iff_ne.2 (by omega)
  have cL := (blk_cell IE.out.blk 2).trans (show _ = some L.vl from rfl)
  rw [ev3] at cL
  have HR : Aside0 (doD d ⟨2, who, sn, val⟩ = { d with lt := d.lt.eraseIdx i }) := ⟨by
    unfold doD
    rw [if_neg (show ¬ (2 : Int) = 0 by decide), if_neg (show ¬ (2 : Int) = 4 by decide), if_pos (show ((2 : Int) = 1 ∨ (2 : Int) = 2 ∨ (2 : Int) = 3) by decide)]
    show (match d.lt[(md sn d.lt.length).toNat]? with | none => d | some x => _) = _
    rw [hm, hi, Int.toNat_natCast, hx]
    rfl⟩
  obtain ⟨x0, x1, x2, x3, x4, x5⟩ := x
  clear he hm0 hm1 hc3 hmod2 hi hx hm ev3
  go_wp2_with fail
  have OD := Aside0.mk OE.out.drew
  have ID := Aside0.mk IE.out.drew
  have cLd : wa.drew.cell? ⟨g, 2, none⟩ = some (.slice (some ⟨gl, 0, none⟩) m c3) := cL
  have e2 : wa.drew.cell? ⟨gS, 2, none⟩ = some (.int .i64 sn) := a2
  have BD := Aside0.mk BE.out.drew
  clear OE IE a0 a2 a3 BE cL
  refine start_ (n := 9) (S := fun w' => Below (wa).drew.heap.size (wa).drew w') (ds := []) #[false, false, false, false, false, false, false, false, false] (by kernel_rfl) rfl rfl (Below.refl _ _) (fun hHeld => ?_)
  generalize (wa).drew = W0 at *
  refine pure_ (i := 0) (N := (some 39)) (v := ?_) (a' := ?_) #[true, false, false, false, false, false, false, false, false] rfl rfl (by kernel_rfl) (fun _ _ _ h => h) (Or.inl ⟨by rfl, ?_⟩) ?_ ?_
  rotate_left
  · intro w'
    go_simp
    first | done | with_reducible rfl
  rotate_left
  · simp only [Act.put, List.setIfInBounds_toArray, List.set_cons_zero, List.set_cons_succ, i64_w, i32_w]
    rfl
  refine take_ (i := 1) (N := (some 40)) (v := ?_) (a' := ?_) #[true, true, false, false, false, false, false, false, false] rfl rfl (by kernel_rfl) (fun _ _ _ h => h) (Or.inl ⟨by rfl, ?_⟩) hHeld ?_ ?_
  rotate_left
  · intro w' hS
    have s0 := pw_cell_below hS e2
    go_simp
    first | done | with_reducible rfl
  rotate_left
  · simp only [Act.put, List.setIfInBounds_toArray, List.set_cons_zero, List.set_cons_succ, i64_w, i32_w]
    rfl
  refine pure_ (i := 2) (N := (some 41)) (v := ?_) (a' := ?_) #[true, true, true, false, false, false, false, false, false] rfl rfl (by kernel_rfl) (fun _ _ _ h => h) (Or.inl ⟨by rfl, ?_⟩) ?_ ?_
  rotate_left
  · intro w'
    go_simp
    first | done | with_reducible rfl
  rotate_left
  · simp only [Act.put, List.setIfInBounds_toArray, List.set_cons_zero, List.set_cons_succ, i64_w, i32_w]
    rfl
  refine pure_ (i := 3) (N := (some 42)) (v := ?_) (a' := ?_) #[true, true, true, true, false, false, false, false, false] rfl rfl (by kernel_rfl) (fun _ _ _ h => h) (Or.inl ⟨by rfl, ?_⟩) ?_ ?_
  rotate_left
  · intro w'
    skip
    go_simp
    first | done | with_reducible rfl
  rotate_left
  · simp only [Act.put, List.setIfInBounds_toArray, List.set_cons_zero, List.set_cons_succ, i64_w, i32_w]
    rfl
  refine pure_ (i := 4) (N := (some 43)) (v := ?_) (a' := ?_) #[true, true, true, true, true, false, false, false, false] rfl rfl (by kernel_rfl) (fun _ _ _ h => h) (Or.inl ⟨by rfl, ?_⟩) ?_ ?_
  rotate_left
  · intro w'
    go_simp
    first | done | with_reducible rfl
  rotate_left
  · simp only [Act.put, List.setIfInBounds_toArray, List.set_cons_zero, List.set_cons_succ, i64_w, i32_w]
    rfl
  refine take_ (i := 5) (N := (some 44)) (v := ?_) (a' := ?_) #[true, true, true, true, true, true, false, false, false] rfl rfl (by kernel_rfl) (fun _ _ _ h => h) (Or.inl ⟨by rfl, ?_⟩) hHeld ?_ ?_
  rotate_left
  · intro w' hS
    have s0 := pw_cell_below hS cLd
    go_simp
    first | done | with_reducible rfl
  rotate_left
  · simp only [Act.put, List.setIfInBounds_toArray, List.set_cons_zero, List.set_cons_succ, i64_w, i32_w]
    rfl
  refine pure_ (i := 6) (N := (some 45)) (v := ?_) (a' := ?_) #[true, true, true, true, true, true, true, false, false] rfl rfl (by kernel_rfl) (fun _ _ _ h => h) (Or.inl ⟨by rfl, ?_⟩) ?_ ?_
  rotate_left
  · intro w'
    go_simp
    first | done | with_reducible rfl
  rotate_left
  · simp only [Act.put, List.setIfInBounds_toArray, List.set_cons_zero, List.set_cons_succ, i64_w, i32_w]
    rfl
  refine one_ (i := 7) (N := (some 46)) #[true, true, true, true, true, true, true, true, false] rfl rfl (by kernel_rfl) (by decide) (fun K hK => ?_)
  refine goes_ Try.func15 (by kernel_rfl) rfl #[.int .i64 sn, .int .i64 (m : Int)] (by rfl) rfl rfl (by (try simp only [List.map_toArray, List.map_cons, List.map_nil]); first | done | rfl) ?_
  refine (HMO2.out _).mono ?_
  rintro e wb ⟨rfl, hB⟩
  obtain ⟨dm, hdm⟩ := hB.out
  refine ⟨_, rfl, ?_⟩
  have hS2 : Below W0.heap.size W0 wb := by rw [hdm]; exact pw_below_drewN hHeld dm
  clear hB hHeld hdm dm
  refine hK.out _ _ hS2 (fun hHeld => ?_)
  clear hK K
  refine norm_ (a' := ?_) ?_ ?_
  rotate_left
  · show Act.put _ (some 46) _ = _
    simp only [Act.put, List.setIfInBounds_toArray, List.set_cons_zero, List.set_cons_succ, i64_w, i32_w]
    rfl
  refine pure_ (i := 8) (N := (some 5)) (v := ?_) (a' := ?_) #[true, true, true, true, true, true, true, true, true] rfl rfl (by kernel_rfl) (fun _ _ _ h => h) (Or.inl ⟨by rfl, ?_⟩) ?_ ?_
  rotate_left
  · intro w'
    go_simp
    first | done | with_reducible rfl
  rotate_left
  · simp only [Act.put, List.setIfInBounds_toArray, List.set_cons_zero, List.set_cons_succ, i64_w, i32_w]
    rfl
  refine done_ (by kernel_rfl) ?_
  have OW := Aside0.mk (OD.out.step hHeld)
  have IE := Aside0.mk (ID.out.below hHeld)
  have BE := Aside0.mk (below_step BD.out hHeld)
  have hRw := IE.out.lt
  rw [HEV.out] at hRw
  obtain ⟨p0, p1, p2, p3, p4, p5⟩ := kl_elem hRw HX.out
  have q0 : wb.cell? ⟨gl, i * 6, none⟩ = some (.int .i64 x0) := p0
  have q1 : wb.cell? ⟨gl, i * 6 + 1, none⟩ = some (.int .i64 x1) := p1
  have q2 : wb.cell? ⟨gl, i * 6 + 2, none⟩ = some (.int .i64 x2) := p2
  have q3 : wb.cell? ⟨gl, i * 6 + 3, none⟩ = some (.int .i64 x3) := p3
  have q4 : wb.cell? ⟨gl, i * 6 + 4, none⟩ = some (.int .i64 x4) := p4
  have q5 : wb.cell? ⟨gl, i * 6 + 5, none⟩ = some (.string x5) := p5
  clear p0 p1 p2 p3 p4 p5
  have cL := (blk_cell IE.out.blk 2).trans (show _ = some L.vl from rfl)
  rw [HEV.out] at cL
  have a0 : ∀ o, (wb.alloc o).cell? ⟨gS, 0, none⟩ = some (Value.int .i64 2) := fun o => (blk_cell ((Below.heap_alloc wb o gS (blk_lt (OW.out.blk 0 rfl))).trans (OW.out.blk 0 rfl)) 0).trans rfl
  have cLo : ∀ o, (wb.alloc o).cell? ⟨g, 2, none⟩ = some (.slice (some ⟨gl, 0, none⟩) m c3) := fun o => ((below_alloc (Below.refl wb.heap.size wb) o).cell (World.block_lt_of_cell? _ _ cL)).trans cL
  clear OD ID BD cLd e2 hHeld HMO2 hRw
  go_wp2_with fail
  have HBY := Aside0.mk (below_alloc (Below.refl wb.heap.size wb) (.cells #[.int .i64 x0, .int .i64 x1, .int .i64 x2, .int .i64 x3, .int .i64 x4, .string x5] 49))
  have YB := Aside0.mk (blk_new wb (.cells #[.int .i64 x0, .int .i64 x1, .int .i64 x2, .int .i64 x3, .int .i64 x4, .string x5] 49))
  obtain ⟨gY, hgY⟩ : ∃ gY, wb.heap.size = gY := ⟨_, rfl⟩
  rw [hgY] at YB ⊢
  generalize wb.alloc (.cells #[.int .i64 x0, .int .i64 x1, .int .i64 x2, .int .i64 x3, .int .i64 x4, .string x5] 49) = wc at *
  have IC := Aside0.mk (IE.out.below HBY.out)
  have TC := Aside0.mk (Turn.below (F := Foot L g) (show Below w.heap.size w wc from below_step OW.out.below HBY.out))
  have BC := Aside0.mk (below_step BE.out HBY.out)
  have GY := Aside0.mk (show w.heap.size ≤ gY by rw [← hgY]; exact OW.out.size)
  have SB := Aside0.mk (blk_below (OW.out.blk 0 rfl) HBY.out)
  have GS := Aside0.mk (OW.out.new_le 0 rfl)
  clear IE BE HBY cL cLo q0 q1 q2 q3 q4 q5 a0 OW
  have HNS := Aside0.mk (show ¬ Foot L g gS from fun hf => by have := HFT.out gS hf; have := GS.out; omega)
  have HNY := Aside0.mk (show ¬ Foot L g gY from fun hf => by have := HFT.out gY hf; have := GY.out; omega)
  have HDEL := Aside0.mk (del_c w0.heap.size gl m c3 i d.lt wc (by have := IC.out.lt; rw [HEV.out] at this; exact this) (by omega) HM1.out HC3.out BC.out.size)
  with_reducible refine HDEL.out.mono ?_
  rintro e wz ⟨rfl, hR, hG⟩
  have hG2 : wc.grownBy wz L.vl.ownBlock := (by rw [HEV.out]; exact hG)
  have hgb := IC.out.blk_lt_ hG2
  have z2 := (blk_cell hgb 2).trans rfl
  have y2 := blk_frozen hgb 2
  have HA := Aside0.mk (IC.out.app_lt hR hG2 (.inl (by rw [HEV.out]; rfl)))
  have S9 := Aside0.mk ((HA.out.2.keep gS (blk_lt SB.out) HNS.out).trans SB.out)
  have Y9 := Aside0.mk ((HA.out.2.keep gY (blk_lt YB.out) HNY.out).trans YB.out)
  have s0 := (blk_cell S9.out 0).trans (show _ = some (Value.int .i64 2) from rfl)
  have y0 := (blk_cell Y9.out 0).trans rfl
  have u1 := (blk_cell Y9.out 1).trans rfl
  have u2 := (blk_cell Y9.out 2).trans rfl
  have u3 := (blk_cell Y9.out 3).trans rfl
  have u4 := (blk_cell Y9.out 4).trans rfl
  have u5 := (blk_cell Y9.out 5).trans rfl
  clear hR hG hG2 hgb
  go_wp2_with (fail)
  go_end0
  refine ⟨rfl, _, ?_, TC.out.trans HA.out.2⟩
  rw [HR.out]
  exact HA.out.1
set_option maxRecDepth 100000 in
set_option maxHeartbeats 8000000 in
theorem do_take (who sn : Int) (val : ByteArray) (w : World) (h : IsD w0.heap.size w g L d) (hB0 : Below w0.heap.size w0 w) (hwf : Wf d.sl.length d) (hn0 : 0 < d.sl.length) (hl : d.lt.length ≤ 1000000) (hlc : d.ch.length ≤ 1000000) (he : d.lt ≠ []) :
    Calls Try.prog 9 #[.pointer (some ⟨g, 0, none⟩), .agg #[.int .i64 1, .int .i64 who, .int .i64 sn, .string val]] w fun e w' => e = .returned (.tuple #[]) ∧
      ∃ L', IsD w0.heap.size w' g L' (doD d ⟨1, who, sn, val⟩) ∧ Turn w w' (Foot L g) (Foot L' g) := by
  have OW := Aside0.mk (Mem.Own.nil w)
  have HD := Aside0.mk h
  have HB0 := Aside0.mk hB0
  have HW := Aside0.mk hwf
  have HL := Aside0.mk hl
  have HLC := Aside0.mk hlc
  have HFT := Aside0.mk (fun k hk => h.foot_lt k hk)
  obtain ⟨n, hn⟩ : ∃ n, d.sl.length = n := ⟨_, rfl⟩
  have hn5 : n ≤ 5 := by have := h.sm; omega
  have hn1 : 0 < n := by omega
  have hmod := modulo_md who n hn1 (by omega)
  obtain ⟨a, ha⟩ : ∃ a, md who n = a := ⟨_, rfl⟩
  have hab := md_in who n hn1
  rw [ha] at hmod hab
  have HA := Aside0.mk ha
  have HAB := Aside0.mk hab
  have HMO := Aside0.mk (fun W => decree_modulo.calls who n a W hmod)
  have HN1 := Aside0.mk hn1
  have HN5 := Aside0.mk hn5
  clear h hB0 hwf hl hlc hmod hab ha hn0 hn1 hn5
  go_enter Try.func9, Try.ntmps9
  go_wp2_with (first
    | ((with_reducible refine gate_dst (N := 3) rfl ?_); refine box_event ?hg (N := 3) ?hd (cs := #[.int .i64 1, .int .i64 who, .int .i64 sn, .string val]) (t := 28) ?hr ?_; (case hd => rfl); (case hg => rfl); (case hr => first | (go_simp; done) | (go_simp; rfl)); intro gS hg W_ hb hbb; have n2 := Aside0.mk (HD.out.below hbb); clear HD; have HD := n2; clear n2; have n_ : Aside0 (Mem.Own w W_ [(gS, #[.int .i64 1, .int .i64 who, .int .i64 sn, .string val], 28)]) := ⟨OW.out.new hg hb hbb⟩; clear OW hb hbb hg; have OW := n_; clear n_))
  have OD := Aside0.mk OW.out.drew
  have ID := Aside0.mk HD.out.drew
  have c0 : W_.drew.cell? ⟨g, 0, none⟩ = some (.slice (some ⟨L.gs, 0, none⟩) n n) := by rw [← hn]; exact (blk_cell ID.out.blk 0).trans rfl
  have e1 : W_.drew.cell? ⟨gS, 1, none⟩ = some (.int .i64 who) := (OD.out.cell 0 rfl 1).trans rfl
  clear OW HD
  refine start_ (n := 9) (S := fun w' => Below (W_).drew.heap.size (W_).drew w') (ds := []) #[false, false, false, false, false, false, false, false, false] (by kernel_rfl) rfl rfl (Below.refl _ _) (fun hHeld => ?_)
  generalize (W_).drew = W0 at *
  refine pure_ (i := 0) (N := (some 7)) (v := ?_) (a' := ?_) #[true, false, false, false, false, false, false, false, false] rfl rfl (by kernel_rfl) (fun _ _ _ h => h) (Or.inl ⟨by rfl, ?_⟩) ?_ ?_
  rotate_left
  · intro w'
    go_simp
    first | done | with_reducible rfl
  rotate_left
  · simp only [Act.put, List.setIfInBounds_toArray, List.set_cons_zero, List.set_cons_succ, i64_w, i32_w]
    rfl
  refine take_ (i := 1) (N := (some 8)) (v := ?_) (a' := ?_) #[true, true, false, false, false, false, false, false, false] rfl rfl (by kernel_rfl) (fun _ _ _ h => h) (Or.inl ⟨by rfl, ?_⟩) hHeld ?_ ?_
  rotate_left
  · intro w' hS
    have s0 := pw_cell_below hS e1
    go_simp
    first | done | with_reducible rfl
  rotate_left
  · simp only [Act.put, List.setIfInBounds_toArray, List.set_cons_zero, List.set_cons_succ, i64_w, i32_w]
    rfl
  refine pure_ (i := 2) (N := (some 9)) (v := ?_) (a' := ?_) #[true, true, true, false, false, false, false, false, false] rfl rfl (by kernel_rfl) (fun _ _ _ h => h) (Or.inl ⟨by rfl, ?_⟩) ?_ ?_
  rotate_left
  · intro w'
    go_simp
    first | done | with_reducible rfl
  rotate_left
  · simp only [Act.put, List.setIfInBounds_toArray, List.set_cons_zero, List.set_cons_succ, i64_w, i32_w]
    rfl
  refine pure_ (i := 3) (N := (some 10)) (v := ?_) (a' := ?_) #[true, true, true, true, false, false, false, false, false] rfl rfl (by kernel_rfl) (fun _ _ _ h => h) (Or.inl ⟨by rfl, ?_⟩) ?_ ?_
  rotate_left
  · intro w'
    skip
    go_simp
    first | done | with_reducible rfl
  rotate_left
  · simp only [Act.put, List.setIfInBounds_toArray, List.set_cons_zero, List.set_cons_succ, i64_w, i32_w]
    rfl
  refine pure_ (i := 4) (N := (some 11)) (v := ?_) (a' := ?_) #[true, true, true, true, true, false, false, false, false] rfl rfl (by kernel_rfl) (fun _ _ _ h => h) (Or.inl ⟨by rfl, ?_⟩) ?_ ?_
  rotate_left
  · intro w'
    go_simp
    first | done | with_reducible rfl
  rotate_left
  · simp only [Act.put, List.setIfInBounds_toArray, List.set_cons_zero, List.set_cons_succ, i64_w, i32_w]
    rfl
  refine take_ (i := 5) (N := (some 12)) (v := ?_) (a' := ?_) #[true, true, true, true, true, true, false, false, false] rfl rfl (by kernel_rfl) (fun _ _ _ h => h) (Or.inl ⟨by rfl, ?_⟩) hHeld ?_ ?_
  rotate_left
  · intro w' hS
    have s0 := pw_cell_below hS c0
    go_simp
    first | done | with_reducible rfl
  rotate_left
  · simp only [Act.put, List.setIfInBounds_toArray, List.set_cons_zero, List.set_cons_succ, i64_w, i32_w]
    rfl
  refine pure_ (i := 6) (N := (some 13)) (v := ?_) (a' := ?_) #[true, true, true, true, true, true, true, false, false] rfl rfl (by kernel_rfl) (fun _ _ _ h => h) (Or.inl ⟨by rfl, ?_⟩) ?_ ?_
  rotate_left
  · intro w'
    go_simp
    first | done | with_reducible rfl
  rotate_left
  · simp only [Act.put, List.setIfInBounds_toArray, List.set_cons_zero, List.set_cons_succ, i64_w, i32_w]
    rfl
  refine one_ (i := 7) (N := (some 14)) #[true, true, true, true, true, true, true, true, false] rfl rfl (by kernel_rfl) (by decide) (fun K hK => ?_)
  refine goes_ Try.func15 (by kernel_rfl) rfl #[.int .i64 who, .int .i64 (n : Int)] (by rfl) rfl rfl (by (try simp only [List.map_toArray, List.map_cons, List.map_nil]); first | done | rfl) ?_
  refine (HMO.out _).mono ?_
  rintro e wa ⟨rfl, hB⟩
  obtain ⟨dm, hdm⟩ := hB.out
  refine ⟨_, rfl, ?_⟩
  have hS2 : Below W0.heap.size W0 wa := by rw [hdm]; exact pw_below_drewN hHeld dm
  clear hB hHeld hdm dm
  refine hK.out _ _ hS2 (fun hHeld => ?_)
  clear hK K
  refine norm_ (a' := ?_) ?_ ?_
  rotate_left
  · show Act.put _ (some 14) _ = _
    simp only [Act.put, List.setIfInBounds_toArray, List.set_cons_zero, List.set_cons_succ, i64_w, i32_w]
    rfl
  refine pure_ (i := 8) (N := (some 4)) (v := ?_) (a' := ?_) #[true, true, true, true, true, true, true, true, true] rfl rfl (by kernel_rfl) (fun _ _ _ h => h) (Or.inl ⟨by rfl, ?_⟩) ?_ ?_
  rotate_left
  · intro w'
    go_simp
    first | done | with_reducible rfl
  rotate_left
  · simp only [Act.put, List.setIfInBounds_toArray, List.set_cons_zero, List.set_cons_succ, i64_w, i32_w]
    rfl
  refine done_ (by kernel_rfl) ?_
  have OE := Aside0.mk (OD.out.step hHeld)
  have IE := Aside0.mk (ID.out.below hHeld)
  have BE := Aside0.mk (show Below w0.heap.size w0 wa from below_step HB0.out OE.out.below)
  have a0 := (OE.out.cell 0 rfl 0).trans (show _ = some (Value.int .i64 1) from rfl)
  have a2 := (OE.out.cell 0 rfl 2).trans (show _ = some (Value.int .i64 sn) from rfl)
  have a3 := (OE.out.cell 0 rfl 3).trans (show _ = some (Value.string val) from rfl)
  clear OD ID c0 e1 hHeld HMO
  obtain ⟨m, hm⟩ : ∃ m, d.lt.length = m := ⟨_, rfl⟩
  have hm0 : 0 < m := by rw [← hm]; exact List.length_pos_iff.2 he
  have hm1 : m ≤ 1000000 := by have := HL.out; omega
  obtain ⟨gl, c3, ev3, hc3⟩ : ∃ gl c3, L.vl = .slice (some ⟨gl, 0, none⟩) m c3 ∧ m ≤ c3 := by
    obtain ⟨A3, c3, ev3, hc3, _⟩ := Kd.R_reads IE.out.lt
    obtain ⟨gl, cp, e2, _⟩ := Kd.R_form IE.out.lt (by rw [hm]; exact hm0)
    rw [ev3] at e2
    injection e2 with e2 _ _
    exact ⟨gl, c3, by rw [ev3, e2, hm], by rw [← hm]; exact hc3⟩
  have hmod2 := modulo_md sn m hm0 (by omega)
  obtain ⟨i, hi⟩ : ∃ i : Nat, md sn m = i := ⟨(md sn m).toNat, by have := (md_in sn m hm0).1; omega⟩
  have hib := (md_in sn m hm0).2
  rw [hi] at hmod2 hib
  have HMO2 := Aside0.mk (fun W => decree_modulo.calls sn m i W hmod2)
  obtain ⟨x, hx⟩ : ∃ x, d.lt[i]? = some x := ⟨_, List.getElem?_eq_getElem (by omega)⟩
  have HX := Aside0.mk hx
  have HXW := Aside0.mk (HW.out.lt x (List.mem_of_getElem? hx))
  rw [hn] at HXW
  have HI := Aside0.mk hi
  have HM := Aside0.mk hm
  have HC3 := Aside0.mk hc3
  have HM1 := Aside0.mk hm1
  have HEV := Aside0.mk ev3
  have hwi := wrap_succ i m hib hm1
  have hmz : ((m : Int) == 0) = false := beq_eq_false_iff_ne.2 (by omega)
  have cL := (blk_cell IE.out.blk 2).trans (show _ = some L.vl from rfl)
  rw [ev3] at cL
  have HR : Aside0 (doD d ⟨1, who, sn, val⟩ = readD { d with lt := d.lt.eraseIdx i } x) := ⟨by
    unfold doD
    rw [if_neg (show ¬ (1 : Int) = 0 by decide), if_neg (show ¬ (1 : Int) = 4 by decide), if_pos (show ((1 : Int) = 1 ∨ (1 : Int) = 2 ∨ (1 : Int) = 3) by decide)]
    show (match d.lt[(md sn d.lt.length).toNat]? with | none => d | some x => _) = _
    rw [hm, hi, Int.toNat_natCast, hx]
    rfl⟩
  obtain ⟨x0, x1, x2, x3, x4, x5⟩ := x
  clear he hm0 hm1 hc3 hmod2 hi hx hm ev3
  go_wp2_with fail
  have OD := Aside0.mk OE.out.drew
  have ID := Aside0.mk IE.out.drew
  have cLd : wa.drew.cell? ⟨g, 2, none⟩ = some (.slice (some ⟨gl, 0, none⟩) m c3) := cL
  have e2 : wa.drew.cell? ⟨gS, 2, none⟩ = some (.int .i64 sn) := a2
  have BD := Aside0.mk BE.out.drew
  clear OE IE a0 a2 a3 BE cL
  refine start_ (n := 9) (S := fun w' => Below (wa).drew.heap.size (wa).drew w') (ds := []) #[false, false, false, false, false, false, false, false, false] (by kernel_rfl) rfl rfl (Below.refl _ _) (fun hHeld => ?_)
  generalize (wa).drew = W0 at *
  refine pure_ (i := 0) (N := (some 39)) (v := ?_) (a' := ?_) #[true, false, false, false, false, false, false, false, false] rfl rfl (by kernel_rfl) (fun _ _ _ h => h) (Or.inl ⟨by rfl, ?_⟩) ?_ ?_
  rotate_left
  · intro w'
    go_simp
    first | done | with_reducible rfl
  rotate_left
  · simp only [Act.put, List.setIfInBounds_toArray, List.set_cons_zero, List.set_cons_succ, i64_w, i32_w]
    rfl
  refine take_ (i := 1) (N := (some 40)) (v := ?_) (a' := ?_) #[true, true, false, false, false, false, false, false, false] rfl rfl (by kernel_rfl) (fun _ _ _ h => h) (Or.inl ⟨by rfl, ?_⟩) hHeld ?_ ?_
  rotate_left
  · intro w' hS
    have s0 := pw_cell_below hS e2
    go_simp
    first | done | with_reducible rfl
  rotate_left
  · simp only [Act.put, List.setIfInBounds_toArray, List.set_cons_zero, List.set_cons_succ, i64_w, i32_w]
    rfl
  refine pure_ (i := 2) (N := (some 41)) (v := ?_) (a' := ?_) #[true, true, true, false, false, false, false, false, false] rfl rfl (by kernel_rfl) (fun _ _ _ h => h) (Or.inl ⟨by rfl, ?_⟩) ?_ ?_
  rotate_left
  · intro w'
    go_simp
    first | done | with_reducible rfl
  rotate_left
  · simp only [Act.put, List.setIfInBounds_toArray, List.set_cons_zero, List.set_cons_succ, i64_w, i32_w]
    rfl
  refine pure_ (i := 3) (N := (some 42)) (v := ?_) (a' := ?_) #[true, true, true, true, false, false, false, false, false] rfl rfl (by kernel_rfl) (fun _ _ _ h => h) (Or.inl ⟨by rfl, ?_⟩) ?_ ?_
  rotate_left
  · intro w'
    skip
    go_simp
    first | done | with_reducible rfl
  rotate_left
  · simp only [Act.put, List.setIfInBounds_toArray, List.set_cons_zero, List.set_cons_succ, i64_w, i32_w]
    rfl
  refine pure_ (i := 4) (N := (some 43)) (v := ?_) (a' := ?_) #[true, true, true, true, true, false, false, false, false] rfl rfl (by kernel_rfl) (fun _ _ _ h => h) (Or.inl ⟨by rfl, ?_⟩) ?_ ?_
  rotate_left
  · intro w'
    go_simp
    first | done | with_reducible rfl
  rotate_left
  · simp only [Act.put, List.setIfInBounds_toArray, List.set_cons_zero, List.set_cons_succ, i64_w, i32_w]
    rfl
  refine take_ (i := 5) (N := (some 44)) (v := ?_) (a' := ?_) #[true, true, true, true, true, true, false, false, false] rfl rfl (by kernel_rfl) (fun _ _ _ h => h) (Or.inl ⟨by rfl, ?_⟩) hHeld ?_ ?_
  rotate_left
  · intro w' hS
    have s0 := pw_cell_below hS cLd
    go_simp
    first | done | with_reducible rfl
  rotate_left
  · simp only [Act.put, List.setIfInBounds_toArray, List.set_cons_zero, List.set_cons_succ, i64_w, i32_w]
    rfl
  refine pure_ (i := 6) (N := (some 45)) (v := ?_) (a' := ?_) #[true, true, true, true, true, true, true, false, false] rfl rfl (by kernel_rfl) (fun _ _ _ h => h) (Or.inl ⟨by rfl, ?_⟩) ?_ ?_
  rotate_left
  · intro w'
    go_simp
    first | done | with_reducible rfl
  rotate_left
  · simp only [Act.put, List.setIfInBounds_toArray, List.set_cons_zero, List.set_cons_succ, i64_w, i32_w]
    rfl
  refine one_ (i := 7) (N := (some 46)) #[true, true, true, true, true, true, true, true, false] rfl rfl (by kernel_rfl) (by decide) (fun K hK => ?_)
  refine goes_ Try.func15 (by kernel_rfl) rfl #[.int .i64 sn, .int .i64 (m : Int)] (by rfl) rfl rfl (by (try simp only [List.map_toArray, List.map_cons, List.map_nil]); first | done | rfl) ?_
  refine (HMO2.out _).mono ?_
  rintro e wb ⟨rfl, hB⟩
  obtain ⟨dm, hdm⟩ := hB.out
  refine ⟨_, rfl, ?_⟩
  have hS2 : Below W0.heap.size W0 wb := by rw [hdm]; exact pw_below_drewN hHeld dm
  clear hB hHeld hdm dm
  refine hK.out _ _ hS2 (fun hHeld => ?_)
  clear hK K
  refine norm_ (a' := ?_) ?_ ?_
  rotate_left
  · show Act.put _ (some 46) _ = _
    simp only [Act.put, List.setIfInBounds_toArray, List.set_cons_zero, List.set_cons_succ, i64_w, i32_w]
    rfl
  refine pure_ (i := 8) (N := (some 5)) (v := ?_) (a' := ?_) #[true, true, true, true, true, true, true, true, true] rfl rfl (by kernel_rfl) (fun _ _ _ h => h) (Or.inl ⟨by rfl, ?_⟩) ?_ ?_
  rotate_left
  · intro w'
    go_simp
    first | done | with_reducible rfl
  rotate_left
  · simp only [Act.put, List.setIfInBounds_toArray, List.set_cons_zero, List.set_cons_succ, i64_w, i32_w]
    rfl
  refine done_ (by kernel_rfl) ?_
  have OW := Aside0.mk (OD.out.step hHeld)
  have IE := Aside0.mk (ID.out.below hHeld)
  have BE := Aside0.mk (below_step BD.out hHeld)
  have hRw := IE.out.lt
  rw [HEV.out] at hRw
  obtain ⟨p0, p1, p2, p3, p4, p5⟩ := kl_elem hRw HX.out
  have q0 : wb.cell? ⟨gl, i * 6, none⟩ = some (.int .i64 x0) := p0
  have q1 : wb.cell? ⟨gl, i * 6 + 1, none⟩ = some (.int .i64 x1) := p1
  have q2 : wb.cell? ⟨gl, i * 6 + 2, none⟩ = some (.int .i64 x2) := p2
  have q3 : wb.cell? ⟨gl, i * 6 + 3, none⟩ = some (.int .i64 x3) := p3
  have q4 : wb.cell? ⟨gl, i * 6 + 4, none⟩ = some (.int .i64 x4) := p4
  have q5 : wb.cell? ⟨gl, i * 6 + 5, none⟩ = some (.string x5) := p5
  clear p0 p1 p2 p3 p4 p5
  have cL := (blk_cell IE.out.blk 2).trans (show _ = some L.vl from rfl)
  rw [HEV.out] at cL
  have a0 : ∀ o, (wb.alloc o).cell? ⟨gS, 0, none⟩ = some (Value.int .i64 1) := fun o => (blk_cell ((Below.heap_alloc wb o gS (blk_lt (OW.out.blk 0 rfl))).trans (OW.out.blk 0 rfl)) 0).trans rfl
  have cLo : ∀ o, (wb.alloc o).cell? ⟨g, 2, none⟩ = some (.slice (some ⟨gl, 0, none⟩) m c3) := fun o => ((below_alloc (Below.refl wb.heap.size wb) o).cell (World.block_lt_of_cell? _ _ cL)).trans cL
  clear OD ID BD cLd e2 hHeld HMO2 hRw
  go_wp2_with fail
  have HBY := Aside0.mk (below_alloc (Below.refl wb.heap.size wb) (.cells #[.int .i64 x0, .int .i64 x1, .int .i64 x2, .int .i64 x3, .int .i64 x4, .string x5] 49))
  have YB := Aside0.mk (blk_new wb (.cells #[.int .i64 x0, .int .i64 x1, .int .i64 x2, .int .i64 x3, .int .i64 x4, .string x5] 49))
  obtain ⟨gY, hgY⟩ : ∃ gY, wb.heap.size = gY := ⟨_, rfl⟩
  rw [hgY] at YB ⊢
  generalize wb.alloc (.cells #[.int .i64 x0, .int .i64 x1, .int .i64 x2, .int .i64 x3, .int .i64 x4, .string x5] 49) = wc at *
  have IC := Aside0.mk (IE.out.below HBY.out)
  have TC := Aside0.mk (Turn.below (F := Foot L g) (show Below w.heap.size w wc from below_step OW.out.below HBY.out))
  have BC := Aside0.mk (below_step BE.out HBY.out)
  have GY := Aside0.mk (show w.heap.size ≤ gY by rw [← hgY]; exact OW.out.size)
  have SB := Aside0.mk (blk_below (OW.out.blk 0 rfl) HBY.out)
  have GS := Aside0.mk (OW.out.new_le 0 rfl)
  clear IE BE HBY cL cLo q0 q1 q2 q3 q4 q5 a0 OW
  have HNS := Aside0.mk (show ¬ Foot L g gS from fun hf => by have := HFT.out gS hf; have := GS.out; omega)
  have HNY := Aside0.mk (show ¬ Foot L g gY from fun hf => by have := HFT.out gY hf; have := GY.out; omega)
  have HDEL := Aside0.mk (del_c w0.heap.size gl m c3 i d.lt wc (by have := IC.out.lt; rw [HEV.out] at this; exact this) (by omega) HM1.out HC3.out BC.out.size)
  with_reducible refine HDEL.out.mono ?_
  rintro e wz ⟨rfl, hR, hG⟩
  have hG2 : wc.grownBy wz L.vl.ownBlock := (by rw [HEV.out]; exact hG)
  have hgb := IC.out.blk_lt_ hG2
  have z2 := (blk_cell hgb 2).trans rfl
  have y2 := blk_frozen hgb 2
  have HA := Aside0.mk (IC.out.app_lt hR hG2 (.inl (by rw [HEV.out]; rfl)))
  have S9 := Aside0.mk ((HA.out.2.keep gS (blk_lt SB.out) HNS.out).trans SB.out)
  have Y9 := Aside0.mk ((HA.out.2.keep gY (blk_lt YB.out) HNY.out).trans YB.out)
  have s0 := (blk_cell S9.out 0).trans (show _ = some (Value.int .i64 1) from rfl)
  have y0 := (blk_cell Y9.out 0).trans rfl
  have u1 := (blk_cell Y9.out 1).trans rfl
  have u2 := (blk_cell Y9.out 2).trans rfl
  have u3 := (blk_cell Y9.out 3).trans rfl
  have u4 := (blk_cell Y9.out 4).trans rfl
  have u5 := (blk_cell Y9.out 5).trans rfl
  clear hR hG hG2 hgb
  go_wp2_with (first | (go_at_call 19; go_loud (refine (read_c x0 x1 x2 x3 x4 x5 _ HA.out.1 (below_of_turn BC.out HA.out.2 IC.out) (by show LtW d.sl.length _; rw [hn]; exact HXW.out) (by have := HW.out.letters (d.lt.eraseIdx i) (fun y hy => List.mem_of_mem_eraseIdx hy); exact this) (by have h1 := HL.out; have h2 : (d.lt.eraseIdx i).length ≤ d.lt.length := (List.eraseIdx_sublist _ _).length_le; exact Nat.le_trans h2 h1) HLC.out).mono ?_; rintro e wy ⟨rfl, L9, hI, hT⟩; have I9 := Aside0.mk hI; have T9 := Aside0.mk hT; clear hI hT)))
  go_end0
  refine ⟨rfl, L9, ?_, (TC.out.trans HA.out.2).trans T9.out⟩
  rw [HR.out]
  exact I9.out
end Go.Proofs.Ytnhnbobgfadhpaa.Dec
namespace Go.Proofs.Ytnhnbobgfadhpaa.Dec
open Go Go.RowKit Go.Shelf Go.Proofs.YtnhnbobgfadhpaaW.PrintWords Go.Proofs.YtnhnbobgfadhpaaW.PrintLast Go.Proofs.YtnhnbobgfadhpaaW.PrintMore Go.Proofs.Ytnhnbobgfadhpaa.Mp
set_option linter.unusedVariables false
set_option linter.unusedSimpArgs false
variable {g : Nat} {L L' : Lay} {d : D} {W W1 w0 : World}
theorem do_c (s : St) (w : World) (h : IsD w0.heap.size w g L d) (hB0 : Below w0.heap.size w0 w) (hwf : Wf d.sl.length d) (hn0 : 0 < d.sl.length) (hl : d.lt.length ≤ 1000000) (hlc : d.ch.length ≤ 1000000) :
    Calls Try.prog 9 #[.pointer (some ⟨g, 0, none⟩), .agg #[.int .i64 s.kd, .int .i64 s.who, .int .i64 s.n, .string s.val]] w fun e w' => e = .returned (.tuple #[]) ∧
      ∃ L', IsD w0.heap.size w' g L' (doD d s) ∧ Turn w w' (Foot L g) (Foot L' g) := by
  obtain ⟨kd, who, sn, val⟩ := s
  by_cases h0 : kd = 0
  · subst h0; exact do_begin who sn val w h hB0 hwf hn0 hl hlc
  by_cases h4 : kd = 4
  · subst h4; exact do_forget who sn val w h hB0 hwf hn0 hl hlc
  by_cases he : d.lt = []
  · by_cases h1 : kd = 1
    · subst h1; exact do_none1 who sn val w h hB0 hwf hn0 hl hlc he
    by_cases h2 : kd = 2
    · subst h2; exact do_none2 who sn val w h hB0 hwf hn0 hl hlc he
    by_cases h3 : kd = 3
    · subst h3; exact do_none3 who sn val w h hB0 hwf hn0 hl hlc he
    exact do_other kd who sn val w h hB0 hwf hn0 hl hlc h0 h1 h2 h3 h4
  · by_cases h1 : kd = 1
    · subst h1; exact do_take who sn val w h hB0 hwf hn0 hl hlc he
    by_cases h2 : kd = 2
    · subst h2; exact do_lose who sn val w h hB0 hwf hn0 hl hlc he
    by_cases h3 : kd = 3
    · subst h3; exact do_twice who sn val w h hB0 hwf hn0 hl hlc he
    exact do_other kd who sn val w h hB0 hwf hn0 hl hlc h0 h1 h2 h3 h4
theorem letters_c {base : Nat} (w : World) (h : IsD base w g L d) : Calls Try.prog 10 #[.pointer (some ⟨g, 0, none⟩)] w fun e w' => e = .returned (.int .i64 d.lt.length) ∧ w = w' := by
  obtain ⟨A3, c3, ev3⟩ := Kd.R_slice h.lt
  have c2 := (blk_cell h.blk 2).trans (show _ = some L.vl from rfl)
  rw [ev3] at c2
  clear h ev3
  go_enter Try.func10, Try.ntmps10
  go_wp2
  go_ret
  exact ⟨rfl, rfl⟩
/-- a row of texts of the call's own -/
abbrev SR (w : World) (base : Nat) (v : Value) (l : List ByteArray) : Prop := Kd.R Kd.string 9 w base (fun _ => True) v l
set_option maxRecDepth 100000 in
set_option maxHeartbeats 2000000 in
theorem clone_c (A : Option Addr) (c : Nat) (l : List ByteArray) (w : World) (hl : l.length ≤ 1000000000) (hr : Kd.C Kd.string w A l.length l) :
    Calls Try.prog 20 #[.slice A l.length c] w fun e w' => ∃ v, e = .returned v ∧ SR w' w.heap.size v l ∧ Below w.heap.size w w' := by
  have hsn := fun (W : World) (a : Option Addr) (n c : Nat) => Lib.run_eql_slice_nil (P := Try.prog) W 30 9 a n c 0 0 Try.underlying30
  rcases A with _ | ad
  · have h0 : l.length = 0 := by
      rcases Nat.eq_zero_or_pos l.length with h | h
      · exact h
      · obtain ⟨ad, e, _⟩ := hr.2.2 h
        cases e
    obtain rfl : l = [] := List.length_eq_zero_iff.1 h0
    clear hr h0 hl
    go_enter Try.func20, Try.ntmps20
    go_wp2
    go_ret
    exact ⟨_, rfl, Kd.R_nil _ _ _ _ _, Below.refl _ _⟩
  · have HR := Aside0.mk hr
    have HL := Aside0.mk hl
    clear hr hl
    have HB := Aside0.mk (Below.refl w.heap.size w)
    go_enter Try.func20, Try.ntmps20
    go_wp2_with (first
      | ((with_reducible refine gate_dst (N := 5) rfl ?_); refine Kd.R_lit Kd.string (w0 := w) w.heap.size 9 rfl (N := 5) rfl (xs := []) (inner := []) (ok := fun _ => True) (okp := fun _ => True) (by first | (go_simp; done) | (go_simp; rfl)) (Reps.none _ _) (fun _ _ => trivial) trivial HB.out (below_size HB.out) (by decide) ?_; intro v1 w1 hr1 hb1 hg1 hat1; have n_ := Aside0.mk hb1; have HR1 := Aside0.mk hr1; obtain ⟨A1, c1, rfl⟩ := Kd.R_slice hr1; clear HB hb1 hg1 hat1 hr1; have HB := n_; clear n_)
      | ((with_reducible refine gate_builtin (b := .append) (xs := #[.tmp 5, .tmp 6]) rfl ?_); at_builtin; refine Kd.R_append_row (P := Try.prog) Value.string (⟨#[]⟩ : ByteArray) (w0 := w) w.heap.size rfl (.tmp 5) (.tmp 6) 30 9 (.string ⟨#[]⟩) 16 rfl Try.underlying30 info_str rfl (by decide) _ [] l (some ad) l.length c (fun _ => True) rfl rfl (fun _ _ => trivial) HR1.out (Kd.C_below HR.out HB.out) HB.out (below_size HB.out) (by have := HL.out; simp only [List.length_nil]; omega) ?_; intro v2 w2 hr2 hb2 hg2 hat2; have HR2 := Aside0.mk hr2; have HB2 := Aside0.mk hb2; clear hr2 hb2 hg2 hat2))
    go_ret
    exact ⟨v2, rfl, by have h := HR2.out; rw [List.nil_append] at h; exact h, HB2.out⟩
/-- Chosen and Begun: copies -/
theorem chosen_c {base : Nat} (w : World) (h : IsD base w g L d) (hl : d.ch.length ≤ 1000000) : Calls Try.prog 11 #[.pointer (some ⟨g, 0, none⟩)] w fun e w' => ∃ v, e = .returned v ∧ SR w' w.heap.size v d.ch ∧ Below w.heap.size w w' := by
  obtain ⟨A3, c3, ev3, hc3, hC⟩ := Kd.R_reads h.ch
  have c4 := (blk_cell h.blk 4).trans (show _ = some L.vc from rfl)
  rw [ev3] at c4
  have HC := Aside0.mk (clone_c A3 c3 d.ch w (by omega) hC)
  clear h ev3 hc3 hC hl
  go_enter Try.func11, Try.ntmps11
  go_wp2_with (first | (go_at_call 20; go_loud ((with_reducible refine HC.out.mono ?_); rintro e w1 ⟨v, rfl, hr, hB⟩; have H1 := Aside0.mk hr; have H2 := Aside0.mk hB; clear hr hB)))
  go_ret
  exact ⟨v, rfl, H1.out, H2.out⟩
theorem begun_c {base : Nat} (w : World) (h : IsD base w g L d) (hl : d.bg.length ≤ 1000000) : Calls Try.prog 13 #[.pointer (some ⟨g, 0, none⟩)] w fun e w' => ∃ v, e = .returned v ∧ SR w' w.heap.size v d.bg ∧ Below w.heap.size w w' := by
  obtain ⟨A3, c3, ev3, hc3, hC⟩ := Kd.R_reads h.bg
  have c4 := (blk_cell h.blk 3).trans (show _ = some L.vb from rfl)
  rw [ev3] at c4
  have HC := Aside0.mk (clone_c A3 c3 d.bg w (by omega) hC)
  clear h ev3 hc3 hC hl
  go_enter Try.func13, Try.ntmps13
  go_wp2_with (first | (go_at_call 20; go_loud ((with_reducible refine HC.out.mono ?_); rintro e w1 ⟨v, rfl, hr, hB⟩; have H1 := Aside0.mk hr; have H2 := Aside0.mk hB; clear hr hB)))
  go_ret
  exact ⟨v, rfl, H1.out, H2.out⟩
end Go.Proofs.Ytnhnbobgfadhpaa.Dec
namespace Go.Proofs.Ytnhnbobgfadhpaa.Dec
open Go Go.RowKit Go.Shelf Go.Proofs.YtnhnbobgfadhpaaW.PrintWords Go.Proofs.YtnhnbobgfadhpaaW.PrintLast Go.Proofs.YtnhnbobgfadhpaaW.PrintMore Go.Proofs.Ytnhnbobgfadhpaa.Mp
set_option linter.unusedVariables false
set_option linter.unusedSimpArgs false
theorem max_is (ats : Array TypeId) (ty : TypeId) (x y : Int) : Builtin.max_ ats ty #[.int .i64 x, .int .i64 y] = pure (.int .i64 (max x y)) := by
  rw [max_two, max2_int, pure_bind]
  congr 2; omega
theorem min_is (ats : Array TypeId) (ty : TypeId) (x y : Int) : Builtin.min_ ats ty #[.int .i64 x, .int .i64 y] = pure (.int .i64 (min x y)) := by
  rw [min_two, min2_int, pure_bind]
  congr 2; omega
/-- how many nodes there are -/
def nn (n : Int) : Nat := (min (max n 1) 5).toNat
theorem nn_pos (n : Int) : 0 < nn n := by unfold nn; omega
theorem nn_le (n : Int) : nn n ≤ 5 := by unfold nn; omega
theorem nn_cast (n : Int) : min (max n 1) 5 = (nn n : Int) := by unfold nn; omega
theorem info_sl : (Try.prog.info? 36).map (fun i => (i.zero, i.size, i.bytes)) = some (some (.agg #[.int .i64 0, .int .i64 0, .string ⟨#[]⟩]), 3, 32) := by kernel_rfl
theorem made_sl (N : Nat) (h : N ≤ 5) : madeCells (Value.agg #[.int .i64 0, .int .i64 0, .string ⟨#[]⟩]).cells (N * 3) = (slc (List.replicate N sl0)).toArray := by
  have hc : ∀ k, k ≤ 5 → madeCells (Value.agg #[.int .i64 0, .int .i64 0, .string ⟨#[]⟩]).cells (k * 3) = (slc (List.replicate k sl0)).toArray := by
    intro k hk
    rcases k with _ | _ | _ | _ | _ | _ | k
    · kernel_rfl
    · kernel_rfl
    · kernel_rfl
    · kernel_rfl
    · kernel_rfl
    · kernel_rfl
    · omega
  exact hc N h
theorem make_sl (N : Nat) (h : N ≤ 5) (W : World) : (Instr.makeSlice 39 (.int .i64 (N : Int)) (.int .i64 (N : Int))).run Try.prog W = .ok (.slice (some ⟨W.heap.size, 0, none⟩) N N) (W.alloc (.cells (slc (List.replicate N sl0)).toArray 36)) := by
  obtain ⟨i0, hi, hzz⟩ := Option.map_eq_some_iff.1 info_sl
  simp only [Prod.mk.injEq] at hzz
  obtain ⟨hz0, hz1, hz2⟩ := hzz
  have hr := run_make (P := Try.prog) W 39 36 i0 _ Try.underlying39 hi hz0 .i64 .i64 (N : Int) (N : Int) (by omega) (by omega) (by rw [hz2]; omega) (by omega)
  simp only [Int.toNat_natCast] at hr
  rw [hz1, made_sl N h] at hr
  exact hr
/-- the worlds behind its four makings -/
abbrev nw1 (w : World) (N : Nat) : World := w.alloc (.cells (slc (List.replicate N sl0)).toArray 36)
abbrev nw2 (w : World) (N : Nat) : World := (nw1 w N).alloc (.map #[] 0)
abbrev nw3 (w : World) (N : Nat) : World := (nw2 w N).alloc (.map #[] 0)
def newL (b : Nat) : Lay := ⟨b, b + 1, b + 1 + 1, .slice none 0 0, .slice none 0 0, .slice none 0 0, fun _ => none⟩
abbrev nw4 (w : World) (N : Nat) : World := (nw3 w N).alloc (.cells #[.slice (some ⟨w.heap.size, 0, none⟩) N N, .map (some (w.heap.size + 1)), .slice none 0 0, .slice none 0 0, .slice none 0 0, .map (some (w.heap.size + 1 + 1))] 44)
theorem new_below (w : World) (N : Nat) : Below w.heap.size w (nw4 w N) := below_alloc (below_alloc (below_alloc (below_alloc (Below.refl _ _) _) _) _) _
theorem size_alloc (w : World) (o : Obj) : (w.alloc o).heap.size = w.heap.size + 1 := World.size_alloc _ _
theorem blk_alloc_new (w : World) (o : Obj) : (w.alloc o).heap[w.heap.size]? = some o := by
  show (w.heap.push o)[w.heap.size]? = some o
  simp
theorem new_isD (w : World) (N : Nat) (h : N ≤ 5) : IsD w.heap.size (nw4 w N) (w.heap.size + 1 + 1 + 1) (newL w.heap.size) (newD N) where
  blk := by
    have e := blk_alloc_new (nw3 w N) (.cells #[.slice (some ⟨w.heap.size, 0, none⟩) N N, .map (some (w.heap.size + 1)), .slice none 0 0, .slice none 0 0, .slice none 0 0, .map (some (w.heap.size + 1 + 1))] 44)
    rw [size_alloc, size_alloc, size_alloc] at e
    simpa [dcs, newL, newD] using e
  sl := by
    have e := blk_alloc_new w (.cells (slc (List.replicate N sl0)).toArray 36)
    exact ((below_alloc (below_alloc (below_alloc (Below.refl (nw1 w N).heap.size (nw1 w N)) _) _) _).block w.heap.size (by show w.heap.size < (nw1 w N).heap.size; rw [size_alloc]; omega)).trans e
  lt := Kd.R_nil _ _ _ _ _
  bg := Kd.R_nil _ _ _ _ _
  ch := Kd.R_nil _ _ _ _ _
  ap := fun k hk => by cases hk
  pp := by
    have e := IMap.made (nw1 w N) Try.prog 3
    have e2 := e.below' (below_alloc (below_alloc (Below.refl (nw2 w N).heap.size (nw2 w N)) (.map #[] 0)) (.cells #[.slice (some ⟨w.heap.size, 0, none⟩) N N, .map (some (w.heap.size + 1)), .slice none 0 0, .slice none 0 0, .slice none 0 0, .map (some (w.heap.size + 1 + 1))] 44))
    rw [size_alloc] at e2
    have e3 : ppC (newL w.heap.size).pl = fun _ => none := by funext v; cases v <;> try rfl
                                                              rename_i k x; cases k <;> rfl
    rw [e3]; exact e2
  tk := by
    have e := IMap.made (nw2 w N) Try.prog 3
    have e2 := e.below' (below_alloc (Below.refl (nw3 w N).heap.size (nw3 w N)) (.cells #[.slice (some ⟨w.heap.size, 0, none⟩) N N, .map (some (w.heap.size + 1)), .slice none 0 0, .slice none 0 0, .slice none 0 0, .map (some (w.heap.size + 1 + 1))] 44))
    rw [size_alloc, size_alloc] at e2
    have e3 : tkC (newD N).tk = fun _ => none := by funext v; cases v <;> try rfl
                                                    rename_i k x; cases k <;> rfl
    rw [e3]; exact e2
  ne := by show w.heap.size + 1 ≠ w.heap.size + 1 + 1; omega
  prs := fun b p hp => by cases hp
  prn := fun b _ => rfl
  inj := fun b b' q hq => by cases hq
  ge := ⟨by omega, Nat.le_refl _, by show w.heap.size ≤ w.heap.size + 1; omega, by show w.heap.size ≤ w.heap.size + 1 + 1; omega⟩
  sm := by simpa [newD] using h
set_option maxRecDepth 100000 in
set_option maxHeartbeats 4000000 in
theorem new_c (n : Int) (w : World) :
    Calls Try.prog 8 #[.int .i64 n] w fun e w' => ∃ g L, e = .returned (.pointer (some ⟨g, 0, none⟩)) ∧ IsD w.heap.size w' g L (newD (nn n)) ∧ Below w.heap.size w w' := by
  have hu := Try.underlying44
  have hmm := @run_makeMap Try.prog
  have hmax := max_is #[3, 3] 3 n 1
  have hmin := min_is #[3, 3] 3 (max n 1) 5
  rw [nn_cast] at hmin
  have hmk := make_sl (nn n) (nn_le n)
  go_enter Try.func8, Try.ntmps8
  go_wp2
  go_ret
  exact ⟨_, _, rfl, new_isD w (nn n) (nn_le n), new_below w (nn n)⟩
end Go.Proofs.Ytnhnbobgfadhpaa.Dec
namespace Go.Proofs.Ytnhnbobgfadhpaa.Dec
open Go Go.RowKit Go.Shelf Go.Proofs.YtnhnbobgfadhpaaW.PrintWords Go.Proofs.YtnhnbobgfadhpaaW.PrintLast Go.Proofs.YtnhnbobgfadhpaaW.PrintMore Go.Proofs.Ytnhnbobgfadhpaa.Mp
set_option linter.unusedVariables false
set_option linter.unusedSimpArgs false
theorem nn3 : nn 3 = 3 := by decide
theorem len1 (v : ByteArray) : (doD (newD 3) ⟨0, 0, 0, v⟩).lt.length = 3 := by kernel_rfl
/-- a step done, with what is kept below -/
theorem do_b {w0 : World} {g n k : Nat} {L : Lay} {d : D} (s : St) (w : World) (h : IsD w0.heap.size w g L d) (hB : Below w0.heap.size w0 w) (hw : Wf n d) (hr : Reached n k d) (hn : 0 < n) (hk : k ≤ 1000) (h5 : n ≤ 5) :
    Calls Try.prog 9 #[.pointer (some ⟨g, 0, none⟩), .agg #[.int .i64 s.kd, .int .i64 s.who, .int .i64 s.n, .string s.val]] w fun e w' => e = .returned (.tuple #[]) ∧
      ∃ L', IsD w0.heap.size w' g L' (doD d s) ∧ Below w0.heap.size w0 w' := by
  have h1 := hr.lt
  have h2 : k * n ≤ 1000 * 5 := Nat.mul_le_mul hk h5
  have h3 := hr.ch
  refine (do_c s w h hB (by rw [hw.n0]; exact hw) (by rw [hw.n0]; exact hn) (by omega) (by omega)).mono ?_
  rintro e w' ⟨rfl, L', hI, hT⟩
  exact ⟨rfl, L', hI, below_of_turn hB hT h⟩
set_option maxRecDepth 100000 in
set_option maxHeartbeats 4000000 in
theorem awake_c (w : World) : Calls Try.prog 7 #[] w fun e w' => e = .returned (.bool true) ∧ Below w.heap.size w w' := by
  go_enter Try.func7, Try.ntmps7
  go_wp2_with (first
    | (go_at_call 8; go_loud ((with_reducible refine (new_c 3 w).mono ?_); rw [nn3]; rintro e w1 ⟨g, L, rfl, hI, hB⟩; have HI := Aside0.mk hI; have HB := Aside0.mk hB; clear hI hB))
    | (go_at_call 9; go_loud ((have hd := do_b ⟨0, 0, 0, ⟨#[97]⟩⟩ w1 HI.out HB.out (Wf.new 3) (reached_new 3) (by decide) (by decide) (by decide)); (with_reducible refine hd.mono ?_); clear hd; rintro e w2 ⟨rfl, L2, hI, hT⟩; have HI2 := Aside0.mk hI; have HB2 := Aside0.mk hT; clear hI hT))
    | (go_at_call 10; go_loud ((with_reducible refine (letters_c w2 HI2.out).mono ?_); rw [len1]; rintro e w3 ⟨rfl, rfl⟩)))
  go_ret
  exact ⟨rfl, HB2.out⟩
/-- the kind of the given steps -/
abbrev KT : Kd (Int × Int × Int × ByteArray) := Kd.pair (Kd.int .i64) (Kd.pair (Kd.int .i64) (Kd.pair (Kd.int .i64) Kd.string))
def toSt (x : Int × Int × Int × ByteArray) : St := ⟨x.1, x.2.1, x.2.2.1, x.2.2.2⟩
theorem kt_elem {w : World} {A : Option Addr} {n i : Nat} {xs : List (Int × Int × Int × ByteArray)} {x : Int × Int × Int × ByteArray} (h : Kd.C KT w A n xs) (hx : xs[i]? = some x) :
    ∃ ad, A = some ad ∧ w.cell? (ad.add (i * 4)) = some (.int .i64 x.1) ∧ w.cell? (ad.add (i * 4 + 1)) = some (.int .i64 x.2.1) ∧ w.cell? (ad.add (i * 4 + 2)) = some (.int .i64 x.2.2.1) ∧ w.cell? (ad.add (i * 4 + 3)) = some (.string x.2.2.2) := by
  have hlt := (List.getElem?_eq_some_iff.1 hx).1
  obtain ⟨ad, e4, hc⟩ := h.2.2 (by have := h.1; omega)
  obtain ⟨cs, _, hcs, hcell⟩ := hc i x hx
  obtain ⟨c0, cr, rfl, h0, c1, cr1, rfl, h1, c2, c3, rfl, h2, h3⟩ := hcs
  have h0 : c0 = [.int .i64 x.1] := h0
  have h1 : c1 = [.int .i64 x.2.1] := h1
  have h2 : c2 = [.int .i64 x.2.2.1] := h2
  have h3 : c3 = [.string x.2.2.2] := h3
  subst h0 h1 h2 h3
  have hk : KT.sz = 4 := rfl
  rw [hk] at hcell
  exact ⟨ad, e4, hcell 0 _ rfl, hcell 1 _ rfl, hcell 2 _ rfl, hcell 3 _ rfl⟩
end Go.Proofs.Ytnhnbobgfadhpaa.Dec
namespace Go.Proofs.Ytnhnbobgfadhpaa.Dec
open Go Go.RowKit Go.Shelf Go.Proofs.YtnhnbobgfadhpaaW.PrintWords Go.Proofs.YtnhnbobgfadhpaaW.PrintLast Go.Proofs.YtnhnbobgfadhpaaW.PrintMore Go.Proofs.Ytnhnbobgfadhpaa.Mp
set_option linter.unusedVariables false
set_option linter.unusedSimpArgs false
/-- the place d, behind k steps, is the block g of W -/
structure Rel (w W : World) (g n k : Nat) (d : D) : Prop where
  ex : ∃ L, IsD w.heap.size W g L d
  below : Below w.heap.size w W
  wf : Wf n d
  re : Reached n k d
  n0 : 0 < n
  n5 : n ≤ 5
variable {w W W1 : World} {g n k q : Nat} {d : D}
theorem Rel.to (h : Rel w W g n k d) (hB : Below W.heap.size W W1) : Rel w W1 g n k d := by
  obtain ⟨L, hI⟩ := h.ex
  exact ⟨⟨L, hI.below hB⟩, below_step h.below hB, h.wf, h.re, h.n0, h.n5⟩
theorem new_r (n : Int) (w : World) : Calls Try.prog 8 #[.int .i64 n] w fun e w' => ∃ g, e = .returned (.pointer (some ⟨g, 0, none⟩)) ∧ Rel w w' g (nn n) 0 (newD (nn n)) := by
  refine (new_c n w).mono ?_
  rintro e w' ⟨g, L, rfl, hI, hB⟩
  exact ⟨g, rfl, ⟨L, hI⟩, hB, Wf.new _, reached_new _, nn_pos n, nn_le n⟩
theorem do_r (h : Rel w W g n k d) (s : St) (hk : k ≤ 10000) :
    Calls Try.prog 9 #[.pointer (some ⟨g, 0, none⟩), .agg #[.int .i64 s.kd, .int .i64 s.who, .int .i64 s.n, .string s.val]] W fun e w' => e = .returned (.tuple #[]) ∧ Rel w w' g n (k + 1) (doD d s) := by
  obtain ⟨L, hI⟩ := h.ex
  have h1 := h.re.lt
  have h2 : k * n ≤ 10000 * 5 := Nat.mul_le_mul hk h.n5
  have h3 := h.re.ch
  have h5 := h.n5
  refine (do_c s W hI h.below (by rw [h.wf.n0]; exact h.wf) (by rw [h.wf.n0]; exact h.n0) (by omega) (by omega)).mono ?_
  rintro e w' ⟨rfl, L', hI', hT⟩
  exact ⟨rfl, ⟨L', hI'⟩, below_of_turn h.below hT hI, h.wf.step h.n0 (by omega) s, h.re.step h.n0 (by omega) s, h.n0, h.n5⟩
theorem let_r (h : Rel w W g n k d) (hq : d.lt.length = q) : Calls Try.prog 10 #[.pointer (some ⟨g, 0, none⟩)] W fun e w' => e = .returned (.int .i64 q) ∧ W = w' := by
  obtain ⟨L, hI⟩ := h.ex
  have := letters_c W hI
  rw [hq] at this
  exact this
theorem cho_r (h : Rel w W g n k d) (hk : k ≤ 10000) (hq : d.ch.length = q) : Calls Try.prog 11 #[.pointer (some ⟨g, 0, none⟩)] W fun e w' => ∃ a c, e = .returned (.slice a q c) ∧ Rel w w' g n k d := by
  obtain ⟨L, hI⟩ := h.ex
  refine (chosen_c W hI (by have := h.re.ch; omega)).mono ?_
  rintro e w' ⟨v, rfl, hr, hB⟩
  obtain ⟨a, c, rfl⟩ := Kd.R_slice hr
  rw [hq]
  exact ⟨a, c, rfl, h.to hB⟩
/-- how many letters there are, as the block tells -/
def ltLen (W : World) (g : Nat) : Nat := match W.cell? ⟨g, 2, none⟩ with
  | some (.slice _ m _) => m
  | _ => 0
theorem Rel.len (h : Rel w W g n k d) : ltLen W g = d.lt.length := by
  obtain ⟨L, hI⟩ := h.ex
  obtain ⟨A3, c3, ev3⟩ := Kd.R_slice hI.lt
  have c2 := (blk_cell hI.blk 2).trans (show _ = some L.vl from rfl)
  rw [ev3] at c2
  unfold ltLen
  rw [c2]
-- plain facts
def stL : St := ⟨2, 0, 0, ⟨#[]⟩⟩
theorem drop_step (d : D) (h : d.lt.length ≠ 0) : doD d stL = { d with lt := d.lt.tail } := by
  cases hl : d.lt with
  | nil => rw [hl] at h; exact absurd rfl h
  | cons x l =>
    unfold doD
    rw [if_neg (by decide), if_neg (by decide), if_pos (by decide)]
    rw [show stL.n = 0 from rfl, md0, hl]
    show (if stL.kd = 3 then _ else if stL.kd = 1 then _ else _) = _
    rw [if_neg (by decide), if_neg (by decide)]
    rfl
theorem beg_step (d : D) (v : ByteArray) : doD d ⟨0, 0, 0, v⟩ = beginD d 0 v := by
  unfold doD
  rw [if_pos rfl, md0]
/-- letters are dropped: what is kept on the way -/
structure Dr (w W : World) (g n : Nat) : Prop where
  ex : ∃ d k, Rel w W g n k d ∧ d.bg.length ≤ 200 ∧ k + d.lt.length ≤ 1300
theorem Dr.start (h : Rel w W g n k d) (hk : k ≤ 200) : Dr w W g n := by
  have h1 := h.re.lt
  have h2 : k * n ≤ 200 * 5 := Nat.mul_le_mul hk h.n5
  have h3 := h.re.bg
  exact ⟨d, k, h, by omega, by omega⟩
theorem Dr.next (h : Rel w W g n (k + 1) (doD d stL)) (hb : d.bg.length ≤ 200) (hk : k + d.lt.length ≤ 1300) (hl : d.lt.length ≠ 0) : Dr w W g n ∧ ltLen W g < d.lt.length := by
  have h' := h
  rw [drop_step d hl] at h
  have he : (d.lt.tail).length = d.lt.length - 1 := List.length_tail
  exact ⟨⟨_, _, h, hb, by show k + 1 + d.lt.tail.length ≤ 1300; omega⟩, by rw [h.len]; show d.lt.tail.length < _; omega⟩
theorem takes_snoc (j : Nat) (d : D) : takes (j + 1) d = doD (takes j d) stT := takes_add j 1 d
/-- all letters taken: what is chosen -/
theorem ends_all (h : Reached n k d) (hn : 0 < n) (h5 : n ≤ 5) (hl : d.lt = []) (hb : d.bg.length ≤ 200) (v : ByteArray) (j : Nat) (hj : (takes j (doD d ⟨0, 0, 0, v⟩)).lt = [] ∨ j = 60) :
    (takes j (doD d ⟨0, 0, 0, v⟩)).lt.length = 0 ∧ (takes j (doD d ⟨0, 0, 0, v⟩)).ch.length = d.ch.length + 1 := by
  obtain ⟨V, hV⟩ := h.inv
  obtain ⟨e1, e2⟩ := ends hV hn hl (by omega) v h.bnd.sl
  rw [beg_step] at hj ⊢
  have he : takes j (beginD d 0 v) = takes (4 * n) (beginD d 0 v) := by
    by_cases hlt : 4 * n ≤ j
    · rw [show j = 4 * n + (j - 4 * n) by omega, takes_add, takes_nil _ _ e1]
    · rcases hj with q | q
      · rw [show 4 * n = j + (4 * n - j) by omega, takes_add, takes_nil _ _ q]
      · omega
  rw [he, e1, e2]
  exact ⟨rfl, rfl⟩
/-- one step of the given row more -/
theorem run_more {xs : List (Int × Int × Int × ByteArray)} {i : Nat} {x : Int × Int × Int × ByteArray} (hx : xs[i]? = some x) (d : D) : doD (runS d ((xs.take i).map toSt)) (toSt x) = runS d ((xs.take (i + 1)).map toSt) := by
  obtain ⟨hlt, e⟩ := List.getElem?_eq_some_iff.1 hx
  rw [List.take_succ_eq_append_getElem hlt, List.map_append, e]
  exact (runS_snoc _ _ _).symm
end Go.Proofs.Ytnhnbobgfadhpaa.Dec
namespace Go.Proofs.Ytnhnbobgfadhpaa.Dec
open Go Go.RowKit Go.Shelf Go.Proofs.YtnhnbobgfadhpaaW.PrintWords Go.Proofs.YtnhnbobgfadhpaaW.PrintLast Go.Proofs.YtnhnbobgfadhpaaW.PrintMore Go.Proofs.Ytnhnbobgfadhpaa.Mp
set_option linter.unusedVariables false
set_option linter.unusedSimpArgs false
theorem add_more (ad : Addr) (j i : Nat) : ad.add (j + (i + 1)) = ⟨(ad.add j).block, (ad.add j).off + (i + 1), none⟩ := by
  unfold Addr.add
  rw [if_neg (by omega)]
  split
  · rename_i h; subst h; simp
  · simp [Nat.add_assoc]
theorem aw_b {w W : World} (h : Below w.heap.size w W) : Calls Try.prog 7 #[] W fun e w' => e = .returned (.bool true) ∧ Below w.heap.size w w' :=
  (awake_c W).mono fun e w' ⟨he, hB⟩ => ⟨he, below_step h hB⟩
set_option maxRecDepth 100000 in
set_option maxHeartbeats 4000000 in
theorem ends_long (A : Option Addr) (c : Nat) (l : List (Int × Int × Int × ByteArray)) (n : Int) (v : ByteArray) (w : World) (hl : 200 < l.length) :
    Calls Try.prog 3 #[.int .i64 n, .slice A l.length c, .string v] w fun e w' => e = .returned (.bool true) ∧ Below w.heap.size w w' := by
  obtain ⟨m, hm⟩ : ∃ m, l.length = m := ⟨_, rfl⟩
  rw [hm] at hl ⊢
  have hli : (200 : Int) < (m : Int) := by omega
  clear hm hl
  have HB := Aside0.mk (Below.refl w.heap.size w)
  go_enter Try.func3, Try.ntmps3
  go_wp2_with (go_at_call 7; go_loud ((with_reducible refine (aw_b HB.out).mono ?_); clear HB; rintro e w1 ⟨rfl, hB⟩; have HB := Aside0.mk hB; clear hB))
  go_ret
  exact ⟨rfl, HB.out⟩
set_option maxRecDepth 100000 in
set_option maxHeartbeats 8000000 in
theorem ends_short (A : Option Addr) (c : Nat) (l : List (Int × Int × Int × ByteArray)) (n : Int) (v : ByteArray) (w : World) (hl : l.length ≤ 200) (hr : Kd.C KT w A l.length l) :
    Calls Try.prog 3 #[.int .i64 n, .slice A l.length c, .string v] w fun e w' => e = .returned (.bool true) ∧ Below w.heap.size w w' := by
  obtain ⟨m, hm⟩ : ∃ m, l.length = m := ⟨_, rfl⟩
  rw [hm] at hl hr ⊢
  have hli : (m : Int) ≤ 200 := by omega
  have HM := Aside0.mk hm
  have HR := Aside0.mk hr
  clear hm hl hr
  have HB := Aside0.mk (Below.refl w.heap.size w)
  go_enter Try.func3, Try.ntmps3
  go_wp2_with (first
    | (go_at_call 7; go_loud ((with_reducible refine (aw_b HB.out).mono ?_); clear HB; rintro e w1 ⟨rfl, hB⟩; have HB := Aside0.mk hB; clear hB))
    | (go_at_call 8; go_loud ((with_reducible refine (new_r n w1).mono ?_); rintro e w2 ⟨g, rfl, hR⟩; have H0 := Aside0.mk hR; clear hR)))
  go_loopw [8] (fun v8 wr => ∃ k : Nat, v8 = .int .i64 k ∧ k ≤ m ∧ Aside0 (Rel w1 wr g (nn n) k (runS (newD (nn n)) ((l.take k).map toSt)))) (fun v8 _ => m - (intOf v8).toNat)
  case atStart => exact ⟨0, rfl, Nat.zero_le _, ⟨H0.out⟩⟩
  case round =>
    clear H0
    obtain ⟨k, rfl, hk, HK⟩ := hrel
    by_cases hkm : k < m
    · have hki : (k : Int) < (m : Int) := by omega
      obtain ⟨x, hx⟩ : ∃ x, l[k]? = some x := ⟨_, List.getElem?_eq_getElem (by have := HM.out; omega)⟩
      obtain ⟨ad, rfl, e0, e1, e2, e3⟩ := kt_elem (Kd.C_below HR.out (below_step HB.out HK.out.below)) hx
      rw [add_more ad (k * 4) 0] at e1
      rw [add_more ad (k * 4) 1] at e2
      rw [add_more ad (k * 4) 2] at e3
      have HN := Aside0.mk (run_more hx (newD (nn n)))
      have HD := Aside0.mk (do_r HK.out ⟨x.1, x.2.1, x.2.2.1, x.2.2.2⟩ (by omega))
      have HX := Aside0.mk hx
      obtain ⟨x0, x1, x2, x3⟩ := x
      clear hx
      go_wp2_with (go_at_call 9; go_loud ((with_reducible refine HD.out.mono ?_); rintro e w3 ⟨rfl, hR⟩; have H3 := Aside0.mk hR; clear hR))
      go_roundw
      case rel => exact ⟨k + 1, by go_num, by omega, ⟨by have h := H3.out; rw [show doD (runS (newD (nn n)) ((l.take k).map toSt)) ⟨x0, x1, x2, x3⟩ = _ from HN.out] at h; exact h⟩⟩
      case measure => simp [intOf]; omega
    · have hki : ¬ (k : Int) < (m : Int) := by omega
      have HS := Aside0.mk (Dr.start HK.out (by omega))
      clear hkm HK
      go_wp2_with fail
      go_loopw [34] (fun _ wr => Aside0 (Dr w1 wr g (nn n))) (fun _ wr => ltLen wr g)
      case atStart => exact HS
      case round =>
        clear HS
        obtain ⟨d, k2, hR2, hb2, hk2⟩ := hrel.out
        obtain ⟨q, hq⟩ : ∃ q, d.lt.length = q := ⟨_, rfl⟩
        have HL := Aside0.mk (let_r hR2 hq)
        have H2 := Aside0.mk hR2
        have HB2 := Aside0.mk hb2
        have HK2 := Aside0.mk hk2
        by_cases h0 : q = 0
        · subst h0
          obtain ⟨cn, hcn⟩ : ∃ cn, d.ch.length = cn := ⟨_, rfl⟩
          have hcb : cn ≤ 1300 := by rw [← hcn]; have := hR2.re.ch; omega
          have HC := Aside0.mk hcn
          have HCR := Aside0.mk (cho_r hR2 (by omega) hcn)
          obtain ⟨c1, hc1⟩ : ∃ c1, cn + 1 = c1 := ⟨_, rfl⟩
          have hw1 : wrap64 ((cn : Int) + 1) = (c1 : Int) := by rw [← hc1]; unfold wrap64; omega
          have HC1 := Aside0.mk hc1
          have HE := Aside0.mk (ends_all hR2.re hR2.n0 hR2.n5 (List.length_eq_zero_iff.1 hq) hb2 v)
          clear hR2 hb2 hk2 hcn hcb hc1 hq
          go_wp2_with (first
            | (go_at_call 10; go_loud ((with_reducible refine HL.out.mono ?_); rintro e w4 ⟨rfl, rfl⟩))
            | (go_at_call 11; go_loud ((with_reducible refine HCR.out.mono ?_); rintro e w5 ⟨a5, c5, rfl, hR⟩; have H5 := Aside0.mk hR; have HD := Aside0.mk (do_r hR ⟨0, 0, 0, v⟩ (by have := HK2.out; omega)); clear hR))
            | (go_at_call 9; go_loud ((with_reducible refine HD.out.mono ?_); rintro e w6 ⟨rfl, hR⟩; have H6 := Aside0.mk hR; clear hR)))
          clear HL HCR HD
          go_loopw [10] (fun v10 wr => ∃ j : Nat, v10 = .int .i64 j ∧ j ≤ 60 ∧ Aside0 (Rel w1 wr g (nn n) (k2 + 1 + j) (takes j (doD d ⟨0, 0, 0, v⟩)))) (fun v10 _ => 60 - (intOf v10).toNat)
          case atStart => exact ⟨0, rfl, Nat.zero_le _, ⟨H6.out⟩⟩
          case round =>
            clear H6
            obtain ⟨j, rfl, hj, HJ⟩ := hrel
            obtain ⟨q, hq⟩ : ∃ q, (takes j (doD d ⟨0, 0, 0, v⟩)).lt.length = q := ⟨_, rfl⟩
            have HL := Aside0.mk (let_r HJ.out hq)
            by_cases hend : q = 0 ∨ j = 60
            · have HF := Aside0.mk (HE.out j (hend.elim (fun h => .inl (List.length_eq_zero_iff.1 (hq.trans h))) (fun h => .inr h)))
              obtain rfl : q = 0 := hq.symm.trans HF.out.1
              have hcc : (takes j (doD d ⟨0, 0, 0, v⟩)).ch.length = c1 := by rw [HF.out.2, HC.out]; exact HC1.out
              have HCR := Aside0.mk (cho_r HJ.out (by have := HK2.out; omega) hcc)
              clear hend hq hcc
              by_cases h60 : j = 60
              · subst h60
                go_wp2_with (first
                  | (go_at_call 10; go_loud ((with_reducible refine HL.out.mono ?_); rintro e w4 ⟨rfl, rfl⟩))
                  | (go_at_call 11; go_loud ((with_reducible refine HCR.out.mono ?_); rintro e w7 ⟨a7, c7, rfl, hR⟩; have H7 := Aside0.mk hR; clear HL; have HL := Aside0.mk (let_r hR HF.out.1); clear hR)))
                go_ret
                exact ⟨rfl, below_step HB.out H7.out.below⟩
              · have hji : (j : Int) < 60 := by omega
                go_wp2_with (first
                  | (go_at_call 10; go_loud ((with_reducible refine HL.out.mono ?_); rintro e w4 ⟨rfl, rfl⟩))
                  | (go_at_call 11; go_loud ((with_reducible refine HCR.out.mono ?_); rintro e w7 ⟨a7, c7, rfl, hR⟩; have H7 := Aside0.mk hR; clear HL; have HL := Aside0.mk (let_r hR HF.out.1); clear hR)))
                go_ret
                exact ⟨rfl, below_step HB.out H7.out.below⟩
            · have hq0 : (0 : Int) < (q : Int) := by omega
              have hji : (j : Int) < 60 := by omega
              have hj1 : j + 1 ≤ 60 := by omega
              have HD := Aside0.mk (do_r HJ.out ⟨1, 0, 0, ⟨#[]⟩⟩ (by have := HK2.out; omega))
              clear hend hq
              go_wp2_with (first
                | (go_at_call 10; go_loud ((with_reducible refine HL.out.mono ?_); rintro e w4 ⟨rfl, rfl⟩))
                | (go_at_call 9; go_loud ((with_reducible refine HD.out.mono ?_); rintro e w6 ⟨rfl, hR⟩; have H6 := Aside0.mk hR; clear hR)))
              go_roundw
              case rel => exact ⟨j + 1, by go_num, hj1, ⟨by have h := H6.out; rw [takes_snoc]; exact h⟩⟩
              case measure => simp [intOf]; omega
        · have h0i : (0 : Int) < (q : Int) := by omega
          have HQ := Aside0.mk hq
          have HD := Aside0.mk (do_r hR2 ⟨2, 0, 0, ⟨#[]⟩⟩ (by omega))
          clear hR2 hb2 hk2 hq h0
          go_wp2_with (first
            | (go_at_call 10; go_loud ((with_reducible refine HL.out.mono ?_); rintro e w4 ⟨rfl, rfl⟩))
            | (go_at_call 9; go_loud ((with_reducible refine HD.out.mono ?_); rintro e w3 ⟨rfl, hR⟩; have H3 := Aside0.mk hR; clear hR)))
          have HN := Aside0.mk (Dr.next H3.out HB2.out HK2.out (by have := HQ.out; omega))
          go_roundw
          case rel => exact ⟨HN.out.1⟩
          case measure => have := HN.out.2; have := H2.out.len; omega
theorem law_ends (A : Option Addr) (c : Nat) (l : List (Int × Int × Int × ByteArray)) (n : Int) (v : ByteArray) (w : World) (hr : Kd.C KT w A l.length l) :
    Calls Try.prog 3 #[.int .i64 n, .slice A l.length c, .string v] w fun e w' => e = .returned (.bool true) ∧ Below w.heap.size w w' := by
  by_cases hl : l.length ≤ 200
  · exact ends_short A c l n v w hl hr
  · exact ends_long A c l n v w (by omega)
end Go.Proofs.Ytnhnbobgfadhpaa.Dec
namespace Go.Proofs.YtnhnbobgfadhpaaOpens
open Go.ChangeShapes Go.WideShapes Go.Deep Go.Proofs.YtnhnbobgfadhpaaW.PrintWords

/-- whatever the reader reads at type e is of kind d, and Q holds of it -/
def Reads {α : Type} (d : Kd α) (P : Program) (e : TypeId) (Q : α → Prop) : Prop :=
  ∀ (H : Type) (enc : TypeId × Value → H) (w : World) (base : Nat) (spare : Nat → Bool) (held : Bool) (n : Nat) (cs : List Value) (x : DataW H × List MemPlace),
    DataW.trod enc P w base spare held n e cs = some x → ∃ a : α, d.K w a cs ∧ Q a

theorem reads_int {P : Program} {e : TypeId} {k : IntKind} (he : P.underlying e = some (.int k)) : Reads (Kd.int k) P e (fun n => (Lit.int k n).wf = true) := by
  intro H enc w base spare held n cs x h
  obtain ⟨m, rfl, _, hw⟩ := DataW.trod_int he h
  exact ⟨m, rfl, hw⟩
theorem reads_bool {P : Program} {e : TypeId} (he : P.underlying e = some .bool) : Reads Kd.bool P e (fun _ => True) := by
  intro H enc w base spare held n cs x h
  obtain ⟨m, rfl, _⟩ := DataW.trod_bool he h
  exact ⟨m, rfl, trivial⟩
theorem reads_string {P : Program} {e : TypeId} (he : P.underlying e = some .string) : Reads Kd.string P e (fun s => s.size ≤ maxLen) := by
  intro H enc w base spare held n cs x h
  obtain ⟨m, rfl, _, hs⟩ := DataW.trod_string he h
  exact ⟨m, rfl, hs⟩
theorem reads_iso {α β : Type} {d : Kd α} {P : Program} {e : TypeId} {Q : α → Prop} (f : β → α) (g : α → β) (hfg : ∀ a, f (g a) = a) (h : Reads d P e Q) : Reads (Kd.iso d f) P e (fun b => Q (f b)) := by
  intro H enc w base spare held n cs x hx
  obtain ⟨a, ha, hq⟩ := h H enc w base spare held n cs x hx
  exact ⟨g a, by show d.K w (f (g a)) cs; rw [hfg]; exact ha, by show Q (f (g a)); rw [hfg]; exact hq⟩
theorem reads_imp {α : Type} {d : Kd α} {P : Program} {e : TypeId} {Q Q' : α → Prop} (h : Reads d P e Q) (hq : ∀ a, Q a → Q' a) : Reads d P e Q' := by
  intro H enc w base spare held n cs x hx
  obtain ⟨a, ha, h1⟩ := h H enc w base spare held n cs x hx
  exact ⟨a, ha, hq a h1⟩

/-- fields, from cell 'off' on -/
def ReadsFs {α : Type} (d : Kd α) (P : Program) (fs : List Field) (off : Nat) (Q : α → Prop) : Prop :=
  ∀ (H : Type) (enc : TypeId × Value → H) (w : World) (base : Nat) (spare : Nat → Bool) (held : Bool) (n : Nat) (cs : List Value),
    cs.length = d.sz → (∀ f, f ∈ fs → ∃ y, DataW.trod enc P w base spare held n f.type ((cs.drop (f.offset - off)).take (P.cellsOf f.type)) = some y) → ∃ a : α, d.K w a cs ∧ Q a

theorem fs_last {α : Type} {d : Kd α} {P : Program} {f : Field} {off : Nat} {Q : α → Prop} (h : Reads d P f.type Q) (hs : P.cellsOf f.type = d.sz) (ho : f.offset = off) : ReadsFs d P [f] off Q := by
  intro H enc w base spare held n cs hl hf
  obtain ⟨y, hy⟩ := hf f (List.mem_singleton.2 rfl)
  rw [ho, Nat.sub_self, List.drop_zero, hs, List.take_of_length_le (by omega)] at hy
  exact h H enc w base spare held n cs y hy
theorem fs_cons {α β : Type} {a : Kd α} {b : Kd β} {P : Program} {f : Field} {fs : List Field} {off : Nat} {Qa : α → Prop} {Qb : β → Prop} (h : Reads a P f.type Qa) (hs : P.cellsOf f.type = a.sz) (ho : f.offset = off)
    (hr : ∀ g, g ∈ fs → off + a.sz ≤ g.offset) (hb : ReadsFs b P fs (off + a.sz) Qb) : ReadsFs (Kd.pair a b) P (f :: fs) off (fun x => Qa x.1 ∧ Qb x.2) := by
  intro H enc w base spare held n cs hl hf
  have hl' : cs.length = a.sz + b.sz := hl
  obtain ⟨y, hy⟩ := hf f (List.mem_cons_self ..)
  rw [ho, Nat.sub_self, List.drop_zero, hs] at hy
  obtain ⟨x, hx, hqx⟩ := h H enc w base spare held n _ y hy
  obtain ⟨z, hz, hqz⟩ := hb H enc w base spare held n (cs.drop a.sz) (by rw [List.length_drop]; omega) (fun g hg => by
    obtain ⟨u, hu⟩ := hf g (List.mem_cons_of_mem _ hg)
    refine ⟨u, ?_⟩
    have := hr g hg
    rw [List.drop_drop, show a.sz + (g.offset - (off + a.sz)) = g.offset - off from by omega]
    exact hu)
  exact ⟨(x, z), ⟨cs.take a.sz, cs.drop a.sz, (List.take_append_drop _ _).symm, hx, hz⟩, hqx, hqz⟩
theorem reads_struct {α : Type} {d : Kd α} {P : Program} {t : TypeId} {fs : Array Field} {Q : α → Prop} (ht : P.underlying t = some (.struct fs)) (hs : P.cellsOf t = d.sz) (h : ReadsFs d P fs.toList 0 Q) : Reads d P t Q := by
  intro H enc w base spare held n cs x hx
  obtain ⟨xs, m, _, _, hl, hlen, hf⟩ := DataW.trod_struct ht hx
  refine h H enc w base spare held m cs (hl.trans hs) (fun f hm => ?_)
  obtain ⟨i, hi, rfl⟩ := List.mem_iff_getElem.1 hm
  have hi' : i < fs.size := by rw [Array.length_toList] at hi; exact hi
  have e := hf i (fs.toList[i]) (by rw [Array.getElem?_eq_getElem hi']; rfl)
  have hx2 : i < xs.length := by omega
  exact ⟨xs[i], by rw [Nat.sub_zero, e]; exact List.getElem?_eq_getElem hx2⟩

theorem collect {α : Type} (len : Nat) (R : Nat → α → Prop) (each : ∀ i, i < len → ∃ z, R i z) : ∃ xs : List α, xs.length = len ∧ ∀ i z, xs[i]? = some z → R i z := by
  induction len with
  | zero => exact ⟨[], rfl, fun i z hz => by cases hz⟩
  | succ len ih =>
    obtain ⟨xs, hxl, hxs⟩ := ih (fun i hil => each i (by omega))
    obtain ⟨z, hz⟩ := each len (by omega)
    refine ⟨xs ++ [z], by rw [List.length_append, hxl]; rfl, fun i y hy => ?_⟩
    by_cases hil : i < xs.length
    · rw [List.getElem?_append_left hil] at hy; exact hxs i y hy
    · rw [List.getElem?_append_right (by omega)] at hy
      obtain ⟨hj, rfl⟩ := List.getElem?_eq_some_iff.1 hy
      have : i = len := by simp at hj; omega
      subst this
      simpa using hz

/-- a slice -/
theorem slice_row {α : Type} {d : Kd α} {P : Program} {t e : TypeId} {Q : α → Prop} (ht : P.underlying t = some (.slice e)) (hs : P.cellsOf e = d.sz) (h : Reads d P e Q)
    (H : Type) (enc : TypeId × Value → H) (w : World) (base : Nat) (spare : Nat → Bool) (held : Bool) (n : Nat) (cs : List Value) (x : DataW H × List MemPlace)
    (hx : DataW.trod enc P w base spare held n t cs = some x) : ∃ (A : Option Addr) (c : Nat) (xs : List α), cs = [.slice A xs.length c] ∧ xs.length ≤ c ∧ c ≤ maxLen ∧ d.C w A xs.length xs ∧ ∀ a ∈ xs, Q a := by
  rcases open_slice ht hx with ⟨rfl, _⟩ | ⟨a, len, cap, m, n', D, Pl, rfl, hb, hl, hm, hmm, _, hi⟩
  · exact ⟨none, 0, [], rfl, Nat.le_refl _, by decide, ⟨rfl, Nat.zero_le _, fun h0 => absurd h0 (Nat.lt_irrefl 0)⟩, fun a ha => by cases ha⟩
  · have hlm : len ≤ m := by rw [hmm]; split <;> omega
    have each : ∀ i, i < len → ∃ z : α, Q z ∧ ∃ c : List Value, c.length = d.sz ∧ d.K w z c ∧ ∀ j u, c[j]? = some u → w.cell? (a.add (i * d.sz + j)) = some u := by
      intro i hil
      obtain ⟨cs', hc, hy⟩ := hi i (by omega)
      rw [hs] at hc
      obtain ⟨z, hz, hq⟩ := h H enc w base spare held n' cs' _ hy
      obtain ⟨_, hcl, hat⟩ := World.cells?_some hc
      refine ⟨z, hq, cs', d.K_len hz, hz, fun j u hu => ?_⟩
      obtain ⟨hj, hu2⟩ := List.getElem?_eq_some_iff.1 hu
      have := hat j (by omega)
      rw [← Go.Deep.add_add, this]
      exact hu
    have hex := collect len _ each
    obtain ⟨xs, rfl, hxs⟩ := hex
    refine ⟨some a, cap, xs, rfl, hl, hm, ⟨rfl, by have : xs.length ≤ maxLen := by omega
                                                   unfold maxLen at this; exact this, fun _ => ⟨a, rfl, fun j p hp => (hxs j p hp).2⟩⟩, fun z hz => ?_⟩
    obtain ⟨i, hi2, rfl⟩ := List.mem_iff_getElem.1 hz
    exact (hxs i _ (List.getElem?_eq_getElem hi2)).1
theorem reads_slice {α : Type} {d : Kd α} {P : Program} {t e : TypeId} {Q : α → Prop} (ht : P.underlying t = some (.slice e)) (hs : P.cellsOf e = d.sz) (h : Reads d P e Q) : Reads (Kd.slice e d) P t (fun xs => xs.length ≤ maxLen ∧ ∀ a ∈ xs, Q a) := by
  intro H enc w base spare held n cs x hx
  obtain ⟨A, c, xs, rfl, hl, hm, hC, hq⟩ := slice_row ht hs h H enc w base spare held n cs x hx
  exact ⟨xs, ⟨A, c, rfl, hl, hC⟩, by omega, hq⟩
/-- a slice as an argument -/
theorem arg_slice {α : Type} {d : Kd α} {P : Program} {t e : TypeId} {Q : α → Prop} (ht : P.underlying t = some (.slice e)) (hs : P.cellsOf e = d.sz) (h : Reads d P e Q)
    {H : Type} {enc : TypeId × Value → H} {w : World} {base : Nat} {spare : Nat → Bool} {held : Bool} {r : Reach} {b0 : Nat} {v : Value} {dd : DataW H} {p : List MemPlace} (hv : Value.okWide P w r b0 t v) (hx : DataW.Trod enc P w base spare held t v dd p) :
    ∃ (A : Option Addr) (c : Nat) (xs : List α), v = .slice A xs.length c ∧ xs.length ≤ c ∧ c ≤ maxLen ∧ d.C w A xs.length xs ∧ ∀ a ∈ xs, Q a := by
  obtain ⟨a, len, cap, rfl⟩ := okWide_slice ht hv
  obtain ⟨fuel, hf⟩ := hx
  obtain ⟨A, c, xs, hcs, hl, hm, hC, hq⟩ := slice_row ht hs h H enc w base spare held fuel _ _ hf
  simp only [Value.cells, List.cons.injEq, and_true] at hcs
  exact ⟨A, c, xs, hcs, hl, hm, hC, hq⟩

/-- a struct as an argument -/
theorem arg_agg {α : Type} {d : Kd α} {P : Program} {t : TypeId} {fs : Array Field} {Q : α → Prop} (ht : P.underlying t = some (.struct fs)) (h : Reads d P t Q)
    {H : Type} {enc : TypeId × Value → H} {w : World} {base : Nat} {spare : Nat → Bool} {held : Bool} {r : Reach} {b0 : Nat} {v : Value} {dd : DataW H} {p : List MemPlace} (hv : Value.okWide P w r b0 t v) (hx : DataW.Trod enc P w base spare held t v dd p) :
    ∃ (cs : Array Value) (a : α), v = .agg cs ∧ d.K w a cs.toList ∧ Q a := by
  obtain ⟨cs, rfl, hsz⟩ := okWide_struct ht hv
  obtain ⟨fuel, hf⟩ := hx
  obtain ⟨a, hk, hq⟩ := h H enc w base spare held fuel _ _ hf
  exact ⟨cs, a, rfl, hk, hq⟩

/-- an array of two numbers as an argument -/
theorem arg_two {P : Program} {t e : TypeId} {k : IntKind} (ht : P.underlying t = some (.array 2 e)) (he : P.underlying e = some (.int k)) (hs : P.cellsOf t = 2) (hc : P.cellsOf e = 1)
    {H : Type} {enc : TypeId × Value → H} {w : World} {base : Nat} {spare : Nat → Bool} {held : Bool} {r : Reach} {b0 : Nat} {v : Value} {dd : DataW H} {p : List MemPlace} (hv : Value.okWide P w r b0 t v) (hx : DataW.Trod enc P w base spare held t v dd p) :
    ∃ a b : Int, v = .agg #[.int k a, .int k b] ∧ (Lit.int k a).wf = true ∧ (Lit.int k b).wf = true := by
  simp only [Value.okWide, ht] at hv
  obtain ⟨cs, rfl, hsz, _⟩ := hv
  rw [hs] at hsz
  obtain ⟨fuel, hf⟩ := hx
  obtain ⟨xs, m, _, _, hl, hlen, hi⟩ := DataW.trod_array ht hf
  obtain ⟨ls⟩ := cs
  match ls, hsz with
  | [c0, c1], _ =>
    have h0 := hi 0 (by omega)
    have h1 := hi 1 (by omega)
    rw [hc, List.getElem?_eq_getElem (by omega)] at h0 h1
    obtain ⟨a, ea, _, wa⟩ := DataW.trod_int he h0
    obtain ⟨b, eb, _, wb⟩ := DataW.trod_int he h1
    have ea' : c0 = .int k a := by simpa [Value.cells] using ea
    have eb' : c1 = .int k b := by simpa [Value.cells] using eb
    exact ⟨a, b, by rw [ea', eb'], wa, wb⟩
end Go.Proofs.YtnhnbobgfadhpaaOpens
namespace Go.Proofs.Ytnhnbobgfadhpaa.decreeEnds
open Go.ChangeShapes Go.WideShapes Go.ChangeAt Go.RowKit
open Go.ChangeMaps (open_string shut_string)
open Go.Proofs.Ytnhnbobgfadhpaa Go.Proofs.YtnhnbobgfadhpaaOpens Go.Proofs.YtnhnbobgfadhpaaW.PrintWords
set_option linter.unusedVariables false
theorem own : ownKnob Try.prog.godebug = none := by kernel_rfl
theorem laidOut : laidOutB Try.prog = true := by kernel_rfl
set_option maxRecDepth 100000 in
theorem lifted (os : Os) (started : os.Started) (H : Type) (enc : TypeId × Value → H) :
    ReturnsInHanded {} Try.checked os 3 .any (Rows.decreeEndsSpec.pre6 enc Try.prog Try.f3 Rows.decreeEndsRow.domain false) (Rows.decreeEndsSpec.post enc Try.prog Try.f3 false true false false) := by
  refine returnsInHanded_of_change_sized (C := Try.checked) own started (by kernel_rfl) Try.func3
    (ChangeSpec.witness6 (enc := enc) (C := Try.checked) false ⟨#[], #[.int .i64 0, .slice none 0 0, .string ⟨#[]⟩], []⟩ 8 (by kernel_rfl) (by kernel_rfl) (by kernel_rfl) (by kernel_rfl)) ?_
  intro W base args ds gs before hval0 hW hcnd hsz0 _
  have hsz : (DataW.weightsEach Try.prog (Try.f3.params.toList ++ Rows.decreeEndsSpec.plain.varTypes Try.prog) (ds ++ gs)).all (· ≤ reachBytes) = true := hsz0
  have hval : ∀ (j : Nat) t v, Try.f3.params[j]? = some t → args[j]? = some v → Value.okWide Try.prog W .any base t v := hval0
  have hW' := hW
  obtain ⟨p, q, hA0, hV, rfl, hfz, hnd⟩ := hW
  have hA : DataW.TrodAll enc Try.prog W 0 (fun _ => true) true Try.f3.params.toList args.toList ds p := hA0
  rw [Try.params3] at hA hval hsz
  obtain ⟨v0, vs0, d0, ds0, p0, q0, hargs, rfl, rfl, h0, r0⟩ := trodAll_cons hA
  obtain ⟨v1, vs1, d1, ds1, p1, q1, rfl, rfl, rfl, h1, r1⟩ := trodAll_cons r0
  obtain ⟨v2, vs2, d2, ds2, p2, q2, rfl, rfl, rfl, h2, r2⟩ := trodAll_cons r1
  obtain ⟨rfl, rfl, rfl⟩ := trodAll_nil r2
  obtain rfl : args = #[v0, v1, v2] := by cases args; simp_all
  obtain ⟨rfl, rfl⟩ := trodVars_none hV
  obtain ⟨a0, rfl, rfl, rfl, w0⟩ := open_int Try.underlying3 (hval 0 3 v0 rfl rfl) h0
  have k1 := h1
  have lt1 : ∀ x ∈ p1, x.block < W.heap.size := by obtain ⟨m, hm⟩ := k1; exact DataW.trod_lt m _ _ _ hm
  obtain ⟨A1, c1, l1, rfl, hl1, hm1, hC1, hq1⟩ := arg_slice Try.underlying22 (by kernel_rfl) (reads_struct Try.underlying28 (by kernel_rfl) (fs_cons (reads_int Try.underlying3) (by kernel_rfl) rfl (by decide) (fs_cons (reads_int Try.underlying3) (by kernel_rfl) rfl (by decide) (fs_cons (reads_int Try.underlying3) (by kernel_rfl) rfl (by decide) (fs_last (reads_string Try.underlying9) (by kernel_rfl) rfl))))) (hval 1 22 v1 rfl rfl) h1
  obtain ⟨a2, rfl, rfl, rfl, y2⟩ := open_string Try.underlying9 (hval 2 9 v2 rfl rfl) h2
  have w2 : a2.size ≤ 140737488351232 := by
    have z := sized_string hsz (j := 2) (t := 9) rfl rfl
    rw [Array.length_toList] at z
    exact z
  clear hA0 hval0 hsz0 hsz
  refine (Go.Proofs.Ytnhnbobgfadhpaa.Dec.law_ends A1 c1 l1 a0 a2 W hC1).mono fun e W' ⟨he, bel⟩ => ?_
  subst he
  exact ⟨_, rfl, _, _, _, [], _, [], hW', trodAll_mk1 (shut_bool Try.underlying4 _), (trodAll_cons_mk (shut_int Try.underlying3 w0) (trodAll_cons_mk (Below.trod laidOut (by kernel_rfl) (of_decide_eq_true (by kernel_rfl)) k1 bel lt1) (trodAll_cons_mk (shut_string Try.underlying9 y2) trodAll_mk0))), rfl, bel.frame _, fun h => by cases h⟩
theorem over : Rows.decreeEndsRow.holds Try.pinned (OpenSpec.ofChange Rows.decreeEndsSpec) :=
  OpenClaim.holds_of_wide 3 Try.f3 rfl rfl rfl rfl rfl rfl rfl ⟨rfl, rfl, rfl, rfl, rfl⟩ rfl rfl rfl rfl rfl (by kernel_rfl) Try.func3 (by kernel_rfl)
    (of_decide_eq_true (by kernel_rfl)) (by unfold Func.isWrapper; first | (rw [if_pos (by decide +kernel)]; kernel_rfl) | (rw [if_neg (by decide +kernel)]; exact ⟨rfl, rfl⟩))
    (fun os started H enc _ => lifted os started H enc)
theorem proved : Rows.DecreeEndsSaid := over
#print axioms proved
end Go.Proofs.Ytnhnbobgfadhpaa.decreeEnds
namespace Go.Proofs.Ytnhnbobgfadhpaa
/-- The row, under a short name, for the claim. -/
theorem decreeEnds_holds : Rows.DecreeEndsSaid := decreeEnds.proved
end Go.Proofs.Ytnhnbobgfadhpaa
