/- Here is proved: what ranges.Join answers, its result a row of one's own. Conditions: none. -/
import Derived.Test.YtondnammkcgjpaaMRangesRoots1
import Derived.Test.YtondnammkcgjpaaMRangesAdds1
import Derived.Test.YtondnammkcgjpaaRows
import Derived.WalkKit
import Derived.ProofKit
import Derived.OpenShut
import Derived.ShutString
import Derived.ChangeOld
import Derived.Below
import Derived.SizedLaws
namespace Go.Proofs.Ytondnammkcgjpaa.Rg
open Go Go.RowKit Go.Shelf Go.Proofs.YtondnammkcgjpaaW.PrintWords Go.Proofs.YtondnammkcgjpaaW.PrintLast Go.Proofs.YtondnammkcgjpaaW.PrintMore
open Go.Proofs.Ytondnammkcgjpaa.ShaP Go.Proofs.Ytondnammkcgjpaa.Mk Go.Proofs.Ytondnammkcgjpaa.Rng Go.Proofs.Ytondnammkcgjpaa.Fun
set_option linter.unusedVariables false
set_option linter.unusedSimpArgs false
attribute [local go_sem] Oper.semAt_some
/-- a list that came in, or a row of the call's own -/
def Src2 (b : Nat) (W : World) (A : Option Addr) (m c : Nat) (l : List ByteArray) : Prop := SR W b (.slice A m c) l
theorem Src2.read {b : Nat} {W : World} {A : Option Addr} {c : Nat} {l : List ByteArray} (h : Src2 b W A l.length c l) : Kd.C Kd.string W A l.length l := (Kd.R_reads' h).2.2
/-- what holds ahead of each round -/
def JnI2 (bs : Nat) (w : World) (gT gA gB gZ gI Bn R1 R2 : Nat) (l1 l2 : List ByteArray) (B : Option Addr) (cB : Nat) (pre : List Pw) (W : World) : Prop :=
  ∃ (A : Option Addr) (m c : Nat) (l : List ByteArray) (u : Value), Mem.Own w W [(gT, TV, 31), (gA, #[.int .i64 ((R1 + sumP pre : Nat) : Int), .slice A m c], 41), (gB, #[.int .i64 (R2 : Int), .slice B l2.length cB], 41), (gZ, #[.int .i64 0, .slice none 0 0], 41), (gI, #[.int .i64 (pre.length : Int)], 3), (Bn, #[u], 3)]
    ∧ Src2 bs W A m c l ∧ l.length = m ∧ m ≤ c ∧ l.length ≤ l1.length + pre.length ∧ Sm l ∧ joinS R1 l1 l2 pre = some (R1 + sumP pre, l, pre.length)
theorem src_rec2 {bs : Nat} {W V : World} {A : Option Addr} {m c : Nat} {l : List ByteArray} {row : Option Nat} (h : Src2 bs W A m c l) (hg : W.grownBy V row) (hr : Rec W row) : Src2 bs V A m c l := by
  exact row_rec rfl h hg hr
theorem src_below2 {bs : Nat} {W V : World} {A : Option Addr} {m c : Nat} {l : List ByteArray} (h : Src2 bs W A m c l) (hb : Below W.heap.size W V) : Src2 bs V A m c l := by
  exact Kd.R_below h hb
theorem src_set2 {bs : Nat} {W : World} {A : Option Addr} {m c : Nat} {l : List ByteArray} (h : Src2 bs W A m c l) {g t : Nat} {cells : Array Value} (hb : W.heap[g]? = some (.cells cells t (0, 0))) (ht : ∀ q, q ∈ 9 :: Kd.string.E → q ≠ t) (j : Nat) (z : Value) : Src2 bs (W.setCell ⟨g, j, none⟩ z) A m c l := by
  exact Kd.R_set h hb ht j z
theorem jnI_from2 {bs : Nat} {w : World} {gT gA gB gZ gI Bn R1 R2 : Nat} {l1 l2 : List ByteArray} {B : Option Addr} {cB N : Nat} (hB : w.heap.size ≤ N) : OwnFrom N (JnI2 bs w gT gA gB gZ gI Bn R1 R2 l1 l2 B cB) := fun pre W V row h hg hr => by
  obtain ⟨A, m, c, l, u, hO, hS, h1, h2, h3, h4, h5⟩ := h
  have hrec : Rec W row := fun r e => (hr r e).2
  exact ⟨A, m, c, l, u, own_rec hO hg hrec (fun r e => Nat.le_trans hB (hr r e).1), src_rec2 hS hg hrec, h1, h2, h3, h4, h5⟩
theorem jnI_set2 {bs : Nat} {w : World} {gT gA gB gZ gI Bn R1 R2 : Nat} {l1 l2 : List ByteArray} {B : Option Addr} {cB : Nat} {pre : List Pw} {W : World} (h : JnI2 bs w gT gA gB gZ gI Bn R1 R2 l1 l2 B cB pre W) (z : Value) : JnI2 bs w gT gA gB gZ gI Bn R1 R2 l1 l2 B cB pre (W.setCell ⟨Bn, 0, none⟩ z) := by
  obtain ⟨A, m, c, l, u, hO, hS, h1, h2, h3, h4, h5⟩ := h
  exact ⟨A, m, c, l, z, hO.put 5 rfl 0 z rfl, src_set2 hS (hO.blk 5 rfl) (by decide) 0 z, h1, h2, h3, h4, h5⟩
set_option maxRecDepth 100000 in
set_option maxHeartbeats 8000000 in
theorem join_ok2 (bs : Nat) (R1 R2 : Nat) (A B : Option Addr) (c1 c2 : Nat) (l1 l2 : List ByteArray) (s : Nat × List ByteArray × Nat) (w : World) (h1 : R1 ≤ 1000) (h2 : R2 ≤ 1000) (hb : R1 = 0 ∨ (R2 : Int) ≤ lowB R1) (hj : joinS R1 l1 l2 (pws 64 R2) = some s)
    (hl1 : l1.length ≤ 1000) (hl2 : l2.length ≤ 1000) (hc1 : l1.length ≤ c1) (hs1 : Sm l1) (hs2 : Sm l2) (hbs : bs ≤ w.heap.size) (hr1 : SR w bs (.slice A l1.length c1) l1) (hr2 : Kd.C Kd.string w B l2.length l2) :
    Calls Try.prog 20 #[.agg TV, .agg #[.int .i64 (R1 : Int), .slice A l1.length c1], .agg #[.int .i64 (R2 : Int), .slice B l2.length c2]] w fun e w' => ∃ v, e = .returned (.tuple #[.agg #[.int .i64 ((R1 + sumP (pws 64 R2) : Nat) : Int), v], .int .i64 0]) ∧ SR w' bs v s.2.1 ∧ Below w.heap.size w w' := by
  have OW := Aside0.mk (Mem.Own.nil w)
  have HJ := Aside0.mk hj
  have HB1 := Aside0.mk (show R1 ≤ 1000 ∧ R2 ≤ 1000 ∧ l1.length ≤ 1000 ∧ l2.length ≤ 1000 ∧ l1.length ≤ c1 from ⟨h1, h2, hl1, hl2, hc1⟩)
  have HS := Aside0.mk (show Sm l1 ∧ Sm l2 from ⟨hs1, hs2⟩)
  have HR1 := Aside0.mk hr1
  have HBS := Aside0.mk hbs
  have HR2 := Aside0.mk hr2
  have HPW := Aside0.mk (pow_c (R2 : Int))
  have hi1 : (R1 : Int) ≤ 1000 := by omega
  have hi2 : (R2 : Int) ≤ 1000 := by omega
  obtain ⟨lw, hlw⟩ : ∃ z, Go.bits .and .i64 (R1 : Int) (-(R1 : Int)) = z := ⟨_, rfl⟩
  have hbb : ((0 : Int) < (R1 : Int) ∧ (R2 : Int) ≤ lw) ∨ (R1 : Int) ≤ 0 := by
    rw [← hlw]
    rcases hb with hb | hb
    · exact .inr (by omega)
    · rcases Nat.eq_zero_or_pos R1 with h0 | h0
      · exact .inr (by omega)
      · exact .inl ⟨by omega, hb⟩
  clear hb h1 h2 hl1 hl2 hc1 hs1 hs2 hr1 hr2 hj hbs
  refine (callsIn_wide (n := 5)).1 ?_
  refine callsIn_of_wp_marks Try.func20 rfl trivial ?_ rfl
  simp only [Try.ntmps20, List.size_toArray, List.length_cons, List.length_nil, Nat.reduceAdd, Nat.reduceSub, Array.replicate_succ, Array.replicate_zero, List.push_toArray, List.append_toArray, List.nil_append, List.cons_append]
  refine wpIn_wide.2 ?_
  rcases hbb with ⟨hz1, hz2⟩ | hz1
  all_goals
    go_wp2_with (first
      | ((with_reducible refine gate_dst (N := 3) rfl ?_); refine box_event ?hg (N := 3) ?hd (cs := TV) (t := 31) ?hr ?_; (case hd => rfl); (case hg => rfl); (case hr => first | (go_simp; done) | (go_simp; rfl)); intro gT hg W_ hb hbb; have n_ : Aside0 (Mem.Own w W_ [(gT, TV, 31)]) := ⟨OW.out.new hg hb hbb⟩; clear OW hb hbb hg; have OW := n_; clear n_)
      | ((with_reducible refine gate_dst (N := 4) rfl ?_); refine box_event ?hg (N := 4) ?hd (cs := #[.int .i64 (R1 : Int), .slice A l1.length c1]) (t := 41) ?hr ?_; (case hd => rfl); (case hg => rfl); (case hr => first | (go_simp; done) | (go_simp; rfl)); intro gA hg W_ hb hbb; have n_ : Aside0 (Mem.Own w W_ [(gT, TV, 31), (gA, #[.int .i64 (R1 : Int), .slice A l1.length c1], 41)]) := ⟨OW.out.new hg hb hbb⟩; clear OW hb hbb hg; have OW := n_; clear n_)
      | ((with_reducible refine gate_dst (N := 5) rfl ?_); refine box_event ?hg (N := 5) ?hd (cs := #[.int .i64 (R2 : Int), .slice B l2.length c2]) (t := 41) ?hr ?_; (case hd => rfl); (case hg => rfl); (case hr => first | (go_simp; done) | (go_simp; rfl)); intro gB hg W_ hb hbb; have n_ : Aside0 (Mem.Own w W_ [(gT, TV, 31), (gA, #[.int .i64 (R1 : Int), .slice A l1.length c1], 41), (gB, #[.int .i64 (R2 : Int), .slice B l2.length c2], 41)]) := ⟨OW.out.new hg hb hbb⟩; clear OW hb hbb hg; have OW := n_; clear n_)
      | ((with_reducible refine gate_dst (N := 6) rfl ?_); refine box_event ?hg (N := 6) ?hd (cs := #[.int .i64 0, .slice none 0 0]) (t := 41) ?hr ?_; (case hd => rfl); (case hg => rfl); (case hr => first | (go_simp; done) | (go_simp; rfl)); intro gZ hg W_ hb hbb; have a0 := ((OW.out.step hbb).cell 1 rfl 0).trans rfl; have b0 := ((OW.out.step hbb).cell 2 rfl 0).trans rfl; have n_ : Aside0 (Mem.Own w W_ [(gT, TV, 31), (gA, #[.int .i64 (R1 : Int), .slice A l1.length c1], 41), (gB, #[.int .i64 (R2 : Int), .slice B l2.length c2], 41), (gZ, #[.int .i64 0, .slice none 0 0], 41)]) := ⟨OW.out.new hg hb hbb⟩; clear OW hb hbb hg; have OW := n_; clear n_)
      | ((with_reducible refine gate_dst (N := 8) rfl ?_); refine box_event ?hg (N := 8) ?hd (cs := #[.int .i64 0]) (t := 3) ?hr ?_; (case hd => rfl); (case hg => rfl); (case hr => first | (go_simp; done) | (go_simp; rfl)); intro gI hg W_ hb hbb; clear a0 b0; have i0 := (blk_cell hb 0).trans rfl; have j0 := blk_frozen hb 0; have b0 := (((OW.out.new hg hb hbb).put 4 rfl 0 (.int .i64 0) rfl).cell 2 rfl 0).trans rfl; have n_ : Aside0 (Mem.Own w W_ [(gT, TV, 31), (gA, #[.int .i64 (R1 : Int), .slice A l1.length c1], 41), (gB, #[.int .i64 (R2 : Int), .slice B l2.length c2], 41), (gZ, #[.int .i64 0, .slice none 0 0], 41), (gI, #[.int .i64 0], 3)]) := ⟨OW.out.new hg hb hbb⟩; clear OW hb hbb hg; have OW := n_; clear n_)
      | (go_at_call 54; with_reducible refine (HPW.out _).mono ?_; rintro e w_ ⟨Bn, rfl, hBn, hbk, hB⟩; have n_ := Aside0.mk ((OW.out.put 4 rfl 0 (.int .i64 0) rfl).new hBn hbk hB); clear OW i0 j0 b0 hBn hbk hB; have OW := n_; clear n_))
    have hBn : Bn < w_.heap.size := blk_lt (OW.out.blk 5 rfl)
    refine (wpIn_wide (n := 5)).1 ?_
    refine' range_cellN (α := Pw) (encs := enc1) (Nx := fun pre x => pre ++ [x] <+: pws 64 R2) (Bn := Bn) (Kp := Keep1 Bn) rfl (by omega) (gf := 82) (lb := #[.pointer (some ⟨Bn, 0, none⟩)]) rfl trivial (enters_of Try.func82 (by kernel_rfl) rfl)
      (powers1N lenC 4 (by omega) Bn R2 (by have := HB1.out; omega) w_ hBn (OW.out.blk 5 rfl)) keep1_t (fun V lp o o2 hl h hc => keep1_b (Bn := Bn) (B0 := w_.heap.size) hBn V lp o o2 hl h hc) (Below.refl _ _) (fun _ => rfl)
      (JnI2 bs w gT gA gB gZ gI Bn R1 R2 l1 l2 B c2) (fun _ _ _ => False) (jnI_from2 OW.out.size) (fun _ _ _ _ _ hs _ _ => hs) (fun _ _ v hs => jnI_set2 hs v) ⟨A, l1.length, c1, l1, _, OW.out, Kd.R_below HR1.out OW.out.below, rfl, HB1.out.2.2.2.2, Nat.le_refl _, HS.out.1, rfl⟩ _ ?assign ?body ?done ?stop
    case assign =>
      intro lp x W K hK
      gi_wp2
      exact hK
    case body =>
      have HSZ := Aside0.mk OW.out.size
      clear OW hBn
      rintro lp pre x W ⟨A1, m1, c3, l, u, hO, hS, e1, e2, e3, e4, e5⟩ hnx
      have hsum := sumP_pre (by have := HB1.out; omega) hnx
      obtain ⟨s2, hs2⟩ := joinS_pre HJ.out hnx
      have hpl : pre.length + 1 ≤ 64 := by
        have h1 := hnx.length_le
        have h2 := pws_len 64 R2
        rw [List.length_append, List.length_singleton] at h1
        omega
      have HSP : Aside0 (sumP (pre ++ [x]) = sumP pre + x.1) := ⟨by rw [sumP_append]; simp [sumP]⟩
      have HJS := Aside0.mk (hs2)
      rw [joinS_snoc, e5] at hs2
      simp only [jstep, Option.bind_some] at hs2
      cases hg : l2[pre.length]? with
      | none => rw [hg] at hs2; cases hs2
      | some h =>
        rw [hg] at hs2
        obtain ⟨r, hgr, hs3⟩ := Option.map_eq_some_iff.1 hs2
        rw [← hs3] at HJS
        have HJ2 : Aside0 (joinS R1 l1 l2 (pre ++ [x]) = some (R1 + sumP (pre ++ [x]), r, (pre ++ [x]).length)) := ⟨by rw [HJS.out, HSP.out, List.length_append, List.length_singleton, Nat.add_assoc]⟩
        have HLN : Aside0 ((pre ++ [x]).length = pre.length + 1) := ⟨by rw [List.length_append, List.length_singleton]⟩
        clear HJS
        obtain ⟨hil, hih⟩ := List.getElem?_eq_some_iff.1 hg
        have hC2 := HR2.out
        obtain ⟨ad, e, hx⟩ := Kd.at_string hC2 (pre.length : Int) (by omega) (by omega)
        cases e
        have hgd : rdOf ByteArray.empty l2 (pre.length : Int) = h := by
          unfold rdOf
          rw [Int.toNat_natCast, List.getD_eq_getElem?_getD, hg]
          rfl
        rw [hgd, Int.toNat_natCast] at hx
        have hhs : h.size ≤ 1000 := HS.out.2 h (by rw [← hih]; exact List.getElem_mem hil)
        obtain ⟨q, hq⟩ : ∃ q, x.1 = q := ⟨_, rfl⟩
        obtain ⟨a, ha⟩ : ∃ a, R1 + sumP pre = a := ⟨_, rfl⟩
        obtain ⟨b, hb2⟩ : ∃ b, a + q = b := ⟨_, rfl⟩
        obtain ⟨i, hi⟩ : ∃ i, pre.length = i := ⟨_, rfl⟩
        have hgl := growN_len _ _ _ _ _ _ hgr e4 hhs
        rw [ha, hq] at hgr
        rw [ha, hi] at hO
        rw [hq] at HSP
        rw [hi] at hx hpl hil HLN
        have hab2 : R1 + (sumP pre + q) = b := by omega
        have hqb : q ≤ 1000 ∧ a ≤ 2000 := by have := HB1.out; omega
        have hlb : l.length ≤ 2000 := by have := HB1.out; omega
        have HG := Aside0.mk (fun W hC => grow_c 30 a q A1 c3 l h r W hgr (by omega) (by have := hqb.1; omega) hhs e4 (by omega) (by omega) hC)
        have HE := Aside0.mk (show l.length = m1 ∧ r.length ≤ l1.length + (i + 1) ∧ Sm r from ⟨e1, by omega, hgl.2⟩)
        have hbq : (a : Int) + (q : Int) = (b : Int) := by omega
        have hi1q : (i : Int) ≤ 1000 := by omega
        have hil2 : (i : Int) < (l2.length : Int) := by omega
        rw [e1] at HG
        have OO := Aside0.mk hO
        have OD := Aside0.mk hO.drew
        have HKD := Aside0.mk (KeepsOthers.drew W)
        have HSR := Aside0.mk (by have h6 := hS; rw [← e1] at h6; have h7 := Src2.read h6; rw [e1] at h7; exact h7 : Kd.C Kd.string W A1 m1 l)
        have HSD := Aside0.mk (Kd.C_drew HSR.out)
        have cA0 : W.drew.cell? ⟨gA, 0, none⟩ = some (.int .i64 (a : Int)) := (OD.out.cell 1 rfl 0).trans rfl
        have cA1 : W.drew.cell? ⟨gA, 1, none⟩ = some (.slice A1 m1 c3) := (OD.out.cell 1 rfl 1).trans rfl
        have cB1 : W.drew.cell? ⟨gB, 1, none⟩ = some (.slice (some ad) l2.length c2) := (OD.out.cell 2 rfl 1).trans rfl
        have cI : W.drew.cell? ⟨gI, 0, none⟩ = some (.int .i64 (i : Int)) := (OD.out.cell 4 rfl 0).trans rfl
        have cX : W.drew.cell? (ad.add i) = some (.string h) := pw_cell_below OD.out.below hx
        rw [hq]
        clear hO hS e1 e2 e3 e4 e5 hsum hnx hs2 hs3 hg hgr hil hih hC2 hgd hhs hgl hqb hlb hb2 hx
        gi_wp2_with fail
        refine InR.startIn_ (m := 10) (S := fun w' => Below (W).drew.heap.size (W).drew w') (ds := [9]) #[false, false, false, false, false, false, false, false, false, false] (by kernel_rfl) (by rintro ⟨_, _, h⟩; exact h) (by kernel_rfl) rfl rfl (Below.refl _ _) (fun hHeld => ?_)
        generalize (W).drew = W0 at *
        refine take_ (i := 0) (N := (some 37)) (a' := ?_) #[true, false, false, false, false, false, false, false, false, false] rfl rfl (by kernel_rfl) (fun _ _ _ h => h) (yields_tab (by rfl) (.tmp 3) rfl gT rfl (fun w' hS => hS) (OD.out.blk 0 rfl)) hHeld ?_ ?_
        rotate_left
        · simp only [Act.put, List.setIfInBounds_toArray, List.set_cons_zero, List.set_cons_succ, i64_w, i32_w]
          rfl
        refine take_ (i := 1) (N := (some 38)) (v := ?_) (a' := ?_) #[true, true, false, false, false, false, false, false, false, false] rfl rfl (by kernel_rfl) (fun _ _ _ h => h) (Or.inl ⟨by rfl, ?_⟩) hHeld ?_ ?_
        rotate_left
        · intro w' hS
          have s0 := pw_cell_below hS cA0
          have s1 := pw_cell_below hS cA1
          go_simp
          first | done | with_reducible rfl
        rotate_left
        · simp only [Act.put, List.setIfInBounds_toArray, List.set_cons_zero, List.set_cons_succ, i64_w, i32_w]
          rfl
        refine pure_ (i := 2) (N := (some 39)) (v := ?_) (a' := ?_) #[true, true, true, false, false, false, false, false, false, false] rfl rfl (by kernel_rfl) (fun _ _ _ h => h) (Or.inl ⟨by rfl, ?_⟩) ?_ ?_
        rotate_left
        · intro w'
          go_simp
          first | done | with_reducible rfl
        rotate_left
        · simp only [Act.put, List.setIfInBounds_toArray, List.set_cons_zero, List.set_cons_succ, i64_w, i32_w]
          rfl
        refine pure_ (i := 3) (N := (some 40)) (v := ?_) (a' := ?_) #[true, true, true, true, false, false, false, false, false, false] rfl rfl (by kernel_rfl) (fun _ _ _ h => h) (Or.inl ⟨by rfl, ?_⟩) ?_ ?_
        rotate_left
        · intro w'
          go_simp
          first | done | with_reducible rfl
        rotate_left
        · simp only [Act.put, List.setIfInBounds_toArray, List.set_cons_zero, List.set_cons_succ, i64_w, i32_w]
          rfl
        refine take_ (i := 4) (N := (some 41)) (v := ?_) (a' := ?_) #[true, true, true, true, true, false, false, false, false, false] rfl rfl (by kernel_rfl) (fun _ _ _ h => h) (Or.inl ⟨by rfl, ?_⟩) hHeld ?_ ?_
        rotate_left
        · intro w' hS
          have s0 := pw_cell_below hS cB1
          go_simp
          first | done | with_reducible rfl
        rotate_left
        · simp only [Act.put, List.setIfInBounds_toArray, List.set_cons_zero, List.set_cons_succ, i64_w, i32_w]
          rfl
        refine take_ (i := 5) (N := (some 42)) (v := ?_) (a' := ?_) #[true, true, true, true, true, true, false, false, false, false] rfl rfl (by kernel_rfl) (fun _ _ _ h => h) (Or.inl ⟨by rfl, ?_⟩) hHeld ?_ ?_
        rotate_left
        · intro w' hS
          have s0 := pw_cell_below hS cI
          go_simp
          first | done | with_reducible rfl
        rotate_left
        · simp only [Act.put, List.setIfInBounds_toArray, List.set_cons_zero, List.set_cons_succ, i64_w, i32_w]
          rfl
        refine pure_ (i := 6) (N := (some 43)) (v := ?_) (a' := ?_) #[true, true, true, true, true, true, true, false, false, false] rfl rfl (by kernel_rfl) (fun _ _ _ h => h) (Or.inl ⟨by rfl, ?_⟩) ?_ ?_
        rotate_left
        · intro w'
          go_simp
          first | done | with_reducible rfl
        rotate_left
        · simp only [Act.put, List.setIfInBounds_toArray, List.set_cons_zero, List.set_cons_succ, i64_w, i32_w]
          rfl
        refine take_ (i := 7) (N := (some 44)) (v := ?_) (a' := ?_) #[true, true, true, true, true, true, true, true, false, false] rfl rfl (by kernel_rfl) (fun _ _ _ h => h) (Or.inl ⟨by rfl, ?_⟩) hHeld ?_ ?_
        rotate_left
        · intro w' hS
          have s0 := pw_cell_below hS cX
          go_simp
          first | done | with_reducible rfl
        rotate_left
        · simp only [Act.put, List.setIfInBounds_toArray, List.set_cons_zero, List.set_cons_succ, i64_w, i32_w]
          rfl
        refine one_ (i := 8) (N := (some 45)) #[true, true, true, true, true, true, true, true, true, false] rfl rfl (by kernel_rfl) (by decide) (fun K hK => ?_)
        refine goes_ Try.func55 (by kernel_rfl) rfl #[.agg TV, .agg #[.int .i64 (a : Int), .slice A1 m1 c3], .int .i64 (q : Int), .string h] (by rfl) rfl rfl (by (try simp only [List.map_toArray, List.map_cons, List.map_nil]); first | done | rfl) ?_
        with_reducible refine (HG.out _ HSD.out).mono ?_
        rintro e w1 ⟨v, rfl, hr1, hB⟩
        refine ⟨_, rfl, ?_⟩
        have hS2 : Below W0.heap.size W0 w1 := hB
        have HV := Aside0.mk (Kd.R_lower hr1 (Nat.le_trans HBS.out OD.out.size))
        have HCC := Aside0.mk (Kd.R_reads hr1)
        clear hB hr1
        refine hK.out _ _ hS2 (fun hHeld => ?_)
        clear hK K
        refine norm_ (a' := ?_) ?_ ?_
        rotate_left
        · show Act.put _ (some 45) _ = _
          simp only [Act.put, List.setIfInBounds_toArray, List.set_cons_zero, List.set_cons_succ, i64_w, i32_w]
          rfl
        refine last_ (i := 9) (N := none) #[true, true, true, true, true, true, true, true, true, true] rfl rfl (by kernel_rfl) (by decide) (fun K hK => ?_)
        obtain ⟨A5, c5, rfl, h5, _⟩ := HCC.out
        have O1 := Aside0.mk (OD.out.step hHeld)
        have HK : Aside0 (KeepsOthers W w1) := ⟨HKD.out.trans (keeps_below hHeld)⟩
        have z0 := (O1.out.cell 1 rfl 0).trans rfl
        have z1 := (O1.out.cell 1 rfl 1).trans rfl
        have y0 := O1.out.frozen 1 rfl 0
        have y1 := O1.out.frozen 1 rfl 1
        have HC5 := Aside0.mk h5
        clear hHeld OD HKD cA0 cA1 cB1 cI cX HCC
        obtain ⟨m5, hm5⟩ : ∃ m, r.length = m := ⟨_, rfl⟩
        rw [hm5] at HV HC5 ⊢
        refine skip_ (by rfl) rfl (by first | (go_simp; done) | (go_simp; rfl)) ?_
        refine hK.out _ _ ?_
        clear hK K
        refine done_ (by kernel_rfl) ?_
        have O2 := Aside0.mk ((O1.out.put 1 rfl 0 (.int .i64 (b : Int)) rfl).put 1 rfl 1 (.slice A5 m5 c5) rfl)
        have V2 := Aside0.mk (Kd.R_set (Kd.R_set HV.out (O1.out.blk 1 rfl) (by decide) 0 (.int .i64 (b : Int))) ((O1.out.put 1 rfl 0 (.int .i64 (b : Int)) rfl).blk 1 rfl) (by decide) 1 (.slice A5 m5 c5))
        have iC := (O2.out.cell 4 rfl 0).trans rfl
        have iF := O2.out.frozen 4 rfl 0
        clear z0 z1 y0 y1
        gi_wp2_with fail
        have O3 := O2.out.put 4 rfl 0 (.int .i64 ((i : Int) + 1)) rfl
        have V3 := Kd.R_set V2.out (O2.out.blk 4 rfl) (by decide) 0 (.int .i64 ((i : Int) + 1))
        refine ⟨(((HK.out.trans (KeepsOthers.setCell _ _ _)).trans (KeepsOthers.setCell _ _ _)).trans (KeepsOthers.setCell _ _ _)).from _, ?_, ?_⟩
        · intro z hz
          have h1 : Boxed W Bn 3 u := OO.out.blk 5 rfl
          have h2 : z = u := by
            unfold Boxed at hz h1
            rw [hz] at h1
            injection h1 with h1
            injection h1 with h1
            simpa using h1
          rw [h2]
          exact O3.blk 5 rfl
        · have eB : R1 + sumP (pre ++ [x]) = b := by have := HSP.out; omega
          have eI : ((pre ++ [x]).length : Int) = (i : Int) + 1 := by have := HLN.out; omega
          exact ⟨A5, m5, c5, r, u, by rw [eB, eI]; exact O3, V3, hm5, HC5.out, by rw [HLN.out]; exact HE.out.2.1, HE.out.2.2, HJ2.out⟩
    case done =>
      have HSZ := Aside0.mk OW.out.size
      clear OW hBn
      rintro D xs W hD rfl ⟨A1, m1, c3, l, u, hO, hS, e1, e2, e3, e4, e5⟩ hK
      have hs : s = (R1 + sumP (pws 64 R2), l, (pws 64 R2).length) := Option.some.inj (HJ.out.symm.trans e5)
      subst hs
      have OO := Aside0.mk hO
      have HK := Aside0.mk hK
      have HE := Aside0.mk (show l.length = m1 ∧ m1 ≤ c3 from ⟨e1, e2⟩)
      have HSR := Aside0.mk hS
      have a0 := (hO.cell 1 rfl 0).trans rfl
      have a1 := (hO.cell 1 rfl 1).trans rfl
      have z0 := (hO.cell 3 rfl 0).trans rfl
      have z1 := (hO.cell 3 rfl 1).trans rfl
      have y0 := hO.frozen 3 rfl 0
      have y1 := hO.frozen 3 rfl 1
      obtain ⟨T, hT⟩ : ∃ T, R1 + sumP (pws 64 R2) = T := ⟨_, rfl⟩
      have HT := Aside0.mk hT
      rw [hT] at a0 OO
      clear hO hK hS e1 e2 e3 e4 e5 HJ hT
      go_wp2_with fail
      have hD2 : w.heap.size ≤ D := Nat.le_trans HSZ.out hD
      have O2 := (OO.out.put 3 rfl 0 (.int .i64 (T : Int)) rfl).put 3 rfl 1 (.slice A1 m1 c3) rfl
      have S2 := src_set2 (src_set2 HSR.out (OO.out.blk 3 rfl) (by decide) 0 (.int .i64 (T : Int))) ((OO.out.put 3 rfl 0 (.int .i64 (T : Int)) rfl).blk 3 rfl) (by decide) 1 (.slice A1 m1 c3)
      have hK2 := def_set (def_set HK.out ⟨gZ, 0, none⟩ (.int .i64 (T : Int))) ⟨gZ, 1, none⟩ (.slice A1 m1 c3)
      have O3 := Fun.own_put O2 (Obj.deferred none) hD2 hK2 rfl
      have S3 := src_rec2 S2 (grownBy_putObj' _ D (Obj.deferred none)) (fun r e => by cases e; exact ⟨_, hK2, rfl⟩)
      obtain ⟨hm, hle⟩ := HE.out
      subst hm
      have hc2 : (R1 : Int) + (sumP (pws 64 R2) : Int) = (T : Int) := by have := HT.out; omega
      refine ⟨by simp, .inl ⟨_, _, rfl, run_takeDeferred hK2, ?_⟩⟩
      exact ⟨_, results_ct (p := 6) (u := 7) (ty := 41) rfl _ _ gZ 41 _ _ _ rfl (O3.blk 3 rfl) Try.underlying41 rfl (by kernel_rfl), .slice A1 l.length c3, by first | (rw [HT.out]; rfl) | (rw [← hc2]; rfl) | (simp only [Int.natCast_add, hc2]; rfl), S3, O3.below⟩
    case stop =>
      rintro D c pre W _ _ h _
      exact h.elim
end Go.Proofs.Ytondnammkcgjpaa.Rg
namespace Go.Proofs.Ytondnammkcgjpaa.RgP
open Go Go.RowKit Go.Shelf Go.Proofs.YtondnammkcgjpaaW.PrintWords
open Go.Proofs.Ytondnammkcgjpaa.Mk Go.Proofs.Ytondnammkcgjpaa.Rg Go.Proofs.Ytondnammkcgjpaa.Rng Go.Proofs.Ytondnammkcgjpaa.Rf
set_option linter.unusedVariables false
theorem low_bd : ∀ n : Nat, n < 33 → 0 < n → (pn n).getLast? = some (lowB n).toNat ∧ 0 ≤ lowB n ∧ 0 < (pn n).length := by decide +kernel
def fitP (n1 n2 i : Nat) : Prop := 2 ^ Nat.log2 ((pn n2).getD i 0) = (pn n2).getD i 0 ∧ Nat.log2 ((pn n2).getD i 0) < 8 ∧ (n1 + sumN ((pn n2).take i)) % (pn n2).getD i 0 = 0 ∧ sumN ((pn n2).take i) + (pn n2).getD i 0 ≤ n2
instance (n1 n2 i : Nat) : Decidable (fitP n1 n2 i) := by unfold fitP; exact inferInstance
theorem fit0 : ∀ n1 : Nat, n1 < 33 → ∀ n2 : Nat, n2 < 33 → (n1 = 0 ∨ (n2 : Int) ≤ lowB n1) → ∀ i : Nat, i < (pn n2).length → fitP n1 n2 i := by decide +kernel
theorem fit (n1 : Nat) (h1 : n1 < 33) (n2 : Nat) (h2 : n2 < 33) (hb : n1 = 0 ∨ (n2 : Int) ≤ lowB n1) (i : Nat) (hi : i < (pn n2).length) : 2 ^ Nat.log2 ((pn n2).getD i 0) = (pn n2).getD i 0 ∧ Nat.log2 ((pn n2).getD i 0) < 8 ∧ (n1 + sumN ((pn n2).take i)) % (pn n2).getD i 0 = 0 ∧ sumN ((pn n2).take i) + (pn n2).getD i 0 ≤ n2 := fit0 n1 h1 n2 h2 hb i hi
theorem ofA_at (l : List ByteArray) : ∀ (ps : List Pw) (a i : Nat) (h : i < ps.length), (ofA l a ps)[i]? = some (rootF ((l.take (a + sumP (ps.take i) + ps[i].1)).drop (a + sumP (ps.take i))))
  | p :: ps, a, 0, h => by simp [ofA, sumP]
  | p :: ps, a, i + 1, h => by
    have h2 := ofA_at l ps (a + p.1) i (by simpa using h)
    simp only [ofA, List.getElem?_cons_succ, List.take_succ_cons, sumP, List.getElem_cons_succ]
    rw [h2, Nat.add_assoc]
theorem joinS_of (X Y : List ByteArray) (h1 : X.length < 33) (h2 : Y.length < 33) (hb : X.length = 0 ∨ (Y.length : Int) ≤ lowB X.length) :
    ∀ i, i ≤ (pws 64 Y.length).length → joinS X.length (ofF X) (ofF Y) ((pws 64 Y.length).take i) = some (X.length + sumP ((pws 64 Y.length).take i), ofF (X ++ Y.take (sumP ((pws 64 Y.length).take i))), i) := by
  intro i
  induction i with
  | zero => intro _; simp [joinS, sumP]
  | succ i ih =>
    intro hi
    have hi2 : i < (pws 64 Y.length).length := by omega
    rw [List.take_succ_eq_append_getElem hi2, joinS_snoc, ih (by omega), sumP_append]
    have hat := ofA_at Y (pws 64 Y.length) 0 i hi2
    have hfit := fit _ h1 _ h2 hb i (by unfold pn; rw [List.length_map]; exact hi2)
    have e1 : (pn Y.length).getD i 0 = ((pws 64 Y.length)[i]).1 := by unfold pn; rw [List.getD_eq_getElem?_getD, List.getElem?_map, List.getElem?_eq_getElem hi2]; rfl
    have e2 : sumN ((pn Y.length).take i) = sumP ((pws 64 Y.length).take i) := by rw [sumP_N]; unfold pn; rw [List.map_take]
    rw [e1, e2] at hfit
    rw [Nat.zero_add] at hat
    have e3 : (ofF Y)[i]? = (ofA Y 0 (pws 64 Y.length))[i]? := rfl
    simp only [jstep, Option.bind_some, e3, hat]
    generalize (pws 64 Y.length)[i] = P at *
    have e4 : sumP [P] = P.1 := by simp [sumP]
    rw [e4]
    generalize sumP ((pws 64 Y.length).take i) = a at *
    obtain ⟨p, hp⟩ : ∃ p, P.1 = p := ⟨_, rfl⟩
    rw [hp] at hfit ⊢
    obtain ⟨hf1, hf2, hf3, hf4⟩ := hfit
    have hlen : (X ++ Y.take (a + p)).length = X.length + a + p := by rw [List.length_append, List.length_take]; omega
    have hdiv : (X.length + a) / p * p = X.length + a := Nat.div_mul_cancel (Nat.dvd_of_mod_eq_zero hf3)
    have hg := grow_of 29 (X.length + a) (Nat.log2 p) (X ++ Y.take (a + p)) (by omega) hf2 (Nat.lt_of_le_of_lt (Nat.div_le_self _ _) (by omega)) (by rw [hf1, hdiv]; exact hlen)
    rw [hf1, hdiv] at hg
    have ht : (X ++ Y.take (a + p)).take (X.length + a) = X ++ Y.take a := by
      rw [List.take_append, List.take_of_length_le (by omega), List.take_take]
      congr 2
      omega
    have hd : (X ++ Y.take (a + p)).drop (X.length + a) = (Y.take (a + p)).drop a := by
      rw [List.drop_append, List.drop_of_length_le (by omega), List.nil_append]
      congr 1
      omega
    rw [ht, hd] at hg
    rw [hg]
    simp only [Option.map_some, Nat.add_assoc]
theorem join_all (X Y : List ByteArray) (h1 : X.length < 33) (h2 : Y.length < 33) (hb : X.length = 0 ∨ (Y.length : Int) ≤ lowB X.length) :
    joinS X.length (ofF X) (ofF Y) (pws 64 Y.length) = some (X.length + Y.length, ofF (X ++ Y), (pws 64 Y.length).length) ∧ sumP (pws 64 Y.length) = Y.length := by
  have h := joinS_of X Y h1 h2 hb (pws 64 Y.length).length (Nat.le_refl _)
  have hs : sumP (pws 64 Y.length) = Y.length := by rw [sumP_N]; exact sum_pn Y.length (by omega)
  rw [List.take_length, hs, List.take_length] at h
  exact ⟨h, hs⟩
end Go.Proofs.Ytondnammkcgjpaa.RgP
namespace Go.Proofs.Ytondnammkcgjpaa.RgL
open Go Go.RowKit Go.Shelf Go.Proofs.YtondnammkcgjpaaW.PrintWords Go.Proofs.YtondnammkcgjpaaW.PrintLast Go.Proofs.YtondnammkcgjpaaW.PrintMore
open Go.Proofs.Ytondnammkcgjpaa.ShaP Go.Proofs.Ytondnammkcgjpaa.Mk Go.Proofs.Ytondnammkcgjpaa.Rg Go.Proofs.Ytondnammkcgjpaa.Rng Go.Proofs.Ytondnammkcgjpaa.Rf Go.Proofs.Ytondnammkcgjpaa.RgP
set_option linter.unusedVariables false
set_option linter.unusedSimpArgs false
theorem few32 (A : Option Addr) (c : Nat) (l : List ByteArray) (w : World) (hr : Kd.C Kd.string w A l.length l) :
    Calls Try.prog 15 #[.slice A l.length c, .int .i64 32, .int .i64 60] w fun e w' => e = .returned (.bool (fewB l 32 60)) ∧ w = w' := few_c A c l 32 60 w (by omega) (by omega) hr
/-- what Join answers of two ranges, with what is known of it -/
theorem join_two (X Y : List ByteArray) (h1 : X.length ≤ 32) (h2 : Y.length ≤ 32) (hX : A32 X) (hY : A32 Y) (base : Nat) : ∃ (Z : Nat) (E : Int) (RR : List ByteArray),
    ((0 < X.length ∧ lowB X.length < (Y.length : Int) ∧ Z = 0 ∧ E = 5 ∧ RR = []) ∨ ((X.length = 0 ∨ (Y.length : Int) ≤ lowB X.length) ∧ Z = (X ++ Y).length ∧ E = 0 ∧ RR = ofF (X ++ Y))) ∧
    ∀ (A B : Option Addr) (c1 c2 : Nat) (W : World), base ≤ W.heap.size → SR W base (.slice A (ofF X).length c1) (ofF X) → Kd.C Kd.string W B (ofF Y).length (ofF Y) →
      Calls Try.prog 20 #[.agg TV, .agg #[.int .i64 (X.length : Int), .slice A (ofF X).length c1], .agg #[.int .i64 (Y.length : Int), .slice B (ofF Y).length c2]] W fun e w' =>
        ∃ v, e = .returned (.tuple #[.agg #[.int .i64 (Z : Int), v], .int .i64 E]) ∧ SR w' base v RR ∧ Below W.heap.size W w' := by
  by_cases hb : X.length = 0 ∨ (Y.length : Int) ≤ lowB X.length
  · obtain ⟨hj, hs⟩ := join_all X Y (by omega) (by omega) hb
    refine ⟨_, _, _, .inr ⟨hb, rfl, rfl, rfl⟩, fun A B c1 c2 W hbs hr1 hr2 => ?_⟩
    have hx := ofF_size X
    have hy := ofF_size Y
    obtain ⟨_, c1', e1, hc1, _⟩ := Kd.R_reads hr1
    cases e1
    refine (join_ok2 base X.length Y.length A B c1 c2 (ofF X) (ofF Y) _ W (by omega) (by omega) hb hj (by omega) (by omega) hc1 (ofF_32 X hX (by omega)).sm (ofF_32 Y hY (by omega)).sm hbs hr1 hr2).mono ?_
    rintro e w' ⟨v, rfl, hr, hB⟩
    rw [hs, List.length_append]
    exact ⟨v, rfl, hr, hB⟩
  · refine ⟨_, _, _, .inl ⟨by omega, by omega, rfl, rfl, rfl⟩, fun A B c1 c2 W hbs hr1 hr2 => ?_⟩
    refine (join_bad X.length Y.length A B _ c1 _ c2 W (by omega) (by omega) (by omega) (by omega)).mono ?_
    rintro e w' ⟨rfl, hB⟩
    exact ⟨_, rfl, Kd.R_nil _ _ _ _ _, hB⟩
theorem sizes_zero (n : Nat) (hn : n = 0) (w : World) : Calls Try.prog 22 #[.int .i64 (n : Int)] w fun e w' => ∃ A c, e = .returned (.slice A 0 c) ∧ Below w.heap.size w w' := by
  subst hn
  refine (sizes_c 0 (by omega) w).mono ?_
  rintro e w' ⟨v, rfl, hr, hB⟩
  obtain ⟨A, c, e1⟩ := Kd.R_slice hr
  subst e1
  exact ⟨A, c, rfl, hB⟩
theorem sizes_pos (n : Nat) (hn : n < 33) (h0 : 0 < n) (w : World) : Calls Try.prog 22 #[.int .i64 (n : Int)] w fun e w' =>
    ∃ ad c q, e = .returned (.slice (some ad) (q + 1) c) ∧ q ≤ 64 ∧ w'.cell? (ad.add q) = some (.int .i64 (lowB n)) ∧ Below w.heap.size w w' := by
  refine (sizes_c n (by omega) w).mono ?_
  rintro e w' ⟨v, rfl, hr, hB⟩
  obtain ⟨h1, h2, h3⟩ := low_bd n hn h0
  have hl : (pn n).length = (pws 64 n).length := by unfold pn; rw [List.length_map]
  have hl2 : (natsI ((pws 64 n).map (·.1))).length = (pws 64 n).length := by simp [natsI]
  have hle := pws_len 64 n
  obtain ⟨q, hq⟩ : ∃ q, (pws 64 n).length = q + 1 := ⟨(pws 64 n).length - 1, by omega⟩
  obtain ⟨A, c, e1⟩ := Kd.R_slice hr
  subst e1
  obtain ⟨ad, e2, _⟩ := Kd.at_int (Kd.R_reads' hr).2.2 (q : Int) (by omega) (by rw [hl2]; omega)
  subst e2
  have hx := int_at hr q (by omega)
  rw [rd_nats _ q (by omega)] at hx
  refine ⟨ad, c, q, by rw [hl2, hq], by omega, ?_, hB⟩
  rw [hx]
  have h4 : (pn n).getLast? = some ((pws 64 n)[q]'(by omega)).1 := by
    have eq1 : (pn n).length - 1 = q := by omega
    rw [List.getLast?_eq_getElem?, eq1]
    unfold pn
    rw [List.getElem?_map, List.getElem?_eq_getElem (by omega)]
    rfl
  rw [h1] at h4
  have h5 := Option.some.inj h4
  rw [← h5, Int.toNat_of_nonneg h2]
set_option maxRecDepth 100000 in
set_option maxHeartbeats 8000000 in
theorem law_joins (A1 A2 : Option Addr) (c1 c2 : Nat) (a b : List ByteArray) (w : World) (hr1 : Kd.C Kd.string w A1 a.length a) (hr2 : Kd.C Kd.string w A2 b.length b) :
    Calls Try.prog 4 #[.slice A1 a.length c1, .slice A2 b.length c2] w fun e w' => e = .returned (.bool true) ∧ Below w.heap.size w w' := by
  have OW := Aside0.mk (Mem.Own.nil w)
  have HI := Aside0.mk info_tab
  have HR1 := Aside0.mk hr1
  have HR2 := Aside0.mk hr2
  have HAW := Aside0.mk awake6_c
  have HF1 := Aside0.mk (fun W h => few32 A1 c1 a W h)
  have HF2 := Aside0.mk (fun W h => few32 A2 c2 b W h)
  cases hb1 : fewB a 32 60 with
  | false =>
    rw [hb1] at HF1
    clear hb1 hr1 hr2 HF2
    go_enter Try.func4, Try.ntmps4
    go_wp2_with (first
      | (go_at_call 19; (with_reducible refine (HAW.out _).mono ?_); rintro e w_ ⟨rfl, hB⟩; have n_ := Aside0.mk (OW.out.step hB); clear OW hB; have OW := n_; clear n_)
      | (go_at_call 15; (with_reducible refine (HF1.out _ (Kd.C_below HR1.out OW.out.below)).mono ?_); rintro e w_ ⟨rfl, rfl⟩))
    go_ret
    exact ⟨rfl, OW.out.below⟩
  | true =>
    rw [hb1] at HF1
    cases hb2 : fewB b 32 60 with
    | false =>
      rw [hb2] at HF2
      clear hb1 hb2 hr1 hr2
      go_enter Try.func4, Try.ntmps4
      go_wp2_with (first
        | (go_at_call 19; (with_reducible refine (HAW.out _).mono ?_); rintro e w_ ⟨rfl, hB⟩; have n_ := Aside0.mk (OW.out.step hB); clear OW hB; have OW := n_; clear n_)
        | (go_at_call 15; first
            | ((with_reducible refine (HF1.out _ (Kd.C_below HR1.out OW.out.below)).mono ?_); rintro e w_ ⟨rfl, rfl⟩)
            | ((with_reducible refine (HF2.out _ (Kd.C_below HR2.out OW.out.below)).mono ?_); rintro e w_ ⟨rfl, rfl⟩)))
      go_ret
      exact ⟨rfl, OW.out.below⟩
    | true =>
      rw [hb2] at HF2
      obtain ⟨hl1, hs1⟩ := few_yes hb1 (by omega)
      obtain ⟨hl2, hs2⟩ := few_yes hb2 (by omega)
      have hll1 := leaves_len a
      have hll2 := leaves_len b
      have hX32 := leaves_32 a
      have hY32 := leaves_32 b
      have HL1 := Aside0.mk (fun W h => leaves_c A1 c1 a W (by omega) (fun s hs => Nat.le_trans (hs1 s hs) (by omega)) h)
      have HL2 := Aside0.mk (fun W h => leaves_c A2 c2 b W (by omega) (fun s hs => Nat.le_trans (hs2 s hs) (by omega)) h)
      generalize leavesF a = X at *
      generalize leavesF b = Y at *
      have hX : X.length ≤ 32 := by omega
      have hY : Y.length ≤ 32 := by omega
      have HOX := Aside0.mk (fun (A4 : Option Addr) (c4 : Nat) (h4 : X.length ≤ c4) (W : World) h => of_c A4 c4 X W (by omega) hX32.sm h4 h)
      have HOY := Aside0.mk (fun (A4 : Option Addr) (c4 : Nat) (h4 : Y.length ≤ c4) (W : World) h => of_c A4 c4 Y W (by omega) hY32.sm h4 h)
      have hA32 : A32 (X ++ Y) := fun s hs => by
        rcases List.mem_append.1 hs with h | h
        · exact hX32 s h
        · exact hY32 s h
      have HRO := Aside0.mk (fun (A4 : Option Addr) (c4 : Nat) (h4 : (X ++ Y).length ≤ c4) (W : World) h => rfof_c A4 c4 (X ++ Y) W (by simp; omega) hA32.sm h4 h)
      obtain ⟨Z, E, RR, hcase, hJ⟩ := join_two X Y hX hY hX32 hY32 w.heap.size
      have HJ := Aside0.mk hJ
      have HC := Aside0.mk hcase
      have HSM := Aside0.mk (fun (A6 A7 : Option Addr) (c6 c7 : Nat) (W : World) h h2 => same_c A6 A7 c6 c7 RR RR W h h2)
      have hdec : decide (RR = RR) = true := decide_eq_true rfl
      rw [hdec] at HSM
      have HXY := Aside0.mk (show X.length ≤ 32 ∧ Y.length ≤ 32 from ⟨hX, hY⟩)
      clear hb1 hb2 hr1 hr2 hl1 hl2 hs1 hs2 hll1 hll2 hX32 hY32 hX hY hA32 hcase hJ hdec
      obtain ⟨OX, hOX⟩ : ∃ O, ofF X = O := ⟨_, rfl⟩
      obtain ⟨OY, hOY⟩ : ∃ O, ofF Y = O := ⟨_, rfl⟩
      rw [hOX] at HOX HJ
      rw [hOY] at HOY HJ
      clear hOX hOY
      obtain ⟨AL, hAL⟩ : ∃ O, X ++ Y = O := ⟨_, rfl⟩
      rw [hAL] at HC HRO
      have HAL := Aside0.mk hAL
      clear hAL
      go_enter Try.func4, Try.ntmps4
      go_wp2_with (first
        | (go_at_call 19; (with_reducible refine (HAW.out _).mono ?_); rintro e wz ⟨rfl, hB⟩; have n_ := Aside0.mk (OW.out.step hB); clear OW hB; have OW := n_; clear n_)
        | (go_at_call 15; first
            | ((with_reducible refine (HF1.out _ (Kd.C_below HR1.out OW.out.below)).mono ?_); rintro e wz ⟨rfl, rfl⟩)
            | ((with_reducible refine (HF2.out _ (Kd.C_below HR2.out OW.out.below)).mono ?_); rintro e wz ⟨rfl, rfl⟩))
        | (go_at_call 16; (with_reducible refine (make_c _).mono ?_); rintro e wz ⟨rfl, hB⟩; have n_ := Aside0.mk (OW.out.step hB); clear OW hB; have OW := n_; clear n_)
        | ((with_reducible refine gate_dst (N := 5) rfl ?_); refine tab_event (N := 5) rfl rfl rfl rfl rfl rfl (fun _ => rfl) (fun _ => rfl) ?_; intro gT hg wz hb hbb; have n_ : Aside0 (Mem.Own w (wz) [(gT, TV, 31)]) := ⟨OW.out.new hg hb hbb⟩; clear OW hb hbb hg; have OW := n_; clear n_)
        | (go_at_call 17; (with_reducible refine (HL1.out _ (Kd.C_below HR1.out OW.out.below)).mono ?_); rintro e wz ⟨v6, rfl, hr6, hB⟩; obtain ⟨A6, c6, rfl, h6, _⟩ := Kd.R_reads hr6; have HX := Aside0.mk (Kd.R_lower hr6 OW.out.size); have H6 := Aside0.mk h6; have n_ := Aside0.mk (OW.out.step hB); clear OW hB hr6 h6; have OW := n_; clear n_)
        | (go_at_call 17; (with_reducible refine (HL2.out _ (Kd.C_below HR2.out OW.out.below)).mono ?_); rintro e wz ⟨v7, rfl, hr7, hB⟩; obtain ⟨A7, c7, rfl, h7, _⟩ := Kd.R_reads hr7; have HY := Aside0.mk (Kd.R_lower hr7 OW.out.size); have H7 := Aside0.mk h7; have n_ := Aside0.mk (OW.out.step hB); have m_ := Aside0.mk (Kd.R_below HX.out hB); clear OW hB hr7 h7 HX; have OW := n_; have HX := m_; clear n_ m_))
      have OD := Aside0.mk OW.out.drew
      have KX := Aside0.mk (Kd.R_drew HX.out)
      have KY := Aside0.mk (Kd.R_drew HY.out)
      clear OW HX HY
      refine start_ (n := 14) (S := fun w' => Below (wz).drew.heap.size (wz).drew w') (ds := []) #[false, false, false, false, false, false, false, false, false, false, false, false, false, false] (by kernel_rfl) rfl rfl (Below.refl _ _) (fun hHeld => ?_)
      generalize (wz).drew = W0 at *
      refine take_ (i := 0) (N := (some 31)) (a' := ?_) #[true, false, false, false, false, false, false, false, false, false, false, false, false, false] rfl rfl (by kernel_rfl) (fun _ _ _ h => h) (yields_tab (by rfl) (.tmp 5) rfl gT rfl (fun w' hS => hS) (OD.out.blk 0 rfl)) hHeld ?_ ?_
      rotate_left
      · simp only [Act.put, List.setIfInBounds_toArray, List.set_cons_zero, List.set_cons_succ, i64_w, i32_w]
        rfl
      refine take_ (i := 1) (N := (some 32)) (a' := ?_) #[true, true, false, false, false, false, false, false, false, false, false, false, false, false] rfl rfl (by kernel_rfl) (fun _ _ _ h => h) (yields_tab (by rfl) (.tmp 5) rfl gT rfl (fun w' hS => hS) (OD.out.blk 0 rfl)) hHeld ?_ ?_
      rotate_left
      · simp only [Act.put, List.setIfInBounds_toArray, List.set_cons_zero, List.set_cons_succ, i64_w, i32_w]
        rfl
      refine pure_ (i := 2) (N := (some 33)) (v := ?_) (a' := ?_) #[true, true, true, false, false, false, false, false, false, false, false, false, false, false] rfl rfl (by kernel_rfl) (fun _ _ _ h => h) (Or.inl ⟨by rfl, ?_⟩) ?_ ?_
      rotate_left
      · intro w'
        go_simp
        first | done | with_reducible rfl
      rotate_left
      · simp only [Act.put, List.setIfInBounds_toArray, List.set_cons_zero, List.set_cons_succ, i64_w, i32_w]
        rfl
      refine take_ (i := 4) (N := (some 35)) (a' := ?_) #[true, true, true, false, true, false, false, false, false, false, false, false, false, false] rfl rfl (by kernel_rfl) (fun _ _ _ h => h) (yields_tab (by rfl) (.tmp 5) rfl gT rfl (fun w' hS => hS) (OD.out.blk 0 rfl)) hHeld ?_ ?_
      rotate_left
      · simp only [Act.put, List.setIfInBounds_toArray, List.set_cons_zero, List.set_cons_succ, i64_w, i32_w]
        rfl
      refine pure_ (i := 5) (N := (some 36)) (v := ?_) (a' := ?_) #[true, true, true, false, true, true, false, false, false, false, false, false, false, false] rfl rfl (by kernel_rfl) (fun _ _ _ h => h) (Or.inl ⟨by rfl, ?_⟩) ?_ ?_
      rotate_left
      · intro w'
        go_simp
        first | done | with_reducible rfl
      rotate_left
      · simp only [Act.put, List.setIfInBounds_toArray, List.set_cons_zero, List.set_cons_succ, i64_w, i32_w]
        rfl
      refine two_ (i := 3) (j := 11) (Ni := (some 34)) (Nj := (some 8)) #[true, true, true, true, true, true, false, false, false, false, false, false, false, false] #[true, true, true, false, true, true, false, false, false, false, false, true, false, false] rfl rfl rfl rfl (by kernel_rfl) (by decide) (by decide) (fun K hK => ?_) (fun K hK => ?_)
      refine goes_ Try.func21 (by kernel_rfl) rfl #[.agg TV, .slice A6 X.length c6] (by rfl) rfl rfl (by (try simp only [List.map_toArray, List.map_cons, List.map_nil]); first | done | rfl) ?_
      (with_reducible refine (HOX.out A6 c6 H6.out _ (Kd.C_below (Kd.R_reads' KX.out).2.2 hHeld)).mono ?_)
      rintro e wz ⟨v, rfl, hr, hB⟩
      refine ⟨_, rfl, ?_⟩
      have hS2 : Below W0.heap.size W0 wz := below_step hHeld hB
      obtain ⟨AX, cX, rfl, _⟩ := Kd.R_reads hr
      have HVX := Aside0.mk (Kd.R_lower hr (Nat.le_trans OD.out.size hHeld.size))
      (try (have n_ := Aside0.mk (blk_below HBX.out hB); clear HBX; have HBX := n_; clear n_))
      clear hr hB hHeld
      refine hK.out _ _ hS2 (fun hHeld => ?_)
      clear hK K
      refine norm_ (a' := ?_) ?_ ?_
      rotate_left
      · show Act.put _ (some 34) _ = _
        simp only [Act.put, List.setIfInBounds_toArray, List.set_cons_zero, List.set_cons_succ, i64_w, i32_w]
        rfl
      refine two_ (i := 6) (j := 11) (Ni := (some 37)) (Nj := (some 8)) #[true, true, true, true, true, true, true, false, false, false, false, false, false, false] #[true, true, true, true, true, true, false, false, false, false, false, true, false, false] rfl rfl rfl rfl (by kernel_rfl) (by decide) (by decide) (fun K hK => ?_) (fun K hK => ?_)
      refine goes_ Try.func21 (by kernel_rfl) rfl #[.agg TV, .slice A7 Y.length c7] (by rfl) rfl rfl (by (try simp only [List.map_toArray, List.map_cons, List.map_nil]); first | done | rfl) ?_
      (with_reducible refine (HOY.out A7 c7 H7.out _ (Kd.C_below (Kd.R_reads' KY.out).2.2 hHeld)).mono ?_)
      rintro e wz ⟨v, rfl, hr, hB⟩
      refine ⟨_, rfl, ?_⟩
      have hS2 : Below W0.heap.size W0 wz := below_step hHeld hB
      obtain ⟨AY, cY, rfl, _⟩ := Kd.R_reads hr
      have HVY := Aside0.mk (Kd.R_lower hr (Nat.le_trans OD.out.size hHeld.size))
      have n_ := Aside0.mk (Kd.R_below HVX.out hB)
      clear HVX
      have HVX := n_
      clear n_
      (try (have n_ := Aside0.mk (blk_below HBX.out hB); clear HBX; have HBX := n_; clear n_))
      clear hr hB hHeld
      refine hK.out _ _ hS2 (fun hHeld => ?_)
      clear hK K
      refine norm_ (a' := ?_) ?_ ?_
      rotate_left
      · show Act.put _ (some 37) _ = _
        simp only [Act.put, List.setIfInBounds_toArray, List.set_cons_zero, List.set_cons_succ, i64_w, i32_w]
        rfl
      refine two_ (i := 7) (j := 11) (Ni := (some 38)) (Nj := (some 8)) #[true, true, true, true, true, true, true, true, false, false, false, false, false, false] #[true, true, true, true, true, true, true, false, false, false, false, true, false, false] rfl rfl rfl rfl (by kernel_rfl) (by decide) (by decide) (fun K hK => ?_) (fun K hK => ?_)
      refine goes_ Try.func20 (by kernel_rfl) rfl #[.agg TV, .agg #[.int .i64 (X.length : Int), .slice AX OX.length cX], .agg #[.int .i64 (Y.length : Int), .slice AY OY.length cY]] (by rfl) rfl rfl (by (try simp only [List.map_toArray, List.map_cons, List.map_nil]); first | done | rfl) ?_
      (with_reducible refine (HJ.out AX AY cX cY _ (Nat.le_trans OD.out.size hHeld.size) HVX.out (Kd.R_reads' HVY.out).2.2).mono ?_)
      rintro e wz ⟨v, rfl, hr, hB⟩
      refine ⟨_, rfl, ?_⟩
      have hS2 : Below W0.heap.size W0 wz := below_step hHeld hB
      obtain ⟨A8, c8, rfl, _⟩ := Kd.R_reads hr
      have HV := Aside0.mk hr
      clear HVX HVY
      (try (have n_ := Aside0.mk (blk_below HBX.out hB); clear HBX; have HBX := n_; clear n_))
      clear hr hB hHeld
      refine hK.out _ _ hS2 (fun hHeld => ?_)
      clear hK K
      refine norm_ (a' := ?_) ?_ ?_
      rotate_left
      · show Act.put _ (some 38) _ = _
        simp only [Act.put, List.setIfInBounds_toArray, List.set_cons_zero, List.set_cons_succ, i64_w, i32_w]
        rfl
      refine pure_ (i := 8) (N := (some 30)) (v := ?_) (a' := ?_) #[true, true, true, true, true, true, true, true, true, false, false, false, false, false] rfl rfl (by kernel_rfl) (fun _ _ _ h => h) (Or.inl ⟨by rfl, ?_⟩) ?_ ?_
      rotate_left
      · intro w'
        go_simp
        first | done | with_reducible rfl
      rotate_left
      · simp only [Act.put, List.setIfInBounds_toArray, List.set_cons_zero, List.set_cons_succ, i64_w, i32_w]
        rfl
      refine pure_ (i := 9) (N := (some 39)) (v := ?_) (a' := ?_) #[true, true, true, true, true, true, true, true, true, true, false, false, false, false] rfl rfl (by kernel_rfl) (fun _ _ _ h => h) (Or.inl ⟨by rfl, ?_⟩) ?_ ?_
      rotate_left
      · intro w'
        go_simp
        first | done | with_reducible rfl
      rotate_left
      · simp only [Act.put, List.setIfInBounds_toArray, List.set_cons_zero, List.set_cons_succ, i64_w, i32_w]
        rfl
      refine pure_ (i := 10) (N := (some 40)) (v := ?_) (a' := ?_) #[true, true, true, true, true, true, true, true, true, true, true, false, false, false] rfl rfl (by kernel_rfl) (fun _ _ _ h => h) (Or.inl ⟨by rfl, ?_⟩) ?_ ?_
      rotate_left
      · intro w'
        go_simp
        first | done | with_reducible rfl
      rotate_left
      · simp only [Act.put, List.setIfInBounds_toArray, List.set_cons_zero, List.set_cons_succ, i64_w, i32_w]
        rfl
      refine one_ (i := 11) (N := (some 8)) #[true, true, true, true, true, true, true, true, true, true, true, true, false, false] rfl rfl (by kernel_rfl) (by decide) (fun K hK => ?_)
      refine box_step (by rfl) (N := 8) rfl (cs := #[.int .i64 0, .slice none 0 0]) (t := 41) (by first | (go_simp; done) | (go_simp; rfl)) ?_
      intro gR hg wz hb hbb
      have hS2 : Below W0.heap.size W0 wz := below_step hHeld hbb
      have HBX := Aside0.mk hb
      have HGE : Aside0 (W0.heap.size ≤ gR) := ⟨by rw [hg]; exact hHeld.size⟩
      (try (have n_ := Aside0.mk (Kd.R_below HVX.out hbb); clear HVX; have HVX := n_; clear n_))
      (try (have n_ := Aside0.mk (Kd.R_below HVY.out hbb); clear HVY; have HVY := n_; clear n_))
      (try (have n_ := Aside0.mk (Kd.R_below HV.out hbb); clear HV; have HV := n_; clear n_))
      clear hb hbb hg hHeld
      refine hK.out _ _ hS2 (fun hHeld => ?_)
      clear hK K
      refine norm_ (a' := ?_) ?_ ?_
      rotate_left
      · show Act.put _ (some 8) _ = _
        simp only [Act.put, List.setIfInBounds_toArray, List.set_cons_zero, List.set_cons_succ, i64_w, i32_w]
        rfl
      refine one_ (i := 12) (N := none) #[true, true, true, true, true, true, true, true, true, true, true, true, true, false] rfl rfl (by kernel_rfl) (by decide) (fun K hK => ?_)
      have z0 := (blk_cell HBX.out 0).trans rfl
      have z1 := (blk_cell HBX.out 1).trans rfl
      have y0 := blk_frozen HBX.out 0
      have y1 := blk_frozen HBX.out 1
      refine skip_ (by rfl) rfl (by first | (go_simp; done) | (go_simp; rfl)) ?_
      have hS2 : Below W0.heap.size W0 ((wz.setCell ⟨gR, 0, none⟩ (.int .i64 (Z : Int))).setCell ⟨gR, 1, none⟩ (.slice A8 RR.length c8)) := (hHeld.setCell (p := ⟨gR, 0, none⟩) HGE.out _).setCell (p := ⟨gR, 1, none⟩) HGE.out _
      have B1 := blk_put HBX.out 0 (.int .i64 (Z : Int)) rfl
      have BX := Aside0.mk (blk_put B1 1 (.slice A8 RR.length c8) rfl)
      have HV2 := Aside0.mk (Kd.R_set (Kd.R_set HV.out HBX.out (by decide) 0 (.int .i64 (Z : Int))) B1 (by decide) 1 (.slice A8 RR.length c8))
      clear HBX HV z0 z1 y0 y1 B1 hHeld
      refine hK.out _ _ hS2 (fun hHeld => ?_)
      clear hK K
      refine pure_ (i := 13) (N := (some 9)) (v := ?_) (a' := ?_) #[true, true, true, true, true, true, true, true, true, true, true, true, true, true] rfl rfl (by kernel_rfl) (fun _ _ _ h => h) (Or.inl ⟨by rfl, ?_⟩) ?_ ?_
      rotate_left
      · intro w'
        go_simp
        first | done | with_reducible rfl
      rotate_left
      · simp only [Act.put, List.setIfInBounds_toArray, List.set_cons_zero, List.set_cons_succ, i64_w, i32_w]
        rfl
      refine done_ (by kernel_rfl) ?_
      rotate_left
      refine box_step (by rfl) (N := 8) rfl (cs := #[.int .i64 0, .slice none 0 0]) (t := 41) (by first | (go_simp; done) | (go_simp; rfl)) ?_
      intro gR hg wz hb hbb
      have hS2 : Below W0.heap.size W0 wz := below_step hHeld hbb
      have HBX := Aside0.mk hb
      have HGE : Aside0 (W0.heap.size ≤ gR) := ⟨by rw [hg]; exact hHeld.size⟩
      (try (have n_ := Aside0.mk (Kd.R_below HVX.out hbb); clear HVX; have HVX := n_; clear n_))
      (try (have n_ := Aside0.mk (Kd.R_below HVY.out hbb); clear HVY; have HVY := n_; clear n_))
      (try (have n_ := Aside0.mk (Kd.R_below HV.out hbb); clear HV; have HV := n_; clear n_))
      clear hb hbb hg hHeld
      refine hK.out _ _ hS2 (fun hHeld => ?_)
      clear hK K
      refine norm_ (a' := ?_) ?_ ?_
      rotate_left
      · show Act.put _ (some 8) _ = _
        simp only [Act.put, List.setIfInBounds_toArray, List.set_cons_zero, List.set_cons_succ, i64_w, i32_w]
        rfl
      refine one_ (i := 7) (N := (some 38)) #[true, true, true, true, true, true, true, true, false, false, false, true, false, false] rfl rfl (by kernel_rfl) (by decide) (fun K hK => ?_)
      refine goes_ Try.func20 (by kernel_rfl) rfl #[.agg TV, .agg #[.int .i64 (X.length : Int), .slice AX OX.length cX], .agg #[.int .i64 (Y.length : Int), .slice AY OY.length cY]] (by rfl) rfl rfl (by (try simp only [List.map_toArray, List.map_cons, List.map_nil]); first | done | rfl) ?_
      (with_reducible refine (HJ.out AX AY cX cY _ (Nat.le_trans OD.out.size hHeld.size) HVX.out (Kd.R_reads' HVY.out).2.2).mono ?_)
      rintro e wz ⟨v, rfl, hr, hB⟩
      refine ⟨_, rfl, ?_⟩
      have hS2 : Below W0.heap.size W0 wz := below_step hHeld hB
      obtain ⟨A8, c8, rfl, _⟩ := Kd.R_reads hr
      have HV := Aside0.mk hr
      clear HVX HVY
      (try (have n_ := Aside0.mk (blk_below HBX.out hB); clear HBX; have HBX := n_; clear n_))
      clear hr hB hHeld
      refine hK.out _ _ hS2 (fun hHeld => ?_)
      clear hK K
      refine norm_ (a' := ?_) ?_ ?_
      rotate_left
      · show Act.put _ (some 38) _ = _
        simp only [Act.put, List.setIfInBounds_toArray, List.set_cons_zero, List.set_cons_succ, i64_w, i32_w]
        rfl
      refine pure_ (i := 8) (N := (some 30)) (v := ?_) (a' := ?_) #[true, true, true, true, true, true, true, true, true, false, false, true, false, false] rfl rfl (by kernel_rfl) (fun _ _ _ h => h) (Or.inl ⟨by rfl, ?_⟩) ?_ ?_
      rotate_left
      · intro w'
        go_simp
        first | done | with_reducible rfl
      rotate_left
      · simp only [Act.put, List.setIfInBounds_toArray, List.set_cons_zero, List.set_cons_succ, i64_w, i32_w]
        rfl
      refine pure_ (i := 9) (N := (some 39)) (v := ?_) (a' := ?_) #[true, true, true, true, true, true, true, true, true, true, false, true, false, false] rfl rfl (by kernel_rfl) (fun _ _ _ h => h) (Or.inl ⟨by rfl, ?_⟩) ?_ ?_
      rotate_left
      · intro w'
        go_simp
        first | done | with_reducible rfl
      rotate_left
      · simp only [Act.put, List.setIfInBounds_toArray, List.set_cons_zero, List.set_cons_succ, i64_w, i32_w]
        rfl
      refine pure_ (i := 10) (N := (some 40)) (v := ?_) (a' := ?_) #[true, true, true, true, true, true, true, true, true, true, true, true, false, false] rfl rfl (by kernel_rfl) (fun _ _ _ h => h) (Or.inl ⟨by rfl, ?_⟩) ?_ ?_
      rotate_left
      · intro w'
        go_simp
        first | done | with_reducible rfl
      rotate_left
      · simp only [Act.put, List.setIfInBounds_toArray, List.set_cons_zero, List.set_cons_succ, i64_w, i32_w]
        rfl
      refine one_ (i := 12) (N := none) #[true, true, true, true, true, true, true, true, true, true, true, true, true, false] rfl rfl (by kernel_rfl) (by decide) (fun K hK => ?_)
      have z0 := (blk_cell HBX.out 0).trans rfl
      have z1 := (blk_cell HBX.out 1).trans rfl
      have y0 := blk_frozen HBX.out 0
      have y1 := blk_frozen HBX.out 1
      refine skip_ (by rfl) rfl (by first | (go_simp; done) | (go_simp; rfl)) ?_
      have hS2 : Below W0.heap.size W0 ((wz.setCell ⟨gR, 0, none⟩ (.int .i64 (Z : Int))).setCell ⟨gR, 1, none⟩ (.slice A8 RR.length c8)) := (hHeld.setCell (p := ⟨gR, 0, none⟩) HGE.out _).setCell (p := ⟨gR, 1, none⟩) HGE.out _
      have B1 := blk_put HBX.out 0 (.int .i64 (Z : Int)) rfl
      have BX := Aside0.mk (blk_put B1 1 (.slice A8 RR.length c8) rfl)
      have HV2 := Aside0.mk (Kd.R_set (Kd.R_set HV.out HBX.out (by decide) 0 (.int .i64 (Z : Int))) B1 (by decide) 1 (.slice A8 RR.length c8))
      clear HBX HV z0 z1 y0 y1 B1 hHeld
      refine hK.out _ _ hS2 (fun hHeld => ?_)
      clear hK K
      refine pure_ (i := 13) (N := (some 9)) (v := ?_) (a' := ?_) #[true, true, true, true, true, true, true, true, true, true, true, true, true, true] rfl rfl (by kernel_rfl) (fun _ _ _ h => h) (Or.inl ⟨by rfl, ?_⟩) ?_ ?_
      rotate_left
      · intro w'
        go_simp
        first | done | with_reducible rfl
      rotate_left
      · simp only [Act.put, List.setIfInBounds_toArray, List.set_cons_zero, List.set_cons_succ, i64_w, i32_w]
        rfl
      refine done_ (by kernel_rfl) ?_
      rotate_left
      refine box_step (by rfl) (N := 8) rfl (cs := #[.int .i64 0, .slice none 0 0]) (t := 41) (by first | (go_simp; done) | (go_simp; rfl)) ?_
      intro gR hg wz hb hbb
      have hS2 : Below W0.heap.size W0 wz := below_step hHeld hbb
      have HBX := Aside0.mk hb
      have HGE : Aside0 (W0.heap.size ≤ gR) := ⟨by rw [hg]; exact hHeld.size⟩
      (try (have n_ := Aside0.mk (Kd.R_below HVX.out hbb); clear HVX; have HVX := n_; clear n_))
      (try (have n_ := Aside0.mk (Kd.R_below HVY.out hbb); clear HVY; have HVY := n_; clear n_))
      (try (have n_ := Aside0.mk (Kd.R_below HV.out hbb); clear HV; have HV := n_; clear n_))
      clear hb hbb hg hHeld
      refine hK.out _ _ hS2 (fun hHeld => ?_)
      clear hK K
      refine norm_ (a' := ?_) ?_ ?_
      rotate_left
      · show Act.put _ (some 8) _ = _
        simp only [Act.put, List.setIfInBounds_toArray, List.set_cons_zero, List.set_cons_succ, i64_w, i32_w]
        rfl
      refine one_ (i := 6) (N := (some 37)) #[true, true, true, true, true, true, true, false, false, false, false, true, false, false] rfl rfl (by kernel_rfl) (by decide) (fun K hK => ?_)
      refine goes_ Try.func21 (by kernel_rfl) rfl #[.agg TV, .slice A7 Y.length c7] (by rfl) rfl rfl (by (try simp only [List.map_toArray, List.map_cons, List.map_nil]); first | done | rfl) ?_
      (with_reducible refine (HOY.out A7 c7 H7.out _ (Kd.C_below (Kd.R_reads' KY.out).2.2 hHeld)).mono ?_)
      rintro e wz ⟨v, rfl, hr, hB⟩
      refine ⟨_, rfl, ?_⟩
      have hS2 : Below W0.heap.size W0 wz := below_step hHeld hB
      obtain ⟨AY, cY, rfl, _⟩ := Kd.R_reads hr
      have HVY := Aside0.mk (Kd.R_lower hr (Nat.le_trans OD.out.size hHeld.size))
      have n_ := Aside0.mk (Kd.R_below HVX.out hB)
      clear HVX
      have HVX := n_
      clear n_
      (try (have n_ := Aside0.mk (blk_below HBX.out hB); clear HBX; have HBX := n_; clear n_))
      clear hr hB hHeld
      refine hK.out _ _ hS2 (fun hHeld => ?_)
      clear hK K
      refine norm_ (a' := ?_) ?_ ?_
      rotate_left
      · show Act.put _ (some 37) _ = _
        simp only [Act.put, List.setIfInBounds_toArray, List.set_cons_zero, List.set_cons_succ, i64_w, i32_w]
        rfl
      refine one_ (i := 7) (N := (some 38)) #[true, true, true, true, true, true, true, true, false, false, false, true, false, false] rfl rfl (by kernel_rfl) (by decide) (fun K hK => ?_)
      refine goes_ Try.func20 (by kernel_rfl) rfl #[.agg TV, .agg #[.int .i64 (X.length : Int), .slice AX OX.length cX], .agg #[.int .i64 (Y.length : Int), .slice AY OY.length cY]] (by rfl) rfl rfl (by (try simp only [List.map_toArray, List.map_cons, List.map_nil]); first | done | rfl) ?_
      (with_reducible refine (HJ.out AX AY cX cY _ (Nat.le_trans OD.out.size hHeld.size) HVX.out (Kd.R_reads' HVY.out).2.2).mono ?_)
      rintro e wz ⟨v, rfl, hr, hB⟩
      refine ⟨_, rfl, ?_⟩
      have hS2 : Below W0.heap.size W0 wz := below_step hHeld hB
      obtain ⟨A8, c8, rfl, _⟩ := Kd.R_reads hr
      have HV := Aside0.mk hr
      clear HVX HVY
      (try (have n_ := Aside0.mk (blk_below HBX.out hB); clear HBX; have HBX := n_; clear n_))
      clear hr hB hHeld
      refine hK.out _ _ hS2 (fun hHeld => ?_)
      clear hK K
      refine norm_ (a' := ?_) ?_ ?_
      rotate_left
      · show Act.put _ (some 38) _ = _
        simp only [Act.put, List.setIfInBounds_toArray, List.set_cons_zero, List.set_cons_succ, i64_w, i32_w]
        rfl
      refine pure_ (i := 8) (N := (some 30)) (v := ?_) (a' := ?_) #[true, true, true, true, true, true, true, true, true, false, false, true, false, false] rfl rfl (by kernel_rfl) (fun _ _ _ h => h) (Or.inl ⟨by rfl, ?_⟩) ?_ ?_
      rotate_left
      · intro w'
        go_simp
        first | done | with_reducible rfl
      rotate_left
      · simp only [Act.put, List.setIfInBounds_toArray, List.set_cons_zero, List.set_cons_succ, i64_w, i32_w]
        rfl
      refine pure_ (i := 9) (N := (some 39)) (v := ?_) (a' := ?_) #[true, true, true, true, true, true, true, true, true, true, false, true, false, false] rfl rfl (by kernel_rfl) (fun _ _ _ h => h) (Or.inl ⟨by rfl, ?_⟩) ?_ ?_
      rotate_left
      · intro w'
        go_simp
        first | done | with_reducible rfl
      rotate_left
      · simp only [Act.put, List.setIfInBounds_toArray, List.set_cons_zero, List.set_cons_succ, i64_w, i32_w]
        rfl
      refine pure_ (i := 10) (N := (some 40)) (v := ?_) (a' := ?_) #[true, true, true, true, true, true, true, true, true, true, true, true, false, false] rfl rfl (by kernel_rfl) (fun _ _ _ h => h) (Or.inl ⟨by rfl, ?_⟩) ?_ ?_
      rotate_left
      · intro w'
        go_simp
        first | done | with_reducible rfl
      rotate_left
      · simp only [Act.put, List.setIfInBounds_toArray, List.set_cons_zero, List.set_cons_succ, i64_w, i32_w]
        rfl
      refine one_ (i := 12) (N := none) #[true, true, true, true, true, true, true, true, true, true, true, true, true, false] rfl rfl (by kernel_rfl) (by decide) (fun K hK => ?_)
      have z0 := (blk_cell HBX.out 0).trans rfl
      have z1 := (blk_cell HBX.out 1).trans rfl
      have y0 := blk_frozen HBX.out 0
      have y1 := blk_frozen HBX.out 1
      refine skip_ (by rfl) rfl (by first | (go_simp; done) | (go_simp; rfl)) ?_
      have hS2 : Below W0.heap.size W0 ((wz.setCell ⟨gR, 0, none⟩ (.int .i64 (Z : Int))).setCell ⟨gR, 1, none⟩ (.slice A8 RR.length c8)) := (hHeld.setCell (p := ⟨gR, 0, none⟩) HGE.out _).setCell (p := ⟨gR, 1, none⟩) HGE.out _
      have B1 := blk_put HBX.out 0 (.int .i64 (Z : Int)) rfl
      have BX := Aside0.mk (blk_put B1 1 (.slice A8 RR.length c8) rfl)
      have HV2 := Aside0.mk (Kd.R_set (Kd.R_set HV.out HBX.out (by decide) 0 (.int .i64 (Z : Int))) B1 (by decide) 1 (.slice A8 RR.length c8))
      clear HBX HV z0 z1 y0 y1 B1 hHeld
      refine hK.out _ _ hS2 (fun hHeld => ?_)
      clear hK K
      refine pure_ (i := 13) (N := (some 9)) (v := ?_) (a' := ?_) #[true, true, true, true, true, true, true, true, true, true, true, true, true, true] rfl rfl (by kernel_rfl) (fun _ _ _ h => h) (Or.inl ⟨by rfl, ?_⟩) ?_ ?_
      rotate_left
      · intro w'
        go_simp
        first | done | with_reducible rfl
      rotate_left
      · simp only [Act.put, List.setIfInBounds_toArray, List.set_cons_zero, List.set_cons_succ, i64_w, i32_w]
        rfl
      refine done_ (by kernel_rfl) ?_
      rotate_left
      refine box_step (by rfl) (N := 8) rfl (cs := #[.int .i64 0, .slice none 0 0]) (t := 41) (by first | (go_simp; done) | (go_simp; rfl)) ?_
      intro gR hg wz hb hbb
      have hS2 : Below W0.heap.size W0 wz := below_step hHeld hbb
      have HBX := Aside0.mk hb
      have HGE : Aside0 (W0.heap.size ≤ gR) := ⟨by rw [hg]; exact hHeld.size⟩
      (try (have n_ := Aside0.mk (Kd.R_below HVX.out hbb); clear HVX; have HVX := n_; clear n_))
      (try (have n_ := Aside0.mk (Kd.R_below HVY.out hbb); clear HVY; have HVY := n_; clear n_))
      (try (have n_ := Aside0.mk (Kd.R_below HV.out hbb); clear HV; have HV := n_; clear n_))
      clear hb hbb hg hHeld
      refine hK.out _ _ hS2 (fun hHeld => ?_)
      clear hK K
      refine norm_ (a' := ?_) ?_ ?_
      rotate_left
      · show Act.put _ (some 8) _ = _
        simp only [Act.put, List.setIfInBounds_toArray, List.set_cons_zero, List.set_cons_succ, i64_w, i32_w]
        rfl
      refine one_ (i := 3) (N := (some 34)) #[true, true, true, true, true, true, false, false, false, false, false, true, false, false] rfl rfl (by kernel_rfl) (by decide) (fun K hK => ?_)
      refine goes_ Try.func21 (by kernel_rfl) rfl #[.agg TV, .slice A6 X.length c6] (by rfl) rfl rfl (by (try simp only [List.map_toArray, List.map_cons, List.map_nil]); first | done | rfl) ?_
      (with_reducible refine (HOX.out A6 c6 H6.out _ (Kd.C_below (Kd.R_reads' KX.out).2.2 hHeld)).mono ?_)
      rintro e wz ⟨v, rfl, hr, hB⟩
      refine ⟨_, rfl, ?_⟩
      have hS2 : Below W0.heap.size W0 wz := below_step hHeld hB
      obtain ⟨AX, cX, rfl, _⟩ := Kd.R_reads hr
      have HVX := Aside0.mk (Kd.R_lower hr (Nat.le_trans OD.out.size hHeld.size))
      (try (have n_ := Aside0.mk (blk_below HBX.out hB); clear HBX; have HBX := n_; clear n_))
      clear hr hB hHeld
      refine hK.out _ _ hS2 (fun hHeld => ?_)
      clear hK K
      refine norm_ (a' := ?_) ?_ ?_
      rotate_left
      · show Act.put _ (some 34) _ = _
        simp only [Act.put, List.setIfInBounds_toArray, List.set_cons_zero, List.set_cons_succ, i64_w, i32_w]
        rfl
      refine one_ (i := 6) (N := (some 37)) #[true, true, true, true, true, true, true, false, false, false, false, true, false, false] rfl rfl (by kernel_rfl) (by decide) (fun K hK => ?_)
      refine goes_ Try.func21 (by kernel_rfl) rfl #[.agg TV, .slice A7 Y.length c7] (by rfl) rfl rfl (by (try simp only [List.map_toArray, List.map_cons, List.map_nil]); first | done | rfl) ?_
      (with_reducible refine (HOY.out A7 c7 H7.out _ (Kd.C_below (Kd.R_reads' KY.out).2.2 hHeld)).mono ?_)
      rintro e wz ⟨v, rfl, hr, hB⟩
      refine ⟨_, rfl, ?_⟩
      have hS2 : Below W0.heap.size W0 wz := below_step hHeld hB
      obtain ⟨AY, cY, rfl, _⟩ := Kd.R_reads hr
      have HVY := Aside0.mk (Kd.R_lower hr (Nat.le_trans OD.out.size hHeld.size))
      have n_ := Aside0.mk (Kd.R_below HVX.out hB)
      clear HVX
      have HVX := n_
      clear n_
      (try (have n_ := Aside0.mk (blk_below HBX.out hB); clear HBX; have HBX := n_; clear n_))
      clear hr hB hHeld
      refine hK.out _ _ hS2 (fun hHeld => ?_)
      clear hK K
      refine norm_ (a' := ?_) ?_ ?_
      rotate_left
      · show Act.put _ (some 37) _ = _
        simp only [Act.put, List.setIfInBounds_toArray, List.set_cons_zero, List.set_cons_succ, i64_w, i32_w]
        rfl
      refine one_ (i := 7) (N := (some 38)) #[true, true, true, true, true, true, true, true, false, false, false, true, false, false] rfl rfl (by kernel_rfl) (by decide) (fun K hK => ?_)
      refine goes_ Try.func20 (by kernel_rfl) rfl #[.agg TV, .agg #[.int .i64 (X.length : Int), .slice AX OX.length cX], .agg #[.int .i64 (Y.length : Int), .slice AY OY.length cY]] (by rfl) rfl rfl (by (try simp only [List.map_toArray, List.map_cons, List.map_nil]); first | done | rfl) ?_
      (with_reducible refine (HJ.out AX AY cX cY _ (Nat.le_trans OD.out.size hHeld.size) HVX.out (Kd.R_reads' HVY.out).2.2).mono ?_)
      rintro e wz ⟨v, rfl, hr, hB⟩
      refine ⟨_, rfl, ?_⟩
      have hS2 : Below W0.heap.size W0 wz := below_step hHeld hB
      obtain ⟨A8, c8, rfl, _⟩ := Kd.R_reads hr
      have HV := Aside0.mk hr
      clear HVX HVY
      (try (have n_ := Aside0.mk (blk_below HBX.out hB); clear HBX; have HBX := n_; clear n_))
      clear hr hB hHeld
      refine hK.out _ _ hS2 (fun hHeld => ?_)
      clear hK K
      refine norm_ (a' := ?_) ?_ ?_
      rotate_left
      · show Act.put _ (some 38) _ = _
        simp only [Act.put, List.setIfInBounds_toArray, List.set_cons_zero, List.set_cons_succ, i64_w, i32_w]
        rfl
      refine pure_ (i := 8) (N := (some 30)) (v := ?_) (a' := ?_) #[true, true, true, true, true, true, true, true, true, false, false, true, false, false] rfl rfl (by kernel_rfl) (fun _ _ _ h => h) (Or.inl ⟨by rfl, ?_⟩) ?_ ?_
      rotate_left
      · intro w'
        go_simp
        first | done | with_reducible rfl
      rotate_left
      · simp only [Act.put, List.setIfInBounds_toArray, List.set_cons_zero, List.set_cons_succ, i64_w, i32_w]
        rfl
      refine pure_ (i := 9) (N := (some 39)) (v := ?_) (a' := ?_) #[true, true, true, true, true, true, true, true, true, true, false, true, false, false] rfl rfl (by kernel_rfl) (fun _ _ _ h => h) (Or.inl ⟨by rfl, ?_⟩) ?_ ?_
      rotate_left
      · intro w'
        go_simp
        first | done | with_reducible rfl
      rotate_left
      · simp only [Act.put, List.setIfInBounds_toArray, List.set_cons_zero, List.set_cons_succ, i64_w, i32_w]
        rfl
      refine pure_ (i := 10) (N := (some 40)) (v := ?_) (a' := ?_) #[true, true, true, true, true, true, true, true, true, true, true, true, false, false] rfl rfl (by kernel_rfl) (fun _ _ _ h => h) (Or.inl ⟨by rfl, ?_⟩) ?_ ?_
      rotate_left
      · intro w'
        go_simp
        first | done | with_reducible rfl
      rotate_left
      · simp only [Act.put, List.setIfInBounds_toArray, List.set_cons_zero, List.set_cons_succ, i64_w, i32_w]
        rfl
      refine one_ (i := 12) (N := none) #[true, true, true, true, true, true, true, true, true, true, true, true, true, false] rfl rfl (by kernel_rfl) (by decide) (fun K hK => ?_)
      have z0 := (blk_cell HBX.out 0).trans rfl
      have z1 := (blk_cell HBX.out 1).trans rfl
      have y0 := blk_frozen HBX.out 0
      have y1 := blk_frozen HBX.out 1
      refine skip_ (by rfl) rfl (by first | (go_simp; done) | (go_simp; rfl)) ?_
      have hS2 : Below W0.heap.size W0 ((wz.setCell ⟨gR, 0, none⟩ (.int .i64 (Z : Int))).setCell ⟨gR, 1, none⟩ (.slice A8 RR.length c8)) := (hHeld.setCell (p := ⟨gR, 0, none⟩) HGE.out _).setCell (p := ⟨gR, 1, none⟩) HGE.out _
      have B1 := blk_put HBX.out 0 (.int .i64 (Z : Int)) rfl
      have BX := Aside0.mk (blk_put B1 1 (.slice A8 RR.length c8) rfl)
      have HV2 := Aside0.mk (Kd.R_set (Kd.R_set HV.out HBX.out (by decide) 0 (.int .i64 (Z : Int))) B1 (by decide) 1 (.slice A8 RR.length c8))
      clear HBX HV z0 z1 y0 y1 B1 hHeld
      refine hK.out _ _ hS2 (fun hHeld => ?_)
      clear hK K
      refine pure_ (i := 13) (N := (some 9)) (v := ?_) (a' := ?_) #[true, true, true, true, true, true, true, true, true, true, true, true, true, true] rfl rfl (by kernel_rfl) (fun _ _ _ h => h) (Or.inl ⟨by rfl, ?_⟩) ?_ ?_
      rotate_left
      · intro w'
        go_simp
        first | done | with_reducible rfl
      rotate_left
      · simp only [Act.put, List.setIfInBounds_toArray, List.set_cons_zero, List.set_cons_succ, i64_w, i32_w]
        rfl
      refine done_ (by kernel_rfl) ?_
      all_goals
        generalize (wz.setCell ⟨gR, 0, none⟩ (.int .i64 (Z : Int))).setCell ⟨gR, 1, none⟩ (.slice A8 RR.length c8) = wx at *
        have OE := Aside0.mk (OD.out.step hHeld)
        have HX := Aside0.mk (Kd.R_below KX.out hHeld)
        have HY := Aside0.mk (Kd.R_below KY.out hHeld)
        clear hHeld OD KX KY HGE
        have hn33 : X.length < 33 := by have := HXY.out; omega
        rcases HC.out with ⟨h0, hlw, rfl, rfl, rfl⟩ | ⟨hok, rfl, rfl, rfl⟩
        · obtain ⟨lw, hlwe⟩ : ∃ z, lowB X.length = z := ⟨_, rfl⟩
          rw [hlwe] at hlw
          go_wp2_with (go_at_call 22; go_loud ((with_reducible refine (sizes_pos X.length hn33 h0 _).mono ?_); rintro e wq ⟨ad, c10, q, rfl, hq64, cS, hB⟩; have OF := Aside0.mk (OE.out.step hB); have n1 := Aside0.mk (Kd.R_below HX.out hB); have n2 := Aside0.mk (Kd.R_below HY.out hB); have n3 := Aside0.mk (Kd.R_below HV2.out hB); have n4 := Aside0.mk (blk_below BX.out hB); clear OE HX HY HV2 BX hB; have HX := n1; have HY := n2; have HV := n3; have BX := n4; clear n1 n2 n3 n4; have d0 := (blk_cell BX.out 0).trans rfl; have d1 := (blk_cell BX.out 1).trans rfl; have hqi : (q : Int) ≤ 64 := (by omega); rw [hlwe] at cS; clear hq64 h0 hn33))
          go_ret
          exact ⟨rfl, OF.out.below⟩
        rcases Nat.eq_zero_or_pos X.length with h0 | h0
        · have HS0 := Aside0.mk (fun W => sizes_zero X.length h0 W)
          clear hok hn33 h0
          go_wp2_with (first
            | (go_at_call 22; go_loud ((with_reducible refine (HS0.out _).mono ?_); rintro e wq ⟨A10, c10, rfl, hB⟩; have OF := Aside0.mk (OE.out.step hB); have n1 := Aside0.mk (Kd.R_below HX.out hB); have n2 := Aside0.mk (Kd.R_below HY.out hB); have n3 := Aside0.mk (Kd.R_below HV2.out hB); have n4 := Aside0.mk (blk_below BX.out hB); clear OE HX HY HV2 BX hB; have HX := n1; have HY := n2; have HV := n3; have BX := n4; clear n1 n2 n3 n4; have d0 := (blk_cell BX.out 0).trans rfl; have d1 := (blk_cell BX.out 1).trans rfl))
            | ((with_reducible refine gate_dst (N := 71) rfl ?_); refine lit_ev rfl (N := 71) rfl [] (by first | (go_simp; done) | (go_simp; rfl)) (by simp) ?_; intro vN wa hrN hBa; clear d0 d1)
            | ((with_reducible refine gate_builtin (b := .append) (xs := #[.tmp 71, .tmp 72]) rfl ?_); at_builtin; refine app_ev (W0 := wq) wq.heap.size rfl (.tmp 71) (.tmp 72) rfl vN [] X A6 c6 rfl rfl hrN (Kd.C_below (Kd.R_reads' HX.out).2.2 hBa) hBa hBa.size (by have := HXY.out; simp; omega) ?_; intro vM wb hrM hBb; rw [List.nil_append] at hrM)
            | ((with_reducible refine gate_builtin (b := .append) (xs := #[.tmp 73, .tmp 74]) rfl ?_); at_builtin; refine app_ev (W0 := wq) wq.heap.size rfl (.tmp 73) (.tmp 74) rfl vM X Y A7 c7 rfl rfl hrM (Kd.C_below (Kd.R_reads' HY.out).2.2 hBb) hBb hBb.size (by have := HXY.out; omega) ?_; intro vL wc hrL hBc; rw [HAL.out] at hrL; obtain ⟨A11, c11, rfl, h11, hC11⟩ := Kd.R_reads hrL; have H11 := Aside0.mk h11; have HC11 := Aside0.mk hC11; have OG := Aside0.mk (OF.out.step hBc); have n3 := Aside0.mk (Kd.R_below HV.out hBc); have n4 := Aside0.mk (blk_below BX.out hBc); clear OF HV BX hrN hBa hrM hBb hrL hBc h11 hC11; have HV := n3; have BX := n4; clear n3 n4))
          have OD := Aside0.mk OG.out.drew
          have K8 := Aside0.mk (Kd.R_drew HV.out)
          have K11 := Aside0.mk (Kd.C_drew HC11.out)
          have cR0 : wc.drew.cell? ⟨gR, 0, none⟩ = some (.int .i64 (AL.length : Int)) := (blk_cell (blk_below BX.out (Below.refl _ _).drew) 0).trans rfl
          have cR1 : wc.drew.cell? ⟨gR, 1, none⟩ = some (.slice A8 (ofF AL).length c8) := (blk_cell (blk_below BX.out (Below.refl _ _).drew) 1).trans rfl
          clear OG HV HC11 BX
          refine start_ (n := 17) (S := fun w' => Below (wc).drew.heap.size (wc).drew w') (ds := []) #[false, false, false, false, false, false, false, false, false, false, false, false, false, false, false, false, false] (by kernel_rfl) rfl rfl (Below.refl _ _) (fun hHeld => ?_)
          generalize (wc).drew = W0 at *
          refine pure_ (i := 0) (N := (some 76)) (v := ?_) (a' := ?_) #[true, false, false, false, false, false, false, false, false, false, false, false, false, false, false, false, false] rfl rfl (by kernel_rfl) (fun _ _ _ h => h) (Or.inl ⟨by rfl, ?_⟩) ?_ ?_
          rotate_left
          · intro w'
            go_simp
            first | done | with_reducible rfl
          rotate_left
          · simp only [Act.put, List.setIfInBounds_toArray, List.set_cons_zero, List.set_cons_succ, i64_w, i32_w]
            rfl
          refine pure_ (i := 1) (N := (some 77)) (v := ?_) (a' := ?_) #[true, true, false, false, false, false, false, false, false, false, false, false, false, false, false, false, false] rfl rfl (by kernel_rfl) (fun _ _ _ h => h) (Or.inl ⟨by rfl, ?_⟩) ?_ ?_
          rotate_left
          · intro w'
            go_simp
            first | done | with_reducible rfl
          rotate_left
          · simp only [Act.put, List.setIfInBounds_toArray, List.set_cons_zero, List.set_cons_succ, i64_w, i32_w]
            rfl
          refine pure_ (i := 2) (N := (some 78)) (v := ?_) (a' := ?_) #[true, true, true, false, false, false, false, false, false, false, false, false, false, false, false, false, false] rfl rfl (by kernel_rfl) (fun _ _ _ h => h) (Or.inl ⟨by rfl, ?_⟩) ?_ ?_
          rotate_left
          · intro w'
            go_simp
            first | done | with_reducible rfl
          rotate_left
          · simp only [Act.put, List.setIfInBounds_toArray, List.set_cons_zero, List.set_cons_succ, i64_w, i32_w]
            rfl
          refine pure_ (i := 3) (N := (some 79)) (v := ?_) (a' := ?_) #[true, true, true, true, false, false, false, false, false, false, false, false, false, false, false, false, false] rfl rfl (by kernel_rfl) (fun _ _ _ h => h) (Or.inl ⟨by rfl, ?_⟩) ?_ ?_
          rotate_left
          · intro w'
            go_simp
            first | done | with_reducible rfl
          rotate_left
          · simp only [Act.put, List.setIfInBounds_toArray, List.set_cons_zero, List.set_cons_succ, i64_w, i32_w]
            rfl
          refine take_ (i := 4) (N := (some 80)) (v := ?_) (a' := ?_) #[true, true, true, true, true, false, false, false, false, false, false, false, false, false, false, false, false] rfl rfl (by kernel_rfl) (fun _ _ _ h => h) (Or.inl ⟨by rfl, ?_⟩) hHeld ?_ ?_
          rotate_left
          · intro w' hS
            have s0 := pw_cell_below hS cR0
            go_simp
            first | done | with_reducible rfl
          rotate_left
          · simp only [Act.put, List.setIfInBounds_toArray, List.set_cons_zero, List.set_cons_succ, i64_w, i32_w]
            rfl
          refine pure_ (i := 5) (N := (some 81)) (v := ?_) (a' := ?_) #[true, true, true, true, true, true, false, false, false, false, false, false, false, false, false, false, false] rfl rfl (by kernel_rfl) (fun _ _ _ h => h) (Or.inl ⟨by rfl, ?_⟩) ?_ ?_
          rotate_left
          · intro w'
            go_simp
            first | done | with_reducible rfl
          rotate_left
          · simp only [Act.put, List.setIfInBounds_toArray, List.set_cons_zero, List.set_cons_succ, i64_w, i32_w]
            rfl
          refine pure_ (i := 6) (N := (some 82)) (v := ?_) (a' := ?_) #[true, true, true, true, true, true, true, false, false, false, false, false, false, false, false, false, false] rfl rfl (by kernel_rfl) (fun _ _ _ h => h) (Or.inl ⟨by rfl, ?_⟩) ?_ ?_
          rotate_left
          · intro w'
            go_simp
            first | done | with_reducible rfl
          rotate_left
          · simp only [Act.put, List.setIfInBounds_toArray, List.set_cons_zero, List.set_cons_succ, i64_w, i32_w]
            rfl
          refine pure_ (i := 7) (N := (some 83)) (v := ?_) (a' := ?_) #[true, true, true, true, true, true, true, true, false, false, false, false, false, false, false, false, false] rfl rfl (by kernel_rfl) (fun _ _ _ h => h) (Or.inl ⟨by rfl, ?_⟩) ?_ ?_
          rotate_left
          · intro w'
            go_simp
            first | done | with_reducible rfl
          rotate_left
          · simp only [Act.put, List.setIfInBounds_toArray, List.set_cons_zero, List.set_cons_succ, i64_w, i32_w]
            rfl
          refine pure_ (i := 8) (N := (some 84)) (v := ?_) (a' := ?_) #[true, true, true, true, true, true, true, true, true, false, false, false, false, false, false, false, false] rfl rfl (by kernel_rfl) (fun _ _ _ h => h) (Or.inl ⟨by rfl, ?_⟩) ?_ ?_
          rotate_left
          · intro w'
            go_simp
            first | done | with_reducible rfl
          rotate_left
          · simp only [Act.put, List.setIfInBounds_toArray, List.set_cons_zero, List.set_cons_succ, i64_w, i32_w]
            rfl
          refine pure_ (i := 9) (N := (some 85)) (v := ?_) (a' := ?_) #[true, true, true, true, true, true, true, true, true, true, false, false, false, false, false, false, false] rfl rfl (by kernel_rfl) (fun _ _ _ h => h) (Or.inl ⟨by rfl, ?_⟩) ?_ ?_
          rotate_left
          · intro w'
            go_simp
            first | done | with_reducible rfl
          rotate_left
          · simp only [Act.put, List.setIfInBounds_toArray, List.set_cons_zero, List.set_cons_succ, i64_w, i32_w]
            rfl
          refine pure_ (i := 10) (N := (some 86)) (v := ?_) (a' := ?_) #[true, true, true, true, true, true, true, true, true, true, true, false, false, false, false, false, false] rfl rfl (by kernel_rfl) (fun _ _ _ h => h) (Or.inl ⟨by rfl, ?_⟩) ?_ ?_
          rotate_left
          · intro w'
            go_simp
            first | done | with_reducible rfl
          rotate_left
          · simp only [Act.put, List.setIfInBounds_toArray, List.set_cons_zero, List.set_cons_succ, i64_w, i32_w]
            rfl
          refine take_ (i := 11) (N := (some 87)) (v := ?_) (a' := ?_) #[true, true, true, true, true, true, true, true, true, true, true, true, false, false, false, false, false] rfl rfl (by kernel_rfl) (fun _ _ _ h => h) (Or.inl ⟨by rfl, ?_⟩) hHeld ?_ ?_
          rotate_left
          · intro w' hS
            have s0 := pw_cell_below hS cR1
            go_simp
            first | done | with_reducible rfl
          rotate_left
          · simp only [Act.put, List.setIfInBounds_toArray, List.set_cons_zero, List.set_cons_succ, i64_w, i32_w]
            rfl
          refine pure_ (i := 12) (N := (some 88)) (v := ?_) (a' := ?_) #[true, true, true, true, true, true, true, true, true, true, true, true, true, false, false, false, false] rfl rfl (by kernel_rfl) (fun _ _ _ h => h) (Or.inl ⟨by rfl, ?_⟩) ?_ ?_
          rotate_left
          · intro w'
            go_simp
            first | done | with_reducible rfl
          rotate_left
          · simp only [Act.put, List.setIfInBounds_toArray, List.set_cons_zero, List.set_cons_succ, i64_w, i32_w]
            rfl
          refine one_ (i := 13) (N := (some 89)) #[true, true, true, true, true, true, true, true, true, true, true, true, true, true, false, false, false] rfl rfl (by kernel_rfl) (by decide) (fun K hK => ?_)
          refine goes_ Try.func24 (by kernel_rfl) rfl #[.slice A11 AL.length c11] (by rfl) rfl rfl (by (try simp only [List.map_toArray, List.map_cons, List.map_nil]); first | done | rfl) ?_
          (with_reducible refine (HRO.out A11 c11 H11.out _ (Kd.C_below K11.out hHeld)).mono ?_)
          rintro e wz ⟨v6, rfl, hr6, hB⟩
          refine ⟨_, rfl, ?_⟩
          obtain ⟨AQ, cQ, rfl, _, hC6⟩ := Kd.R_reads hr6
          have HC6 := Aside0.mk hC6
          have hS2 : Below W0.heap.size W0 wz := below_step hHeld hB
          clear hr6 hB hC6 hHeld
          refine hK.out _ _ hS2 (fun hHeld => ?_)
          clear hK K
          refine norm_ (a' := ?_) ?_ ?_
          rotate_left
          · show Act.put _ (some 89) _ = _
            simp only [Act.put, List.setIfInBounds_toArray, List.set_cons_zero, List.set_cons_succ, i64_w, i32_w]
            rfl
          refine one_ (i := 14) (N := (some 90)) #[true, true, true, true, true, true, true, true, true, true, true, true, true, true, true, false, false] rfl rfl (by kernel_rfl) (by decide) (fun K hK => ?_)
          refine goes_ Try.func23 (by kernel_rfl) rfl #[.slice A8 (ofF AL).length c8, .slice AQ (ofF AL).length cQ] (by rfl) rfl rfl (by (try simp only [List.map_toArray, List.map_cons, List.map_nil]); first | done | rfl) ?_
          (with_reducible refine (HSM.out A8 AQ c8 cQ _ (Kd.C_below (Kd.R_reads' K8.out).2.2 hHeld) HC6.out).mono ?_)
          rintro e wq ⟨rfl, hB⟩
          refine ⟨_, rfl, ?_⟩
          have hS2 : Below W0.heap.size W0 wq := below_step hHeld hB
          clear hB hHeld HC6
          refine hK.out _ _ hS2 (fun hHeld => ?_)
          clear hK K
          refine norm_ (a' := ?_) ?_ ?_
          rotate_left
          · show Act.put _ (some 90) _ = _
            simp only [Act.put, List.setIfInBounds_toArray, List.set_cons_zero, List.set_cons_succ, i64_w, i32_w]
            rfl
          refine pure_ (i := 15) (N := (some 91)) (v := ?_) (a' := ?_) #[true, true, true, true, true, true, true, true, true, true, true, true, true, true, true, true, false] rfl rfl (by kernel_rfl) (fun _ _ _ h => h) (Or.inl ⟨by rfl, ?_⟩) ?_ ?_
          rotate_left
          · intro w'
            go_simp
            first | done | with_reducible rfl
          rotate_left
          · simp only [Act.put, List.setIfInBounds_toArray, List.set_cons_zero, List.set_cons_succ, i64_w, i32_w]
            rfl
          refine pure_ (i := 16) (N := (some 4)) (v := ?_) (a' := ?_) #[true, true, true, true, true, true, true, true, true, true, true, true, true, true, true, true, true] rfl rfl (by kernel_rfl) (fun _ _ _ h => h) (Or.inl ⟨by rfl, ?_⟩) ?_ ?_
          rotate_left
          · intro w'
            go_simp
            first | done | with_reducible rfl
          rotate_left
          · simp only [Act.put, List.setIfInBounds_toArray, List.set_cons_zero, List.set_cons_succ, i64_w, i32_w]
            rfl
          refine done_ (by kernel_rfl) ?_
          have OB := (OD.out.step hHeld).below
          go_wp2_with fail
          go_ret
          exact ⟨rfl, OB⟩
        · obtain ⟨lw, hlwe⟩ : ∃ z, lowB X.length = z := ⟨_, rfl⟩
          have hlw : ¬ lw < (Y.length : Int) := by rw [← hlwe]; omega
          clear hok
          go_wp2_with (first
            | (go_at_call 22; go_loud ((with_reducible refine (sizes_pos X.length hn33 h0 _).mono ?_); rintro e wq ⟨ad, c10, q, rfl, hq64, cS, hB⟩; have OF := Aside0.mk (OE.out.step hB); have n1 := Aside0.mk (Kd.R_below HX.out hB); have n2 := Aside0.mk (Kd.R_below HY.out hB); have n3 := Aside0.mk (Kd.R_below HV2.out hB); have n4 := Aside0.mk (blk_below BX.out hB); clear OE HX HY HV2 BX hB; have HX := n1; have HY := n2; have HV := n3; have BX := n4; clear n1 n2 n3 n4; have d0 := (blk_cell BX.out 0).trans rfl; have d1 := (blk_cell BX.out 1).trans rfl; have hqi : (q : Int) ≤ 64 := (by omega); rw [hlwe] at cS; clear hq64 h0 hn33))
            | ((with_reducible refine gate_dst (N := 71) rfl ?_); refine lit_ev rfl (N := 71) rfl [] (by first | (go_simp; done) | (go_simp; rfl)) (by simp) ?_; intro vN wa hrN hBa; clear d0 d1)
            | ((with_reducible refine gate_builtin (b := .append) (xs := #[.tmp 71, .tmp 72]) rfl ?_); at_builtin; refine app_ev (W0 := wq) wq.heap.size rfl (.tmp 71) (.tmp 72) rfl vN [] X A6 c6 rfl rfl hrN (Kd.C_below (Kd.R_reads' HX.out).2.2 hBa) hBa hBa.size (by have := HXY.out; simp; omega) ?_; intro vM wb hrM hBb; rw [List.nil_append] at hrM)
            | ((with_reducible refine gate_builtin (b := .append) (xs := #[.tmp 73, .tmp 74]) rfl ?_); at_builtin; refine app_ev (W0 := wq) wq.heap.size rfl (.tmp 73) (.tmp 74) rfl vM X Y A7 c7 rfl rfl hrM (Kd.C_below (Kd.R_reads' HY.out).2.2 hBb) hBb hBb.size (by have := HXY.out; omega) ?_; intro vL wc hrL hBc; rw [HAL.out] at hrL; obtain ⟨A11, c11, rfl, h11, hC11⟩ := Kd.R_reads hrL; have H11 := Aside0.mk h11; have HC11 := Aside0.mk hC11; have OG := Aside0.mk (OF.out.step hBc); have n3 := Aside0.mk (Kd.R_below HV.out hBc); have n4 := Aside0.mk (blk_below BX.out hBc); clear OF HV BX hrN hBa hrM hBb hrL hBc h11 hC11; have HV := n3; have BX := n4; clear n3 n4))
          have OD := Aside0.mk OG.out.drew
          have K8 := Aside0.mk (Kd.R_drew HV.out)
          have K11 := Aside0.mk (Kd.C_drew HC11.out)
          have cR0 : wc.drew.cell? ⟨gR, 0, none⟩ = some (.int .i64 (AL.length : Int)) := (blk_cell (blk_below BX.out (Below.refl _ _).drew) 0).trans rfl
          have cR1 : wc.drew.cell? ⟨gR, 1, none⟩ = some (.slice A8 (ofF AL).length c8) := (blk_cell (blk_below BX.out (Below.refl _ _).drew) 1).trans rfl
          clear OG HV HC11 BX
          refine start_ (n := 17) (S := fun w' => Below (wc).drew.heap.size (wc).drew w') (ds := []) #[false, false, false, false, false, false, false, false, false, false, false, false, false, false, false, false, false] (by kernel_rfl) rfl rfl (Below.refl _ _) (fun hHeld => ?_)
          generalize (wc).drew = W0 at *
          refine pure_ (i := 0) (N := (some 76)) (v := ?_) (a' := ?_) #[true, false, false, false, false, false, false, false, false, false, false, false, false, false, false, false, false] rfl rfl (by kernel_rfl) (fun _ _ _ h => h) (Or.inl ⟨by rfl, ?_⟩) ?_ ?_
          rotate_left
          · intro w'
            go_simp
            first | done | with_reducible rfl
          rotate_left
          · simp only [Act.put, List.setIfInBounds_toArray, List.set_cons_zero, List.set_cons_succ, i64_w, i32_w]
            rfl
          refine pure_ (i := 1) (N := (some 77)) (v := ?_) (a' := ?_) #[true, true, false, false, false, false, false, false, false, false, false, false, false, false, false, false, false] rfl rfl (by kernel_rfl) (fun _ _ _ h => h) (Or.inl ⟨by rfl, ?_⟩) ?_ ?_
          rotate_left
          · intro w'
            go_simp
            first | done | with_reducible rfl
          rotate_left
          · simp only [Act.put, List.setIfInBounds_toArray, List.set_cons_zero, List.set_cons_succ, i64_w, i32_w]
            rfl
          refine pure_ (i := 2) (N := (some 78)) (v := ?_) (a' := ?_) #[true, true, true, false, false, false, false, false, false, false, false, false, false, false, false, false, false] rfl rfl (by kernel_rfl) (fun _ _ _ h => h) (Or.inl ⟨by rfl, ?_⟩) ?_ ?_
          rotate_left
          · intro w'
            go_simp
            first | done | with_reducible rfl
          rotate_left
          · simp only [Act.put, List.setIfInBounds_toArray, List.set_cons_zero, List.set_cons_succ, i64_w, i32_w]
            rfl
          refine pure_ (i := 3) (N := (some 79)) (v := ?_) (a' := ?_) #[true, true, true, true, false, false, false, false, false, false, false, false, false, false, false, false, false] rfl rfl (by kernel_rfl) (fun _ _ _ h => h) (Or.inl ⟨by rfl, ?_⟩) ?_ ?_
          rotate_left
          · intro w'
            go_simp
            first | done | with_reducible rfl
          rotate_left
          · simp only [Act.put, List.setIfInBounds_toArray, List.set_cons_zero, List.set_cons_succ, i64_w, i32_w]
            rfl
          refine take_ (i := 4) (N := (some 80)) (v := ?_) (a' := ?_) #[true, true, true, true, true, false, false, false, false, false, false, false, false, false, false, false, false] rfl rfl (by kernel_rfl) (fun _ _ _ h => h) (Or.inl ⟨by rfl, ?_⟩) hHeld ?_ ?_
          rotate_left
          · intro w' hS
            have s0 := pw_cell_below hS cR0
            go_simp
            first | done | with_reducible rfl
          rotate_left
          · simp only [Act.put, List.setIfInBounds_toArray, List.set_cons_zero, List.set_cons_succ, i64_w, i32_w]
            rfl
          refine pure_ (i := 5) (N := (some 81)) (v := ?_) (a' := ?_) #[true, true, true, true, true, true, false, false, false, false, false, false, false, false, false, false, false] rfl rfl (by kernel_rfl) (fun _ _ _ h => h) (Or.inl ⟨by rfl, ?_⟩) ?_ ?_
          rotate_left
          · intro w'
            go_simp
            first | done | with_reducible rfl
          rotate_left
          · simp only [Act.put, List.setIfInBounds_toArray, List.set_cons_zero, List.set_cons_succ, i64_w, i32_w]
            rfl
          refine pure_ (i := 6) (N := (some 82)) (v := ?_) (a' := ?_) #[true, true, true, true, true, true, true, false, false, false, false, false, false, false, false, false, false] rfl rfl (by kernel_rfl) (fun _ _ _ h => h) (Or.inl ⟨by rfl, ?_⟩) ?_ ?_
          rotate_left
          · intro w'
            go_simp
            first | done | with_reducible rfl
          rotate_left
          · simp only [Act.put, List.setIfInBounds_toArray, List.set_cons_zero, List.set_cons_succ, i64_w, i32_w]
            rfl
          refine pure_ (i := 7) (N := (some 83)) (v := ?_) (a' := ?_) #[true, true, true, true, true, true, true, true, false, false, false, false, false, false, false, false, false] rfl rfl (by kernel_rfl) (fun _ _ _ h => h) (Or.inl ⟨by rfl, ?_⟩) ?_ ?_
          rotate_left
          · intro w'
            go_simp
            first | done | with_reducible rfl
          rotate_left
          · simp only [Act.put, List.setIfInBounds_toArray, List.set_cons_zero, List.set_cons_succ, i64_w, i32_w]
            rfl
          refine pure_ (i := 8) (N := (some 84)) (v := ?_) (a' := ?_) #[true, true, true, true, true, true, true, true, true, false, false, false, false, false, false, false, false] rfl rfl (by kernel_rfl) (fun _ _ _ h => h) (Or.inl ⟨by rfl, ?_⟩) ?_ ?_
          rotate_left
          · intro w'
            go_simp
            first | done | with_reducible rfl
          rotate_left
          · simp only [Act.put, List.setIfInBounds_toArray, List.set_cons_zero, List.set_cons_succ, i64_w, i32_w]
            rfl
          refine pure_ (i := 9) (N := (some 85)) (v := ?_) (a' := ?_) #[true, true, true, true, true, true, true, true, true, true, false, false, false, false, false, false, false] rfl rfl (by kernel_rfl) (fun _ _ _ h => h) (Or.inl ⟨by rfl, ?_⟩) ?_ ?_
          rotate_left
          · intro w'
            go_simp
            first | done | with_reducible rfl
          rotate_left
          · simp only [Act.put, List.setIfInBounds_toArray, List.set_cons_zero, List.set_cons_succ, i64_w, i32_w]
            rfl
          refine pure_ (i := 10) (N := (some 86)) (v := ?_) (a' := ?_) #[true, true, true, true, true, true, true, true, true, true, true, false, false, false, false, false, false] rfl rfl (by kernel_rfl) (fun _ _ _ h => h) (Or.inl ⟨by rfl, ?_⟩) ?_ ?_
          rotate_left
          · intro w'
            go_simp
            first | done | with_reducible rfl
          rotate_left
          · simp only [Act.put, List.setIfInBounds_toArray, List.set_cons_zero, List.set_cons_succ, i64_w, i32_w]
            rfl
          refine take_ (i := 11) (N := (some 87)) (v := ?_) (a' := ?_) #[true, true, true, true, true, true, true, true, true, true, true, true, false, false, false, false, false] rfl rfl (by kernel_rfl) (fun _ _ _ h => h) (Or.inl ⟨by rfl, ?_⟩) hHeld ?_ ?_
          rotate_left
          · intro w' hS
            have s0 := pw_cell_below hS cR1
            go_simp
            first | done | with_reducible rfl
          rotate_left
          · simp only [Act.put, List.setIfInBounds_toArray, List.set_cons_zero, List.set_cons_succ, i64_w, i32_w]
            rfl
          refine pure_ (i := 12) (N := (some 88)) (v := ?_) (a' := ?_) #[true, true, true, true, true, true, true, true, true, true, true, true, true, false, false, false, false] rfl rfl (by kernel_rfl) (fun _ _ _ h => h) (Or.inl ⟨by rfl, ?_⟩) ?_ ?_
          rotate_left
          · intro w'
            go_simp
            first | done | with_reducible rfl
          rotate_left
          · simp only [Act.put, List.setIfInBounds_toArray, List.set_cons_zero, List.set_cons_succ, i64_w, i32_w]
            rfl
          refine one_ (i := 13) (N := (some 89)) #[true, true, true, true, true, true, true, true, true, true, true, true, true, true, false, false, false] rfl rfl (by kernel_rfl) (by decide) (fun K hK => ?_)
          refine goes_ Try.func24 (by kernel_rfl) rfl #[.slice A11 AL.length c11] (by rfl) rfl rfl (by (try simp only [List.map_toArray, List.map_cons, List.map_nil]); first | done | rfl) ?_
          (with_reducible refine (HRO.out A11 c11 H11.out _ (Kd.C_below K11.out hHeld)).mono ?_)
          rintro e wz ⟨v6, rfl, hr6, hB⟩
          refine ⟨_, rfl, ?_⟩
          obtain ⟨AQ, cQ, rfl, _, hC6⟩ := Kd.R_reads hr6
          have HC6 := Aside0.mk hC6
          have hS2 : Below W0.heap.size W0 wz := below_step hHeld hB
          clear hr6 hB hC6 hHeld
          refine hK.out _ _ hS2 (fun hHeld => ?_)
          clear hK K
          refine norm_ (a' := ?_) ?_ ?_
          rotate_left
          · show Act.put _ (some 89) _ = _
            simp only [Act.put, List.setIfInBounds_toArray, List.set_cons_zero, List.set_cons_succ, i64_w, i32_w]
            rfl
          refine one_ (i := 14) (N := (some 90)) #[true, true, true, true, true, true, true, true, true, true, true, true, true, true, true, false, false] rfl rfl (by kernel_rfl) (by decide) (fun K hK => ?_)
          refine goes_ Try.func23 (by kernel_rfl) rfl #[.slice A8 (ofF AL).length c8, .slice AQ (ofF AL).length cQ] (by rfl) rfl rfl (by (try simp only [List.map_toArray, List.map_cons, List.map_nil]); first | done | rfl) ?_
          (with_reducible refine (HSM.out A8 AQ c8 cQ _ (Kd.C_below (Kd.R_reads' K8.out).2.2 hHeld) HC6.out).mono ?_)
          rintro e wq ⟨rfl, hB⟩
          refine ⟨_, rfl, ?_⟩
          have hS2 : Below W0.heap.size W0 wq := below_step hHeld hB
          clear hB hHeld HC6
          refine hK.out _ _ hS2 (fun hHeld => ?_)
          clear hK K
          refine norm_ (a' := ?_) ?_ ?_
          rotate_left
          · show Act.put _ (some 90) _ = _
            simp only [Act.put, List.setIfInBounds_toArray, List.set_cons_zero, List.set_cons_succ, i64_w, i32_w]
            rfl
          refine pure_ (i := 15) (N := (some 91)) (v := ?_) (a' := ?_) #[true, true, true, true, true, true, true, true, true, true, true, true, true, true, true, true, false] rfl rfl (by kernel_rfl) (fun _ _ _ h => h) (Or.inl ⟨by rfl, ?_⟩) ?_ ?_
          rotate_left
          · intro w'
            go_simp
            first | done | with_reducible rfl
          rotate_left
          · simp only [Act.put, List.setIfInBounds_toArray, List.set_cons_zero, List.set_cons_succ, i64_w, i32_w]
            rfl
          refine pure_ (i := 16) (N := (some 4)) (v := ?_) (a' := ?_) #[true, true, true, true, true, true, true, true, true, true, true, true, true, true, true, true, true] rfl rfl (by kernel_rfl) (fun _ _ _ h => h) (Or.inl ⟨by rfl, ?_⟩) ?_ ?_
          rotate_left
          · intro w'
            go_simp
            first | done | with_reducible rfl
          rotate_left
          · simp only [Act.put, List.setIfInBounds_toArray, List.set_cons_zero, List.set_cons_succ, i64_w, i32_w]
            rfl
          refine done_ (by kernel_rfl) ?_
          have OB := (OD.out.step hHeld).below
          go_wp2_with fail
          go_ret
          exact ⟨rfl, OB⟩
end Go.Proofs.Ytondnammkcgjpaa.RgL
namespace Go.Proofs.Ytondnammkcgjpaa.rangesJoins
open Go.ChangeShapes Go.WideShapes Go.ChangeAt Go.RowKit
open Go.ChangeMaps (open_string shut_string)
open Go.Proofs.Ytondnammkcgjpaa Go.Proofs.YtondnammkcgjpaaOpens Go.Proofs.YtondnammkcgjpaaW.PrintWords
set_option linter.unusedVariables false
theorem own : ownKnob Try.prog.godebug = none := by kernel_rfl
theorem laidOut : laidOutB Try.prog = true := by kernel_rfl
set_option maxRecDepth 100000 in
theorem lifted (os : Os) (started : os.Started) (H : Type) (enc : TypeId × Value → H) :
    ReturnsInHanded {} Try.checked os 4 .any (Rows.rangesJoinsSpec.pre6 enc Try.prog Try.f4 Rows.rangesJoinsRow.domain false) (Rows.rangesJoinsSpec.post enc Try.prog Try.f4 false true false false) := by
  refine returnsInHanded_of_change_sized (C := Try.checked) own started (by kernel_rfl) Try.func4
    (ChangeSpec.witness6 (enc := enc) (C := Try.checked) false ⟨#[], #[.slice none 0 0, .slice none 0 0], []⟩ 8 (by kernel_rfl) (by kernel_rfl) (by kernel_rfl) (by kernel_rfl)) ?_
  intro W base args ds gs before hval0 hW hcnd hsz0 _
  have hsz : (DataW.weightsEach Try.prog (Try.f4.params.toList ++ Rows.rangesJoinsSpec.plain.varTypes Try.prog) (ds ++ gs)).all (· ≤ reachBytes) = true := hsz0
  have hval : ∀ (j : Nat) t v, Try.f4.params[j]? = some t → args[j]? = some v → Value.okWide Try.prog W .any base t v := hval0
  have hW' := hW
  obtain ⟨p, q, hA0, hV, rfl, hfz, hnd⟩ := hW
  have hA : DataW.TrodAll enc Try.prog W 0 (fun _ => true) true Try.f4.params.toList args.toList ds p := hA0
  rw [Try.params4] at hA hval hsz
  obtain ⟨v0, vs0, d0, ds0, p0, q0, hargs, rfl, rfl, h0, r0⟩ := trodAll_cons hA
  obtain ⟨v1, vs1, d1, ds1, p1, q1, rfl, rfl, rfl, h1, r1⟩ := trodAll_cons r0
  obtain ⟨rfl, rfl, rfl⟩ := trodAll_nil r1
  obtain rfl : args = #[v0, v1] := by cases args; simp_all
  obtain ⟨rfl, rfl⟩ := trodVars_none hV
  have k0 := h0
  have lt0 : ∀ x ∈ p0, x.block < W.heap.size := by obtain ⟨m, hm⟩ := k0; exact DataW.trod_lt m _ _ _ hm
  obtain ⟨A0, c0, l0, rfl, hl0, hm0, hC0, hq0⟩ := arg_slice Try.underlying22 (by kernel_rfl) (reads_string Try.underlying9) (hval 0 22 v0 rfl rfl) h0
  have k1 := h1
  have lt1 : ∀ x ∈ p1, x.block < W.heap.size := by obtain ⟨m, hm⟩ := k1; exact DataW.trod_lt m _ _ _ hm
  obtain ⟨A1, c1, l1, rfl, hl1, hm1, hC1, hq1⟩ := arg_slice Try.underlying22 (by kernel_rfl) (reads_string Try.underlying9) (hval 1 22 v1 rfl rfl) h1
  clear hA0 hval0 hsz0 hsz
  refine (Go.Proofs.Ytondnammkcgjpaa.RgL.law_joins A0 A1 c0 c1 l0 l1 W hC0 hC1).mono fun e W' ⟨he, bel⟩ => ?_
  subst he
  exact ⟨_, rfl, _, _, _, [], _, [], hW', trodAll_mk1 (shut_bool Try.underlying4 _), (trodAll_cons_mk (Below.trod laidOut (by kernel_rfl) (of_decide_eq_true (by kernel_rfl)) k0 bel lt0) (trodAll_cons_mk (Below.trod laidOut (by kernel_rfl) (of_decide_eq_true (by kernel_rfl)) k1 bel lt1) trodAll_mk0)), rfl, bel.frame _, fun h => by cases h⟩
theorem over : Rows.rangesJoinsRow.holds Try.pinned (OpenSpec.ofChange Rows.rangesJoinsSpec) :=
  OpenClaim.holds_of_wide 4 Try.f4 rfl rfl rfl rfl rfl rfl rfl ⟨rfl, rfl, rfl, rfl, rfl⟩ rfl rfl rfl rfl rfl (by kernel_rfl) Try.func4 (by kernel_rfl)
    (of_decide_eq_true (by kernel_rfl)) (by unfold Func.isWrapper; first | (rw [if_pos (by decide +kernel)]; kernel_rfl) | (rw [if_neg (by decide +kernel)]; exact ⟨rfl, rfl⟩))
    (fun os started H enc _ => lifted os started H enc)
theorem proved : Rows.RangesJoinsSaid := over
#print axioms proved
end Go.Proofs.Ytondnammkcgjpaa.rangesJoins
namespace Go.Proofs.Ytondnammkcgjpaa
/-- The row, under a short name, for the claim. -/
theorem rangesJoins_holds : Rows.RangesJoinsSaid := rangesJoins.proved
end Go.Proofs.Ytondnammkcgjpaa
