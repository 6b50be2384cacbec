/- Here is proved: what the reference's Wants answers, as a row of wants. Conditions: at most 64 leaves. -/
import Derived.Test.YtondnammkcgjpaaMFetchAll4
import Derived.Test.YtondnammkcgjpaaMFetchAll5
import Derived.Deep.Slices
import Derived.ChangeSame
import Derived.OpenShut
import Derived.Test.YtondnammkcgjpaaWMore
import Derived.Test.YtondnammkcgjpaaWArr
import Derived.Test.YtondnammkcgjpaaRows
import Derived.WalkKit
import Derived.ProofKit
import Derived.ShutString
import Derived.ChangeOld
import Derived.Below
import Derived.SizedLaws
set_option linter.unusedVariables false
set_option linter.unusedSimpArgs false
set_option maxRecDepth 100000
set_option maxHeartbeats 8000000
namespace Go.Proofs.Ytondnammkcgjpaa.Ft
open Go Go.RowKit Go.Shelf Go.Proofs.YtondnammkcgjpaaW.PrintWords Go.Proofs.YtondnammkcgjpaaW.PrintLast Go.Proofs.YtondnammkcgjpaaW.PrintMore Go.Proofs.Ytondnammkcgjpaa.Mp
open Go.Proofs.Ytondnammkcgjpaa.ShaP Go.Proofs.Ytondnammkcgjpaa.Mk Go.Proofs.Ytondnammkcgjpaa.Rg Go.Proofs.Ytondnammkcgjpaa.RgP Go.Proofs.Ytondnammkcgjpaa.Rf Go.Proofs.Ytondnammkcgjpaa.RgL Go.Proofs.Ytondnammkcgjpaa.Til Go.Proofs.Ytondnammkcgjpaa.Fg
theorem info_w : (Try.prog.info? 58).map (fun i => (i.zero, i.size, i.bytes)) = some (some (.agg #[.bool false, .int .i64 0, .int .i64 0]), 3, 24) := by kernel_rfl
def encV (x : Want) : List Value := [.bool x.1, .int .i64 x.2.1, .int .i64 x.2.2]
def KW : Kd Want := flat 3 encV (fun _ => rfl) (fun x u hu => by simp [encV] at hu; rcases hu with rfl | rfl | rfl <;> rfl)
theorem kw_elem {W : World} {A : Option Addr} {base n c : Nat} {l : List Want} (h : KW.R 58 W base (fun _ => True) (.slice A n c) l) (j : Nat) (hj : j < l.length) :
    ∃ gp, A = some ⟨gp, 0, none⟩ ∧ W.cell? ⟨gp, j * 3, none⟩ = some (.bool l[j].1) ∧ W.cell? ⟨gp, j * 3 + 1, none⟩ = some (.int .i64 l[j].2.1) ∧ W.cell? ⟨gp, j * 3 + 2, none⟩ = some (.int .i64 l[j].2.2) := by
  obtain ⟨gp, cap, e, _⟩ := Kd.R_form h (by omega)
  injection e with e1 e2 e3
  subst e1
  obtain ⟨h1, h2, h3⟩ := (Kd.R_reads' h).2.2
  obtain ⟨ad, e, hc⟩ := h3 (by omega)
  cases e
  obtain ⟨c, hs, hr, hcell⟩ := hc j _ (List.getElem?_eq_getElem hj)
  have hk : KW.sz = 3 := rfl
  rw [hk] at hcell
  subst hr
  have e0 : ∀ q, (⟨gp, 0, none⟩ : Addr).add q = ⟨gp, q, none⟩ := fun q => by unfold Addr.add; split <;> simp_all
  have h0 := hcell 0 _ rfl
  have h1 := hcell 1 _ rfl
  have h2 := hcell 2 _ rfl
  rw [e0] at h0 h1 h2
  exact ⟨gp, rfl, h0, h1, h2⟩
def fstR (l : List (Int × Int)) : List Want := l.map fun x => (false, x)
def sndR (n : Int) : List (Int × Int) → List Want
  | [] => []
  | x :: l => (if inTile x.2 (cntv n x.1) = 4 then [(false, x)] else []) ++ sndR n l
def thdR : Nat → List Want
  | 0 => []
  | k + 1 => thdR k ++ [(true, (0, (k : Int)))]
theorem snd_app (n : Int) (b : List (Int × Int)) : ∀ a : List (Int × Int), sndR n (a ++ b) = sndR n a ++ sndR n b
  | [] => rfl
  | x :: a => by rw [List.cons_append, sndR, sndR, snd_app n b a, List.append_assoc]
theorem snd_len (n : Int) : ∀ a : List (Int × Int), (sndR n a).length ≤ a.length
  | [] => Nat.le_refl _
  | x :: a => by
    have := snd_len n a
    rw [sndR, List.length_append, List.length_cons]
    split <;> simp <;> omega
theorem thd_len : ∀ k : Nat, (thdR k).length = k
  | 0 => rfl
  | k + 1 => by rw [thdR, List.length_append, thd_len k]; rfl
def wantsR (n : Nat) : List Want := (fstR (planR n true) ++ sndR n (planR n false)) ++ thdR ((n + 3) / 4)
theorem wantsR_eq : ∀ n : Nat, n < 65 → wantsR n = wantsF n := by decide +kernel
theorem planR_len (n : Int) (e : Bool) : (planR n e).length ≤ 68 := top_len n e 4
theorem wj1 (j : Nat) (h : j ≤ 1000) : wrap64 ((j : Int) + 1) = (j : Int) + 1 := by unfold wrap64; omega
theorem ki_keep {V W : World} {base e : Nat} {v : Value} {l : List (Int × Int)} (h : KI.R e V base (fun _ => True) v l) (hk : ∀ k, base ≤ k → k < V.heap.size → W.heap[k]? = V.heap[k]?) : KI.R e W base (fun _ => True) v l :=
  Kd.R_mono (Kd.R_step (Kd.R_bound h) (fun k ho hlt => hk k ho.2.1 ho.2.2.1)) (fun _ _ => trivial)
theorem rwants_c (n : Nat) (w : World) (hn : n ≤ 64) : Calls Try.prog 43 #[.int .i64 (n : Int)] w fun r w' => ∃ v, r = .returned v ∧ KW.R 58 w' w.heap.size (fun _ => True) v (wantsF n) ∧ Below w.heap.size w w' := by
  have HE := Aside0.mk (wantsR_eq n (by omega))
  have HP1 := Aside0.mk (fun W => rplan_c (n : Int) true W)
  have HP2 := Aside0.mk (fun W => rplan_c (n : Int) false W)
  have HL1 := Aside0.mk (planR_len (n : Int) true)
  have HL2 := Aside0.mk (planR_len (n : Int) false)
  have HWR := Aside0.mk (show wantsR n = (fstR (planR n true) ++ sndR n (planR n false)) ++ thdR ((n + 3) / 4) from rfl)
  generalize planR (n : Int) true = P1 at *
  generalize planR (n : Int) false = P2 at *
  have HN := Aside0.mk hn
  clear hn
  go_enter Try.func43, Try.ntmps43
  go_wp2_with fail
  refine (HP1.out _).mono ?_
  rintro r wa ⟨v1, rfl, hr1, hB⟩
  obtain ⟨A1, k1, rfl⟩ := ki_form hr1
  have HQ1 := Aside0.mk hr1
  have HB1 := Aside0.mk hB
  clear hr1 hB HP1
  obtain ⟨m1, hm1⟩ : ∃ m, P1.length = m := ⟨_, rfl⟩
  rw [hm1] at HQ1 ⊢
  have HM1 := Aside0.mk hm1
  have hm1i : (m1 : Int) ≤ 68 := by have := HL1.out; omega
  clear hm1
  go_wp2_with fail
  go_loopw [3, 5] (fun v3 v5 wr => ∃ (j o : Nat) (A3 : Option Addr) (c3 : Nat), v5 = .int .i64 (j : Int) ∧ v3 = .slice A3 o c3 ∧ j ≤ m1 ∧ Aside0 (o = (fstR (P1.take j)).length) ∧ Aside0 (KW.R 58 wr wa.heap.size (fun _ => True) (.slice A3 o c3) (fstR (P1.take j))) ∧ Aside0 (Below wa.heap.size wa wr)) (fun _ v5 _ => m1 - (intOf v5).toNat)
  case atStart => exact ⟨0, 0, none, 0, rfl, rfl, Nat.zero_le _, ⟨rfl⟩, ⟨Kd.R_nil _ _ _ _ _⟩, ⟨Below.refl _ _⟩⟩
  case round =>
    obtain ⟨j, o, A3, c3, rfl, rfl, hj, HO, HR, HB⟩ := hrel
    by_cases hjm : j < m1
    · have hji : (j : Int) < (m1 : Int) := by omega
      have hjl : j < P1.length := by rw [HM1.out]; exact hjm
      obtain ⟨gp, ea, i0, i1⟩ := ki_elem (Kd.R_below HQ1.out HB.out) j hjl
      cases ea
      have HT : Aside0 (fstR (P1.take (j + 1)) = fstR (P1.take j) ++ [(false, P1[j])]) := ⟨by unfold fstR; rw [List.take_succ_eq_append_getElem hjl, List.map_append]; rfl⟩
      have HLN : Aside0 ((fstR (P1.take j)).length ≤ 100) := ⟨by unfold fstR; rw [List.length_map, List.length_take]; have := HL1.out; omega⟩
      obtain ⟨x, hx⟩ : ∃ x, P1[j] = x := ⟨_, rfl⟩
      rw [hx] at HT i0 i1
      obtain ⟨x0, x1⟩ := x
      simp only at i0 i1
      generalize fstR (P1.take j) = ol at *
      clear hjl hx
      go_wp2_with (first
        | ((with_reducible refine gate_builtin (b := .append) (xs := #[.tmp 17, .tmp 23]) rfl ?_); at_builtin; refine Kd.R_append (P := Try.prog) KW (w0 := wa) (W := wr) wa.heap.size rfl (.tmp 17) (.tmp 23) 80 58 (.agg #[.bool false, .int .i64 0, .int .i64 0]) 24 rfl Try.underlying80 info_w rfl (by decide) (by decide) (.slice A3 o c3) ol (false, x0, x1) (encV (false, x0, x1)) (fun _ => True) (fun _ => False) rfl rfl rfl (fun _ h => h.elim) (fun _ _ => trivial) HR.out HB.out HB.out.size (by have := HLN.out; omega) ?_; intro v2 w2 hr2 hb2 hg2 hat2; obtain ⟨A4, c4, e4⟩ := Kd.R_slice hr2; have e5 : (ol ++ [(false, x0, x1)]).length = ol.length + 1 := List.length_append; have HR2 := Aside0.mk hr2; have HB2 := Aside0.mk hb2; have HE4 := Aside0.mk (e4.trans (by rw [e5, ← HO.out])); clear hr2 hb2 hg2 hat2 e5 e4))
      go_roundw
      case rel => exact ⟨j + 1, o + 1, A4, c4, by go_num, HE4.out, hjm, ⟨by rw [HT.out, HO.out, List.length_append]; rfl⟩, ⟨by rw [HT.out, ← HE4.out]; exact HR2.out⟩, HB2⟩
      case measure => simp [intOf]; omega
    · have hji : ¬ (j : Int) < (m1 : Int) := by omega
      obtain rfl : j = m1 := by omega
      go_wp2_with fail
      obtain ⟨N1, hN1⟩ : ∃ N1, wr.heap.size = N1 := ⟨_, rfl⟩
      refine (HP2.out _).mono ?_
      rintro r wb ⟨v1, rfl, hr1, hB⟩
      obtain ⟨A2, k2, rfl⟩ := ki_form hr1
      rw [show P1.take j = P1 by rw [← HM1.out, List.take_length]] at HO HR
      have HQ2 := Aside0.mk hr1
      have HR1 : Aside0 (KW.R 58 wb wa.heap.size (fun k => k < N1 ∨ wb.heap.size ≤ k) (.slice A3 o c3) (fstR P1)) := ⟨Kd.R_mono (Kd.R_below (Kd.R_bound HR.out) hB) (fun k hk => .inl (by rw [← hN1]; exact hk.2.2.1))⟩
      have HBb := Aside0.mk (below_step HB.out hB)
      rw [hN1] at HQ2
      obtain ⟨N2, hN2⟩ : ∃ N2, wb.heap.size = N2 := ⟨_, rfl⟩
      rw [hN2] at HR1
      have HN2 := Aside0.mk (Nat.le_of_eq hN2.symm)
      have HN2e := Aside0.mk hN2
      obtain ⟨m2, hm2⟩ : ∃ m, P2.length = m := ⟨_, rfl⟩
      rw [hm2] at HQ2 ⊢
      have HM2 := Aside0.mk hm2
      have hm2i : (m2 : Int) ≤ 68 := by have := HL2.out; omega
      clear hm2 hN2 hN1 hr1 hB HR HB HP2 HQ1 hj hji
      have HO1 : Aside0 (o = (fstR P1 ++ sndR n (P2.take 0)).length) := ⟨by rw [HO.out]; simp [sndR]⟩
      have HR2 : Aside0 (KW.R 58 wb wa.heap.size (fun k => k < N1 ∨ N2 ≤ k) (.slice A3 o c3) (fstR P1 ++ sndR n (P2.take 0))) := ⟨by rw [List.take_zero, sndR, List.append_nil]; exact HR1.out⟩
      clear HO HR1
      go_wp2_with fail
      go_loopw [3, 7] (fun v3 v7 wr => ∃ (j o : Nat) (A3 : Option Addr) (c3 : Nat), v7 = .int .i64 (j : Int) ∧ v3 = .slice A3 o c3 ∧ j ≤ m2 ∧ Aside0 (o = (fstR P1 ++ sndR n (P2.take j)).length) ∧ Aside0 (KW.R 58 wr wa.heap.size (fun k => k < N1 ∨ N2 ≤ k) (.slice A3 o c3) (fstR P1 ++ sndR n (P2.take j))) ∧ Aside0 (Below wa.heap.size wa wr) ∧ Aside0 (N2 ≤ wr.heap.size) ∧ Aside0 (∀ q, N1 ≤ q → q < N2 → wr.heap[q]? = wb.heap[q]?)) (fun _ v7 _ => m2 - (intOf v7).toNat)
      case atStart => exact ⟨0, o, A3, c3, rfl, rfl, Nat.zero_le _, HO1, HR2, HBb, HN2, ⟨fun q _ _ => rfl⟩⟩
      case round =>
        clear HO1 HR2 HBb HN2
        obtain ⟨j, o, A3, c3, rfl, rfl, hj, HO, HR, HB, HN2, HKP⟩ := hrel
        by_cases hjm : j < m2
        · have hji : (j : Int) < (m2 : Int) := by omega
          have hjl : j < P2.length := by rw [HM2.out]; exact hjm
          obtain ⟨gp, ea, i0, i1⟩ := ki_elem (ki_keep (HQ2.out) (fun q h1 h2 => HKP.out q h1 (by rw [← HN2e.out]; exact h2))) j hjl
          cases ea
          obtain ⟨x, hx⟩ : ∃ x, P2[j] = x := ⟨_, rfl⟩
          have HT : Aside0 (fstR P1 ++ sndR n (P2.take (j + 1)) = (fstR P1 ++ sndR n (P2.take j)) ++ (if inTile x.2 (cntv n x.1) = 4 then [(false, x)] else [])) := ⟨by
            rw [List.take_succ_eq_append_getElem hjl, snd_app, hx, List.append_assoc]
            simp [sndR]⟩
          have HLN : Aside0 ((fstR P1 ++ sndR n (P2.take j)).length ≤ 200) := ⟨by
            have h1 := snd_len n (P2.take j)
            rw [List.length_take] at h1
            have h2 := HL1.out
            have h3 := HL2.out
            rw [List.length_append]
            unfold fstR
            rw [List.length_map]
            omega⟩
          rw [hx] at i0 i1
          obtain ⟨x0, x1⟩ := x
          simp only at i0 i1 HT
          have HRW := Aside0.mk (fun W => rwidth_c (n : Int) x0 x1 W)
          obtain ⟨q, hq⟩ : ∃ q, inTile x1 (cntv n x0) = q := ⟨_, rfl⟩
          rw [hq] at HT HRW
          generalize fstR P1 ++ sndR n (P2.take j) = ol at *
          clear hjl hx hq
          have k0 : wr.drew.cell? ⟨gp, j * 2, none⟩ = some (.int .i64 x0) := i0
          have k1 : wr.drew.cell? ⟨gp, j * 2 + 1, none⟩ = some (.int .i64 x1) := i1
          have HBd := Aside0.mk (Below.drew HB.out)
          have HRd : Aside0 (KW.R 58 wr.drew wa.heap.size (fun k => k < N1 ∨ N2 ≤ k) (.slice A3 o c3) ol) := ⟨Kd.R_drew HR.out⟩
          have HN2d : Aside0 (N2 ≤ wr.drew.heap.size) := ⟨HN2.out⟩
          have HKPd : Aside0 (∀ q, N1 ≤ q → q < N2 → wr.drew.heap[q]? = wb.heap[q]?) := ⟨HKP.out⟩
          clear i0 i1 HB HR HN2 HKP
          go_wp2_with fail
          refine start_ (n := 13) (S := fun w' => Below (wr).drew.heap.size (wr).drew w') (ds := []) #[false, false, false, false, false, false, false, false, false, false, false, false, false] (by kernel_rfl) rfl rfl (Below.refl _ _) (fun hHeld => ?_)
          generalize (wr).drew = W1 at *
          refine pure_ (i := 0) (N := (some 33)) (v := ?_) (a' := ?_) #[true, false, false, false, false, false, false, false, false, false, false, false, false] rfl rfl (by kernel_rfl) (fun _ _ _ h => h) (Or.inl ⟨by rfl, ?_⟩) ?_ ?_
          rotate_left
          · intro w'
            go_simp
            first | done | with_reducible rfl
          rotate_left
          · simp only [Act.put, List.setIfInBounds_toArray, List.set_cons_zero, List.set_cons_succ, i64_w, i32_w]
            rfl
          refine pure_ (i := 1) (N := (some 34)) (v := ?_) (a' := ?_) #[true, true, false, false, false, false, false, false, false, false, false, false, false] rfl rfl (by kernel_rfl) (fun _ _ _ h => h) (Or.inl ⟨by rfl, ?_⟩) ?_ ?_
          rotate_left
          · intro w'
            go_simp
            first | done | with_reducible rfl
          rotate_left
          · simp only [Act.put, List.setIfInBounds_toArray, List.set_cons_zero, List.set_cons_succ, i64_w, i32_w]
            rfl
          refine pure_ (i := 2) (N := (some 35)) (v := ?_) (a' := ?_) #[true, true, true, false, false, false, false, false, false, false, false, false, false] rfl rfl (by kernel_rfl) (fun _ _ _ h => h) (Or.inl ⟨by rfl, ?_⟩) ?_ ?_
          rotate_left
          · intro w'
            go_simp
            first | done | with_reducible rfl
          rotate_left
          · simp only [Act.put, List.setIfInBounds_toArray, List.set_cons_zero, List.set_cons_succ, i64_w, i32_w]
            rfl
          refine pure_ (i := 3) (N := (some 36)) (v := ?_) (a' := ?_) #[true, true, true, true, false, false, false, false, false, false, false, false, false] rfl rfl (by kernel_rfl) (fun _ _ _ h => h) (Or.inl ⟨by rfl, ?_⟩) ?_ ?_
          rotate_left
          · intro w'
            go_simp
            first | done | with_reducible rfl
          rotate_left
          · simp only [Act.put, List.setIfInBounds_toArray, List.set_cons_zero, List.set_cons_succ, i64_w, i32_w]
            rfl
          refine pure_ (i := 4) (N := (some 37)) (v := ?_) (a' := ?_) #[true, true, true, true, true, false, false, false, false, false, false, false, false] rfl rfl (by kernel_rfl) (fun _ _ _ h => h) (Or.inl ⟨by rfl, ?_⟩) ?_ ?_
          rotate_left
          · intro w'
            go_simp
            first | done | with_reducible rfl
          rotate_left
          · simp only [Act.put, List.setIfInBounds_toArray, List.set_cons_zero, List.set_cons_succ, i64_w, i32_w]
            rfl
          refine take_ (i := 5) (N := (some 38)) (v := ?_) (a' := ?_) #[true, true, true, true, true, true, false, false, false, false, false, false, false] rfl rfl (by kernel_rfl) (fun _ _ _ h => h) (Or.inl ⟨by rfl, ?_⟩) hHeld ?_ ?_
          rotate_left
          · intro w' hS
            have s0 := pw_cell_below hS k0
            go_simp
            first | done | with_reducible rfl
          rotate_left
          · simp only [Act.put, List.setIfInBounds_toArray, List.set_cons_zero, List.set_cons_succ, i64_w, i32_w]
            rfl
          refine pure_ (i := 6) (N := (some 39)) (v := ?_) (a' := ?_) #[true, true, true, true, true, true, true, false, false, false, false, false, false] rfl rfl (by kernel_rfl) (fun _ _ _ h => h) (Or.inl ⟨by rfl, ?_⟩) ?_ ?_
          rotate_left
          · intro w'
            go_simp
            first | done | with_reducible rfl
          rotate_left
          · simp only [Act.put, List.setIfInBounds_toArray, List.set_cons_zero, List.set_cons_succ, i64_w, i32_w]
            rfl
          refine pure_ (i := 7) (N := (some 40)) (v := ?_) (a' := ?_) #[true, true, true, true, true, true, true, true, false, false, false, false, false] rfl rfl (by kernel_rfl) (fun _ _ _ h => h) (Or.inl ⟨by rfl, ?_⟩) ?_ ?_
          rotate_left
          · intro w'
            go_simp
            first | done | with_reducible rfl
          rotate_left
          · simp only [Act.put, List.setIfInBounds_toArray, List.set_cons_zero, List.set_cons_succ, i64_w, i32_w]
            rfl
          refine pure_ (i := 8) (N := (some 41)) (v := ?_) (a' := ?_) #[true, true, true, true, true, true, true, true, true, false, false, false, false] rfl rfl (by kernel_rfl) (fun _ _ _ h => h) (Or.inl ⟨by rfl, ?_⟩) ?_ ?_
          rotate_left
          · intro w'
            go_simp
            first | done | with_reducible rfl
          rotate_left
          · simp only [Act.put, List.setIfInBounds_toArray, List.set_cons_zero, List.set_cons_succ, i64_w, i32_w]
            rfl
          refine pure_ (i := 9) (N := (some 42)) (v := ?_) (a' := ?_) #[true, true, true, true, true, true, true, true, true, true, false, false, false] rfl rfl (by kernel_rfl) (fun _ _ _ h => h) (Or.inl ⟨by rfl, ?_⟩) ?_ ?_
          rotate_left
          · intro w'
            go_simp
            first | done | with_reducible rfl
          rotate_left
          · simp only [Act.put, List.setIfInBounds_toArray, List.set_cons_zero, List.set_cons_succ, i64_w, i32_w]
            rfl
          refine take_ (i := 10) (N := (some 43)) (v := ?_) (a' := ?_) #[true, true, true, true, true, true, true, true, true, true, true, false, false] rfl rfl (by kernel_rfl) (fun _ _ _ h => h) (Or.inl ⟨by rfl, ?_⟩) hHeld ?_ ?_
          rotate_left
          · intro w' hS
            have s0 := pw_cell_below hS k1
            go_simp
            first | done | with_reducible rfl
          rotate_left
          · simp only [Act.put, List.setIfInBounds_toArray, List.set_cons_zero, List.set_cons_succ, i64_w, i32_w]
            rfl
          refine one_ (i := 11) (N := (some 44)) #[true, true, true, true, true, true, true, true, true, true, true, true, false] rfl rfl (by kernel_rfl) (by decide) (fun K hK => ?_)
          refine goes_ Try.func25 (by kernel_rfl) rfl #[.int .i64 (n : Int), .int .i64 x0, .int .i64 x1] (by rfl) rfl rfl (by (try simp only [List.map_toArray, List.map_cons, List.map_nil]); first | done | rfl) ?_
          (with_reducible refine (HRW.out _).mono ?_)
          rintro e wz ⟨rfl, rfl⟩
          refine ⟨_, rfl, ?_⟩
          have hS2 := hHeld
          clear hHeld
          refine hK.out _ _ hS2 (fun hHeld => ?_)
          clear hK K
          refine norm_ (a' := ?_) ?_ ?_
          rotate_left
          · show Act.put _ (some 44) _ = _
            simp only [Act.put, List.setIfInBounds_toArray, List.set_cons_zero, List.set_cons_succ, i64_w, i32_w]
            rfl
          refine pure_ (i := 12) (N := (some 45)) (v := ?_) (a' := ?_) #[true, true, true, true, true, true, true, true, true, true, true, true, true] rfl rfl (by kernel_rfl) (fun _ _ _ h => h) (Or.inl ⟨by rfl, ?_⟩) ?_ ?_
          rotate_left
          · intro w'
            go_simp
            first | done | with_reducible rfl
          rotate_left
          · simp only [Act.put, List.setIfInBounds_toArray, List.set_cons_zero, List.set_cons_succ, i64_w, i32_w]
            rfl
          refine done_ (by kernel_rfl) ?_
          clear hS2 hHeld HRW
          by_cases hq : q = 4
          · have hq4 : (q == 4) = true := by rw [beq_iff_eq]; exact hq
            rw [if_pos hq] at HT
            clear hq
            go_wp2_with (first
              | ((with_reducible refine gate_builtin (b := .append) (xs := #[.tmp 46, .tmp 52]) rfl ?_); at_builtin; refine Kd.R_append (P := Try.prog) KW (w0 := wa) (W := W1) wa.heap.size rfl (.tmp 46) (.tmp 52) 80 58 (.agg #[.bool false, .int .i64 0, .int .i64 0]) 24 rfl Try.underlying80 info_w rfl (by decide) (by decide) (.slice A3 o c3) ol (false, x0, x1) (encV (false, x0, x1)) (fun k => k < N1 ∨ N2 ≤ k) (fun _ => False) rfl rfl rfl (fun _ h => h.elim) (fun q hq => .inr (Nat.le_trans HN2d.out hq)) HRd.out HBd.out HBd.out.size (by have := HLN.out; omega) ?_; intro v2 w2 hr2 hb2 hg2 hat2; obtain ⟨A4, c4, e4⟩ := Kd.R_slice hr2; have e5 : (ol ++ [(false, x0, x1)]).length = ol.length + 1 := List.length_append; have HR2 := Aside0.mk hr2; have HB2 := Aside0.mk hb2; have HKP2 := Aside0.mk (fun q' (hq1 : N1 ≤ q') (hq2 : q' < N2) => (hg2.block q' (Nat.lt_of_lt_of_le hq2 HN2d.out) (fun e => (HRd.out.1 q' e.symm).elim (fun h => absurd h (Nat.not_lt.2 hq1)) (fun h => absurd hq2 (Nat.not_lt.2 h)))).trans (HKPd.out q' hq1 hq2)); have HNN2 := Aside0.mk (Nat.le_trans HN2d.out hg2.size); have HE4 := Aside0.mk (e4.trans (by rw [e5, ← HO.out])); clear hr2 hb2 hg2 hat2 e5 e4))
            go_roundw
            case rel => exact ⟨j + 1, o + 1, A4, c4, by go_num, HE4.out, hjm, ⟨by rw [HT.out, HO.out, List.length_append]; rfl⟩, ⟨by rw [HT.out, ← HE4.out]; exact HR2.out⟩, HB2, HNN2, HKP2⟩
            case measure => simp [intOf]; omega
          · have hq4 : (q == 4) = false := by rw [beq_eq_false_iff_ne]; exact hq
            rw [if_neg hq, List.append_nil] at HT
            clear hq
            go_wp2_with fail
            go_roundw
            case rel => exact ⟨j + 1, o, A3, c3, by go_num, rfl, hjm, ⟨by rw [HT.out]; exact HO.out⟩, ⟨by rw [HT.out]; exact HRd.out⟩, HBd, HN2d, HKPd⟩
            case measure => simp [intOf]; omega
        · have hji : ¬ (j : Int) < (m2 : Int) := by omega
          obtain rfl : j = m2 := by omega
          go_wp2_with fail
          rw [show P2.take j = P2 by rw [← HM2.out, List.take_length]] at HO HR
          have HLF : Aside0 ((fstR P1 ++ sndR n P2).length ≤ 200) := ⟨by
            have h1 := snd_len n P2
            have h2 := HL1.out
            have h3 := HL2.out
            rw [List.length_append]
            unfold fstR
            rw [List.length_map]
            omega⟩
          generalize fstR P1 ++ sndR n P2 = FR at *
          have HO1 : Aside0 (o = (FR ++ thdR 0).length) := ⟨by rw [HO.out, thdR, List.append_nil]⟩
          have HR1 : Aside0 (KW.R 58 wr wa.heap.size (fun _ => True) (.slice A3 o c3) (FR ++ thdR 0)) := ⟨by rw [thdR, List.append_nil]; exact Kd.R_mono HR.out (fun _ _ => trivial)⟩
          have HB1' := HB
          clear HO HR HB HN2 HKP HQ2 hji hj
          go_loopw [3, 8] (fun v3 v8 wr => ∃ (k o : Nat) (A3 : Option Addr) (c3 : Nat), v8 = .int .i64 (k : Int) ∧ v3 = .slice A3 o c3 ∧ k ≤ (n + 3) / 4 ∧ Aside0 (o = (FR ++ thdR k).length) ∧ Aside0 (KW.R 58 wr wa.heap.size (fun _ => True) (.slice A3 o c3) (FR ++ thdR k)) ∧ Aside0 (Below wa.heap.size wa wr)) (fun _ v8 _ => 100 - (intOf v8).toNat)
          case atStart => exact ⟨0, o, A3, c3, rfl, rfl, Nat.zero_le _, HO1, HR1, HB1'⟩
          case round =>
            clear HO1 HR1 HB1'
            obtain ⟨k, o, A3, c3, rfl, rfl, hk, HO, HR, HB⟩ := hrel
            have hk20 : k ≤ 20 := by have := HN.out; omega
            have hki : (k : Int) ≤ 20 := by omega
            by_cases hkn : 4 * k < n
            · have hkni : 4 * (k : Int) < (n : Int) := by omega
              have HK1 := Aside0.mk (show k + 1 ≤ (n + 3) / 4 by omega)
              have HT : Aside0 (FR ++ thdR (k + 1) = (FR ++ thdR k) ++ [(true, (0, (k : Int)))]) := ⟨by rw [thdR, List.append_assoc]⟩
              have HLN : Aside0 ((FR ++ thdR k).length ≤ 300) := ⟨by rw [List.length_append, thd_len]; have := HLF.out; omega⟩
              generalize FR ++ thdR k = ol at *
              go_wp2_with (first
                | ((with_reducible refine gate_builtin (b := .append) (xs := #[.tmp 60, .tmp 64]) rfl ?_); at_builtin; refine Kd.R_append (P := Try.prog) KW (w0 := wa) (W := wr) wa.heap.size rfl (.tmp 60) (.tmp 64) 80 58 (.agg #[.bool false, .int .i64 0, .int .i64 0]) 24 rfl Try.underlying80 info_w rfl (by decide) (by decide) (.slice A3 o c3) ol (true, 0, (k : Int)) (encV (true, 0, (k : Int))) (fun _ => True) (fun _ => False) rfl rfl rfl (fun _ h => h.elim) (fun _ _ => trivial) HR.out HB.out HB.out.size (by have := HLN.out; omega) ?_; intro v2 w2 hr2 hb2 hg2 hat2; obtain ⟨A4, c4, e4⟩ := Kd.R_slice hr2; have e5 : (ol ++ [(true, 0, (k : Int))]).length = ol.length + 1 := List.length_append; have HR2 := Aside0.mk hr2; have HB2 := Aside0.mk hb2; have HE4 := Aside0.mk (e4.trans (by rw [e5, ← HO.out])); clear hr2 hb2 hg2 hat2 e5 e4))
              go_roundw
              case rel => exact ⟨k + 1, o + 1, A4, c4, by go_num, HE4.out, HK1.out, ⟨by rw [HT.out, HO.out, List.length_append]; rfl⟩, ⟨by rw [HT.out, ← HE4.out]; exact HR2.out⟩, HB2⟩
              case measure => simp [intOf]; omega
            · have hkni : ¬ 4 * (k : Int) < (n : Int) := by omega
              obtain rfl : k = (n + 3) / 4 := by omega
              go_wp2_with fail
              go_ret
              exact ⟨_, rfl, by rw [← HE.out, HWR.out]; exact Kd.R_lower HR.out HB1.out.size, below_step HB1.out HB.out⟩
end Go.Proofs.Ytondnammkcgjpaa.Ft
namespace Go.Proofs.Ytondnammkcgjpaa.Ft
open Go Go.RowKit Go.Shelf Go.Proofs.YtondnammkcgjpaaW.PrintWords Go.Proofs.YtondnammkcgjpaaW.PrintLast Go.Proofs.YtondnammkcgjpaaW.PrintMore Go.Proofs.Ytondnammkcgjpaa.Mp
open Go.Proofs.Ytondnammkcgjpaa.ShaP Go.Proofs.Ytondnammkcgjpaa.Mk Go.Proofs.Ytondnammkcgjpaa.Rg Go.Proofs.Ytondnammkcgjpaa.RgP Go.Proofs.Ytondnammkcgjpaa.Rf Go.Proofs.Ytondnammkcgjpaa.RgL Go.Proofs.Ytondnammkcgjpaa.Til Go.Proofs.Ytondnammkcgjpaa.Fg Go.Proofs.Ytondnammkcgjpaa.Fun Go.Proofs.Ytondnammkcgjpaa.Rng
theorem rgive_bundle2 (A : Option Addr) (c : Nat) (ls : List ByteArray) (s i n : Nat) (w : World) (hs : s ≤ 64) (hls : ls.length = s) (hi : i ≤ 16) (hn : 0 < n) (hw : inTile (i : Int) (cntv s 0) = n) (hfit : 4 * i + n ≤ s) (hc : s ≤ c) (hr : Kd.C Kd.string w A s ls) :
    Calls Try.prog 34 #[.slice A s c, .agg #[.bool true, .int .i64 0, .int .i64 (i : Int)]] w fun e w' => ∃ A' c', e = .returned (.slice A' n c') ∧ Kd.C Kd.string w' A' n (seg ls (4 * i) n) ∧ n ≤ c' ∧ Below w.heap.size w w' := by
  subst hls
  have OW := Aside0.mk (Mem.Own.nil w)
  have HR := Aside0.mk hr
  have HW := Aside0.mk (fun W => rwidth_c (ls.length : Int) 0 (i : Int) W)
  rw [hw] at HW
  clear hw
  obtain ⟨a, ha⟩ : ∃ a, a = 4 * i := ⟨_, rfl⟩
  obtain ⟨b, hb⟩ : ∃ b, b = a + n := ⟨_, rfl⟩
  rw [← ha] at hfit ⊢
  have hsl := seg_len ls a n (by omega)
  have hseg : (ls.take b).drop a = seg ls a n := by rw [hb]; rfl
  obtain ⟨A9, hcut, hC9, _⟩ := cut_mid A c ls a b (by omega) (by omega) hc
  rw [hseg, hsl] at hcut hC9
  have HCAP := Aside0.mk (show n ≤ c - a by omega)
  have HC9 := Aside0.mk (fun W h => hC9 W (Kd.C_below HR.out h))
  generalize seg ls a n = sg at *
  have hia : (4 : Int) * (i : Int) = (a : Int) := by omega
  have hab : (a : Int) + (n : Int) = (b : Int) := by omega
  have hwa : wrap64 (a : Int) = (a : Int) := wr_nat _ (by omega)
  have hwb : wrap64 (b : Int) = (b : Int) := wr_nat _ (by omega)
  clear hs hr hi hn hfit hc ha hb hsl hseg hC9
  go_enter Try.func34, Try.ntmps34
  go_wp2_with (first
    | ((with_reducible refine gate_dst (N := 3) rfl ?_); refine box_event ?hg (N := 3) ?hd (cs := #[.bool true, .int .i64 0, .int .i64 (i : Int)]) (t := 58) ?hr ?_; (case hd => rfl); (case hg => rfl); (case hr => first | (go_simp; done) | (go_simp; rfl)); intro gW hg W_ hb hbb; have j0 := (blk_cell hb 0).trans rfl; have j1 := (blk_cell hb 1).trans rfl; have j2 := (blk_cell hb 2).trans rfl; have n_ : Aside0 (Mem.Own w W_ [(gW, #[.bool true, .int .i64 0, .int .i64 (i : Int)], 58)]) := ⟨OW.out.new hg hb hbb⟩; clear OW hb hbb hg; have OW := n_; clear n_)
    | (go_at_call 25; (with_reducible refine (HW.out _).mono ?_); rintro e w_ ⟨rfl, rfl⟩))
  go_ret
  exact ⟨_, _, rfl, HC9.out _ OW.out.below, HCAP.out, OW.out.below⟩
theorem rgive_any2 (A : Option Addr) (c : Nat) (ls : List ByteArray) (s : Nat) (b : Bool) (lv ix : Int) (w : World) (hs : s ≤ 64) (hls : ls.length = s) (hb : b = true → lv = 0) (hsz : ∀ x ∈ ls, x.size ≤ 10000) (hw : inTile ix (cntv s lv) ≠ 0) (hc : s ≤ c) (hr : Kd.C Kd.string w A s ls) :
    Calls Try.prog 34 #[.slice A s c, .agg #[.bool b, .int .i64 lv, .int .i64 ix]] w fun e w' => ∃ A' c', e = .returned (.slice A' (giveF ls b lv ix).length c') ∧ Kd.C Kd.string w' A' (giveF ls b lv ix).length (giveF ls b lv ix) ∧ (giveF ls b lv ix).length ≤ c' ∧ Below w.heap.size w w' := by
  subst hls
  cases b with
  | false =>
    rw [show giveF ls false lv ix = tileF (leavesF ls) lv ix from rfl]
    have hl := tileF_len (leavesF ls) lv ix
    rw [leaves_len] at hl
    obtain ⟨k, i, m, rfl, rfl, hk, hi, hwm, hm, hm4, hfit⟩ := width_pos ls.length hs lv ix hw
    rw [hwm] at hl
    have hlen : (tileF (leavesF ls) k i).length = m := by omega
    rw [hlen]
    refine (rgive_tile A c ls ls.length k i m w hs rfl hsz hk hi hm hm4 hwm hfit hc hr).mono ?_
    rintro e w' ⟨A', c', rfl, hR, hB⟩
    exact ⟨A', c', rfl, by have := (Kd.R_reads' hR).2.2; rw [hlen] at this; exact this, (Kd.R_reads' hR).2.1, hB⟩
  | true =>
    obtain rfl := hb rfl
    obtain ⟨k, i, m, hk0, rfl, hk, hi, hwm, hm, hm4, hfit⟩ := width_pos ls.length hs 0 ix hw
    obtain rfl : k = 0 := by omega
    rw [Nat.pow_zero, Nat.div_one] at hfit
    have e : giveF ls true 0 i = seg ls (4 * i) m := by
      show seg ls (4 * (i : Int).toNat) (inTile i (cntv (ls.length : Int) 0)).toNat = _
      rw [hwm]
      rfl
    have hsl := seg_len ls (4 * i) m hfit
    rw [e, hsl]
    refine (rgive_bundle2 A c ls ls.length i m w hs rfl hi hm hwm hfit hc hr).mono ?_
    rintro e w' ⟨A', c', rfl, hR, hcap, hB⟩
    exact ⟨A', c', rfl, hR, hcap, hB⟩
theorem give_small (l : List ByteArray) (hl : l.length ≤ 64) (hs : ∀ z ∈ l, z.size ≤ 40) (x : Want) (hx : x ∈ wantsF l.length) : (giveF l x.1 x.2.1 x.2.2).length ≤ 64 ∧ ∀ y ∈ giveF l x.1 x.2.1 x.2.2, y.size ≤ 100 := by
  obtain ⟨a, i, ha, e⟩ := want_nat l.length hl x hx
  obtain ⟨j, hj⟩ := List.mem_iff_getElem?.1 hx
  have h0 := (ord_at l.length hl j x hj).2.1
  obtain ⟨b, y⟩ := x
  simp only at e
  subst e
  have h4 : tw l.length a i ≤ 4 := by unfold tw; omega
  cases b with
  | true =>
    have h0 := (h0 rfl).1
    simp only at h0
    obtain rfl : a = 0 := by omega
    have e := bund_seg l hl i
    simp only
    rw [show ((0 : Nat) : Int) = 0 from rfl, e]
    refine ⟨by unfold seg; rw [List.length_drop, List.length_take]; omega, fun z hz => ?_⟩
    have := hs z (List.mem_of_mem_take (List.mem_of_mem_drop hz))
    omega
  | false =>
    have h1 := tile_len l a i
    unfold wdF at h1
    simp only at h1 ⊢
    have h2 := inTile_in (i : Int) (cntv l.length a)
    refine ⟨by omega, fun z hz => ?_⟩
    have := tile_32 l hl a i ha z hz
    omega
theorem drops_asked (l : List (Int × Int)) : ∀ s : FS, (l.foldl dropT s).asked = s.asked := by
  induction l with
  | nil => intro s; rfl
  | cons y l ih => intro s; rw [List.foldl_cons, ih]; rfl
theorem takeS_keeps (s : FS) (x : Want) (l : List ByteArray) : (takeS s x l).1.size = s.size ∧ (takeS s x l).1.root = s.root ∧ (takeS s x l).1.asked = s.asked := by
  unfold takeS
  split
  · exact ⟨rfl, rfl, rfl⟩
  split
  · exact ⟨rfl, rfl, rfl⟩
  split
  · dsimp only
    split <;> exact ⟨rfl, rfl, rfl⟩
  split
  · dsimp only
    split
    · exact ⟨rfl, rfl, rfl⟩
    · exact ⟨drops_size _ _, drops_root _ _, drops_asked _ _⟩
  · dsimp only
    split <;> exact ⟨rfl, rfl, rfl⟩
theorem kw_turn {V W : World} {base g gt gb : Nat} {v : Value} {l : List Want} (h : KW.R 58 V base (fun _ => True) v l) (hf : ∀ k, Foot g gt gb k → k < base) (hT : Turn (Foot g gt gb) V W) : KW.R 58 W base (fun _ => True) v l :=
  Kd.R_mono (Kd.R_step (Kd.R_bound h) (fun k ho hlt => hT.keep k hlt (fun q => absurd (hf k q) (Nat.not_lt.2 ho.2.1)))) (fun _ _ => trivial)
theorem all_few (A : Option Addr) (c : Nat) (l : List ByteArray) (w : World) (hr : Kd.C Kd.string w A l.length l) (hb : fewB l 64 40 = false) :
    Calls Try.prog 12 #[.slice A l.length c] w fun e w' => e = .returned (.bool true) ∧ Below w.heap.size w w' := by
  have OW := Aside0.mk (Mem.Own.nil w)
  have HAW := Aside0.mk awake21_c
  have HF := Aside0.mk (fun W h => few6440 A c l W h)
  rw [hb] at HF
  have HR := Aside0.mk hr
  clear hb hr
  go_enter Try.func12, Try.ntmps12
  go_wp2_with (first
    | (go_at_call 31; (with_reducible refine (HAW.out _).mono ?_); rintro e w_ ⟨rfl, hB⟩; have n_ := Aside0.mk (OW.out.step hB); clear OW hB; have OW := n_; clear n_)
    | (go_at_call 15; (with_reducible refine (HF.out _ (Kd.C_below HR.out OW.out.below)).mono ?_); rintro e w_ ⟨rfl, rfl⟩))
  go_ret
  exact ⟨rfl, OW.out.below⟩
theorem all_main (A : Option Addr) (c : Nat) (l : List ByteArray) (w : World) (hc : l.length ≤ c) (hr : Kd.C Kd.string w A l.length l) (hb : fewB l 64 40 = true) :
    Calls Try.prog 12 #[.slice A l.length c] w fun e w' => e = .returned (.bool true) ∧ Below w.heap.size w w' := by
  obtain ⟨hl, hsz⟩ := few_yes hb (by omega)
  have OW := Aside0.mk (Mem.Own.nil w)
  have HI := Aside0.mk info_tab
  have HAW := Aside0.mk awake21_c
  have HF := Aside0.mk (fun W h => few6440 A c l W h)
  rw [hb] at HF
  have HR := Aside0.mk hr
  have HL := Aside0.mk hl
  have HSZ := Aside0.mk hsz
  have hr32 : (rootF (leavesF l)).size = 32 := rootF_32 _ (leaves_32 l) (by rw [leavesF_len]; omega)
  have HZ := Aside0.mk (hon_zero l)
  have hemp : l.length = 0 → rootF (leavesF l) = emptyF := fun e => by rw [List.length_eq_zero_iff.1 e]; exact rootF_nil
  have HN := Aside0.mk (fun W => new_good l.length (rootF (leavesF l)) W hl hr32 hemp)
  have HLV := Aside0.mk (fun W h => leaves_c A c l W (by omega) (fun z hz => by have := hsz z hz; omega) h)
  have HRT := Aside0.mk (fun A5 c5 W h h2 => rfroot_c 100000 A5 c5 (leavesF l) W (by rw [leavesF_len]; omega) (by rw [leavesF_len]; omega) (leaves_sm l) h h2)
  have HCC := Aside0.mk hc
  rw [show rootN 100000 (leavesF l) = rootF (leavesF l) from rfl] at HRT
  generalize rootF (leavesF l) = root at *
  clear hb hr hl hsz hr32 hemp hc
  go_enter Try.func12, Try.ntmps12
  go_wp2_with (first
    | (go_at_call 31; (with_reducible refine (HAW.out _).mono ?_); rintro e w_ ⟨rfl, hB⟩; have n_ := Aside0.mk (OW.out.step hB); clear OW hB; have OW := n_; clear n_)
    | (go_at_call 15; (with_reducible refine (HF.out _ (Kd.C_below HR.out OW.out.below)).mono ?_); rintro e w_ ⟨rfl, rfl⟩)
    | (go_at_call 16; (with_reducible refine (make_c _).mono ?_); rintro e wz ⟨rfl, hB⟩; have n_ := Aside0.mk (OW.out.step hB); clear OW hB; have OW := n_; clear n_)
    | ((with_reducible refine gate_dst (N := 3) rfl ?_); refine tab_event (N := 3) rfl rfl rfl rfl rfl rfl (fun _ => rfl) (fun _ => rfl) ?_; intro gT hg wz hb hbb; have n_ : Aside0 (Mem.Own w (wz) [(gT, TV, 31)]) := ⟨OW.out.new hg hb hbb⟩; clear OW hb hbb hg; have OW := n_; clear n_))
  have OD := Aside0.mk OW.out.drew
  have HRD := Aside0.mk (Kd.C_below HR.out OD.out.below)
  clear OW
  refine start_ (n := 12) (S := fun w' => Below (wz).drew.heap.size (wz).drew w') (ds := []) #[false, false, false, false, false, false, false, false, false, false, false, false] (by kernel_rfl) rfl rfl (Below.refl _ _) (fun hHeld => ?_)
  generalize (wz).drew = W1 at *
  refine take_ (i := 0) (N := (some 26)) (a' := ?_) #[true, false, false, false, false, false, false, false, false, false, false, false] rfl rfl (by kernel_rfl) (fun _ _ _ h => h) (yields_tab (by rfl) (.tmp 3) rfl gT rfl (fun w' hS => hS) (OD.out.blk 0 rfl)) hHeld ?_ ?_
  rotate_left
  · simp only [Act.put, List.setIfInBounds_toArray, List.set_cons_zero, List.set_cons_succ, i64_w, i32_w]
    rfl
  refine pure_ (i := 1) (N := (some 27)) (v := ?_) (a' := ?_) #[true, true, false, false, false, false, false, false, false, false, false, false] rfl rfl (by kernel_rfl) (fun _ _ _ h => h) (Or.inl ⟨by rfl, ?_⟩) ?_ ?_
  rotate_left
  · intro w'
    go_simp
    first | done | with_reducible rfl
  rotate_left
  · simp only [Act.put, List.setIfInBounds_toArray, List.set_cons_zero, List.set_cons_succ, i64_w, i32_w]
    rfl
  refine pure_ (i := 2) (N := (some 28)) (v := ?_) (a' := ?_) #[true, true, true, false, false, false, false, false, false, false, false, false] rfl rfl (by kernel_rfl) (fun _ _ _ h => h) (Or.inl ⟨by rfl, ?_⟩) ?_ ?_
  rotate_left
  · intro w'
    go_simp
    first | done | with_reducible rfl
  rotate_left
  · simp only [Act.put, List.setIfInBounds_toArray, List.set_cons_zero, List.set_cons_succ, i64_w, i32_w]
    rfl
  refine pure_ (i := 3) (N := (some 29)) (v := ?_) (a' := ?_) #[true, true, true, true, false, false, false, false, false, false, false, false] rfl rfl (by kernel_rfl) (fun _ _ _ h => h) (Or.inl ⟨by rfl, ?_⟩) ?_ ?_
  rotate_left
  · intro w'
    go_simp
    first | done | with_reducible rfl
  rotate_left
  · simp only [Act.put, List.setIfInBounds_toArray, List.set_cons_zero, List.set_cons_succ, i64_w, i32_w]
    rfl
  refine one_ (i := 4) (N := (some 30)) #[true, true, true, true, true, false, false, false, false, false, false, false] rfl rfl (by kernel_rfl) (by decide) (fun K hK => ?_)
  refine goes_ Try.func17 (by kernel_rfl) rfl #[.slice A l.length c] (by rfl) rfl rfl (by (try simp only [List.map_toArray, List.map_cons, List.map_nil]); first | done | rfl) ?_
  (with_reducible refine (HLV.out _ (Kd.C_below HRD.out hHeld)).mono ?_)
  rintro e wc ⟨v5, rfl, hr5, hB⟩
  refine ⟨_, rfl, ?_⟩
  have hS2 : Below W1.heap.size W1 wc := below_step hHeld hB
  obtain ⟨A5, c5, rfl, hl5, hC5⟩ := Kd.R_reads hr5
  have HC5 := Aside0.mk hC5
  have HL5 := Aside0.mk hl5
  clear hB hHeld hr5 hC5 hl5
  refine hK.out _ _ hS2 (fun hHeld => ?_)
  clear hK K
  refine norm_ (a' := ?_) ?_ ?_
  rotate_left
  · show Act.put _ (some 30) _ = _
    simp only [Act.put, List.setIfInBounds_toArray, List.set_cons_zero, List.set_cons_succ, i64_w, i32_w]
    rfl
  refine one_ (i := 5) (N := (some 31)) #[true, true, true, true, true, true, false, false, false, false, false, false] rfl rfl (by kernel_rfl) (by decide) (fun K hK => ?_)
  refine goes_ Try.func36 (by kernel_rfl) rfl #[.slice A5 (leavesF l).length c5] (by rfl) rfl rfl (by (try simp only [List.map_toArray, List.map_cons, List.map_nil]); first | done | rfl) ?_
  (with_reducible refine (HRT.out A5 c5 _ HL5.out HC5.out).mono ?_)
  rintro e wd ⟨rfl, hB⟩
  refine ⟨_, rfl, ?_⟩
  have hS2 : Below W1.heap.size W1 wd := below_step hHeld hB
  clear hB hHeld
  refine hK.out _ _ hS2 (fun hHeld => ?_)
  clear hK K
  refine norm_ (a' := ?_) ?_ ?_
  rotate_left
  · show Act.put _ (some 31) _ = _
    simp only [Act.put, List.setIfInBounds_toArray, List.set_cons_zero, List.set_cons_succ, i64_w, i32_w]
    rfl
  refine one_ (i := 6) (N := (some 32)) #[true, true, true, true, true, true, true, false, false, false, false, false] rfl rfl (by kernel_rfl) (by decide) (fun K hK => ?_)
  refine goes_ Try.func37 (by kernel_rfl) rfl #[.agg TV, .int .i64 (l.length : Int), .string root] (by rfl) rfl rfl (by (try simp only [List.map_toArray, List.map_cons, List.map_nil]); first | done | rfl) ?_
  (with_reducible refine (HN.out _).mono ?_)
  rintro e wn ⟨g, gt, gb, rfl, hI, hB⟩
  refine ⟨_, rfl, ?_⟩
  have hS2 : Below W1.heap.size W1 wn := below_step hHeld hB
  have HK := Aside0.mk (show ∃ base, IsF base wn g gt gb (mt l.length root) ∧ w.heap.size ≤ base ∧ base ≤ wn.heap.size from ⟨_, hI, Nat.le_trans OD.out.size hHeld.size, hB.size⟩)
  clear hB hHeld hI
  refine hK.out _ _ hS2 (fun hHeld => ?_)
  clear hK K
  refine norm_ (a' := ?_) ?_ ?_
  rotate_left
  · show Act.put _ (some 32) _ = _
    simp only [Act.put, List.setIfInBounds_toArray, List.set_cons_zero, List.set_cons_succ, i64_w, i32_w]
    rfl
  refine pure_ (i := 7) (N := (some 25)) (v := ?_) (a' := ?_) #[true, true, true, true, true, true, true, true, false, false, false, false] rfl rfl (by kernel_rfl) (fun _ _ _ h => h) (Or.inl ⟨by rfl, ?_⟩) ?_ ?_
  rotate_left
  · intro w'
    go_simp
    first | done | with_reducible rfl
  rotate_left
  · simp only [Act.put, List.setIfInBounds_toArray, List.set_cons_zero, List.set_cons_succ, i64_w, i32_w]
    rfl
  refine pure_ (i := 8) (N := (some 33)) (v := ?_) (a' := ?_) #[true, true, true, true, true, true, true, true, true, false, false, false] rfl rfl (by kernel_rfl) (fun _ _ _ h => h) (Or.inl ⟨by rfl, ?_⟩) ?_ ?_
  rotate_left
  · intro w'
    go_simp
    first | done | with_reducible rfl
  rotate_left
  · simp only [Act.put, List.setIfInBounds_toArray, List.set_cons_zero, List.set_cons_succ, i64_w, i32_w]
    rfl
  refine pure_ (i := 9) (N := (some 34)) (v := ?_) (a' := ?_) #[true, true, true, true, true, true, true, true, true, true, false, false] rfl rfl (by kernel_rfl) (fun _ _ _ h => h) (Or.inl ⟨by rfl, ?_⟩) ?_ ?_
  rotate_left
  · intro w'
    go_simp
    first | done | with_reducible rfl
  rotate_left
  · simp only [Act.put, List.setIfInBounds_toArray, List.set_cons_zero, List.set_cons_succ, i64_w, i32_w]
    rfl
  refine pure_ (i := 10) (N := (some 4)) (v := ?_) (a' := ?_) #[true, true, true, true, true, true, true, true, true, true, true, false] rfl rfl (by kernel_rfl) (fun _ _ _ h => h) (Or.inl ⟨by rfl, ?_⟩) ?_ ?_
  rotate_left
  · intro w'
    go_simp
    first | done | with_reducible rfl
  rotate_left
  · simp only [Act.put, List.setIfInBounds_toArray, List.set_cons_zero, List.set_cons_succ, i64_w, i32_w]
    rfl
  refine pure_ (i := 11) (N := (some 5)) (v := ?_) (a' := ?_) #[true, true, true, true, true, true, true, true, true, true, true, true] rfl rfl (by kernel_rfl) (fun _ _ _ h => h) (Or.inl ⟨by rfl, ?_⟩) ?_ ?_
  rotate_left
  · intro w'
    go_simp
    first | done | with_reducible rfl
  rotate_left
  · simp only [Act.put, List.setIfInBounds_toArray, List.set_cons_zero, List.set_cons_succ, i64_w, i32_w]
    rfl
  refine done_ (by kernel_rfl) ?_
  have OE := Aside0.mk (OD.out.step hHeld)
  clear OD hHeld HRD HC5 HL5 HN HRT HLV HF HAW
  obtain ⟨base, hI, hbw, hbn⟩ := HK.out
  rw [← HZ.out] at hI
  have HI0 := Aside0.mk hI
  have HBW := Aside0.mk hbw
  have HBN := Aside0.mk hbn
  have HWC := Aside0.mk (fun W => rwants_c l.length W HL.out)
  obtain ⟨m, hm⟩ : ∃ m, (wantsF l.length).length = m := ⟨_, rfl⟩
  have HM := Aside0.mk hm
  have hm60 : (m : Int) ≤ 1000 := by have : ∀ n : Nat, n < 65 → (wantsF n).length ≤ 1000 := (by decide +kernel); have := this l.length (by have := HL.out; omega); omega
  clear hI hbw hbn HK hm
  go_wp2_with (first
    | (go_at_call 43; (with_reducible refine (HWC.out _).mono ?_); rintro r wv ⟨v, rfl, hr6, hB⟩; obtain ⟨A6, k6, rfl⟩ := Kd.R_slice hr6; rw [HM.out] at hr6 ⊢; have HQ0 := Aside0.mk hr6; have HI1 := Aside0.mk (HI0.out.below hB); have HBN1 := Aside0.mk (Nat.le_trans HBN.out hB.size); have n_ := Aside0.mk (OE.out.step hB); clear OE hB hr6; have OE := n_; clear n_)) 
  have HFT : Aside0 (∀ k, Foot g gt gb k → k < wn.heap.size) := ⟨fun k hk => by
    rcases hk with rfl | rfl | rfl
    · exact (Array.getElem?_eq_some_iff.1 HI0.out.blk).1
    · exact HI0.out.tl.lt
    · exact HI0.out.bn.lt⟩
  clear HI0 HBN HWC
  go_loopw [7] (fun v7 wr => ∃ k : Nat, v7 = .int .i64 k ∧ k ≤ m ∧ Aside0 (IsF base wr g gt gb (honS l k)) ∧ Aside0 (Below w.heap.size w wr) ∧ Aside0 (base ≤ wr.heap.size) ∧ Aside0 (KW.R 58 wr wn.heap.size (fun _ => True) (.slice A6 m k6) (wantsF l.length))) (fun v7 _ => m - (intOf v7).toNat)
  case atStart => exact ⟨0, rfl, Nat.zero_le _, HI1, ⟨OE.out.below⟩, HBN1, HQ0⟩
  case round =>
    clear HI1 OE HBN1 HQ0
    obtain ⟨k, rfl, hk, HF, HB, HBN, HQ⟩ := hrel
    by_cases hkm : k < m
    · have hki : (k : Int) < (m : Int) := by omega
      go_wp2_with fail
      obtain ⟨x, hx⟩ : ∃ x, (wantsF l.length)[k]? = some x := ⟨_, List.getElem?_eq_getElem (by rw [HM.out]; exact hkm)⟩
      have hnx : nextF (honS l k) = some x := (hon_next l HL.out k).trans hx
      refine (next_c _ HF.out).mono ?_
      rintro e wx ⟨y, ok, rfl, hcs, hB⟩
      rcases hcs with ⟨hy, rfl⟩ | ⟨hy, _, _⟩
      · obtain rfl : y = x := Option.some.inj (hy.symm.trans hnx)
        obtain ⟨yb, yl, yi⟩ := y
        have hal := below_alloc hB (.cells #[.bool yb, .int .i64 yl, .int .i64 yi] 58)
        have hnb := blk_new wx (.cells #[.bool yb, .int .i64 yl, .int .i64 yi] 58)
        have HF8 := Aside0.mk (HF.out.below hal)
        have HLN := Aside0.mk (leaves_no HF8.out (by rw [hnx]; simp))
        obtain ⟨gx, hgx⟩ : ∃ gx, wx.heap.size = gx := ⟨_, rfl⟩
        simp only [wcs]
        rw [hgx] at hnb
        go_wp2_with fail
        refine HLN.out.mono ?_
        rintro e wz ⟨rfl, hB2⟩
        have hBa := below_step hal hB2
        have hkl : k < (wantsF l.length).length := by rw [HM.out]; exact hkm
        have HFz := Aside0.mk (HF.out.below hBa).drew
        have HBz := Aside0.mk (Below.drew (below_step HB.out hBa))
        have HQz : Aside0 (KW.R 58 wz.drew wn.heap.size (fun _ => True) (.slice A6 m k6) (wantsF l.length)) := ⟨Kd.R_drew (Kd.R_below HQ.out hBa)⟩
        have HNz : Aside0 (base ≤ wz.drew.heap.size) := ⟨Nat.le_trans HBN.out hBa.size⟩
        have j0 : wz.drew.cell? ⟨gx, 0, none⟩ = some (.bool yb) := pw_cell_below hB2 ((blk_cell hnb 0).trans rfl)
        have j1 : wz.drew.cell? ⟨gx, 1, none⟩ = some (.int .i64 yl) := pw_cell_below hB2 ((blk_cell hnb 1).trans rfl)
        have j2 : wz.drew.cell? ⟨gx, 2, none⟩ = some (.int .i64 yi) := pw_cell_below hB2 ((blk_cell hnb 2).trans rfl)
        obtain ⟨gp, ea, i0, i1, i2⟩ := kw_elem HQz.out k hkl
        rw [show (wantsF l.length)[k] = (yb, yl, yi) from Option.some.inj ((List.getElem?_eq_getElem hkl).symm.trans hx)] at i0 i1 i2
        simp only at i0 i1 i2
        have HWM := Aside0.mk (List.mem_iff_getElem?.2 ⟨k, hx⟩)
        have HTN := Aside0.mk (hon_take l HL.out k _ hx)
        have HX := Aside0.mk hnx
        have HKM := Aside0.mk hkm
        have HEA := Aside0.mk ea
        have hnw := fun W => neq_want W yb yb yl yi yl yi
        have hne : (yb == yb && (yl == yl && (yi == yi))) = true := by simp
        rw [hne] at hnw
        clear hne hnb hgx hal hB hB2 hBa hy hx hnx hkl HF8 HLN HF HB HBN HQ hkm ea
        go_wp2_with fail
        obtain rfl := HEA.out
        have HGV := Aside0.mk (fun W h => rgive_any2 A c l l.length yb yl yi W HL.out rfl (fun e => ((ord_at l.length HL.out k _ ((hon_next l HL.out k).symm.trans HX.out)).2.1 e).1) (fun z hz => by have := HSZ.out z hz; omega) (by have := wants_w l.length HL.out _ HWM.out; unfold wdF at this; simp only at this; omega) HCC.out h)
        have HGS := Aside0.mk (give_small l HL.out HSZ.out _ HWM.out)
        have HTK : Aside0 (∀ A9 c9 W, IsF base W g gt gb (honS l k) → base ≤ W.heap.size → (giveF l yb yl yi).length ≤ c9 → Kd.C Kd.string W A9 (giveF l yb yl yi).length (giveF l yb yl yi) → Calls Try.prog 40 #[.pointer (some ⟨g, 0, none⟩), .agg #[.bool yb, .int .i64 yl, .int .i64 yi], .slice A9 (giveF l yb yl yi).length c9] W fun e w' => e = .returned (.int .i64 0) ∧ IsF base w' g gt gb (honS l (k + 1)) ∧ Turn (Foot g gt gb) W w') := ⟨fun A9 c9 W h1 h2 h3 h4 => by
          have h5 : (takeS (honS l k) (yb, yl, yi) (giveF l yb yl yi)).1.asked = (k : Int) := (takeS_keeps _ _ _).2.2
          have hkk := HKM.out
          have := Take_yes (yb, yl, yi) A9 c9 (giveF l yb yl yi) h1 (hon_inv l HL.out k) HX.out h2 (by have := HGS.out.1; simp only at this; unfold maxLen; omega) (fun z hz => by have := HGS.out.2 z hz; omega) h3 h4 (by rw [h5]; omega) (by rw [h5]; omega)
          rw [show takenS (honS l k) (yb, yl, yi) (giveF l yb yl yi) = (honS l (k + 1), 0) from HTN.out] at this
          exact this⟩
        have HAK : Aside0 (∀ W, IsF base W g gt gb (honS l (k + 1)) → Calls Try.prog 41 #[.pointer (some ⟨g, 0, none⟩)] W fun e w' => e = .returned (.int .i64 ((k : Int) + 1)) ∧ w' = W) := ⟨fun W h => by
          have := asked_c h
          rw [show (honS l (k + 1)).asked = (k : Int) + 1 by show ((k + 1 : Nat) : Int) = _; omega] at this
          exact this⟩
        have hkb : wrap64 ((k : Int) + 1) = (k : Int) + 1 := wj1 k (by omega)
        refine start_ (n := 29) (S := fun w' => Below (wz).drew.heap.size (wz).drew w') (ds := [19, 24]) #[false, false, false, false, false, false, false, false, false, false, false, false, false, false, false, false, false, false, false, false, false, false, false, false, false, false, false, false, false] (by kernel_rfl) rfl rfl (Below.refl _ _) (fun hHeld => ?_)
        generalize (wz).drew = W2 at *
        refine pure_ (i := 0) (N := (some 56)) (v := ?_) (a' := ?_) #[true, false, false, false, false, false, false, false, false, false, false, false, false, false, false, false, false, false, false, false, false, false, false, false, false, false, false, false, false] rfl rfl (by kernel_rfl) (fun _ _ _ h => h) (Or.inl ⟨by rfl, ?_⟩) ?_ ?_
        rotate_left
        · intro w'
          go_simp
          first | done | with_reducible rfl
        rotate_left
        · simp only [Act.put, List.setIfInBounds_toArray, List.set_cons_zero, List.set_cons_succ, i64_w, i32_w]
          rfl
        refine pure_ (i := 1) (N := (some 57)) (v := ?_) (a' := ?_) #[true, true, false, false, false, false, false, false, false, false, false, false, false, false, false, false, false, false, false, false, false, false, false, false, false, false, false, false, false] rfl rfl (by kernel_rfl) (fun _ _ _ h => h) (Or.inl ⟨by rfl, ?_⟩) ?_ ?_
        rotate_left
        · intro w'
          go_simp
          first | done | with_reducible rfl
        rotate_left
        · simp only [Act.put, List.setIfInBounds_toArray, List.set_cons_zero, List.set_cons_succ, i64_w, i32_w]
          rfl
        refine pure_ (i := 2) (N := (some 58)) (v := ?_) (a' := ?_) #[true, true, true, false, false, false, false, false, false, false, false, false, false, false, false, false, false, false, false, false, false, false, false, false, false, false, false, false, false] rfl rfl (by kernel_rfl) (fun _ _ _ h => h) (Or.inl ⟨by rfl, ?_⟩) ?_ ?_
        rotate_left
        · intro w'
          go_simp
          first | done | with_reducible rfl
        rotate_left
        · simp only [Act.put, List.setIfInBounds_toArray, List.set_cons_zero, List.set_cons_succ, i64_w, i32_w]
          rfl
        refine pure_ (i := 3) (N := (some 59)) (v := ?_) (a' := ?_) #[true, true, true, true, false, false, false, false, false, false, false, false, false, false, false, false, false, false, false, false, false, false, false, false, false, false, false, false, false] rfl rfl (by kernel_rfl) (fun _ _ _ h => h) (Or.inl ⟨by rfl, ?_⟩) ?_ ?_
        rotate_left
        · intro w'
          go_simp
          first | done | with_reducible rfl
        rotate_left
        · simp only [Act.put, List.setIfInBounds_toArray, List.set_cons_zero, List.set_cons_succ, i64_w, i32_w]
          rfl
        refine pure_ (i := 4) (N := (some 60)) (v := ?_) (a' := ?_) #[true, true, true, true, true, false, false, false, false, false, false, false, false, false, false, false, false, false, false, false, false, false, false, false, false, false, false, false, false] rfl rfl (by kernel_rfl) (fun _ _ _ h => h) (Or.inl ⟨by rfl, ?_⟩) ?_ ?_
        rotate_left
        · intro w'
          go_simp
          first | done | with_reducible rfl
        rotate_left
        · simp only [Act.put, List.setIfInBounds_toArray, List.set_cons_zero, List.set_cons_succ, i64_w, i32_w]
          rfl
        refine pure_ (i := 5) (N := (some 61)) (v := ?_) (a' := ?_) #[true, true, true, true, true, true, false, false, false, false, false, false, false, false, false, false, false, false, false, false, false, false, false, false, false, false, false, false, false] rfl rfl (by kernel_rfl) (fun _ _ _ h => h) (Or.inl ⟨by rfl, ?_⟩) ?_ ?_
        rotate_left
        · intro w'
          go_simp
          first | done | with_reducible rfl
        rotate_left
        · simp only [Act.put, List.setIfInBounds_toArray, List.set_cons_zero, List.set_cons_succ, i64_w, i32_w]
          rfl
        refine take_ (i := 6) (N := (some 62)) (v := ?_) (a' := ?_) #[true, true, true, true, true, true, true, false, false, false, false, false, false, false, false, false, false, false, false, false, false, false, false, false, false, false, false, false, false] rfl rfl (by kernel_rfl) (fun _ _ _ h => h) (Or.inl ⟨by rfl, ?_⟩) hHeld ?_ ?_
        rotate_left
        · intro w' hS
          have s0 := pw_cell_below hS j0
          have s1 := pw_cell_below hS j1
          have s2 := pw_cell_below hS j2
          go_simp
          first | done | with_reducible rfl
        rotate_left
        · simp only [Act.put, List.setIfInBounds_toArray, List.set_cons_zero, List.set_cons_succ, i64_w, i32_w]
          rfl
        refine pure_ (i := 7) (N := (some 63)) (v := ?_) (a' := ?_) #[true, true, true, true, true, true, true, true, false, false, false, false, false, false, false, false, false, false, false, false, false, false, false, false, false, false, false, false, false] rfl rfl (by kernel_rfl) (fun _ _ _ h => h) (Or.inl ⟨by rfl, ?_⟩) ?_ ?_
        rotate_left
        · intro w'
          go_simp
          first | done | with_reducible rfl
        rotate_left
        · simp only [Act.put, List.setIfInBounds_toArray, List.set_cons_zero, List.set_cons_succ, i64_w, i32_w]
          rfl
        refine pure_ (i := 8) (N := (some 64)) (v := ?_) (a' := ?_) #[true, true, true, true, true, true, true, true, true, false, false, false, false, false, false, false, false, false, false, false, false, false, false, false, false, false, false, false, false] rfl rfl (by kernel_rfl) (fun _ _ _ h => h) (Or.inl ⟨by rfl, ?_⟩) ?_ ?_
        rotate_left
        · intro w'
          go_simp
          first | done | with_reducible rfl
        rotate_left
        · simp only [Act.put, List.setIfInBounds_toArray, List.set_cons_zero, List.set_cons_succ, i64_w, i32_w]
          rfl
        refine pure_ (i := 9) (N := (some 65)) (v := ?_) (a' := ?_) #[true, true, true, true, true, true, true, true, true, true, false, false, false, false, false, false, false, false, false, false, false, false, false, false, false, false, false, false, false] rfl rfl (by kernel_rfl) (fun _ _ _ h => h) (Or.inl ⟨by rfl, ?_⟩) ?_ ?_
        rotate_left
        · intro w'
          go_simp
          first | done | with_reducible rfl
        rotate_left
        · simp only [Act.put, List.setIfInBounds_toArray, List.set_cons_zero, List.set_cons_succ, i64_w, i32_w]
          rfl
        refine take_ (i := 10) (N := (some 66)) (v := ?_) (a' := ?_) #[true, true, true, true, true, true, true, true, true, true, true, false, false, false, false, false, false, false, false, false, false, false, false, false, false, false, false, false, false] rfl rfl (by kernel_rfl) (fun _ _ _ h => h) (Or.inl ⟨by rfl, ?_⟩) hHeld ?_ ?_
        rotate_left
        · intro w' hS
          have s0 := pw_cell_below hS i0
          have s1 := pw_cell_below hS i1
          have s2 := pw_cell_below hS i2
          go_simp
          first | done | with_reducible rfl
        rotate_left
        · simp only [Act.put, List.setIfInBounds_toArray, List.set_cons_zero, List.set_cons_succ, i64_w, i32_w]
          rfl
        refine pure_ (i := 11) (N := (some 67)) (v := ?_) (a' := ?_) #[true, true, true, true, true, true, true, true, true, true, true, true, false, false, false, false, false, false, false, false, false, false, false, false, false, false, false, false, false] rfl rfl (by kernel_rfl) (fun _ _ _ h => h) (Or.inl ⟨by rfl, ?_⟩) ?_ ?_
        rotate_left
        · intro w'
          go_simp
          first | done | with_reducible rfl
        rotate_left
        · simp only [Act.put, List.setIfInBounds_toArray, List.set_cons_zero, List.set_cons_succ, i64_w, i32_w]
          rfl
        refine pure_ (i := 12) (N := (some 68)) (v := ?_) (a' := ?_) #[true, true, true, true, true, true, true, true, true, true, true, true, true, false, false, false, false, false, false, false, false, false, false, false, false, false, false, false, false] rfl rfl (by kernel_rfl) (fun _ _ _ h => h) (Or.inl ⟨by rfl, ?_⟩) ?_ ?_
        rotate_left
        · intro w'
          go_simp
          first | done | with_reducible rfl
        rotate_left
        · simp only [Act.put, List.setIfInBounds_toArray, List.set_cons_zero, List.set_cons_succ, i64_w, i32_w]
          rfl
        refine pure_ (i := 13) (N := (some 69)) (v := ?_) (a' := ?_) #[true, true, true, true, true, true, true, true, true, true, true, true, true, true, false, false, false, false, false, false, false, false, false, false, false, false, false, false, false] rfl rfl (by kernel_rfl) (fun _ _ _ h => h) (Or.inl ⟨by rfl, ?_⟩) ?_ ?_
        rotate_left
        · intro w'
          go_simp
          first | done | with_reducible rfl
        rotate_left
        · simp only [Act.put, List.setIfInBounds_toArray, List.set_cons_zero, List.set_cons_succ, i64_w, i32_w]
          rfl
        refine pure_ (i := 14) (N := (some 70)) (v := ?_) (a' := ?_) #[true, true, true, true, true, true, true, true, true, true, true, true, true, true, true, false, false, false, false, false, false, false, false, false, false, false, false, false, false] rfl rfl (by kernel_rfl) (fun _ _ _ h => h) (Or.inl ⟨by rfl, ?_⟩) ?_ ?_
        rotate_left
        · intro w'
          go_simp
          first | done | with_reducible rfl
        rotate_left
        · simp only [Act.put, List.setIfInBounds_toArray, List.set_cons_zero, List.set_cons_succ, i64_w, i32_w]
          rfl
        refine take_ (i := 15) (N := (some 71)) (v := ?_) (a' := ?_) #[true, true, true, true, true, true, true, true, true, true, true, true, true, true, true, true, false, false, false, false, false, false, false, false, false, false, false, false, false] rfl rfl (by kernel_rfl) (fun _ _ _ h => h) (Or.inl ⟨by rfl, ?_⟩) hHeld ?_ ?_
        rotate_left
        · intro w' hS
          have s0 := pw_cell_below hS j0
          have s1 := pw_cell_below hS j1
          have s2 := pw_cell_below hS j2
          go_simp
          first | done | with_reducible rfl
        rotate_left
        · simp only [Act.put, List.setIfInBounds_toArray, List.set_cons_zero, List.set_cons_succ, i64_w, i32_w]
          rfl
        refine pure_ (i := 16) (N := (some 72)) (v := ?_) (a' := ?_) #[true, true, true, true, true, true, true, true, true, true, true, true, true, true, true, true, true, false, false, false, false, false, false, false, false, false, false, false, false] rfl rfl (by kernel_rfl) (fun _ _ _ h => h) (Or.inl ⟨by rfl, ?_⟩) ?_ ?_
        rotate_left
        · intro w'
          go_simp
          first | done | with_reducible rfl
        rotate_left
        · simp only [Act.put, List.setIfInBounds_toArray, List.set_cons_zero, List.set_cons_succ, i64_w, i32_w]
          rfl
        refine take_ (i := 17) (N := (some 73)) (v := ?_) (a' := ?_) #[true, true, true, true, true, true, true, true, true, true, true, true, true, true, true, true, true, true, false, false, false, false, false, false, false, false, false, false, false] rfl rfl (by kernel_rfl) (fun _ _ _ h => h) (Or.inl ⟨by rfl, ?_⟩) hHeld ?_ ?_
        rotate_left
        · intro w' hS
          have s0 := pw_cell_below hS j0
          have s1 := pw_cell_below hS j1
          have s2 := pw_cell_below hS j2
          go_simp
          first | done | with_reducible rfl
        rotate_left
        · simp only [Act.put, List.setIfInBounds_toArray, List.set_cons_zero, List.set_cons_succ, i64_w, i32_w]
          rfl
        refine one_ (i := 18) (N := (some 74)) #[true, true, true, true, true, true, true, true, true, true, true, true, true, true, true, true, true, true, true, false, false, false, false, false, false, false, false, false, false] rfl rfl (by kernel_rfl) (by decide) (fun K hK => ?_)
        refine goes_ Try.func34 (by kernel_rfl) rfl #[.slice A l.length c, .agg #[.bool yb, .int .i64 yl, .int .i64 yi]] (by rfl) rfl rfl (by (try simp only [List.map_toArray, List.map_cons, List.map_nil]); first | done | rfl) ?_
        (with_reducible refine (HGV.out _ (Kd.C_below HR.out (below_step HBz.out hHeld))).mono ?_)
        rintro e wb ⟨A9, c9, rfl, hC9, hl9, hB⟩
        refine ⟨_, rfl, ?_⟩
        have hS2 : Below W2.heap.size W2 wb := below_step hHeld hB
        have HC9 := Aside0.mk hC9
        have HL9 := Aside0.mk hl9
        clear hC9 hl9 hB hHeld
        refine hK.out _ _ hS2 (fun hHeld => ?_)
        clear hK K
        refine norm_ (a' := ?_) ?_ ?_
        rotate_left
        · show Act.put _ (some 74) _ = _
          simp only [Act.put, List.setIfInBounds_toArray, List.set_cons_zero, List.set_cons_succ, i64_w, i32_w]
          rfl
        refine last_ (i := 19) (N := (some 75)) #[true, true, true, true, true, true, true, true, true, true, true, true, true, true, true, true, true, true, true, true, false, false, false, false, false, false, false, false, false] rfl rfl (by kernel_rfl) (by decide) (fun K hK => ?_)
        refine goes_ Try.func40 (by kernel_rfl) rfl #[.pointer (some ⟨g, 0, none⟩), .agg #[.bool yb, .int .i64 yl, .int .i64 yi], .slice A9 (giveF l yb yl yi).length c9] (by rfl) rfl rfl (by (try simp only [List.map_toArray, List.map_cons, List.map_nil]); first | done | rfl) ?_
        (with_reducible refine (HTK.out A9 c9 _ (HFz.out.below hHeld) (Nat.le_trans HNz.out hHeld.size) HL9.out HC9.out).mono ?_)
        rintro e wt ⟨rfl, hI, hT⟩
        have HI9 := Aside0.mk hI
        have HT9 := Aside0.mk ((Turn.below (P := Foot g gt gb) hHeld).trans hT)
        clear hI hT hHeld
        refine ⟨_, rfl, ?_⟩
        refine hK.out _ _ ?_
        clear hK K
        refine norm_ (a' := ?_) ?_ ?_
        rotate_left
        · show Act.put _ (some 75) _ = _
          simp only [Act.put, List.setIfInBounds_toArray, List.set_cons_zero, List.set_cons_succ, i64_w, i32_w]
          rfl
        refine pure_ (i := 20) (N := (some 76)) (v := ?_) (a' := ?_) #[true, true, true, true, true, true, true, true, true, true, true, true, true, true, true, true, true, true, true, true, true, false, false, false, false, false, false, false, false] rfl rfl (by kernel_rfl) (fun _ _ _ h => h) (Or.inl ⟨by rfl, ?_⟩) ?_ ?_
        rotate_left
        · intro w'
          go_simp
          first | done | with_reducible rfl
        rotate_left
        · simp only [Act.put, List.setIfInBounds_toArray, List.set_cons_zero, List.set_cons_succ, i64_w, i32_w]
          rfl
        refine pure_ (i := 21) (N := (some 77)) (v := ?_) (a' := ?_) #[true, true, true, true, true, true, true, true, true, true, true, true, true, true, true, true, true, true, true, true, true, true, false, false, false, false, false, false, false] rfl rfl (by kernel_rfl) (fun _ _ _ h => h) (Or.inl ⟨by rfl, ?_⟩) ?_ ?_
        rotate_left
        · intro w'
          go_simp
          first | done | with_reducible rfl
        rotate_left
        · simp only [Act.put, List.setIfInBounds_toArray, List.set_cons_zero, List.set_cons_succ, i64_w, i32_w]
          rfl
        refine pure_ (i := 22) (N := (some 78)) (v := ?_) (a' := ?_) #[true, true, true, true, true, true, true, true, true, true, true, true, true, true, true, true, true, true, true, true, true, true, true, false, false, false, false, false, false] rfl rfl (by kernel_rfl) (fun _ _ _ h => h) (Or.inl ⟨by rfl, ?_⟩) ?_ ?_
        rotate_left
        · intro w'
          go_simp
          first | done | with_reducible rfl
        rotate_left
        · simp only [Act.put, List.setIfInBounds_toArray, List.set_cons_zero, List.set_cons_succ, i64_w, i32_w]
          rfl
        refine pure_ (i := 23) (N := (some 79)) (v := ?_) (a' := ?_) #[true, true, true, true, true, true, true, true, true, true, true, true, true, true, true, true, true, true, true, true, true, true, true, true, false, false, false, false, false] rfl rfl (by kernel_rfl) (fun _ _ _ h => h) (Or.inl ⟨by rfl, ?_⟩) ?_ ?_
        rotate_left
        · intro w'
          go_simp
          first | done | with_reducible rfl
        rotate_left
        · simp only [Act.put, List.setIfInBounds_toArray, List.set_cons_zero, List.set_cons_succ, i64_w, i32_w]
          rfl
        refine pure_ (i := 25) (N := (some 81)) (v := ?_) (a' := ?_) #[true, true, true, true, true, true, true, true, true, true, true, true, true, true, true, true, true, true, true, true, true, true, true, true, false, true, false, false, false] rfl rfl (by kernel_rfl) (fun _ _ _ h => h) (Or.inl ⟨by rfl, ?_⟩) ?_ ?_
        rotate_left
        · intro w'
          go_simp
          first | done | with_reducible rfl
        rotate_left
        · simp only [Act.put, List.setIfInBounds_toArray, List.set_cons_zero, List.set_cons_succ, i64_w, i32_w]
          rfl
        refine pure_ (i := 26) (N := (some 82)) (v := ?_) (a' := ?_) #[true, true, true, true, true, true, true, true, true, true, true, true, true, true, true, true, true, true, true, true, true, true, true, true, false, true, true, false, false] rfl rfl (by kernel_rfl) (fun _ _ _ h => h) (Or.inl ⟨by rfl, ?_⟩) ?_ ?_
        rotate_left
        · intro w'
          go_simp
          first | done | with_reducible rfl
        rotate_left
        · simp only [Act.put, List.setIfInBounds_toArray, List.set_cons_zero, List.set_cons_succ, i64_w, i32_w]
          rfl
        refine last_ (i := 24) (N := (some 80)) #[true, true, true, true, true, true, true, true, true, true, true, true, true, true, true, true, true, true, true, true, true, true, true, true, true, true, true, false, false] rfl rfl (by kernel_rfl) (by decide) (fun K hK => ?_)
        refine goes_ Try.func41 (by kernel_rfl) rfl #[.pointer (some ⟨g, 0, none⟩)] (by rfl) rfl rfl (by (try simp only [List.map_toArray, List.map_cons, List.map_nil]); first | done | rfl) ?_
        (with_reducible refine (HAK.out _ HI9.out).mono ?_)
        rintro e wq ⟨rfl, rfl⟩
        refine ⟨_, rfl, ?_⟩
        refine hK.out _ _ ?_
        clear hK K
        refine norm_ (a' := ?_) ?_ ?_
        rotate_left
        · show Act.put _ (some 80) _ = _
          simp only [Act.put, List.setIfInBounds_toArray, List.set_cons_zero, List.set_cons_succ, i64_w, i32_w]
          rfl
        refine pure_ (i := 27) (N := (some 83)) (v := ?_) (a' := ?_) #[true, true, true, true, true, true, true, true, true, true, true, true, true, true, true, true, true, true, true, true, true, true, true, true, true, true, true, true, false] rfl rfl (by kernel_rfl) (fun _ _ _ h => h) (Or.inl ⟨by rfl, ?_⟩) ?_ ?_
        rotate_left
        · intro w'
          go_simp
          first | done | with_reducible rfl
        rotate_left
        · simp only [Act.put, List.setIfInBounds_toArray, List.set_cons_zero, List.set_cons_succ, i64_w, i32_w]
          rfl
        refine pure_ (i := 28) (N := (some 84)) (v := ?_) (a' := ?_) #[true, true, true, true, true, true, true, true, true, true, true, true, true, true, true, true, true, true, true, true, true, true, true, true, true, true, true, true, true] rfl rfl (by kernel_rfl) (fun _ _ _ h => h) (Or.inl ⟨by rfl, ?_⟩) ?_ ?_
        rotate_left
        · intro w'
          go_simp
          first | done | with_reducible rfl
        rotate_left
        · simp only [Act.put, List.setIfInBounds_toArray, List.set_cons_zero, List.set_cons_succ, i64_w, i32_w]
          rfl
        refine done_ (by kernel_rfl) ?_
        have HB9 := Aside0.mk (HBz.out.trans (HT9.out.to_below (fun q hq => Nat.le_trans HBW.out (HFz.out.foot_ge q hq)) HBz.out.size))
        have HQ9 := Aside0.mk (kw_turn HQz.out HFT.out HT9.out)
        have HN9 := Aside0.mk (Nat.le_trans HNz.out HT9.out.size)
        clear j0 j1 j2 i0 i1 i2 hnw hkb
        go_wp2_with fail
        go_roundw
        case rel => exact ⟨k + 1, by go_num, HKM.out, HI9, HB9, HN9, HQ9⟩
        case measure => have := HKM.out; simp [intOf]; omega
      · exact absurd (hy.symm.trans hnx) (by simp)
    · have hki : ¬ (k : Int) < (m : Int) := by omega
      obtain rfl : k = m := by omega
      have hnx : nextF (honS l k) = none := (hon_next l HL.out k).trans (List.getElem?_eq_none (by rw [HM.out]; exact Nat.le_refl _))
      go_wp2_with fail
      refine (next_c _ HF.out).mono ?_
      rintro e wx ⟨y, ok, rfl, hcs, hB⟩
      rcases hcs with ⟨hy, _⟩ | ⟨_, rfl, rfl⟩
      · exact absurd (hy.symm.trans hnx) (by simp)
      · have hal := below_alloc hB (.cells #[.bool false, .int .i64 0, .int .i64 0] 58)
        have HF8 := Aside0.mk (HF.out.below hal)
        have HLY := Aside0.mk (leaves_yes HF8.out hnx)
        have hall := hon_all l HL.out
        rw [HM.out] at hall
        rw [show (honS l k).size = l.length from rfl, hall] at HLY
        simp only [wcs]
        go_wp2_with fail
        refine HLY.out.mono ?_
        rintro e wz ⟨A2, c2, rfl, hS, hB2⟩
        have HC2 := Aside0.mk (Kd.R_reads' hS).2.2
        have OZ := Aside0.mk (below_step (below_step HB.out hal) hB2)
        have HSM := Aside0.mk (fun W h1 h2 => same21_c A2 A c2 c l l W h1 h2)
        rw [show decide (l = l) = true from decide_eq_true rfl] at HSM
        clear hS hB2 hal hB hall HLY HF8 hnx
        go_wp2_with (first
          | (go_at_call 33; (with_reducible refine (HSM.out _ HC2.out (Kd.C_below HR.out OZ.out)).mono ?_); rintro e wy ⟨rfl, hB⟩; have n_ := Aside0.mk (below_step OZ.out hB); clear OZ hB; have OZ := n_; clear n_))
        go_ret
        exact ⟨rfl, OZ.out⟩
theorem law_all (A : Option Addr) (c : Nat) (l : List ByteArray) (w : World) (hc : l.length ≤ c) (hr : Kd.C Kd.string w A l.length l) :
    Calls Try.prog 12 #[.slice A l.length c] w fun e w' => e = .returned (.bool true) ∧ Below w.heap.size w w' := by
  cases hb : fewB l 64 40 with
  | true => exact all_main A c l w hc hr hb
  | false => exact all_few A c l w hr hb
end Go.Proofs.Ytondnammkcgjpaa.Ft
namespace Go.Proofs.YtondnammkcgjpaaOpens
open Go.ChangeShapes Go.WideShapes Go.Deep Go.Proofs.YtondnammkcgjpaaW.PrintWords

def Reads {α : Type} (d : Kd α) (P : Program) (e : TypeId) (Q : α → Prop) : Prop :=
  ∀ (H : Type) (enc : TypeId × Value → H) (w : World) (base : Nat) (spare : Nat → Bool) (held : Bool) (n : Nat) (cs : List Value) (x : DataW H × List MemPlace),
    DataW.trod enc P w base spare held n e cs = some x → ∃ a : α, d.K w a cs ∧ Q a

theorem reads_string {P : Program} {e : TypeId} (he : P.underlying e = some .string) : Reads Kd.string P e (fun s => s.size ≤ maxLen) := by
  intro H enc w base spare held n cs x h
  obtain ⟨m, rfl, _, hs⟩ := DataW.trod_string he h
  exact ⟨m, rfl, hs⟩
theorem collect {α : Type} (len : Nat) (R : Nat → α → Prop) (each : ∀ i, i < len → ∃ z, R i z) : ∃ xs : List α, xs.length = len ∧ ∀ i z, xs[i]? = some z → R i z := by
  induction len with
  | zero => exact ⟨[], rfl, fun i z hz => by cases hz⟩
  | succ len ih =>
    obtain ⟨xs, hxl, hxs⟩ := ih (fun i hil => each i (by omega))
    obtain ⟨z, hz⟩ := each len (by omega)
    refine ⟨xs ++ [z], by rw [List.length_append, hxl]; rfl, fun i y hy => ?_⟩
    by_cases hil : i < xs.length
    · rw [List.getElem?_append_left hil] at hy; exact hxs i y hy
    · rw [List.getElem?_append_right (by omega)] at hy
      obtain ⟨hj, rfl⟩ := List.getElem?_eq_some_iff.1 hy
      have : i = len := by simp at hj; omega
      subst this
      simpa using hz

theorem slice_row {α : Type} {d : Kd α} {P : Program} {t e : TypeId} {Q : α → Prop} (ht : P.underlying t = some (.slice e)) (hs : P.cellsOf e = d.sz) (h : Reads d P e Q)
    (H : Type) (enc : TypeId × Value → H) (w : World) (base : Nat) (spare : Nat → Bool) (held : Bool) (n : Nat) (cs : List Value) (x : DataW H × List MemPlace)
    (hx : DataW.trod enc P w base spare held n t cs = some x) : ∃ (A : Option Addr) (c : Nat) (xs : List α), cs = [.slice A xs.length c] ∧ xs.length ≤ c ∧ c ≤ maxLen ∧ d.C w A xs.length xs ∧ ∀ a ∈ xs, Q a := by
  rcases open_slice ht hx with ⟨rfl, _⟩ | ⟨a, len, cap, m, n', D, Pl, rfl, hb, hl, hm, hmm, _, hi⟩
  · exact ⟨none, 0, [], rfl, Nat.le_refl _, by decide, ⟨rfl, Nat.zero_le _, fun h0 => absurd h0 (Nat.lt_irrefl 0)⟩, fun a ha => by cases ha⟩
  · have hlm : len ≤ m := by rw [hmm]; split <;> omega
    have each : ∀ i, i < len → ∃ z : α, Q z ∧ ∃ c : List Value, c.length = d.sz ∧ d.K w z c ∧ ∀ j u, c[j]? = some u → w.cell? (a.add (i * d.sz + j)) = some u := by
      intro i hil
      obtain ⟨cs', hc, hy⟩ := hi i (by omega)
      rw [hs] at hc
      obtain ⟨z, hz, hq⟩ := h H enc w base spare held n' cs' _ hy
      obtain ⟨_, hcl, hat⟩ := World.cells?_some hc
      refine ⟨z, hq, cs', d.K_len hz, hz, fun j u hu => ?_⟩
      obtain ⟨hj, hu2⟩ := List.getElem?_eq_some_iff.1 hu
      have := hat j (by omega)
      rw [← Go.Deep.add_add, this]
      exact hu
    have hex := collect len _ each
    obtain ⟨xs, rfl, hxs⟩ := hex
    refine ⟨some a, cap, xs, rfl, hl, hm, ⟨rfl, by have : xs.length ≤ maxLen := by omega
                                                   unfold maxLen at this; exact this, fun _ => ⟨a, rfl, fun j p hp => (hxs j p hp).2⟩⟩, fun z hz => ?_⟩
    obtain ⟨i, hi2, rfl⟩ := List.mem_iff_getElem.1 hz
    exact (hxs i _ (List.getElem?_eq_getElem hi2)).1
theorem arg_slice {α : Type} {d : Kd α} {P : Program} {t e : TypeId} {Q : α → Prop} (ht : P.underlying t = some (.slice e)) (hs : P.cellsOf e = d.sz) (h : Reads d P e Q)
    {H : Type} {enc : TypeId × Value → H} {w : World} {base : Nat} {spare : Nat → Bool} {held : Bool} {r : Reach} {b0 : Nat} {v : Value} {dd : DataW H} {p : List MemPlace} (hv : Value.okWide P w r b0 t v) (hx : DataW.Trod enc P w base spare held t v dd p) :
    ∃ (A : Option Addr) (c : Nat) (xs : List α), v = .slice A xs.length c ∧ xs.length ≤ c ∧ c ≤ maxLen ∧ d.C w A xs.length xs ∧ ∀ a ∈ xs, Q a := by
  obtain ⟨a, len, cap, rfl⟩ := okWide_slice ht hv
  obtain ⟨fuel, hf⟩ := hx
  obtain ⟨A, c, xs, hcs, hl, hm, hC, hq⟩ := slice_row ht hs h H enc w base spare held fuel _ _ hf
  simp only [Value.cells, List.cons.injEq, and_true] at hcs
  exact ⟨A, c, xs, hcs, hl, hm, hC, hq⟩

end Go.Proofs.YtondnammkcgjpaaOpens
namespace Go.Proofs.Ytondnammkcgjpaa.fetchAll
open Go.ChangeShapes Go.WideShapes Go.ChangeAt Go.RowKit
open Go.ChangeMaps (open_string shut_string)
open Go.Proofs.Ytondnammkcgjpaa Go.Proofs.YtondnammkcgjpaaOpens Go.Proofs.YtondnammkcgjpaaW.PrintWords
theorem own : ownKnob Try.prog.godebug = none := by kernel_rfl
theorem laidOut : laidOutB Try.prog = true := by kernel_rfl
theorem lifted (os : Os) (started : os.Started) (H : Type) (enc : TypeId × Value → H) :
    ReturnsInHanded {} Try.checked os 12 .any (Rows.fetchAllSpec.pre6 enc Try.prog Try.f12 Rows.fetchAllRow.domain false) (Rows.fetchAllSpec.post enc Try.prog Try.f12 false true false false) := by
  refine returnsInHanded_of_change_sized (C := Try.checked) own started (by kernel_rfl) Try.func12
    (ChangeSpec.witness6 (enc := enc) (C := Try.checked) false ⟨#[], #[.slice none 0 0], []⟩ 8 (by kernel_rfl) (by kernel_rfl) (by kernel_rfl) (by kernel_rfl)) ?_
  intro W base args ds gs before hval0 hW hcnd hsz0 _
  have hsz : (DataW.weightsEach Try.prog (Try.f12.params.toList ++ Rows.fetchAllSpec.plain.varTypes Try.prog) (ds ++ gs)).all (· ≤ reachBytes) = true := hsz0
  have hval : ∀ (j : Nat) t v, Try.f12.params[j]? = some t → args[j]? = some v → Value.okWide Try.prog W .any base t v := hval0
  have hW' := hW
  obtain ⟨p, q, hA0, hV, rfl, hfz, hnd⟩ := hW
  have hA : DataW.TrodAll enc Try.prog W 0 (fun _ => true) true Try.f12.params.toList args.toList ds p := hA0
  rw [Try.params12] at hA hval hsz
  obtain ⟨v0, vs0, d0, ds0, p0, q0, hargs, rfl, rfl, h0, r0⟩ := trodAll_cons hA
  obtain ⟨rfl, rfl, rfl⟩ := trodAll_nil r0
  obtain rfl : args = #[v0] := by cases args; simp_all
  obtain ⟨rfl, rfl⟩ := trodVars_none hV
  have k0 := h0
  have lt0 : ∀ x ∈ p0, x.block < W.heap.size := by obtain ⟨m, hm⟩ := k0; exact DataW.trod_lt m _ _ _ hm
  obtain ⟨A0, c0, l0, rfl, hl0, hm0, hC0, hq0⟩ := arg_slice Try.underlying22 (by kernel_rfl) (reads_string Try.underlying9) (hval 0 22 v0 rfl rfl) h0
  clear hA0 hval0 hsz0 hsz
  refine (Go.Proofs.Ytondnammkcgjpaa.Ft.law_all A0 c0 l0 W hl0 hC0).mono fun e W' ⟨he, bel⟩ => ?_
  subst he
  exact ⟨_, rfl, _, _, _, [], _, [], hW', trodAll_mk1 (shut_bool Try.underlying4 _), (trodAll_cons_mk (Below.trod laidOut (by kernel_rfl) (of_decide_eq_true (by kernel_rfl)) k0 bel lt0) trodAll_mk0), rfl, bel.frame _, fun h => by cases h⟩
theorem over : Rows.fetchAllRow.holds Try.pinned (OpenSpec.ofChange Rows.fetchAllSpec) :=
  OpenClaim.holds_of_wide 12 Try.f12 rfl rfl rfl rfl rfl rfl rfl ⟨rfl, rfl, rfl, rfl, rfl⟩ rfl rfl rfl rfl rfl (by kernel_rfl) Try.func12 (by kernel_rfl)
    (of_decide_eq_true (by kernel_rfl)) (by unfold Func.isWrapper; first | (rw [if_pos (by decide +kernel)]; kernel_rfl) | (rw [if_neg (by decide +kernel)]; exact ⟨rfl, rfl⟩))
    (fun os started H enc _ => lifted os started H enc)
theorem proved : Rows.FetchAllSaid := over
#print axioms proved
end Go.Proofs.Ytondnammkcgjpaa.fetchAll
namespace Go.Proofs.Ytondnammkcgjpaa
theorem fetchAll_holds : Rows.FetchAllSaid := fetchAll.proved
end Go.Proofs.Ytondnammkcgjpaa
