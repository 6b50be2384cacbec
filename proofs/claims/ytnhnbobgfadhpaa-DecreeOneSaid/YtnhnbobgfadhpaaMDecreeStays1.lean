/- Here is proved: what the law DecreeStays answers. Conditions: none. -/
import Derived.Test.YtnhnbobgfadhpaaMDecreeStill1
import Derived.Test.YtnhnbobgfadhpaaRows
import Derived.Test.YtnhnbobgfadhpaaMDecreeEnds5
import Derived.WalkKit
import Derived.ProofKit
import Derived.OpenShut
import Derived.ShutString
import Derived.ChangeOld
import Derived.Below
import Derived.SizedLaws
namespace Go.Proofs.Ytnhnbobgfadhpaa.Dec
open Go Go.RowKit Go.Shelf Go.Proofs.YtnhnbobgfadhpaaW.PrintWords Go.Proofs.YtnhnbobgfadhpaaW.PrintLast Go.Proofs.YtnhnbobgfadhpaaW.PrintMore Go.Proofs.Ytnhnbobgfadhpaa.Mp
set_option linter.unusedVariables false
set_option linter.unusedSimpArgs false
/-- as Rel; the blocks of S are none of the place's, and are as they were in w9 -/
structure RelX (w W : World) (g n k : Nat) (d : D) (w9 : World) (S : Nat → Prop) : Prop where
  ex : ∃ L, IsD w.heap.size W g L d ∧ ∀ b, S b → ¬ Foot L g b
  below : Below w.heap.size w W
  wf : Wf n d
  re : Reached n k d
  n0 : 0 < n
  n5 : n ≤ 5
  lt : ∀ b, S b → b < W.heap.size
  keep : ∀ b, S b → W.heap[b]? = w9.heap[b]?
variable {w W W1 w9 : World} {g n k q : Nat} {d : D} {S : Nat → Prop}
theorem RelX.rel (h : RelX w W g n k d w9 S) : Rel w W g n k d := ⟨h.ex.elim fun L h => ⟨L, h.1⟩, h.below, h.wf, h.re, h.n0, h.n5⟩
theorem do_x (h : RelX w W g n k d w9 S) (s : St) (hk : k ≤ 10000) :
    Calls Try.prog 9 #[.pointer (some ⟨g, 0, none⟩), .agg #[.int .i64 s.kd, .int .i64 s.who, .int .i64 s.n, .string s.val]] W fun e w' => e = .returned (.tuple #[]) ∧ RelX w w' g n (k + 1) (doD d s) w9 S := by
  obtain ⟨L, hI, hS⟩ := h.ex
  have h1 := h.re.lt
  have h2 : k * n ≤ 10000 * 5 := Nat.mul_le_mul hk h.n5
  have h3 := h.re.ch
  have h5 := h.n5
  refine (do_c s W hI h.below (by rw [h.wf.n0]; exact h.wf) (by rw [h.wf.n0]; exact h.n0) (by omega) (by omega)).mono ?_
  rintro e w' ⟨rfl, L', hI', hT⟩
  refine ⟨rfl, ⟨L', hI', fun b hb hf => ?_⟩, below_of_turn h.below hT hI, h.wf.step h.n0 (by omega) s, h.re.step h.n0 (by omega) s, h.n0, h.n5, fun b hb => Nat.lt_of_lt_of_le (h.lt b hb) hT.size, fun b hb => (hT.keep b (h.lt b hb) (hS b hb)).trans (h.keep b hb)⟩
  rcases hT.foot b hf with q | q
  · exact hS b hb q
  · have := h.lt b hb; omega
/-- the blocks of a row that is not empty -/
def rowS (A : Option Addr) (m : Nat) (b : Nat) : Prop := 0 < m ∧ ∃ ad, A = some ad ∧ b = ad.block
theorem been_x (h : Rel w W g n k d) (hk : k ≤ 10000) : Calls Try.prog 12 #[.pointer (some ⟨g, 0, none⟩)] W fun e w' =>
    ∃ A m c ks, e = .returned (.slice A m c) ∧ (beenOf d ks).length = m ∧ Keys d ks ∧ RelX w w' g n k d w' (rowS A m) ∧ Kd.C Kd.string w' A m (beenOf d ks) := by
  obtain ⟨L, hI⟩ := h.ex
  refine (been_c sortedOK d 80008 W hI (h.keys hk) (by omega) h.wf.tk).mono ?_
  rintro e w' ⟨v, ks, rfl, hks, hr, hB⟩
  obtain ⟨A, c, ev, hc, hC⟩ := Kd.R_reads hr
  subst ev
  have h' := h.to hB
  refine ⟨A, _, c, ks, rfl, rfl, hks, ⟨⟨L, hI.below hB, fun b hb hf => ?_⟩, h'.below, h'.wf, h'.re, h'.n0, h'.n5, fun b hb => ?_, fun b _ => rfl⟩, hC⟩
  · obtain ⟨h0, ad, rfl, rfl⟩ := hb
    obtain ⟨gl, cp, e2, _⟩ := Kd.R_form hr h0
    injection e2 with e2 _ _
    cases e2
    have h1 := Kd.R_base hr gl rfl
    have h2 := hI.foot_lt gl hf
    omega
  · obtain ⟨h0, ad, rfl, rfl⟩ := hb
    obtain ⟨ad', e, hx⟩ := Kd.at_string hC (0 : Int) (by omega) (by omega)
    cases e
    have := World.block_lt_of_cell? _ _ hx
    simpa [Addr.add] using this
set_option maxRecDepth 100000 in
set_option maxHeartbeats 4000000 in
theorem stays_long (A A' : Option Addr) (c c' : Nat) (l l' : List (Int × Int × Int × ByteArray)) (n : Int) (w : World) (hl : 150 < l.length ∨ 150 < l'.length) :
    Calls Try.prog 4 #[.int .i64 n, .slice A l.length c, .slice A' l'.length c'] w fun e w' => e = .returned (.bool true) ∧ Below w.heap.size w w' := by
  obtain ⟨m, hm⟩ : ∃ m, l.length = m := ⟨_, rfl⟩
  obtain ⟨m', hm'⟩ : ∃ m, l'.length = m := ⟨_, rfl⟩
  rw [hm, hm'] at hl ⊢
  clear hm hm'
  have HB := Aside0.mk (Below.refl w.heap.size w)
  by_cases h1 : 150 < m
  · have hli : (150 : Int) < (m : Int) := by omega
    clear hl h1
    go_enter Try.func4, Try.ntmps4
    go_wp2_with (go_at_call 7; go_loud ((with_reducible refine (aw_b HB.out).mono ?_); clear HB; rintro e w1 ⟨rfl, hB⟩; have HB := Aside0.mk hB; clear hB))
    go_ret
    exact ⟨rfl, HB.out⟩
  · have hli : (m : Int) ≤ 150 := by omega
    have hli' : (150 : Int) < (m' : Int) := by omega
    clear hl h1
    go_enter Try.func4, Try.ntmps4
    go_wp2_with (go_at_call 7; go_loud ((with_reducible refine (aw_b HB.out).mono ?_); clear HB; rintro e w1 ⟨rfl, hB⟩; have HB := Aside0.mk hB; clear hB))
    go_ret
    exact ⟨rfl, HB.out⟩
theorem rdS_at (l : List ByteArray) (k : Nat) (h : k < l.length) : rdOf ByteArray.empty l (k : Int) = l[k] := by
  unfold rdOf
  rw [Int.toNat_natCast, List.getD_eq_getElem?_getD, List.getElem?_eq_getElem h]; rfl
theorem wf_run {n : Nat} (h0 : 0 < n) (h8 : n ≤ 8) : ∀ (l : List St) (d : D), Wf n d → Wf n (runS d l)
  | [], d, h => h
  | s :: l, d, h => wf_run h0 h8 l (doD d s) (h.step h0 h8 s)
set_option maxRecDepth 100000 in
set_option maxHeartbeats 8000000 in
theorem stays_short (A A' : Option Addr) (c c' : Nat) (l l' : List (Int × Int × Int × ByteArray)) (n : Int) (w : World) (hl : l.length ≤ 150) (hl' : l'.length ≤ 150) (hr : Kd.C KT w A l.length l) (hr' : Kd.C KT w A' l'.length l') :
    Calls Try.prog 4 #[.int .i64 n, .slice A l.length c, .slice A' l'.length c'] w fun e w' => e = .returned (.bool true) ∧ Below w.heap.size w w' := by
  obtain ⟨m, hm⟩ : ∃ m, l.length = m := ⟨_, rfl⟩
  obtain ⟨m', hm'⟩ : ∃ m, l'.length = m := ⟨_, rfl⟩
  rw [hm] at hl hr
  rw [hm'] at hl' hr'
  rw [hm, hm']
  have hli : (m : Int) ≤ 150 := by omega
  have hli' : (m' : Int) ≤ 150 := by omega
  have HM := Aside0.mk hm
  have HM' := Aside0.mk hm'
  have HR := Aside0.mk hr
  have HR' := Aside0.mk hr'
  clear hm hl hr hm' hl' hr'
  have HB := Aside0.mk (Below.refl w.heap.size w)
  go_enter Try.func4, Try.ntmps4
  go_wp2_with (first
    | (go_at_call 7; go_loud ((with_reducible refine (aw_b HB.out).mono ?_); clear HB; rintro e w1 ⟨rfl, hB⟩; have HB := Aside0.mk hB; clear hB))
    | (go_at_call 8; go_loud ((with_reducible refine (new_r n w1).mono ?_); rintro e w2 ⟨g, rfl, hR⟩; have H0 := Aside0.mk hR; clear hR)))
  go_loopw [8] (fun v8 wr => ∃ k : Nat, v8 = .int .i64 k ∧ k ≤ m ∧ Aside0 (Rel w1 wr g (nn n) k (runS (newD (nn n)) ((l.take k).map toSt)))) (fun v8 _ => m - (Go.RowKit.intOf v8).toNat)
  case atStart => exact ⟨0, rfl, Nat.zero_le _, ⟨H0.out⟩⟩
  case round =>
    clear H0
    obtain ⟨k, rfl, hk, HK⟩ := hrel
    by_cases hkm : k < m
    · have hki : (k : Int) < (m : Int) := by omega
      obtain ⟨x, hx⟩ : ∃ x, l[k]? = some x := ⟨_, List.getElem?_eq_getElem (by have := HM.out; omega)⟩
      obtain ⟨ad, rfl, e0, e1, e2, e3⟩ := kt_elem (Kd.C_below HR.out (below_step HB.out HK.out.below)) hx
      rw [add_more ad (k * 4) 0] at e1
      rw [add_more ad (k * 4) 1] at e2
      rw [add_more ad (k * 4) 2] at e3
      have HN := Aside0.mk (run_more hx (newD (nn n)))
      have HD := Aside0.mk (do_r HK.out ⟨x.1, x.2.1, x.2.2.1, x.2.2.2⟩ (by omega))
      obtain ⟨x0, x1, x2, x3⟩ := x
      clear hx
      go_wp2_with (go_at_call 9; go_loud ((with_reducible refine HD.out.mono ?_); rintro e w3 ⟨rfl, hR⟩; have H3 := Aside0.mk hR; clear hR))
      go_roundw
      case rel => exact ⟨k + 1, by go_num, by omega, ⟨by have h := H3.out; rw [show doD (runS (newD (nn n)) ((l.take k).map toSt)) ⟨x0, x1, x2, x3⟩ = _ from HN.out] at h; exact h⟩⟩
      case measure => simp [Go.RowKit.intOf]; omega
    · have hki : ¬ (k : Int) < (m : Int) := by omega
      have hk150 : k ≤ 150 := by omega
      generalize runS (newD (nn n)) ((l.take k).map toSt) = d at *
      have HBE := Aside0.mk (been_x HK.out (by omega))
      have HRE := Aside0.mk HK.out.re
      have HN0 := Aside0.mk HK.out.n0
      have HN5 := Aside0.mk HK.out.n5
      clear hkm HK
      go_wp2_with (go_at_call 12; go_loud ((with_reducible refine HBE.out.mono ?_); rintro e w9 ⟨A9, m9, c9, ks, rfl, hm9, hks, hX, hC9⟩; have HM9 := Aside0.mk hm9; have HKS := Aside0.mk hks; have HX := Aside0.mk hX; have HC9 := Aside0.mk hC9; clear hm9 hks hX hC9))
      clear HBE
      go_loopw [10] (fun v10 wr => ∃ i : Nat, v10 = .int .i64 i ∧ i ≤ m' ∧ Aside0 (RelX w1 wr g (nn n) (k + i) (runS d ((l'.take i).map toSt)) w9 (rowS A9 m9))) (fun v10 _ => m' - (Go.RowKit.intOf v10).toNat)
      case atStart => exact ⟨0, rfl, Nat.zero_le _, ⟨HX.out⟩⟩
      case round =>
        clear HX
        obtain ⟨i, rfl, hi, HK⟩ := hrel
        by_cases him : i < m'
        · have hii : (i : Int) < (m' : Int) := by omega
          obtain ⟨x, hx⟩ : ∃ x, l'[i]? = some x := ⟨_, List.getElem?_eq_getElem (by have := HM'.out; omega)⟩
          obtain ⟨ad, rfl, e0, e1, e2, e3⟩ := kt_elem (Kd.C_below HR'.out (below_step HB.out HK.out.below)) hx
          rw [add_more ad (i * 4) 0] at e1
          rw [add_more ad (i * 4) 1] at e2
          rw [add_more ad (i * 4) 2] at e3
          have HN := Aside0.mk (run_more hx d)
          have HD := Aside0.mk (do_x HK.out ⟨x.1, x.2.1, x.2.2.1, x.2.2.2⟩ (by omega))
          obtain ⟨x0, x1, x2, x3⟩ := x
          clear hx
          go_wp2_with (go_at_call 9; go_loud ((with_reducible refine HD.out.mono ?_); rintro e w3 ⟨rfl, hR⟩; have H3 := Aside0.mk hR; clear hR))
          go_roundw
          case rel => exact ⟨i + 1, by go_num, by omega, ⟨by have h := H3.out; rw [show doD (runS d ((l'.take i).map toSt)) ⟨x0, x1, x2, x3⟩ = _ from HN.out] at h; exact h⟩⟩
          case measure => simp [Go.RowKit.intOf]; omega
        · have hii : ¬ (i : Int) < (m' : Int) := by omega
          have HST := Aside0.mk (fun ks' hk' => stays HN0.out (by have := HN5.out; omega) HRE.out ((l'.take i).map toSt) (ks' := ks') HKS.out hk')
          generalize runS d ((l'.take i).map toSt) = d2 at *
          have HBE := Aside0.mk (been_r HK.out.rel (by omega))
          have HK9 := Aside0.mk (fun b hb => (⟨HK.out.keep b hb, HK.out.lt b hb⟩ : _ ∧ _))
          clear him HK
          go_wp2_with (go_at_call 12; go_loud ((with_reducible refine HBE.out.mono ?_); rintro e w8 ⟨A8, m8, c8, ks8, rfl, hm8, hks8, hR8, hC8, hB8⟩; have HM8 := Aside0.mk hm8; have HKS8 := Aside0.mk hks8; have H8 := Aside0.mk hR8; have HC8 := Aside0.mk hC8; have HB8 := Aside0.mk hB8; obtain ⟨hle, hst⟩ := HST.out ks8 hks8; have hlei : ¬ (m8 : Int) < (m9 : Int) := (by rw [← hm8]; have := HM9.out; omega); have HSS := Aside0.mk hst; clear hm8 hks8 hR8 hC8 hB8 hle hst))
          have HW8 : Aside0 (∀ b, rowS A9 m9 b → w8.heap[b]? = w9.heap[b]? ∧ b < w8.heap.size) := ⟨fun b hb => ⟨(HB8.out.block b (HK9.out b hb).2).trans (HK9.out b hb).1, Nat.lt_of_lt_of_le (HK9.out b hb).2 HB8.out.size⟩⟩
          have h8i : (m8 : Int) ≤ 100000000000 := by have h1 := been_len_le d2 ks8; have h2 := keys_len d2 80008 (H8.out.keys (by omega)) ks8 HKS8.out.1 (fun k hk => (HKS8.out.2 k).1 hk); have := HM8.out; omega
          clear HBE HK9 HB8 HST
          go_loopw [12] (fun v12 wr => ∃ j : Nat, v12 = .int .i64 j ∧ j ≤ m8 ∧ Aside0 (Below w8.heap.size w8 wr)) (fun v12 _ => m8 - (Go.RowKit.intOf v12).toNat)
          case atStart => exact ⟨0, rfl, Nat.zero_le _, ⟨Below.refl _ _⟩⟩
          case round =>
            obtain ⟨j, rfl, hj, HBj⟩ := hrel
            by_cases hjm : j < m8
            · have hji : (j : Int) < (m8 : Int) := by omega
              by_cases h9 : 0 < m9
              · have h9i : (0 : Int) < (m9 : Int) := by omega
                obtain ⟨ad8, e, hx8⟩ := Kd.at_string (Kd.C_below HC8.out HBj.out) (j : Int) (by omega) hji
                cases e
                obtain ⟨ad9, e, hx9⟩ := Kd.at_string HC9.out (0 : Int) (by omega) h9i
                cases e
                have hl8 : j < (beenOf d2 ks8).length := by rw [HM8.out]; exact hjm
                have hl9 : 0 < (beenOf d ks).length := by rw [HM9.out]; exact h9
                rw [rdS_at _ j hl8, Int.toNat_natCast] at hx8
                rw [show (0 : Int) = ((0 : Nat) : Int) from rfl, rdS_at _ 0 hl9, Int.toNat_natCast] at hx9
                rw [HSS.out _ _ (List.getElem_mem hl9) (List.getElem_mem hl8)] at hx8
                have hb9 := HW8.out ad9.block ⟨h9, ad9, rfl, rfl⟩
                have hy9 : wr.cell? (ad9.add 0) = some (.string (beenOf d ks)[0]) := by
                  rw [← hx9]
                  unfold World.cell?
                  rw [show (ad9.add 0).block = ad9.block from rfl, (HBj.out.block _ hb9.2).trans hb9.1]
                have hz9 : wr.cell? ad9 = some (.string (beenOf d ks)[0]) := hy9
                have HBD := Aside0.mk HBj.out.drew
                generalize (beenOf d ks)[0] = str at *
                clear hx9 hl8 hl9 hb9 hjm h9
                go_wp2_with fail
                go_quiet (fail)
                go_wp2
                go_roundw
                case rel => exact ⟨j + 1, by go_num, by omega, ⟨pw_below_drewN HBj.out _⟩⟩
                case measure => simp [Go.RowKit.intOf]; omega
              · obtain rfl : m9 = 0 := by omega
                go_wp2
                go_ret
                exact ⟨rfl, below_step HB.out (below_step H8.out.below HBj.out)⟩
            · have hji : ¬ (j : Int) < (m8 : Int) := by omega
              go_wp2
              go_ret
              exact ⟨rfl, below_step HB.out (below_step H8.out.below HBj.out)⟩
theorem law_stays (A A' : Option Addr) (c c' : Nat) (l l' : List (Int × Int × Int × ByteArray)) (n : Int) (w : World) (hr : Kd.C KT w A l.length l) (hr' : Kd.C KT w A' l'.length l') :
    Calls Try.prog 4 #[.int .i64 n, .slice A l.length c, .slice A' l'.length c'] w fun e w' => e = .returned (.bool true) ∧ Below w.heap.size w w' := by
  by_cases hl : l.length ≤ 150 ∧ l'.length ≤ 150
  · exact stays_short A A' c c' l l' n w hl.1 hl.2 hr hr'
  · exact stays_long A A' c c' l l' n w (by omega)
end Go.Proofs.Ytnhnbobgfadhpaa.Dec
namespace Go.Proofs.Ytnhnbobgfadhpaa.decreeStays
open Go.ChangeShapes Go.WideShapes Go.ChangeAt Go.RowKit
open Go.ChangeMaps (open_string shut_string)
open Go.Proofs.Ytnhnbobgfadhpaa Go.Proofs.YtnhnbobgfadhpaaOpens Go.Proofs.YtnhnbobgfadhpaaW.PrintWords
set_option linter.unusedVariables false
theorem own : ownKnob Try.prog.godebug = none := by kernel_rfl
theorem laidOut : laidOutB Try.prog = true := by kernel_rfl
set_option maxRecDepth 100000 in
theorem lifted (os : Os) (started : os.Started) (H : Type) (enc : TypeId × Value → H) :
    ReturnsInHanded {} Try.checked os 4 .any (Rows.decreeStaysSpec.pre6 enc Try.prog Try.f4 Rows.decreeStaysRow.domain false) (Rows.decreeStaysSpec.post enc Try.prog Try.f4 false true false false) := by
  refine returnsInHanded_of_change_sized (C := Try.checked) own started (by kernel_rfl) Try.func4
    (ChangeSpec.witness6 (enc := enc) (C := Try.checked) false ⟨#[], #[.int .i64 0, .slice none 0 0, .slice none 0 0], []⟩ 8 (by kernel_rfl) (by kernel_rfl) (by kernel_rfl) (by kernel_rfl)) ?_
  intro W base args ds gs before hval0 hW hcnd hsz0 _
  have hsz : (DataW.weightsEach Try.prog (Try.f4.params.toList ++ Rows.decreeStaysSpec.plain.varTypes Try.prog) (ds ++ gs)).all (· ≤ reachBytes) = true := hsz0
  have hval : ∀ (j : Nat) t v, Try.f4.params[j]? = some t → args[j]? = some v → Value.okWide Try.prog W .any base t v := hval0
  have hW' := hW
  obtain ⟨p, q, hA0, hV, rfl, hfz, hnd⟩ := hW
  have hA : DataW.TrodAll enc Try.prog W 0 (fun _ => true) true Try.f4.params.toList args.toList ds p := hA0
  rw [Try.params4] at hA hval hsz
  obtain ⟨v0, vs0, d0, ds0, p0, q0, hargs, rfl, rfl, h0, r0⟩ := trodAll_cons hA
  obtain ⟨v1, vs1, d1, ds1, p1, q1, rfl, rfl, rfl, h1, r1⟩ := trodAll_cons r0
  obtain ⟨v2, vs2, d2, ds2, p2, q2, rfl, rfl, rfl, h2, r2⟩ := trodAll_cons r1
  obtain ⟨rfl, rfl, rfl⟩ := trodAll_nil r2
  obtain rfl : args = #[v0, v1, v2] := by cases args; simp_all
  obtain ⟨rfl, rfl⟩ := trodVars_none hV
  obtain ⟨a0, rfl, rfl, rfl, w0⟩ := open_int Try.underlying3 (hval 0 3 v0 rfl rfl) h0
  have k1 := h1
  have lt1 : ∀ x ∈ p1, x.block < W.heap.size := by obtain ⟨m, hm⟩ := k1; exact DataW.trod_lt m _ _ _ hm
  obtain ⟨A1, c1, l1, rfl, hl1, hm1, hC1, hq1⟩ := arg_slice Try.underlying22 (by kernel_rfl) (reads_struct Try.underlying28 (by kernel_rfl) (fs_cons (reads_int Try.underlying3) (by kernel_rfl) rfl (by decide) (fs_cons (reads_int Try.underlying3) (by kernel_rfl) rfl (by decide) (fs_cons (reads_int Try.underlying3) (by kernel_rfl) rfl (by decide) (fs_last (reads_string Try.underlying9) (by kernel_rfl) rfl))))) (hval 1 22 v1 rfl rfl) h1
  have k2 := h2
  have lt2 : ∀ x ∈ p2, x.block < W.heap.size := by obtain ⟨m, hm⟩ := k2; exact DataW.trod_lt m _ _ _ hm
  obtain ⟨A2, c2, l2, rfl, hl2, hm2, hC2, hq2⟩ := arg_slice Try.underlying22 (by kernel_rfl) (reads_struct Try.underlying28 (by kernel_rfl) (fs_cons (reads_int Try.underlying3) (by kernel_rfl) rfl (by decide) (fs_cons (reads_int Try.underlying3) (by kernel_rfl) rfl (by decide) (fs_cons (reads_int Try.underlying3) (by kernel_rfl) rfl (by decide) (fs_last (reads_string Try.underlying9) (by kernel_rfl) rfl))))) (hval 2 22 v2 rfl rfl) h2
  clear hA0 hval0 hsz0 hsz
  refine (Go.Proofs.Ytnhnbobgfadhpaa.Dec.law_stays A1 A2 c1 c2 l1 l2 a0 W hC1 hC2).mono fun e W' ⟨he, bel⟩ => ?_
  subst he
  exact ⟨_, rfl, _, _, _, [], _, [], hW', trodAll_mk1 (shut_bool Try.underlying4 _), (trodAll_cons_mk (shut_int Try.underlying3 w0) (trodAll_cons_mk (Below.trod laidOut (by kernel_rfl) (of_decide_eq_true (by kernel_rfl)) k1 bel lt1) (trodAll_cons_mk (Below.trod laidOut (by kernel_rfl) (of_decide_eq_true (by kernel_rfl)) k2 bel lt2) trodAll_mk0))), rfl, bel.frame _, fun h => by cases h⟩
theorem over : Rows.decreeStaysRow.holds Try.pinned (OpenSpec.ofChange Rows.decreeStaysSpec) :=
  OpenClaim.holds_of_wide 4 Try.f4 rfl rfl rfl rfl rfl rfl rfl ⟨rfl, rfl, rfl, rfl, rfl⟩ rfl rfl rfl rfl rfl (by kernel_rfl) Try.func4 (by kernel_rfl)
    (of_decide_eq_true (by kernel_rfl)) (by unfold Func.isWrapper; first | (rw [if_pos (by decide +kernel)]; kernel_rfl) | (rw [if_neg (by decide +kernel)]; exact ⟨rfl, rfl⟩))
    (fun os started H enc _ => lifted os started H enc)
theorem proved : Rows.DecreeStaysSaid := over
#print axioms proved
end Go.Proofs.Ytnhnbobgfadhpaa.decreeStays
namespace Go.Proofs.Ytnhnbobgfadhpaa
/-- The row, under a short name, for the claim. -/
theorem decreeStays_holds : Rows.DecreeStaysSaid := decreeStays.proved
end Go.Proofs.Ytnhnbobgfadhpaa
