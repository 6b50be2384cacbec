/- Here is proved: what the law DecreeOne answers. Conditions: none. -/
import Derived.Test.YtnhnbobgfadhpaaMDecreeStays1
import Derived.Test.YtnhnbobgfadhpaaRows
import Derived.Test.YtnhnbobgfadhpaaMDecreeEnds5
import Derived.WalkKit
import Derived.ProofKit
import Derived.OpenShut
import Derived.ShutString
import Derived.ChangeOld
import Derived.Below
import Derived.SizedLaws
namespace Go.Proofs.Ytnhnbobgfadhpaa.Dec
open Go Go.RowKit Go.Shelf Go.Proofs.YtnhnbobgfadhpaaW.PrintWords Go.Proofs.YtnhnbobgfadhpaaW.PrintLast Go.Proofs.YtnhnbobgfadhpaaW.PrintMore Go.Proofs.Ytnhnbobgfadhpaa.Mp
set_option linter.unusedVariables false
set_option linter.unusedSimpArgs false
variable {w W W1 : World} {g n k q : Nat} {d : D}
theorem toListB {a b : ByteArray} (h : a.toList = b.toList) : a = b := by
  rw [ByteArray.toList_eq, ByteArray.toList_eq] at h
  cases a
  cases b
  congr 1
  exact Array.toList_inj.1 h
theorem cho_x (h : Rel w W g n k d) (hk : k ≤ 10000) : Calls Try.prog 11 #[.pointer (some ⟨g, 0, none⟩)] W fun e w' => ∃ A m c, e = .returned (.slice A m c) ∧ d.ch.length = m ∧ Kd.C Kd.string w' A m d.ch ∧ Below W.heap.size W w' := by
  obtain ⟨L, hI⟩ := h.ex
  refine (chosen_c W hI (by have := h.re.ch; omega)).mono ?_
  rintro e w' ⟨v, rfl, hr, hB⟩
  obtain ⟨A, c, ev, _, hC⟩ := Kd.R_reads hr
  subst ev
  exact ⟨A, _, c, rfl, rfl, hC, hB⟩
theorem beg_x (h : Rel w W g n k d) (hk : k ≤ 10000) : Calls Try.prog 13 #[.pointer (some ⟨g, 0, none⟩)] W fun e w' => ∃ A m c, e = .returned (.slice A m c) ∧ d.bg.length = m ∧ Kd.C Kd.string w' A m d.bg ∧ Below W.heap.size W w' := by
  obtain ⟨L, hI⟩ := h.ex
  refine (begun_c W hI (by have := h.re.bg; omega)).mono ?_
  rintro e w' ⟨v, rfl, hr, hB⟩
  obtain ⟨A, c, ev, _, hC⟩ := Kd.R_reads hr
  subst ev
  exact ⟨A, _, c, rfl, rfl, hC, hB⟩
set_option maxRecDepth 100000 in
set_option maxHeartbeats 4000000 in
theorem one_long (A : Option Addr) (c : Nat) (l : List (Int × Int × Int × ByteArray)) (n : Int) (w : World) (hl : 300 < l.length) :
    Calls Try.prog 5 #[.int .i64 n, .slice A l.length c] w fun e w' => e = .returned (.bool true) ∧ Below w.heap.size w w' := by
  obtain ⟨m, hm⟩ : ∃ m, l.length = m := ⟨_, rfl⟩
  rw [hm] at hl ⊢
  have hli : (300 : Int) < (m : Int) := by omega
  clear hm hl
  have HB := Aside0.mk (Below.refl w.heap.size w)
  go_enter Try.func5, Try.ntmps5
  go_wp2_with (go_at_call 7; go_loud ((with_reducible refine (aw_b HB.out).mono ?_); clear HB; rintro e w1 ⟨rfl, hB⟩; have HB := Aside0.mk hB; clear hB))
  go_ret
  exact ⟨rfl, HB.out⟩
set_option maxRecDepth 100000 in
set_option maxHeartbeats 8000000 in
theorem one_short (A : Option Addr) (c : Nat) (l : List (Int × Int × Int × ByteArray)) (n : Int) (w : World) (hl : l.length ≤ 300) (hr : Kd.C KT w A l.length l) :
    Calls Try.prog 5 #[.int .i64 n, .slice A l.length c] w fun e w' => e = .returned (.bool true) ∧ Below w.heap.size w w' := by
  obtain ⟨m, hm⟩ : ∃ m, l.length = m := ⟨_, rfl⟩
  rw [hm] at hl hr
  rw [hm]
  have hli : (m : Int) ≤ 300 := by omega
  have HM := Aside0.mk hm
  have HR := Aside0.mk hr
  clear hm hl hr
  have HB := Aside0.mk (Below.refl w.heap.size w)
  go_enter Try.func5, Try.ntmps5
  go_wp2_with (first
    | (go_at_call 7; go_loud ((with_reducible refine (aw_b HB.out).mono ?_); clear HB; rintro e w1 ⟨rfl, hB⟩; have HB := Aside0.mk hB; clear hB))
    | (go_at_call 8; go_loud ((with_reducible refine (new_r n w1).mono ?_); rintro e w2 ⟨g, rfl, hR⟩; have H0 := Aside0.mk hR; clear hR)))
  go_loopw [6] (fun v8 wr => ∃ k : Nat, v8 = .int .i64 k ∧ k ≤ m ∧ Aside0 (Rel w1 wr g (nn n) k (runS (newD (nn n)) ((l.take k).map toSt)))) (fun v8 _ => m - (Go.RowKit.intOf v8).toNat)
  case atStart => exact ⟨0, rfl, Nat.zero_le _, ⟨H0.out⟩⟩
  case round =>
    clear H0
    obtain ⟨k, rfl, hk, HK⟩ := hrel
    by_cases hkm : k < m
    · have hki : (k : Int) < (m : Int) := by omega
      obtain ⟨x, hx⟩ : ∃ x, l[k]? = some x := ⟨_, List.getElem?_eq_getElem (by have := HM.out; omega)⟩
      obtain ⟨ad, rfl, e0, e1, e2, e3⟩ := kt_elem (Kd.C_below HR.out (below_step HB.out HK.out.below)) hx
      rw [add_more ad (k * 4) 0] at e1
      rw [add_more ad (k * 4) 1] at e2
      rw [add_more ad (k * 4) 2] at e3
      have HN := Aside0.mk (run_more hx (newD (nn n)))
      have HD := Aside0.mk (do_r HK.out ⟨x.1, x.2.1, x.2.2.1, x.2.2.2⟩ (by omega))
      obtain ⟨x0, x1, x2, x3⟩ := x
      clear hx
      go_wp2_with (go_at_call 9; go_loud ((with_reducible refine HD.out.mono ?_); rintro e w3 ⟨rfl, hR⟩; have H3 := Aside0.mk hR; clear hR))
      go_roundw
      case rel => exact ⟨k + 1, by go_num, by omega, ⟨by have h := H3.out; rw [show doD (runS (newD (nn n)) ((l.take k).map toSt)) ⟨x0, x1, x2, x3⟩ = _ from HN.out] at h; exact h⟩⟩
      case measure => simp [Go.RowKit.intOf]; omega
    · have hki : ¬ (k : Int) < (m : Int) := by omega
      have hk300 : k ≤ 300 := by omega
      generalize runS (newD (nn n)) ((l.take k).map toSt) = d at *
      have HBR := Aside0.mk (Below.refl wr.heap.size wr)
      clear hkm
      go_wp2_with (first
        | ((with_reducible refine gate_dst (N := 33) rfl ?_); refine Kd.R_lit Kd.string (w0 := wr) wr.heap.size 9 rfl (N := 33) rfl (xs := []) (inner := []) (ok := fun _ => True) (okp := fun _ => True) (by first | (go_simp; done) | (go_simp; rfl)) (Reps.none _ _) (fun _ _ => trivial) trivial HBR.out (below_size HBR.out) (by decide) ?_; intro v3 w3 hr3 hb3 hg3 hat3; have B3 := Aside0.mk hb3; have R3 := Aside0.mk hr3; obtain ⟨A3, c3, rfl⟩ := Kd.R_slice hr3; have HCH := Aside0.mk (cho_x (HK.out.to hb3) (by omega)); clear hb3 hg3 hat3 hr3)
        | (go_at_call 11; go_loud ((with_reducible refine HCH.out.mono ?_); rintro e w4 ⟨A4, m4, c4, rfl, hm4, hC4, hB4⟩; have M4 := Aside0.mk hm4; have C4 := Aside0.mk hC4; have B4 := Aside0.mk (below_step B3.out hB4); have R4 := Aside0.mk (Kd.R_below R3.out hB4); clear hm4 hC4 hB4))
        | ((with_reducible refine gate_builtin (b := .append) (xs := #[.tmp 33, .tmp 35]) rfl ?_); at_builtin; refine Kd.R_append_row (P := Try.prog) Value.string (⟨#[]⟩ : ByteArray) (w0 := wr) wr.heap.size rfl (.tmp 33) (.tmp 35) 30 9 (.string ⟨#[]⟩) 16 rfl Try.underlying30 info_str rfl (by decide) _ [] d.ch A4 m4 c4 (fun _ => True) rfl rfl (fun _ _ => trivial) R4.out C4.out B4.out (below_size B4.out) (by have := HK.out.re.ch; have := M4.out; simp only [List.length_nil]; omega) ?_; intro v5 w5 hr5 hb5 hg5 hat5; have R5 := Aside0.mk hr5; have B5 := Aside0.mk hb5; have HBE := Aside0.mk (been_r (HK.out.to hb5) (by omega)); clear hr5 hb5 hg5 hat5)
        | (go_at_call 12; go_loud ((with_reducible refine HBE.out.mono ?_); rintro e w6 ⟨A6, m6, c6, ks, rfl, hm6, hks, hR6, hC6, hB6⟩; have M6 := Aside0.mk hm6; have KS := Aside0.mk hks; have C6 := Aside0.mk hC6; have B6 := Aside0.mk (below_step B5.out hB6); have R6 := Aside0.mk (Kd.R_below R5.out hB6); clear hm6 hks hR6 hC6 hB6))
        | ((with_reducible refine gate_builtin (b := .append) (xs := #[.tmp 36, .tmp 38]) rfl ?_); at_builtin; refine Kd.R_append_row (P := Try.prog) Value.string (⟨#[]⟩ : ByteArray) (w0 := wr) wr.heap.size rfl (.tmp 36) (.tmp 38) 30 9 (.string ⟨#[]⟩) 16 rfl Try.underlying30 info_str rfl (by decide) _ ([] ++ d.ch) (beenOf d ks) A6 m6 c6 (fun _ => True) rfl rfl (fun _ _ => trivial) R6.out C6.out B6.out (below_size B6.out) (by have h0 := HK.out.re.ch; have h1 := been_len_le d ks; have h2 := keys_len d 80008 (HK.out.keys (by omega)) ks KS.out.1 (fun k hk => (KS.out.2 k).1 hk); have := M6.out; simp only [List.nil_append]; omega) ?_; intro v7 w7 hr7 hb7 hg7 hat7; have R7 := Aside0.mk hr7; have B7 := Aside0.mk hb7; clear hr7 hb7 hg7 hat7; obtain ⟨A7, c7, ev7, _, hC7⟩ := Kd.R_reads R7.out; obtain ⟨q, hq⟩ : ∃ q, ([] ++ d.ch ++ beenOf d ks).length = q := ⟨_, rfl⟩; rw [hq] at ev7 hC7; have HQ := Aside0.mk hq; subst ev7; have C7 := Aside0.mk hC7; clear hC7 hq))
      have HONE := Aside0.mk (HK.out.re.inv.elim fun V hV => hV.all_one KS.out)
      have HKK := Aside0.mk HK.out
      have HPOS := Aside0.mk (fun ks' hk' => (stays HK.out.n0 (by have := HK.out.n5; omega) HK.out.re [] (ks' := ks') KS.out hk').1)
      obtain ⟨al, hal⟩ : ∃ al, [] ++ d.ch ++ beenOf d ks = al := ⟨_, rfl⟩
      have HAL := Aside0.mk (show d.ch ++ beenOf d ks = al by rw [← hal, List.nil_append])
      rw [HAL.out] at HONE
      rw [hal] at C7 HQ
      have hqb : al.length ≤ 1000000 := by
        have h0 := HK.out.re.ch
        have h1 := been_len_le d ks
        have h2 := keys_len d 80008 (HK.out.keys (by omega)) ks KS.out.1 (fun k hk => (KS.out.2 k).1 hk)
        rw [← HAL.out, List.length_append]; omega
      rw [HQ.out] at hqb
      have hqi : (q : Int) ≤ 1000000 := by omega
      clear hal R3 R4 R5 R6 R7 C4 C6 B3 B4 B5 B6 HCH HBE M4 M6 HBR HK hqb
      go_loopw [8] (fun v8 wr' => ∃ j : Nat, v8 = .int .i64 j ∧ 1 ≤ j ∧ j ≤ q + 1 ∧ Aside0 (Below w7.heap.size w7 wr')) (fun v8 _ => q + 1 - (Go.RowKit.intOf v8).toNat)
      case atStart => exact ⟨1, rfl, Nat.le_refl _, by omega, ⟨Below.refl _ _⟩⟩
      case round =>
        obtain ⟨j, rfl, hj1, hj2, HBj⟩ := hrel
        by_cases hjq : j < q
        · have hji : (j : Int) < (q : Int) := by omega
          have h0i : (0 : Int) < (q : Int) := by omega
          obtain ⟨ad, e, hx⟩ := Kd.at_string (Kd.C_below C7.out HBj.out) (j : Int) (by omega) hji
          cases e
          obtain ⟨ad2, e, hy⟩ := Kd.at_string (Kd.C_below C7.out HBj.out) (0 : Int) (by omega) h0i
          cases e
          have hl : j < al.length := by rw [HQ.out]; exact hjq
          have hl0 : 0 < al.length := by omega
          rw [rdS_at _ j hl, Int.toNat_natCast] at hx
          rw [show (0 : Int) = ((0 : Nat) : Int) from rfl, rdS_at _ 0 hl0, Int.toNat_natCast] at hy
          rw [HONE.out.1 _ _ (List.getElem_mem hl) (List.getElem_mem hl0)] at hx
          have hz9 : wr.cell? ad = some (.string al[0]) := hy
          generalize al[0] = str at *
          clear hl hl0 hjq
          go_wp2_with fail
          go_quiet (fail)
          go_wp2
          go_roundw
          case rel => exact ⟨j + 1, by go_num, by omega, by omega, ⟨pw_below_drewN HBj.out _⟩⟩
          case measure => simp [Go.RowKit.intOf]; omega
        · have hji : ¬ (j : Int) < (q : Int) := by omega
          have HKX := Aside0.mk (HKK.out.to (below_step B7.out HBj.out))
          have CX := Aside0.mk (Kd.C_below C7.out HBj.out)
          clear hjq HBj B7 C7
          by_cases hq0 : q = 0
          · subst hq0
            go_wp2
            go_ret
            exact ⟨rfl, below_step HB.out HKX.out.below⟩
          · have hqz : ((q : Int) == 0) = false := beq_eq_false_iff_ne.2 (by omega)
            have HBG := Aside0.mk (beg_x HKX.out (by omega))
            go_wp2_with (go_at_call 13; go_loud ((with_reducible refine HBG.out.mono ?_); rintro e wb ⟨Ab, mb, cb, rfl, hmb, hCb, hBb⟩; have MB := Aside0.mk hmb; have CB := Aside0.mk hCb; have HKB := Aside0.mk (HKX.out.to hBb); have CA := Aside0.mk (Kd.C_below CX.out hBb); clear hmb hCb hBb))
            have h0i : (0 : Int) < (q : Int) := by omega
            have hl0 : 0 < al.length := by rw [HQ.out]; omega
            have hal0 := HONE.out.2 _ (List.getElem_mem hl0)
            have HA0 := Aside0.mk hal0
            have hmbi : (mb : Int) ≤ 10000 := by rw [← MB.out]; have := HKB.out.re.bg; omega
            go_loopw [10] (fun v10 wr' => ∃ i : Nat, v10 = .int .i64 i ∧ i ≤ mb ∧ Aside0 (∀ i' (h : i' < d.bg.length), i' < i → d.bg[i'] ≠ al[0]) ∧ Aside0 (Below wb.heap.size wb wr')) (fun v10 _ => mb - (Go.RowKit.intOf v10).toNat)
            case atStart => exact ⟨0, rfl, Nat.zero_le _, ⟨fun i' h h2 => absurd h2 (Nat.not_lt_zero _)⟩, ⟨Below.refl _ _⟩⟩
            case round =>
              obtain ⟨i, rfl, hi, HNE, HBi⟩ := hrel
              by_cases him : i < mb
              · have hii : (i : Int) < (mb : Int) := by omega
                obtain ⟨adb, e, hx⟩ := Kd.at_string (Kd.C_below CB.out HBi.out) (i : Int) (by omega) hii
                cases e
                obtain ⟨ad2, e, hy⟩ := Kd.at_string (Kd.C_below CA.out HBi.out) (0 : Int) (by omega) h0i
                cases e
                have hl : i < d.bg.length := by rw [MB.out]; exact him
                rw [rdS_at _ i hl, Int.toNat_natCast] at hx
                rw [show (0 : Int) = ((0 : Nat) : Int) from rfl, rdS_at _ 0 hl0, Int.toNat_natCast] at hy
                have hz9 : wr.cell? ad2 = some (.string al[0]) := hy
                by_cases heq : d.bg[i] = al[0]
                · rw [heq] at hx
                  have HBE := Aside0.mk (fun W hB => been_r (HKB.out.to (W1 := W) hB) (by omega))
                  have HBI2 := Aside0.mk HBi.out
                  generalize al[0] = str at *
                  clear hl hl0 heq him hal0
                  go_wp2_with fail
                  go_quiet (fail)
                  go_wp2_with (go_at_call 12; go_loud ((with_reducible refine (HBE.out _ (pw_below_drewN HBI2.out _)).mono ?_); rintro e w8 ⟨A8, m8, c8, ks8, rfl, hm8, hks8, hR8, _, _⟩; have H8 := Aside0.mk hR8; have h8i : (0 : Int) < (m8 : Int) := (by have h1 := HPOS.out ks8 hks8; have h2 := List.length_pos_iff.2 HA0.out.2; rw [← hm8]; have h3 : (beenOf (runS d []) ks8).length = (beenOf d ks8).length := rfl; omega); clear hm8 hks8 hR8))
                  go_ret
                  exact ⟨congrArg (fun b => Ending.returned (Value.bool b)) (decide_eq_true (show 0 < m8 by omega)), below_step HB.out H8.out.below⟩
                · have HNE2 : Aside0 (∀ i' (h : i' < d.bg.length), i' < i + 1 → d.bg[i'] ≠ al[0]) := ⟨fun i' h h2 => by
                    rcases Nat.lt_succ_iff_lt_or_eq.1 h2 with q | q
                    · exact HNE.out i' h q
                    · subst q; exact heq⟩
                  have h3c : (d.bg[i].toList == al[0].toList) = false := beq_eq_false_iff_ne.2 (fun e => heq (toListB e))
                  generalize d.bg[i] = s1 at *
                  generalize al[0] = s2 at *
                  clear hl hl0 him hal0 heq HNE
                  go_wp2_with fail
                  go_quiet (fail)
                  go_wp2
                  go_roundw
                  case rel => exact ⟨i + 1, by go_num, by omega, HNE2, ⟨pw_below_drewN HBi.out _⟩⟩
                  case measure => simp [Go.RowKit.intOf]; omega
              · exfalso
                obtain ⟨i', hi', e⟩ := List.getElem_of_mem hal0.1
                exact HNE.out i' hi' (by have := MB.out; omega) e
theorem law_one (A : Option Addr) (c : Nat) (l : List (Int × Int × Int × ByteArray)) (n : Int) (w : World) (hr : Kd.C KT w A l.length l) :
    Calls Try.prog 5 #[.int .i64 n, .slice A l.length c] w fun e w' => e = .returned (.bool true) ∧ Below w.heap.size w w' := by
  by_cases hl : l.length ≤ 300
  · exact one_short A c l n w hl hr
  · exact one_long A c l n w (by omega)
end Go.Proofs.Ytnhnbobgfadhpaa.Dec
namespace Go.Proofs.Ytnhnbobgfadhpaa.decreeOne
open Go.ChangeShapes Go.WideShapes Go.ChangeAt Go.RowKit
open Go.ChangeMaps (open_string shut_string)
open Go.Proofs.Ytnhnbobgfadhpaa Go.Proofs.YtnhnbobgfadhpaaOpens Go.Proofs.YtnhnbobgfadhpaaW.PrintWords
set_option linter.unusedVariables false
theorem own : ownKnob Try.prog.godebug = none := by kernel_rfl
theorem laidOut : laidOutB Try.prog = true := by kernel_rfl
set_option maxRecDepth 100000 in
theorem lifted (os : Os) (started : os.Started) (H : Type) (enc : TypeId × Value → H) :
    ReturnsInHanded {} Try.checked os 5 .any (Rows.decreeOneSpec.pre6 enc Try.prog Try.f5 Rows.decreeOneRow.domain false) (Rows.decreeOneSpec.post enc Try.prog Try.f5 false true false false) := by
  refine returnsInHanded_of_change_sized (C := Try.checked) own started (by kernel_rfl) Try.func5
    (ChangeSpec.witness6 (enc := enc) (C := Try.checked) false ⟨#[], #[.int .i64 0, .slice none 0 0], []⟩ 8 (by kernel_rfl) (by kernel_rfl) (by kernel_rfl) (by kernel_rfl)) ?_
  intro W base args ds gs before hval0 hW hcnd hsz0 _
  have hsz : (DataW.weightsEach Try.prog (Try.f5.params.toList ++ Rows.decreeOneSpec.plain.varTypes Try.prog) (ds ++ gs)).all (· ≤ reachBytes) = true := hsz0
  have hval : ∀ (j : Nat) t v, Try.f5.params[j]? = some t → args[j]? = some v → Value.okWide Try.prog W .any base t v := hval0
  have hW' := hW
  obtain ⟨p, q, hA0, hV, rfl, hfz, hnd⟩ := hW
  have hA : DataW.TrodAll enc Try.prog W 0 (fun _ => true) true Try.f5.params.toList args.toList ds p := hA0
  rw [Try.params5] at hA hval hsz
  obtain ⟨v0, vs0, d0, ds0, p0, q0, hargs, rfl, rfl, h0, r0⟩ := trodAll_cons hA
  obtain ⟨v1, vs1, d1, ds1, p1, q1, rfl, rfl, rfl, h1, r1⟩ := trodAll_cons r0
  obtain ⟨rfl, rfl, rfl⟩ := trodAll_nil r1
  obtain rfl : args = #[v0, v1] := by cases args; simp_all
  obtain ⟨rfl, rfl⟩ := trodVars_none hV
  obtain ⟨a0, rfl, rfl, rfl, w0⟩ := open_int Try.underlying3 (hval 0 3 v0 rfl rfl) h0
  have k1 := h1
  have lt1 : ∀ x ∈ p1, x.block < W.heap.size := by obtain ⟨m, hm⟩ := k1; exact DataW.trod_lt m _ _ _ hm
  obtain ⟨A1, c1, l1, rfl, hl1, hm1, hC1, hq1⟩ := arg_slice Try.underlying22 (by kernel_rfl) (reads_struct Try.underlying28 (by kernel_rfl) (fs_cons (reads_int Try.underlying3) (by kernel_rfl) rfl (by decide) (fs_cons (reads_int Try.underlying3) (by kernel_rfl) rfl (by decide) (fs_cons (reads_int Try.underlying3) (by kernel_rfl) rfl (by decide) (fs_last (reads_string Try.underlying9) (by kernel_rfl) rfl))))) (hval 1 22 v1 rfl rfl) h1
  clear hA0 hval0 hsz0 hsz
  refine (Go.Proofs.Ytnhnbobgfadhpaa.Dec.law_one A1 c1 l1 a0 W hC1).mono fun e W' ⟨he, bel⟩ => ?_
  subst he
  exact ⟨_, rfl, _, _, _, [], _, [], hW', trodAll_mk1 (shut_bool Try.underlying4 _), (trodAll_cons_mk (shut_int Try.underlying3 w0) (trodAll_cons_mk (Below.trod laidOut (by kernel_rfl) (of_decide_eq_true (by kernel_rfl)) k1 bel lt1) trodAll_mk0)), rfl, bel.frame _, fun h => by cases h⟩
theorem over : Rows.decreeOneRow.holds Try.pinned (OpenSpec.ofChange Rows.decreeOneSpec) :=
  OpenClaim.holds_of_wide 5 Try.f5 rfl rfl rfl rfl rfl rfl rfl ⟨rfl, rfl, rfl, rfl, rfl⟩ rfl rfl rfl rfl rfl (by kernel_rfl) Try.func5 (by kernel_rfl)
    (of_decide_eq_true (by kernel_rfl)) (by unfold Func.isWrapper; first | (rw [if_pos (by decide +kernel)]; kernel_rfl) | (rw [if_neg (by decide +kernel)]; exact ⟨rfl, rfl⟩))
    (fun os started H enc _ => lifted os started H enc)
theorem proved : Rows.DecreeOneSaid := over
#print axioms proved
end Go.Proofs.Ytnhnbobgfadhpaa.decreeOne
namespace Go.Proofs.Ytnhnbobgfadhpaa
/-- The row, under a short name, for the claim. -/
theorem decreeOne_holds : Rows.DecreeOneSaid := decreeOne.proved
end Go.Proofs.Ytnhnbobgfadhpaa
