import Derived.Test.YtolapikiflodfaaRef01b
import Derived.Test.YtolapikiflodfaaBytes
import Derived.Deep.RegionHeld3
namespace Go.Proofs.Ytolapikiflodfaa.Ref01
open Go Go.RowKit Go.Proofs.YtolapikiflodfaaW.PrintWords Go.Proofs.YtolapikiflodfaaW.PrintLast Go.Proofs.YtolapikiflodfaaW.PrintMore
/-- a text's bytes -/
def bsF (s : ByteArray) : List Int := s.data.toList.map fun b => (b.toNat : Int)
theorem bsF_len (s : ByteArray) : (bsF s).length = s.size := by simp [bsF]
abbrev u8L (xs : List Int) : List Value := xs.map (Value.int .u8)
def lenV : Value → Nat | .slice _ n _ => n | _ => 0
/-- how many zeros -/
def padN (n : Nat) : Nat := (120 - n % 64) % 64
def lv (L : Nat) : Nat → Nat
  | 0 => L
  | d + 1 => lv L d / 256
theorem lv_le (L d : Nat) : lv L d ≤ L := by
  induction d with
  | zero => exact Nat.le_refl _
  | succ d ih => exact Nat.le_trans (Nat.div_le_self _ _) ih
def pad (s : ByteArray) (k : Nat) : List Int := bsF s ++ [128] ++ List.replicate k 0
theorem pad_len (s : ByteArray) (k : Nat) : (pad s k).length = s.size + 1 + k := by simp [pad, bsF_len]; omega
theorem pad_succ (s : ByteArray) (k : Nat) : pad s (k + 1) = pad s k ++ [0] := by simp [pad, List.replicate_succ']
def lenB (L : Nat) : Nat → List Int
  | 0 => []
  | i + 1 => lenB L i ++ [((lv L (7 - i) % 256 : Nat) : Int)]
theorem lenB_len (L i : Nat) : (lenB L i).length = i := by
  induction i with
  | zero => rfl
  | succ i ih => simp [lenB, ih]
theorem info5 : (Try.prog.info? 5).map (fun i => (i.zero, i.size, i.bytes)) = some (some (.int .u8 0), 1, 1) := by kernel_rfl
theorem bytes_slice {w : World} {base n : Nat} {v : Value} {xs : List Value} (h : Mem.Bytes w base 5 v n xs) : ∃ A c, v = .slice A n c := by
  rcases h with ⟨_, ⟨rfl, rfl⟩ | ⟨g, cap, _, rfl, _⟩⟩ | ⟨_, g, cap, _, rfl, _⟩
  · exact ⟨_, _, rfl⟩
  · exact ⟨_, _, rfl⟩
  · exact ⟨_, _, rfl⟩
theorem bytes_len {w : World} {base n m : Nat} {v : Value} {xs ys : List Value} (h : Mem.Bytes w base 5 v n xs) (hn : n = m) (hx : xs = ys) : Mem.Bytes w base 5 v m ys := by subst hn; subst hx; exact h
theorem lit_cell (W : World) (u : Value) (t : TypeId) : (W.alloc (.cells #[u] t)).cell? ⟨W.heap.size, 0, none⟩ = some u := (blk_cell (blk_new _ _) 0).trans rfl
theorem bytes_alloc {w : World} {base n : Nat} {v : Value} {xs : List Value} (h : Mem.Bytes w base 5 v n xs) (o : Obj) : Mem.Bytes (w.alloc o) base 5 v n xs := h.below ((Below.refl _ _).alloc (Nat.le_refl _) _)
theorem u8_one (xs : List Int) (x : Int) : u8L xs ++ [Value.int .u8 x] = u8L (xs ++ [x]) := by simp
theorem start_below (w : World) (s : ByteArray) (o : Obj) : Below w.heap.size w ((Lib.bytesWorld w 5 s).alloc o) := (Lib.bytesWorld_below w 5 s).alloc (Lib.bytesWorld_below w 5 s).size o
theorem u8L_get (xs : List Int) (j : Nat) (h : j < xs.length) : (u8L xs)[j]? = some (.int .u8 (xs.getD j 0)) := by
  rw [List.getElem?_map, List.getElem?_eq_getElem h, List.getD_eq_getElem?_getD, List.getElem?_eq_getElem h]; rfl
def hsF (ms : List Int) : Nat → List Int
  | 0 => hF
  | k + 1 => blockF kF (hsF ms k) (ms.drop (64 * k))
theorem hsF_len (ms : List Int) (k : Nat) : (hsF ms k).length = 8 := by
  induction k with
  | zero => rfl
  | succ k ih => rw [hsF, blockF, sumW_len, ih]
theorem conv4 (W : World) (x0 x1 x2 x3 : Int) : (convert 161 9 (.slice (some ⟨W.heap.size, 0, none⟩) 4 4)).run Try.prog (W.alloc (.cells #[.int .u8 x0, .int .u8 x1, .int .u8 x2, .int .u8 x3] 5)).drew = .ok (.string (strOfNums [x0, x1, x2, x3])) (W.alloc (.cells #[.int .u8 x0, .int .u8 x1, .int .u8 x2, .int .u8 x3] 5)).drew :=
  own_string (base := W.heap.size) (e' := 5) (n := 4) (xs := [x0, x1, x2, x3]) Try.underlying161 Try.underlying5 Try.underlying9 (show (W.alloc _).ownsRow _ _ _ _ _ _ from World.ownsRow_lit W #[.int .u8 x0, .int .u8 x1, .int .u8 x2, .int .u8 x3] 4 (Nat.le_refl _) (by decide) rfl)
def msgF (s : ByteArray) : List Int := pad s (padN (s.size + 1)) ++ lenB (s.size * 8) 8
theorem blk8 {kx hx bs : List Int} (h : hx.length = 8) : (arrV (blockF kx hx bs)).size = 8 := by rw [arrV_size, blockF, sumW_len, h]
/-- a word's four bytes, as the walk has them -/
def w4 (a : Int) : List Int := [IntKind.u64.wrap (a.tdiv 16777216) % 256, (IntKind.u64.wrap (a.tdiv 65536)).tmod 256 % 256, (IntKind.u64.wrap (a.tdiv 256)).tmod 256 % 256, a.tmod 256 % 256]
def by4 (a : Int) : ByteArray := strOfNums (w4 a)
def outF (h : List Int) : Nat → ByteArray
  | 0 => ⟨#[]⟩
  | i + 1 => outF h i ++ by4 (h.getD i 0)
theorem outF_size (h : List Int) (i : Nat) : (outF h i).size = 4 * i := by
  induction i with
  | zero => rfl
  | succ i ih => rw [outF, ByteArray.size_append, ih]; show 4 * i + 4 = _; omega
/-- the digest of a text -/
def sumF (s : ByteArray) : ByteArray := outF (hsF (msgF s) ((s.size + 1 + padN (s.size + 1) + 8) / 64)) 8
theorem add_at (g q j : Nat) : (⟨g, q, none⟩ : Addr).add j = ⟨g, q + j, none⟩ := by unfold Addr.add; split <;> simp_all
set_option maxRecDepth 100000 in
set_option maxHeartbeats 8000000 in
theorem sum_c (s : ByteArray) (hs : s.size ≤ 1000000000) (w : World) :
    Calls Try.prog 83 #[.string s] w fun e w' => e = .returned (.string (sumF s)) ∧ Below w.heap.size w w' := by
  have hs3 : s.size ≤ maxLen := by unfold maxLen; omega
  have kc := fun (W : World) => Lib.run_convert_string_bytes (P := Try.prog) W 9 161 5 s Try.underlying9 Try.underlying161 Try.underlying5
  have kcv := conv4
  have HS3 := Lib.hid hs3
  have HM1 := Lib.hid (show s.size + 1 ≤ maxLen by unfold maxLen; omega)
  clear hs3
  go_enter Try.func83, Try.ntmps83
  go_wp2_with (first
    | ((with_reducible refine gate_dst (N := 16) rfl ?_); refine Mem.wpList_append_bytes _ rfl (.tmp 14) (.tmp 15) 161 rfl w.heap.size 5 (.int .u8 0) 1 Try.underlying161 info5 rfl rfl (bytes_alloc (Mem.Bytes.of_string w 5 s w.heap.size (Nat.le_refl _) HS3.out) _) ⟨(Lib.bytesWorld w 5 s).heap.size, 0, none⟩ 1 (.int .u8 128) rfl (lit_cell _ _ _) rfl HM1.out (by omega) (start_below w s _).size ?_; intro v1 w1 hb1 hg1 hat1 hbl1; have OW := Aside0.mk (Mem.Own.of_below ((start_below w s _).trans hbl1)); have BO := Aside0.mk (bytes_len hb1 (m := s.size + 1 + 0) rfl (ys := u8L (pad s 0)) (by simp [pad, bsF])); obtain ⟨A1, c1, rfl⟩ := bytes_slice hb1; clear hb1 hg1 hat1 hbl1))
  clear kc HM1
  go_loopw [3] (fun v3 wr => ∃ k A c, v3 = .slice A (s.size + 1 + k) c ∧ k ≤ padN (s.size + 1) ∧ Aside0 (Mem.Bytes wr w.heap.size 5 v3 (s.size + 1 + k) (u8L (pad s k))) ∧ Aside0 (Mem.Own w wr [])) (fun v _ => s.size + 1 + padN (s.size + 1) - lenV v)
  case atStart => exact ⟨0, A1, c1, rfl, Nat.zero_le _, BO, OW⟩
  case round =>
    clear BO OW
    obtain ⟨k, A, c, rfl, hk, BO, OW⟩ := hrel
    have HP := Aside0.mk (show padN (s.size + 1) ≤ 63 ∧ (k < padN (s.size + 1) → (s.size + 1 + k) % 64 ≠ 56) ∧ (k = padN (s.size + 1) → (s.size + 1 + k) % 64 = 56) from by unfold padN at hk ⊢; omega)
    have HK := Aside0.mk hk
    clear hk
    obtain ⟨N, hN⟩ : ∃ N, s.size + 1 + k = N := ⟨_, rfl⟩
    have HN := Aside0.mk hN
    rw [hN] at BO HP
    rw [hN]
    clear hN
    by_cases hlt : k < padN (s.size + 1)
    · have ht : (((N : Int) % 64) != 56) = true := by
        have := HP.out.2.1 hlt
        rw [bne_iff_ne]; omega
      have HLT := Aside0.mk hlt
      clear hlt
      have HM := Aside0.mk (show N + 1 ≤ maxLen by have := HN.out; have := HP.out.1; have := HLT.out; unfold maxLen; omega)
      have HB := Aside0.mk (show (N + 1) * 1 ≤ 140737488355328 by have := HN.out; have := HP.out.1; have := HLT.out; omega)
      go_wp2_with (first
        | ((with_reducible refine gate_dst (N := 23) rfl ?_); refine Mem.wpList_append_bytes _ rfl (.tmp 21) (.tmp 22) 161 rfl w.heap.size 5 (.int .u8 0) 1 Try.underlying161 info5 rfl rfl (bytes_alloc BO.out _) ⟨wr.heap.size, 0, none⟩ 1 (.int .u8 0) rfl (lit_cell _ _ _) rfl HM.out HB.out (OW.out.below.alloc OW.out.size _).size ?_; intro v1 w1 hb1 hg1 hat1 hbl1; have O2 := Aside0.mk (Mem.Own.of_below ((OW.out.below.alloc OW.out.size _).trans hbl1)); have B2 := Aside0.mk hb1; obtain ⟨A2, c2, rfl⟩ := bytes_slice hb1; clear hb1 hg1 hat1 hbl1))
      refine ⟨⟨k + 1, A2, c2, ?_, ?_, ?_, O2⟩, ?_⟩
      · rw [← HN.out]; rfl
      · have := HLT.out; omega
      · exact ⟨bytes_len B2.out (by rw [← HN.out]; rfl) (by rw [pad_succ, u8_one])⟩
      · have := HN.out; have := HLT.out; simp only [lenV]; omega
    · obtain rfl : k = padN (s.size + 1) := by have := HK.out; omega
      have ht : (((N : Int) % 64) != 56) = false := by
        have := HP.out.2.2 rfl
        rw [bne_eq_false_iff_eq]; omega
      have HP2 := Aside0.mk (HP.out.2.2 rfl)
      go_wp2_with fail
      have HP3 := Aside0.mk HP.out.1
      clear HP ht hlt HK
      obtain ⟨L, hL⟩ : ∃ L : Nat, L = s.size * 8 := ⟨_, rfl⟩
      have hL2 : (s.size : Int) * 8 = (L : Int) := by omega
      rw [hL2]
      have HL := Aside0.mk hL
      clear hL hL2
      go_loopw [3, 5] (fun v3 v5 wr => ∃ (i : Nat) (A : Option Addr) (c : Nat), v5 = .int .i64 i ∧ v3 = .slice A (N + i) c ∧ i ≤ 8 ∧ Aside0 (Mem.Bytes wr w.heap.size 5 v3 (N + i) (u8L (pad s (padN (s.size + 1)) ++ lenB L i))) ∧ Aside0 (Mem.Own w wr [])) (fun _ v _ => 8 - (intOf v).toNat)
      case atStart => exact ⟨0, A, c, rfl, rfl, Nat.zero_le _, ⟨bytes_len BO.out rfl (by simp [lenB])⟩, OW⟩
      case round =>
        clear BO OW
        obtain ⟨i, A, c, rfl, rfl, hi, BO, OW⟩ := hrel
        by_cases hlt : i < 8
        · have hi7 : i ≤ 7 := by omega
          go_wp2_with fail
          go_loop [6, 7] (fun v6 v7 => ∃ j : Nat, v7 = .int .i64 j ∧ i ≤ j ∧ j ≤ 7 ∧ v6 = .int .u64 ((lv L (j - i) : Nat) : Int)) (fun _ v => 7 - (intOf v).toNat)
          case atStart => exact ⟨i, rfl, Nat.le_refl _, hi7, by rw [Nat.sub_self]; rfl⟩
          case round =>
            obtain ⟨j, rfl, hij, hj7, rfl⟩ := hrel
            by_cases hjt : j < 7
            · have HX := Aside0.mk (show lv L (j + 1 - i) = lv L (j - i) / 256 from by rw [show j + 1 - i = (j - i) + 1 by omega]; rfl)
              obtain ⟨X, hX⟩ : ∃ X, lv L (j - i) = X := ⟨_, rfl⟩
              have hXL : (X : Int) ≤ 8000000000 := by have := lv_le L (j - i); have := HL.out; omega
              rw [hX] at HX ⊢
              clear hX
              go_wp2_with fail
              exact ⟨⟨j + 1, by go_num, by omega, by omega, by rw [HX.out]; rfl⟩, by simp [intOf]; omega⟩
            · obtain rfl : j = 7 := by omega
              have HX := Aside0.mk (show lenB L (i + 1) = lenB L i ++ [((lv L (7 - i) % 256 : Nat) : Int)] from rfl)
              obtain ⟨X, hX⟩ : ∃ X, lv L (7 - i) = X := ⟨_, rfl⟩
              rw [hX] at HX ⊢
              clear hX
              have HM := Aside0.mk (show N + i + 1 ≤ maxLen by have := HN.out; have := HP3.out; unfold maxLen; omega)
              have HB := Aside0.mk (show (N + i + 1) * 1 ≤ 140737488355328 by have := HN.out; have := HP3.out; omega)
              go_wp2_with (first
                | ((with_reducible refine gate_dst (N := 45) rfl ?_); refine Mem.wpList_append_bytes _ rfl (.tmp 40) (.tmp 44) 161 rfl w.heap.size 5 (.int .u8 0) 1 Try.underlying161 info5 rfl rfl (bytes_alloc BO.out _) ⟨wr.heap.size, 0, none⟩ 1 (.int .u8 ((X : Int) % 256)) rfl (lit_cell _ _ _) rfl HM.out HB.out (OW.out.below.alloc OW.out.size _).size ?_; intro v1 w1 hb1 hg1 hat1 hbl1; have O2 := Aside0.mk (Mem.Own.of_below ((OW.out.below.alloc OW.out.size _).trans hbl1)); have B2 := Aside0.mk hb1; obtain ⟨A2, c2, rfl⟩ := bytes_slice hb1; clear hb1 hg1 hat1 hbl1))
              exact ⟨⟨i + 1, A2, c2, by go_num, rfl, by omega, ⟨bytes_len B2.out rfl (by rw [u8_one, HX.out, List.append_assoc]; rfl)⟩, O2⟩, by simp [intOf]; omega⟩
        · obtain rfl : i = 8 := by omega
          have hT : (N + 8) % 64 = 0 := by have := HP2.out; omega
          obtain ⟨M, hM⟩ : ∃ M, N + 8 = 64 * M := ⟨(N + 8) / 64, by omega⟩
          have HM := Aside0.mk (And.intro hM hT)
          clear hM hT
          obtain ⟨g, cap, eb, hbase, hcap, hcm, hcell⟩ := BO.out.cell (by omega)
          injection eb with eA _ ec
          subst eA ec
          have HW := Aside0.mk OW.out.below
          have hml : (pad s (padN (s.size + 1)) ++ lenB L 8).length = N + 8 := by rw [List.length_append, pad_len, lenB_len, HN.out]
          obtain ⟨ms, hms⟩ : ∃ ms, pad s (padN (s.size + 1)) ++ lenB L 8 = ms := ⟨_, rfl⟩
          rw [hms] at hcell hml
          have HMS := Aside0.mk hms
          have CE := Aside0.mk (show ∀ j, j < N + 8 → wr.cell? ⟨g, j, none⟩ = some (.int .u8 (ms.getD j 0)) from fun j hj => hcell j _ (u8L_get ms j (by omega)))
          clear hms hml
          have LG := Aside0.mk hbase
          clear BO OW hcell hbase
          have OW := Aside0.mk (Mem.Own.nil wr)
          obtain ⟨w0, rfl⟩ : ∃ w0 : World, w0 = wr := ⟨_, rfl⟩
          
          unfold maxLen at hcm
          go_wp2_with (first
            | (go_at_call 110; refine (k_c _).mono ?_; rintro e W5 ⟨rfl, hbb⟩; have n_ := Aside0.mk (OW.out.step hbb); clear OW; have OW := n_; clear n_ hbb)
            | (go_at_call 111; refine (h_c _).mono ?_; rintro e W5 ⟨rfl, hbb⟩; have n_ := Aside0.mk (OW.out.step hbb); clear OW; have OW := n_; clear n_ hbb)
            | ((with_reducible refine gate_dst (N := 8) rfl ?_); refine box_event ?hg (N := 8) ?hd (cs := arrV z64) (t := 171) ?hr ?_; (case hd => rfl); (case hg => rfl); (case hr => first | (go_simp; done) | (go_simp; rfl)); intro gK hg W_ hb hbb; have n_ : Aside0 (Mem.Own w0 W_ [(gK, arrV z64, 171)]) := ⟨OW.out.new hg hb hbb⟩; clear OW hb hbb hg; have OW := n_; clear n_)
            | ((with_reducible refine gate_dst (N := 9) rfl ?_); refine box_event ?hg (N := 9) ?hd (cs := arrV z8) (t := 173) ?hr ?_; (case hd => rfl); (case hg => rfl); (case hr => first | (go_simp; done) | (go_simp; rfl)); intro gH hg W_ hb hbb; have n_ : Aside0 (Mem.Own w0 W_ [(gK, arrV kF, 171), (gH, arrV z8, 173)]) := ⟨OW.out.new hg hb hbb⟩; clear OW hb hbb hg; have OW := n_; clear n_)
            | ((with_reducible refine gate_store (t := 171) (p := 8) rfl ?_); refine wpList_store_row rfl 171 (.tmp 8) (.tmp 46) rfl gK (arrV kF) rfl rfl 171 _ (OW.out.blk 0 rfl) (by kernel_rfl) rfl (arrV_one _) ?_; have n_ : Aside0 (Mem.Own w0 (_) [(gK, arrV kF, 171)]) := ⟨OW.out.row 0 rfl (arrV kF)⟩; clear OW; have OW := n_; clear n_)
            | ((with_reducible refine gate_store (t := 173) (p := 9) rfl ?_); refine wpList_store_row rfl 173 (.tmp 9) (.tmp 47) rfl gH (arrV hF) rfl rfl 173 _ (OW.out.blk 1 rfl) (by kernel_rfl) rfl (arrV_one _) ?_; have n_ : Aside0 (Mem.Own w0 (_) [(gK, arrV kF, 171), (gH, arrV hF, 173)]) := ⟨OW.out.row 1 rfl (arrV hF)⟩; clear OW; have OW := n_; clear n_))
          obtain ⟨T, hT⟩ : ∃ T, N + 8 = T := ⟨_, rfl⟩
          rw [hT] at hcap CE ⊢
          have HT := Aside0.mk (show T = 64 * M from hT ▸ HM.out.1)
          have HT2 := Aside0.mk hT
          clear hT
          have LK := Aside0.mk (show kF.length = 64 from rfl)
          go_loopw [10] (fun v W => ∃ q k : Nat, v = .int .i64 q ∧ q = 64 * k ∧ k ≤ M ∧ Aside0 (Mem.Own w0 (W) [(gK, arrV kF, 171), (gH, arrV (hsF ms k), 173)])) (fun v _ => T - (intOf v).toNat)
          case atStart => exact ⟨0, 0, rfl, rfl, Nat.zero_le _, OW⟩
          case round =>
            clear OW
            obtain ⟨q, k, rfl, hq, hk, OW⟩ := hrel
            by_cases hlt : k < M
            · have q1 : q + 64 ≤ T := by have := HT.out; omega
              have hl8 := hsF_len ms k
              have sz8 : (arrV (hsF ms k)).size = 8 := (arrV_size _).trans hl8
              go_wp2_with fail
              have s1 : ((q : Int) + 64).toNat = q + 64 := by omega
              have s2 : (q : Int) + 64 ≤ (c : Int) := by omega
              have s3 : (0 : Int) ≤ (q : Int) + 64 := by omega
              have s4 : IntKind.i64.wrap ((q : Int) + 64) = (q : Int) + 64 := IntWalk.i64_in _ (by omega)
              have s6 : (q : Int) ≤ max ((q : Int) + 64) 0 := by omega
              have s7 : ¬ (c = q) := by omega
              have HQ := Aside0.mk (And.intro hq q1)
              clear hq
              refine Mem.region_still_tail 7 (by kernel_rfl) (by kernel_rfl) ?_
              intro W2 hW2
              have O2 : Aside0 (Mem.Own w0 (W2) [(gK, arrV kF, 171), (gH, arrV (hsF ms k), 173)]) := ⟨by rw [← hW2]; exact OW.out.drew⟩
              clear hW2 OW
              simp only [List.take_succ_cons, List.take_zero, List.drop_succ_cons, List.drop_zero]
              refine Mem.still_load_row rfl 171 (.tmp 8) rfl gK rfl 171 (arrV kF) (0, 0) _ (O2.out.blk 0 rfl) Try.underlying171 rfl (by kernel_rfl) ?_
              go_simp
              refine Mem.still_load_row rfl 173 (.tmp 9) rfl gH rfl 173 (arrV (hsF ms k)) (0, 0) _ (O2.out.blk 1 rfl) Try.underlying173 rfl (by rw [sz8]; kernel_rfl) ?_
              go_simp
              repeat still_step
              try refine wpStill_nil ?_
              clear s1 s2 s3 s4 s6 s7
              go_wp2_with (first
                | (go_at_call 112; refine (block_c kF (hsF ms k) (ms.drop q) LK.out hl8 ⟨g, q, none⟩ (c - q) W2 ?ha).mono ?_; (case ha => exact fun j hj => by rw [add_at]; exact O2.out.old ((CE.out (q + j) (by have := HQ.out.2; omega)).trans (by rw [List.getD_eq_getElem?_getD, List.getD_eq_getElem?_getD, List.getElem?_drop]))); rintro e W5 ⟨rfl, hbb⟩; have OW := Aside0.mk (O2.out.step hbb); clear hbb O2)
                | ((with_reducible refine gate_store (t := 173) (p := 9) rfl ?_); refine wpList_store_row rfl 173 (.tmp 9) (.tmp 61) rfl gH (arrV (blockF kF (hsF ms k) (ms.drop q))) rfl rfl 173 _ (OW.out.blk 1 rfl) (by rw [blk8 (hsF_len ms k)]; kernel_rfl) (by rw [sz8, blk8 (hsF_len ms k)]) (arrV_one _) ?_; have n_ : Aside0 (Mem.Own w0 (_) [(gK, arrV kF, 171), (gH, arrV (blockF kF (hsF ms k) (ms.drop q)), 173)]) := ⟨OW.out.row 1 rfl _⟩; clear OW; have OW := n_; clear n_))
              exact ⟨⟨q + 64, k + 1, by go_num, by have := HQ.out.1; omega, by omega, ⟨by rw [hsF, ← HQ.out.1]; exact OW.out⟩⟩, by have := HQ.out.2; simp [intOf]; omega⟩
            · obtain rfl : k = M := by omega
              have hq2 : ¬ q < T := by have := HT.out; omega
              have HQ := Aside0.mk hq
              clear hq hlt
              go_wp2_with fail
              clear hq2
              obtain ⟨hx, hhx⟩ : ∃ hx, hsF ms k = hx := ⟨_, rfl⟩
              have hxl : hx.length = 8 := hhx ▸ hsF_len ms k
              rw [hhx] at OW
              have HHX := Aside0.mk hhx
              clear hhx
              go_loopw [11, 12] (fun v11 v12 W => ∃ i : Nat, v12 = .int .i64 i ∧ i ≤ 8 ∧ v11 = .string (outF hx i) ∧ Aside0 (Mem.Own w0 (W) [(gK, arrV kF, 171), (gH, arrV hx, 173)])) (fun _ v _ => 8 - (intOf v).toNat)
              case atStart => exact ⟨0, rfl, Nat.zero_le _, rfl, OW⟩
              case round =>
                clear OW
                obtain ⟨i, rfl, hi, rfl, OW⟩ := hrel
                by_cases hlt : i < 8
                · obtain ⟨a, ha⟩ : ∃ a : Int, hx.getD i 0 = a := ⟨_, rfl⟩
                  go_wp2_with fail
                  have ca : wr.cell? ⟨gH, i, none⟩ = some (.int .u64 a) := ((OW.out.cell 1 rfl _).trans (arrV_get _ i (by omega))).trans (by rw [ha])
                  have HA := Aside0.mk (show outF hx (i + 1) = outF hx i ++ by4 a from by rw [outF, ha])
                  have hsz := outF_size hx i
                  obtain ⟨o, ho⟩ : ∃ o, outF hx i = o := ⟨_, rfl⟩
                  rw [ho] at HA hsz ⊢
                  clear ha ho
                  have hsz2 : o.size + 4 ≤ 9223372036854775807 := by omega
                  have hsz3 : ∀ x0 x1 x2 x3 : Int, (strOfNums [x0, x1, x2, x3]).size = 4 := fun _ _ _ _ => rfl
                  clear hsz
                  go_region
                  go_wp2_with fail
                  go_roundw
                  case rel => exact ⟨i + 1, by go_num, by omega, by rw [HA.out]; rfl, ⟨(OW.out.step ((Below.refl _ _).alloc (Nat.le_refl _) _)).drew⟩⟩
                  case measure => simp [intOf]; omega
                · obtain rfl : i = 8 := by omega
                  go_wp2_with fail
                  go_ret
                  exact ⟨by rw [← HHX.out, ← HMS.out, HL.out]; simp only [sumF, msgF]; rw [show k = (s.size + 1 + padN (s.size + 1) + 8) / 64 from by have := HT.out; have := HT2.out; have := HN.out; omega]; rfl, below_step HW.out OW.out.below⟩
end Go.Proofs.Ytolapikiflodfaa.Ref01
