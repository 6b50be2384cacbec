/- Here is proved: what fetch.New makes. Conditions: none. -/
import Derived.Test.YtondnammkcgjpaaMFetchBad4
import Derived.Test.YtondnammkcgjpaaMFetchBad5
import Derived.Deep.LoopGhost
import Derived.Lib.SliceRun
import Derived.Laws.IdiomCopy
import Derived.Lib.LazyBuf
import Derived.DeepKeys4
set_option linter.unusedVariables false
set_option linter.unusedSimpArgs false
set_option maxRecDepth 100000
set_option maxHeartbeats 8000000
namespace Go.Proofs.Ytondnammkcgjpaa.Ft
open Go Go.RowKit Go.Shelf Go.Proofs.YtondnammkcgjpaaW.PrintWords Go.Proofs.YtondnammkcgjpaaW.PrintLast Go.Proofs.YtondnammkcgjpaaW.PrintMore Go.Proofs.Ytondnammkcgjpaa.Mp
open Go.Proofs.Ytondnammkcgjpaa.ShaP Go.Proofs.Ytondnammkcgjpaa.Mk Go.Proofs.Ytondnammkcgjpaa.Rg Go.Proofs.Ytondnammkcgjpaa.RgP Go.Proofs.Ytondnammkcgjpaa.Rf Go.Proofs.Ytondnammkcgjpaa.Til Go.Proofs.Ytondnammkcgjpaa.Fg
theorem load_row_on {P : Program} {ops : Array Oper} {rest : List Oper} {o : Oper} {a : Act} {w : World} {Q : Exit → Act → World → Prop} (hw : Region.wanted o (yielded ops a.tmps) = true) (ty : TypeId) (x : Operand) (ho : o.op = .load ty x)
    (g : Nat) (hx : a.eval x = .pointer (some ⟨g, 0, none⟩)) (t : TypeId) (cs : Array Value) (fr : Nat × Nat) (d : TypeDesc) (hg : w.heap[g]? = some (.cells cs t fr))
    (hu : P.underlying ty = some d) (hd : (match d with | .struct _ | .array _ _ => true | _ => false) = true) (hi : (P.info? ty).map (·.size) = some cs.size)
    (h : wpList P ops Q rest (a.put o.dst (.agg cs)) w) : wpList P ops Q (o :: rest) a w :=
  wpList_step fun K hK => by simp only [hw, if_true]; exact wp_load_row ty x ho g hx t cs fr d hg hu hd hi (hK _ _ h)
def emptyF : ByteArray := Ref01.sumF ⟨#[]⟩
def badB (size : Int) (r : ByteArray) : Bool := decide (size < 0) || decide (64 < size) || decide (r.size ≠ 32) || (decide (size = 0) && decide (r ≠ emptyF))
theorem mroot_nil (w : World) : Calls Try.prog 30 #[.agg TV, .slice none 0 0] w fun e w' => e = .returned (.string emptyF) ∧ Below w.heap.size w w' := by
  have h := root_c 100000 none 0 [] w (by decide) (by decide) (fun s hs => by cases hs) (Nat.le_refl _) (Kd.R_reads' (Kd.R_nil Kd.string 9 w w.heap.size (fun _ => True))).2.2
  rw [show rootN 100000 ([] : List ByteArray) = rootF [] from rfl, rootF_nil] at h
  exact h
theorem new_bad (size : Int) (r : ByteArray) (w : World) (h : badB size r = true) :
    Calls Try.prog 37 #[.agg TV, .int .i64 size, .string r] w fun e w' => e = .returned (.tuple #[.pointer none, .int .i64 1]) ∧ Below w.heap.size w w' := by
  have OW := Aside0.mk (Mem.Own.nil w)
  have HI := Aside0.mk info_tab
  have HM := Aside0.mk mroot_nil
  have hcase : size < 0 ∨ (¬ size < 0 ∧ 64 < size) ∨ (¬ size < 0 ∧ ¬ 64 < size ∧ r.size ≠ 32) ∨ (size = 0 ∧ r.size = 32 ∧ r ≠ emptyF) := by
    unfold badB at h
    by_cases h1 : size < 0
    · exact .inl h1
    · by_cases h2 : 64 < size
      · exact .inr (.inl ⟨h1, h2⟩)
      · by_cases h3 : r.size = 32
        · simp [h1, h2, h3] at h
          exact .inr (.inr (.inr ⟨h.1, h3, h.2⟩))
        · exact .inr (.inr (.inl ⟨h1, h2, h3⟩))
  clear h
  rcases hcase with h1 | ⟨h1, h2⟩ | ⟨h1, h2, h3⟩ | ⟨rfl, h3, h4⟩
  · go_enter Try.func37, Try.ntmps37
    go_wp2_with (first
      | ((with_reducible refine gate_dst (N := 3) rfl ?_); refine box_event ?hg (N := 3) ?hd (cs := TV) (t := 31) ?hr ?_; (case hd => rfl); (case hg => rfl); (case hr => first | (go_simp; done) | (go_simp; rfl)); intro gT hg W_ hb hbb; have n_ : Aside0 (Mem.Own w W_ [(gT, TV, 31)]) := ⟨OW.out.new hg hb hbb⟩; clear OW hb hbb hg; have OW := n_; clear n_))
    go_ret2
    exact ⟨rfl, OW.out.below⟩
  · go_enter Try.func37, Try.ntmps37
    go_wp2_with (first
      | ((with_reducible refine gate_dst (N := 3) rfl ?_); refine box_event ?hg (N := 3) ?hd (cs := TV) (t := 31) ?hr ?_; (case hd => rfl); (case hg => rfl); (case hr => first | (go_simp; done) | (go_simp; rfl)); intro gT hg W_ hb hbb; have n_ : Aside0 (Mem.Own w W_ [(gT, TV, 31)]) := ⟨OW.out.new hg hb hbb⟩; clear OW hb hbb hg; have OW := n_; clear n_))
    go_ret2
    exact ⟨rfl, OW.out.below⟩
  · have h3b : ((r.size : Int) != 32) = true := by rw [bne_iff_ne]; omega
    go_enter Try.func37, Try.ntmps37
    go_wp2_with (first
      | ((with_reducible refine gate_dst (N := 3) rfl ?_); refine box_event ?hg (N := 3) ?hd (cs := TV) (t := 31) ?hr ?_; (case hd => rfl); (case hg => rfl); (case hr => first | (go_simp; done) | (go_simp; rfl)); intro gT hg W_ hb hbb; have n_ : Aside0 (Mem.Own w W_ [(gT, TV, 31)]) := ⟨OW.out.new hg hb hbb⟩; clear OW hb hbb hg; have OW := n_; clear n_))
    go_ret2
    exact ⟨rfl, OW.out.below⟩
  · have h3b : ((r.size : Int) != 32) = false := by rw [bne_eq_false_iff_eq]; omega
    have h4b : (r.toList != emptyF.toList) = true := bne_iff_ne.2 (fun e => h4 (toList_inj e))
    have h4c : (r.toList == emptyF.toList) = false := beq_eq_false_iff_ne.2 (fun e => h4 (toList_inj e))
    generalize emptyF = em at *
    go_enter Try.func37, Try.ntmps37
    go_wp2_with (first
      | ((with_reducible refine gate_dst (N := 3) rfl ?_); refine box_event ?hg (N := 3) ?hd (cs := TV) (t := 31) ?hr ?_; (case hd => rfl); (case hg => rfl); (case hr => first | (go_simp; done) | (go_simp; rfl)); intro gT hg W_ hb hbb; have n_ : Aside0 (Mem.Own w W_ [(gT, TV, 31)]) := ⟨OW.out.new hg hb hbb⟩; clear OW hb hbb hg; have OW := n_; clear n_)
      | ((with_reducible refine gate_dst (N := 24) rfl ?_); (refine load_row_on (by rfl) 31 (.tmp 3) rfl gT rfl 31 TV (0, 0) _ (OW.out.blk 0 rfl) Try.underlying31 rfl HI.out ?_))
      | (go_at_call 30; (with_reducible refine (HM.out _).mono ?_); rintro e w_ ⟨rfl, hB⟩; have n_ := Aside0.mk (OW.out.step hB); clear OW hB; have OW := n_; clear n_))
    go_ret2
    exact ⟨rfl, OW.out.below⟩
def fetZ : Array Value := (List.replicate 72 (Value.int .u32 0)).toArray ++ #[.int .i64 0, .string ⟨#[]⟩, .map none, .map none, .int .i64 0]
def fetP : Nat → Option (Nat × Nat) := (#[(0, 72), (72, 1), (73, 1), (74, 1), (75, 1), (76, 1)][·]?)
theorem built_fillF (parts : List (Nat × Value)) : Try.prog.built 114 parts = Instr.fill fetP fetZ parts := by
  kernel_rfl
theorem fill_one {cs : Array Value} {i off : Nat} {v : Value} {rest : List (Nat × Value)} (hp : fetP i = some (off, 1)) (hv : v.cells = #[v]) (ho : off < cs.size) : Instr.fill fetP cs ((i, v) :: rest) = Instr.fill fetP (cs.setIfInBounds off v) rest := by
  have g : ¬ ((#[v] : Array Value).size ≠ 1 ∨ off + (#[v] : Array Value).size > cs.size) := by simp; omega
  have h := over_arr #[v] off cs
  simp only [Instr.fill, hp, hv, Bool.or_eq_true, decide_eq_true_eq]
  rw [if_neg g, h]
  rfl
def tl5 (a : Int) (b : ByteArray) (c d : Option Nat) (e : Int) : Array Value := #[.int .i64 a, .string b, .map c, .map d, .int .i64 e]
theorem built_fet (s : FS) (gt gb : Nat) (h : s.asked = 0) : Try.prog.built 114 [(0, .agg TV), (1, .int .i64 (s.size : Int)), (2, .string s.root), (3, .map (some gt)), (4, .map (some gb))] = some (fcs s gt gb) := by
  rw [built_fillF]
  have z : fetZ.size = 77 := rfl
  have s1 : TV.size = 72 := tv_size
  have o1 : over fetZ 0 TV.toList = TV ++ tl5 0 ⟨#[]⟩ none none 0 := by
    have := over_mid TV.toList [] (List.replicate 72 (.int .u32 0)) (tl5 0 ⟨#[]⟩ none none 0).toList (by simp [s1])
    simp only [List.nil_append, List.length_nil] at this
    rw [show fetZ = (List.replicate 72 (Value.int .u32 0) ++ (tl5 0 ⟨#[]⟩ none none 0).toList).toArray from by unfold fetZ tl5; rfl, this]
    apply Array.toList_inj.1
    simp
  have hset : ∀ (i : Nat) (v : Value) (r : Array Value), (TV ++ r).setIfInBounds (72 + i) v = TV ++ r.setIfInBounds i v := fun i v r => by
    rw [Array.setIfInBounds_append_right (by rw [s1]; omega), s1, Nat.add_sub_cancel_left]
  have hsz : ∀ (a : Int) (b : ByteArray) (c d : Option Nat) (e : Int), (TV ++ tl5 a b c d e).size = 77 := fun a b c d e => by rw [Array.size_append, s1]; rfl
  have p0 : fetP 0 = some (0, 72) := rfl
  have c1 : (Value.agg TV).cells = TV := rfl
  have g1 : ¬ (TV.size ≠ 72 ∨ 0 + TV.size > fetZ.size) := by rw [s1, z]; decide
  have e0 : Instr.fill fetP fetZ [(0, .agg TV), (1, .int .i64 (s.size : Int)), (2, .string s.root), (3, .map (some gt)), (4, .map (some gb))] = Instr.fill fetP (TV ++ tl5 0 ⟨#[]⟩ none none 0) [(1, .int .i64 (s.size : Int)), (2, .string s.root), (3, .map (some gt)), (4, .map (some gb))] := by
    rw [Instr.fill]
    simp only [p0, c1, over_arr, o1, Bool.or_eq_true, decide_eq_true_eq]
    rw [if_neg g1]
  rw [e0, fill_one (off := 72) rfl rfl (by rw [hsz]; omega), hset 0, show (tl5 0 ⟨#[]⟩ none none 0).setIfInBounds 0 (.int .i64 (s.size : Int)) = tl5 s.size ⟨#[]⟩ none none 0 from rfl,
    fill_one (off := 73) rfl rfl (by rw [hsz]; omega), hset 1, show (tl5 s.size ⟨#[]⟩ none none 0).setIfInBounds 1 (.string s.root) = tl5 s.size s.root none none 0 from rfl,
    fill_one (off := 74) rfl rfl (by rw [hsz]; omega), hset 2, show (tl5 s.size s.root none none 0).setIfInBounds 2 (.map (some gt)) = tl5 s.size s.root (some gt) none 0 from rfl,
    fill_one (off := 75) rfl rfl (by rw [hsz]; omega), hset 3, show (tl5 s.size s.root (some gt) none 0).setIfInBounds 3 (.map (some gb)) = tl5 s.size s.root (some gt) (some gb) 0 from rfl]
  rw [Instr.fill]
  unfold fcs
  rw [h]
  rfl
def mt (n : Nat) (r : ByteArray) : FS := ⟨n, r, fun _ => none, fun _ => none, 0⟩
theorem blk_alloc_new (w : World) (o : Obj) : (w.alloc o).heap[w.heap.size]? = some o := by
  show (w.heap.push o)[w.heap.size]? = some o
  simp
theorem rows_none {K : Type} {W : World} {base gm : Nat} {k : TypeId} {enc : K → Value} (h : IMap W Try.prog k gm (fun _ => none)) : Rows W base gm k enc (fun _ => none) := ⟨_, h, fun x => ⟨fun _ => rfl, fun l h => by cases h⟩⟩
theorem mt_isF (W : World) (base n : Nat) (r : ByteArray) (hb : base ≤ W.heap.size) (hn : n ≤ 64) :
    IsF base (((W.alloc (.map #[] 0)).alloc (.map #[] 0)).alloc (.cells (fcs (mt n r) W.heap.size (W.heap.size + 1)) 114)) (W.heap.size + 1 + 1) W.heap.size (W.heap.size + 1) (mt n r) where
  blk := by
    have e := blk_alloc_new ((W.alloc (.map #[] 0)).alloc (.map #[] 0)) (.cells (fcs (mt n r) W.heap.size (W.heap.size + 1)) 114)
    rw [World.size_alloc, World.size_alloc] at e
    exact e
  tl := rows_none (((IMap.made W Try.prog 24).below' (below_alloc (Below.refl _ _) _)).below' (below_alloc (Below.refl _ _) _))
  bn := by
    have h := IMap.made (W.alloc (.map #[] 0)) Try.prog 3
    rw [World.size_alloc] at h
    exact rows_none (h.below' (below_alloc (Below.refl _ _) _))
  ne := by omega
  ge := by omega
  sz := hn
theorem new_good (n : Nat) (r : ByteArray) (w : World) (hn : n ≤ 64) (hr : r.size = 32) (h0 : n = 0 → r = emptyF) :
    Calls Try.prog 37 #[.agg TV, .int .i64 (n : Int), .string r] w fun e w' => ∃ g gt gb, e = .returned (.tuple #[.pointer (some ⟨g, 0, none⟩), .int .i64 0]) ∧ IsF w.heap.size w' g gt gb (mt n r) ∧ Below w.heap.size w w' := by
  have OW := Aside0.mk (Mem.Own.nil w)
  have HI := Aside0.mk info_tab
  have HM := Aside0.mk mroot_nil
  have hmm := @run_makeMap Try.prog
  have HBF := Aside0.mk (fun gt gb => built_fet (mt n r) gt gb rfl)
  have HN := Aside0.mk hn
  have h2 : ¬ (64 : Int) < (n : Int) := by omega
  have h3b : ((r.size : Int) != 32) = false := by rw [bne_eq_false_iff_eq]; omega
  rcases Nat.eq_zero_or_pos n with hz | hz
  · have h4 := h0 hz
    have h4b : (r.toList != emptyF.toList) = false := by rw [h4]; simp
    have h4c : (r.toList == emptyF.toList) = true := by rw [h4]; simp
    subst hz
    clear h4 h0 hr hn h2
    generalize emptyF = em at *
    go_enter Try.func37, Try.ntmps37
    go_wp2_with (first
      | ((with_reducible refine gate_dst (N := 3) rfl ?_); refine box_event ?hg (N := 3) ?hd (cs := TV) (t := 31) ?hr ?_; (case hd => rfl); (case hg => rfl); (case hr => first | (go_simp; done) | (go_simp; rfl)); intro gT hg W_ hb hbb; have n_ : Aside0 (Mem.Own w W_ [(gT, TV, 31)]) := ⟨OW.out.new hg hb hbb⟩; clear OW hb hbb hg; have OW := n_; clear n_)
      | ((with_reducible refine gate_dst (N := 24) rfl ?_); (refine load_row_on (by rfl) 31 (.tmp 3) rfl gT rfl 31 TV (0, 0) _ (OW.out.blk 0 rfl) Try.underlying31 rfl HI.out ?_))
      | ((with_reducible refine gate_dst (N := 29) rfl ?_); (refine load_row_on (by rfl) 31 (.tmp 3) rfl gT rfl 31 TV (0, 0) _ (OW.out.blk 0 rfl) Try.underlying31 rfl HI.out ?_))
      | (go_at_call 30; (with_reducible refine (HM.out _).mono ?_); rintro e w_ ⟨rfl, hB⟩; have n_ := Aside0.mk (OW.out.step hB); clear OW hB; have OW := n_; clear n_)
      | ((with_reducible refine gate_dst (N := 34) rfl ?_); refine wpList_build rfl 114 #[(0, .tmp 29), (1, .tmp 30), (2, .tmp 31), (3, .tmp 32), (4, .tmp 33)] rfl ?_ ?_))
    · have e := HBF.out w_.heap.size (w_.heap.size + 1)
      exact (congrArg Option.isSome e).trans rfl
    · have e : Try.prog.built 114 [(0, .agg TV), (1, .int .i64 0), (2, .string r), (3, .map (some w_.heap.size)), (4, .map (some (w_.heap.size + 1)))] = some (fcs (mt 0 r) w_.heap.size (w_.heap.size + 1)) := HBF.out w_.heap.size (w_.heap.size + 1)
      clear HBF
      simp only [e, Option.getD_some]
      refine bodyPost_ret (results_tmp2 rfl _ _ _) rfl ⟨_, _, _, rfl, mt_isF w_ _ 0 r OW.out.size HN.out, below_alloc (below_alloc (below_alloc OW.out.below _) _) _⟩
  · have hz1 : ¬ (n : Int) = 0 := by omega
    have hz2 : ((n : Int) == 0) = false := beq_eq_false_iff_ne.2 hz1
    clear h0 hr hn
    go_enter Try.func37, Try.ntmps37
    go_wp2_with (first
      | ((with_reducible refine gate_dst (N := 3) rfl ?_); refine box_event ?hg (N := 3) ?hd (cs := TV) (t := 31) ?hr ?_; (case hd => rfl); (case hg => rfl); (case hr => first | (go_simp; done) | (go_simp; rfl)); intro gT hg W_ hb hbb; have n_ : Aside0 (Mem.Own w W_ [(gT, TV, 31)]) := ⟨OW.out.new hg hb hbb⟩; clear OW hb hbb hg; have OW := n_; clear n_)
      | ((with_reducible refine gate_dst (N := 29) rfl ?_); (refine load_row_on (by rfl) 31 (.tmp 3) rfl gT rfl 31 TV (0, 0) _ (OW.out.blk 0 rfl) Try.underlying31 rfl HI.out ?_))
      | ((with_reducible refine gate_dst (N := 34) rfl ?_); refine wpList_build rfl 114 #[(0, .tmp 29), (1, .tmp 30), (2, .tmp 31), (3, .tmp 32), (4, .tmp 33)] rfl ?_ ?_))
    · have e := HBF.out W_.heap.size (W_.heap.size + 1)
      exact (congrArg Option.isSome e).trans rfl
    · have e : Try.prog.built 114 [(0, .agg TV), (1, .int .i64 (n : Int)), (2, .string r), (3, .map (some W_.heap.size)), (4, .map (some (W_.heap.size + 1)))] = some (fcs (mt n r) W_.heap.size (W_.heap.size + 1)) := HBF.out W_.heap.size (W_.heap.size + 1)
      clear HBF
      simp only [e, Option.getD_some]
      refine bodyPost_ret (results_tmp2 rfl _ _ _) rfl ?_
      first
        | exact ⟨_, _, _, rfl, mt_isF W_ _ n r OW.out.size HN.out, below_alloc (below_alloc (below_alloc OW.out.below _) _) _⟩
        | exact ⟨_, rfl, ⟨_, _, mt_isF W_ _ n r OW.out.size HN.out⟩, below_alloc (below_alloc (below_alloc OW.out.below _) _) _⟩
end Go.Proofs.Ytondnammkcgjpaa.Ft
namespace Go.Proofs.Ytondnammkcgjpaa.Ft
open Go Go.RowKit Go.Shelf Go.Proofs.YtondnammkcgjpaaW.PrintWords Go.Proofs.YtondnammkcgjpaaW.PrintLast Go.Proofs.YtondnammkcgjpaaW.PrintMore Go.Proofs.Ytondnammkcgjpaa.Mp
open Go.Proofs.Ytondnammkcgjpaa.ShaP Go.Proofs.Ytondnammkcgjpaa.Mk Go.Proofs.Ytondnammkcgjpaa.Rg Go.Proofs.Ytondnammkcgjpaa.RgP Go.Proofs.Ytondnammkcgjpaa.Rf Go.Proofs.Ytondnammkcgjpaa.RgL Go.Proofs.Ytondnammkcgjpaa.Til Go.Proofs.Ytondnammkcgjpaa.Fg
def giveF (l : List ByteArray) (b : Bool) (lv ix : Int) : List ByteArray := if b then seg l (4 * ix.toNat) (inTile ix (cntv l.length lv)).toNat else tileF (leavesF l) lv ix
theorem emptyF_size : emptyF.size = 32 := sumF_size _
theorem awake21_c (w : World) : Calls Try.prog 31 #[] w fun e w' => e = .returned (.bool true) ∧ Below w.heap.size w w' := by
  have OW := Aside0.mk (Mem.Own.nil w)
  have HN1 := Aside0.mk (fun W => new_bad (-1) ⟨#[]⟩ W rfl)
  have HN2 := Aside0.mk (fun W => new_good 1 emptyF W (by decide) emptyF_size (fun h => absurd h (by decide)))
  simp only [show ((1 : Nat) : Int) = 1 from rfl] at HN2
  have HH := Aside0.mk (fun W => h_c ⟨#[]⟩ (by decide) W)
  have hfold : Ref01.sumF ⟨#[]⟩ = emptyF := rfl
  rw [hfold] at HH
  clear hfold
  generalize emptyF = em at *
  go_enter Try.func31, Try.ntmps31
  go_wp2_with (first
    | (go_at_call 16; (with_reducible refine (make_c _).mono ?_); rintro e wz ⟨rfl, hB⟩; have n_ := Aside0.mk (OW.out.step hB); clear OW hB; have OW := n_; clear n_)
    | (go_at_call 38; (with_reducible refine (HH.out _).mono ?_); rintro e wz ⟨rfl, hB⟩; have n_ := Aside0.mk (OW.out.step hB); clear OW hB; have OW := n_; clear n_)
    | (go_at_call 37; (with_reducible refine (HN1.out _).mono ?_); rintro e wz ⟨rfl, hB⟩; have n_ := Aside0.mk (OW.out.step hB); clear OW hB; have OW := n_; clear n_)
    | (go_at_call 37; (with_reducible refine (HN2.out _).mono ?_); rintro e wz ⟨g, gt, gb, rfl, _, hB⟩; have n_ := Aside0.mk (OW.out.step hB); clear OW hB; have OW := n_; clear n_))
  go_ret
  exact ⟨rfl, OW.out.below⟩
end Go.Proofs.Ytondnammkcgjpaa.Ft
namespace Go.Proofs.Ytondnammkcgjpaa.Til
open Go Go.Proofs Go.RowKit Go.Shelf

section blocks
variable {w : World} {g t : Nat} {cs : Array Value}
def Blk (w : World) (g t : Nat) (cs : Array Value) : Prop := w.heap[g]? = some (.cells cs t (0, 0))
theorem Blk.cell (h : Blk w g t cs) (i : Nat) : w.cell? ⟨g, i, none⟩ = cs[i]? := by simp [World.cell?, show w.heap[g]? = _ from h]
theorem Blk.frozen (h : Blk w g t cs) (i : Nat) : w.frozen? ⟨g, i, none⟩ = false := by simp [World.frozen?, show w.heap[g]? = _ from h]
theorem Blk.lt (h : Blk w g t cs) : g < w.heap.size := (Array.getElem?_eq_some_iff.1 h).1
theorem Blk.below {w2 : World} {B : Nat} (h : Blk w g t cs) (hb : Below B w w2) (hB : g < B) : Blk w2 g t cs := (hb.block g hB).trans h
theorem Blk.put (h : Blk w g t cs) (i : Nat) (u : Value) : Blk (w.setCell ⟨g, i, none⟩ u) g t (cs.setIfInBounds i u) := by
  unfold Blk at h ⊢
  simp [World.setCell, Array.getElem?_modify, h]
theorem Blk.alloc' (h : Blk w g t cs) (o : Obj) : Blk (w.alloc o) g t cs := (Below.heap_alloc w o g h.lt).trans h
theorem new_blk (w : World) (cs : Array Value) (t : Nat) : Blk (w.alloc (.cells cs t)) w.heap.size t cs := World.alloc_heap_new w _
theorem Blk.puts (h : Blk w g t cs) : ∀ (vs : List Value) (o : Nat), ∃ c2, Blk (w.setCells g o vs) g t c2 ∧ c2.size = cs.size ∧ ∀ k, k < o → c2[k]? = cs[k]? := by
  intro vs
  induction vs generalizing w cs with
  | nil => intro o; exact ⟨cs, h, rfl, fun _ _ => rfl⟩
  | cons v vs ih =>
    intro o
    obtain ⟨c2, h2, hs, hk⟩ := ih (h.put o v) (o + 1)
    refine ⟨c2, h2, by rw [hs]; simp, fun k hlt => (hk k (by omega)).trans ?_⟩
    rw [Array.getElem?_setIfInBounds]
    rw [if_neg (by omega)]
end blocks

theorem zeros_len (cells : Array Value) (n : Nat) : (Builtin.zeroCells cells n).toList.length = n * cells.size := by simp [Builtin.zeroCells]; try omega
theorem run_clear_ids (w : World) (ty : TypeId) (g o n c : Nat) (cs : Array Value) (hb : Blk w g 24 cs) (hn : 0 < n) (hl : o + n * 2 ≤ cs.size) :
    ∃ vs : List Value, (Builtin.clear_ #[88] ty #[.slice (some ⟨g, o, none⟩) n c]).run Try.prog w = .ok (.tuple #[]) (w.setCells g o vs) := by
  obtain ⟨vs, hvs⟩ : ∃ vs, (Builtin.zeroCells (Value.agg #[.int .i64 0, .int .i64 0]).cells n).toList = vs := ⟨_, rfl⟩
  have hlen : vs.length = n * 2 := by rw [← hvs, zeros_len]; rfl
  have hone : ∀ v ∈ vs, v.oneCell' = true := by
    intro v hv
    rw [← hvs] at hv
    simp only [Builtin.zeroCells, Array.toList_map, List.mem_map] at hv
    obtain ⟨i, _, rfl⟩ := hv
    have h2 : i % (Value.agg #[.int .i64 0, .int .i64 0]).cells.size = 0 ∨ i % (Value.agg #[.int .i64 0, .int .i64 0]).cells.size = 1 := by
      show i % 2 = 0 ∨ i % 2 = 1
      omega
    rcases h2 with h2 | h2 <;> rw [h2] <;> rfl
  have hst := run_storeCells_cells (P := Try.prog) g o vs 0 w (fun j hj => by
    show (w.cell? ⟨g, o + 0 + j, none⟩).isSome = true
    rw [hb.cell, Array.getElem?_eq_getElem (by omega)]; rfl) (fun j hj => hb.frozen _) hone
  simp only [Nat.add_zero] at hst
  have hz : ∀ W, (zeroValue 24).run Try.prog W = .ok (.agg #[.int .i64 0, .int .i64 0]) W := Try.zeroValue24
  refine ⟨vs, ?_⟩
  obtain ⟨m, rfl⟩ : ∃ m, n = m + 1 := ⟨n - 1, by omega⟩
  simp [Builtin.clear_, run_underlying Try.underlying88, hz, hvs, hst]

structure RowAt (p : Int × Int → Bool) (xs : List (Int × Int)) (cap i j : Nat) (cs : Array Value) : Prop where
  size : cs.size = cap * 2
  len : i = ((xs.take j).filter fun x => !p x).length
  lt : i < j
  kept : cs.toList.take (i * 2) = idc ((xs.take j).filter fun x => !p x)
  rest : ∀ t, j ≤ t → (h : t < xs.length) → cs[t * 2]? = some (.int .i64 xs[t].1) ∧ cs[t * 2 + 1]? = some (.int .i64 xs[t].2)

theorem take_one {α : Type} (xs : List α) (j : Nat) (h : j < xs.length) : xs.take (j + 1) = xs.take j ++ [xs[j]] := by
  rw [List.take_succ_eq_append_getElem h]
theorem RowAt.skip {p : Int × Int → Bool} {xs : List (Int × Int)} {cap i j : Nat} {cs : Array Value} (h : RowAt p xs cap i j cs) (hj : j < xs.length) (hp : p xs[j] = true) : RowAt p xs cap i (j + 1) cs := by
  have e : (xs.take (j + 1)).filter (fun x => !p x) = (xs.take j).filter (fun x => !p x) := by rw [take_one _ _ hj, List.filter_append]; simp [hp]
  exact ⟨h.size, by rw [e]; exact h.len, by have := h.lt; omega, by rw [e]; exact h.kept, fun t ht hl => h.rest t (by omega) hl⟩
theorem RowAt.keep {p : Int × Int → Bool} {xs : List (Int × Int)} {cap i j : Nat} {cs : Array Value} (h : RowAt p xs cap i j cs) (hj : j < xs.length) (hcap : xs.length ≤ cap) (hp : p xs[j] = false) :
    RowAt p xs cap (i + 1) (j + 1) ((cs.setIfInBounds (i * 2) (.int .i64 xs[j].1)).setIfInBounds (i * 2 + 1) (.int .i64 xs[j].2)) := by
  have e : (xs.take (j + 1)).filter (fun x => !p x) = (xs.take j).filter (fun x => !p x) ++ [xs[j]] := by rw [take_one _ _ hj, List.filter_append]; simp [hp]
  have hs := h.size
  have hlt := h.lt
  refine ⟨by simp [hs], by rw [e, List.length_append, ← h.len]; rfl, by omega, ?_, fun t ht hl => ?_⟩
  · rw [e, idc_app, ← h.kept]
    apply List.ext_getElem?
    intro k
    have hl0 : (cs.toList.take (i * 2)).length = i * 2 := by rw [List.length_take, Array.length_toList, hs]; omega
    simp only [List.getElem?_take, Array.getElem?_toList, Array.getElem?_setIfInBounds, Array.size_setIfInBounds, hs]
    by_cases h1 : k < i * 2
    · rw [List.getElem?_append_left (by rw [hl0]; exact h1), if_pos (by omega), if_neg (by omega), if_neg (by omega), List.getElem?_take, if_pos h1, Array.getElem?_toList]
    · rw [List.getElem?_append_right (by rw [hl0]; omega), hl0]
      by_cases h2 : k = i * 2
      · subst h2
        rw [if_pos (by omega), if_neg (by omega), if_pos rfl, if_pos (by omega), Nat.sub_self]; rfl
      · by_cases h3 : k = i * 2 + 1
        · subst h3
          rw [if_pos (by omega), if_pos rfl, if_pos (by omega), show i * 2 + 1 - i * 2 = 1 by omega]; rfl
        · rw [if_neg (by omega)]
          rw [List.getElem?_eq_none (by simp [idc]; omega)]
  · have := h.rest t (by omega) hl
    simp only [Array.getElem?_setIfInBounds]
    rw [if_neg (by omega), if_neg (by omega), if_neg (by omega), if_neg (by omega)]
    exact this

def PredC (B : Nat) (n : Int) (p : Int × Int → Bool) : Prop :=
  ∀ (W : World) (x : Int × Int), Boxed W B 3 (.int .i64 n) → Calls Try.prog 122 #[.agg #[.int .i64 x.1, .int .i64 x.2], .pointer (some ⟨B, 0, none⟩)] W fun e w2 => e = .returned (.bool (p x)) ∧ Below W.heap.size W w2

def IxPost (p : Int × Int → Bool) (xs : List (Int × Int)) (w : World) (e : Ending) (w2 : World) : Prop :=
  Below w.heap.size w w2 ∧ ((e = .returned (.int .i64 (-1)) ∧ ∀ x ∈ xs, p x = false) ∨ ∃ k, ∃ h : k < xs.length, e = .returned (.int .i64 k) ∧ p xs[k] = true ∧ ∀ x ∈ xs.take k, p x = false)

theorem idc_at (xs : List (Int × Int)) (t : Nat) (h : t < xs.length) : (idc xs)[t * 2]? = some (.int .i64 xs[t].1) ∧ (idc xs)[t * 2 + 1]? = some (.int .i64 xs[t].2) := by
  induction xs generalizing t with
  | nil => simp at h
  | cons x xs ih =>
    match t, h with
    | 0, _ => exact ⟨rfl, rfl⟩
    | t + 1, h =>
      have e : idc (x :: xs) = .int .i64 x.1 :: .int .i64 x.2 :: idc xs := rfl
      rw [e, show (t + 1) * 2 = t * 2 + 1 + 1 by omega]
      exact ih t (by simpa using h)

theorem fnE64 : ∀ args w, (callFunc 122 args).run Try.prog w = .ok (.enter 122 args) w := enters_of Try.func122 (by kernel_rfl) rfl

theorem ix_c (B g : Nat) (n : Int) (p : Int × Int → Bool) (hp : PredC B n p) (xs : List (Int × Int)) (cap : Nat) (cs : Array Value) (w : World) (hB : Boxed w B 3 (.int .i64 n)) (hb : Blk w g 24 cs)
    (hN : xs.length ≤ 1000) (hc : ∀ t, (h : t < xs.length) → cs[t * 2]? = some (.int .i64 xs[t].1) ∧ cs[t * 2 + 1]? = some (.int .i64 xs[t].2)) :
    Calls Try.prog 129 #[.slice (some ⟨g, 0, none⟩) xs.length cap, .func (.func 122) #[] #[.pointer (some ⟨B, 0, none⟩)]] w (IxPost p xs w) := by
  have eg := fnE64
  have HP := Lib.hid hp
  have HC := Lib.hid hc
  have HB := Lib.hid hB
  have Hb := Lib.hid hb
  clear hp hc hB hb
  obtain ⟨N, HN⟩ : ∃ N, Hid (xs.length = N) := ⟨_, rfl⟩
  rw [HN.out] at hN ⊢
  go_enter Try.func129, Try.ntmps129
  go_wp2
  go_loopw [5, 8] (fun _ s8 wr => ∃ k : Nat, k ≤ N ∧ s8 = .int .i64 k ∧ Hid (Below w.heap.size w wr) ∧ Hid (∀ x ∈ xs.take k, p x = false)) (fun _ s8 _ => N - (intOf s8).toNat)
  case atStart => exact ⟨0, Nat.zero_le _, rfl, Below.refl _ w, fun j hj => by simp at hj⟩
  case round =>
    obtain ⟨k, hk, rfl, BW, A⟩ := hrel
    by_cases hlt : k < N
    · have hlx : k < xs.length := by rw [HN.out]; exact hlt
      have hltz : (k : Int) < (N : Int) := by omega
      have hbr := Hb.out.below BW.out Hb.out.lt
      have c1 := (hbr.cell (k * 2)).trans (HC.out k hlx).1
      have c2 := (hbr.cell (k * 2 + 1)).trans (HC.out k hlx).2
      have hcall := HP.out wr xs[k] ((BW.out.block _ HB.out.lt).trans HB.out)
      have At := Lib.hid (take_one xs k hlx)
      clear hbr
      generalize hy : xs[k] = y at c1 c2 hcall
      have Hy := Lib.hid hy
      clear hy
      cases hq : p y with
      | true =>
        rw [hq] at hcall
        go_wp2_with (go_at_fn 122; refine hcall.mono ?_; rintro e w2 ⟨rfl, hb2⟩)
        go_ret
        exact ⟨BW.out.trans (hb2.mono BW.out.size), .inr ⟨k, hlx, rfl, (congrArg p Hy.out).trans hq, A.out⟩⟩
      | false =>
        rw [hq] at hcall
        go_wp2_with (go_at_fn 122; refine hcall.mono ?_; rintro e w2 ⟨rfl, hb2⟩)
        go_roundw
        case rel =>
          refine ⟨k + 1, by omega, by go_num, (show Hid _ from BW.out.trans (hb2.mono BW.out.size)), (show Hid _ from fun x hx => ?_)⟩
          rw [At.out] at hx
          rcases List.mem_append.1 hx with h | h
          · exact A.out x h
          · rw [List.mem_singleton.1 h]; exact (congrArg p Hy.out).trans hq
        case measure => simp [intOf]; omega
    · have hltz : ¬ (k : Int) < (N : Int) := by omega
      obtain rfl : k = N := by omega
      go_wp2
      go_ret
      exact ⟨BW.out, .inl ⟨rfl, by have := A.out; rwa [List.take_of_length_le (by rw [HN.out]; exact Nat.le_refl _)] at this⟩⟩

theorem filter_none {p : Int × Int → Bool} {l : List (Int × Int)} (h : ∀ x ∈ l, p x = false) : l.filter (fun x => !p x) = l := List.filter_eq_self.2 (fun x hx => by rw [h x hx]; rfl)
theorem own_of_blk {w : World} {base g cap N : Nat} {cs : Array Value} (hb : Blk w g 24 cs) (hg : base ≤ g) (hs : cs.size = cap * 2) (hN : N ≤ cap) (hcap : cap ≤ maxLen) (ys : List Value) (hy : cs.toList.take (N * 2) = ys) :
    w.ownsRow base 24 2 (.slice (some ⟨g, 0, none⟩) N cap) N ys :=
  ⟨by rw [← hy, List.length_take, Array.length_toList, hs]; omega, .inr ⟨g, cap, cs, rfl, hg, hb, hN, hcap, hs, hy⟩⟩

def DelPost (xs : List (Int × Int)) (base g : Nat) (w : World) (e : Ending) (w2 : World) : Prop :=
  ∃ v, e = .returned v ∧ w2.ownsRow base 24 2 v xs.length (idc xs) ∧ Below g w w2

theorem del_c (B g base : Nat) (n : Int) (p : Int × Int → Bool) (hp : PredC B n p) (xs : List (Int × Int)) (cap : Nat) (cs : Array Value) (w : World) (hB : Boxed w B 3 (.int .i64 n)) (hb : Blk w g 24 cs)
    (hg : base ≤ g) (hgB : g ≠ B) (hN : xs.length ≤ 1000) (hcap : cap ≤ maxLen) (hNc : xs.length ≤ cap) (hs : cs.size = cap * 2) (hxs : cs.toList.take (xs.length * 2) = idc xs) :
    Calls Try.prog 121 #[.slice (some ⟨g, 0, none⟩) xs.length cap, .func (.func 122) #[] #[.pointer (some ⟨B, 0, none⟩)]] w (DelPost (xs.filter fun x => !p x) base base w) := by
  have hc : ∀ t, (h : t < xs.length) → cs[t * 2]? = some (.int .i64 xs[t].1) ∧ cs[t * 2 + 1]? = some (.int .i64 xs[t].2) := by
    intro t h
    have h1 := idc_at xs t h
    rw [← hxs, List.getElem?_take, if_pos (by omega), List.getElem?_take, if_pos (by omega), Array.getElem?_toList, Array.getElem?_toList] at h1
    exact h1
  have hix := ix_c B g n p hp xs cap cs w hB hb hN hc
  have HIX := Lib.hid hix
  have eg := fnE64
  have HP := Lib.hid hp
  have HC := Lib.hid hc
  have HB := Lib.hid hB
  have Hb := Lib.hid hb
  have Hs := Lib.hid hs
  have Hxs := Lib.hid hxs
  clear hp hc hB hb hs hxs hix
  obtain ⟨N, HN⟩ : ∃ N, Hid (xs.length = N) := ⟨_, rfl⟩
  rw [HN.out] at hN hNc HIX ⊢
  go_enter Try.func121, Try.ntmps121
  go_wp2_with fail
  refine HIX.out.mono ?_
  rintro e w1 ⟨hb1, ⟨rfl, hall⟩ | ⟨k, hk, rfl, hpk, hall⟩⟩
  · have Hall := Lib.hid hall
    have Hb1 := Lib.hid hb1
    clear hall hb1
    go_wp2
    go_ret
    exact ⟨_, rfl, by rw [filter_none Hall.out, HN.out]; exact own_of_blk (Hb.out.below Hb1.out Hb.out.lt) hg Hs.out hNc hcap _ (by rw [← HN.out]; exact Hxs.out), Hb1.out.mono (Nat.le_trans hg (Nat.le_of_lt Hb.out.lt))⟩
  have hkN : k < N := by rw [← HN.out]; exact hk
  have hne1 : ((k : Int) == -1) = false := beq_eq_false_iff_ne.2 (by omega)
  have HI0 : Hid (RowAt p xs cap k (k + 1) cs) := by
    refine (show RowAt p xs cap k (k + 1) cs from ⟨Hs.out, ?_, by omega, ?_, fun t _ h => HC.out t h⟩)
    · rw [take_one _ _ hk, List.filter_append, filter_none hall]; simp [hpk]; omega
    · rw [take_one _ _ hk, List.filter_append, filter_none hall]
      have h2 : [xs[k]].filter (fun x => !p x) = [] := by simp [hpk]
      rw [h2, List.append_nil]
      have h3 : cs.toList.take (k * 2) = (idc xs).take (k * 2) := by rw [← Hxs.out, List.take_take, Nat.min_eq_left (by omega)]
      rw [h3]
      have h4 : idc xs = idc (xs.take k) ++ idc (xs.drop k) := by rw [← idc_app, List.take_append_drop]
      have h5 : (idc (xs.take k)).length = k * 2 := by
        have : ∀ l : List (Int × Int), (idc l).length = l.length * 2 := fun l => by induction l with
          | nil => rfl
          | cons x l ih => have e : idc (x :: l) = .int .i64 x.1 :: .int .i64 x.2 :: idc l := rfl
                           rw [e]; simp [ih]; omega
        rw [this, List.length_take]; omega
      rw [h4, List.take_append_of_le_length (by omega), List.take_of_length_le (by omega)]
  have Hb1 := Lib.hid (Hb.out.below hb1 Hb.out.lt)
  have HB1 := Lib.hid ((hb1.block _ HB.out.lt).trans HB.out : Boxed w1 B 3 (.int .i64 n))
  have HW1 := Lib.hid (hb1.mono (Nat.le_trans hg (Nat.le_of_lt Hb.out.lt)) : Below base w w1)
  have hbw : base ≤ w1.heap.size := Nat.le_trans hg (Nat.le_trans (Nat.le_of_lt Hb.out.lt) hb1.size)
  clear hall hpk hb1 HC HIX
  go_wp2
  go_loopw [5, 6] (fun s5 s6 wr => ∃ (i j : Nat) (c2 : Array Value), s5 = .int .i64 i ∧ s6 = .int .i64 j ∧ j ≤ N ∧ Hid (Blk wr g 24 c2) ∧ Hid (RowAt p xs cap i j c2) ∧ Hid (Boxed wr B 3 (.int .i64 n)) ∧ Hid (Below base w wr)) (fun _ s6 _ => N - (intOf s6).toNat)
  case atStart => exact ⟨k, k + 1, cs, rfl, by go_num, by omega, Hb1, HI0, HB1, HW1⟩
  case round =>
    obtain ⟨i, j, c2, rfl, rfl, hjN, Rb, RI, RB, RW⟩ := hrel
    have hij := RI.out.lt
    by_cases hlt : j < N
    · have hltz : (j : Int) < (N : Int) := by omega
      have hlx : j < xs.length := by rw [HN.out]; exact hlt
      have c1 := (Rb.out.cell (j * 2)).trans (RI.out.rest j (Nat.le_refl _) hlx).1
      have c3 := (Rb.out.cell (j * 2 + 1)).trans (RI.out.rest j (Nat.le_refl _) hlx).2
      have hgr : base ≤ wr.heap.size := Nat.le_trans hg (Nat.le_of_lt Rb.out.lt)
      obtain ⟨y, Hy⟩ : ∃ y, Hid (xs[j] = y) := ⟨xs[j], Lib.hid rfl⟩
      rw [Hy.out] at c1 c3
      have hsz := RI.out.size
      have HI1 : ∃ u1 u2, c2[i * 2]? = some u1 ∧ c2[i * 2 + 1]? = some u2 := ⟨_, _, Array.getElem?_eq_getElem (by omega), Array.getElem?_eq_getElem (by omega)⟩
      obtain ⟨u1, u2, e1, e2⟩ := HI1
      have E1 := Lib.hid e1
      have E2 := Lib.hid e2
      have hcall := HP.out (wr.alloc (.cells #[.int .i64 y.1, .int .i64 y.2] 24)) y (RB.out.alloc _)
      have HSZ := Lib.hid hsz
      clear e1 e2 hsz
      cases hq : p y with
      | false =>
        rw [hq] at hcall
        go_wp2_with fail
        refine hcall.mono ?_
        rintro e w2 ⟨rfl, hb2⟩
        have N1 := Lib.hid ((Rb.out.alloc' (.cells #[.int .i64 y.1, .int .i64 y.2] 24)).below hb2 (by have := Rb.out.lt; simp; omega))
        have d1 := (N1.out.cell (i * 2)).trans E1.out
        have d2 := (N1.out.cell (i * 2 + 1)).trans E2.out
        have d3 := N1.out.frozen (i * 2)
        have d4 := N1.out.frozen (i * 2 + 1)
        have N2 := Lib.hid ((new_blk wr #[.int .i64 y.1, .int .i64 y.2] 24).below hb2 (by simp))
        have d5 := (N2.out.cell 0).trans rfl
        have d6 := (N2.out.cell 1).trans rfl
        have N3 := Lib.hid ((hb2.block _ (RB.out.alloc _).lt).trans (RB.out.alloc _))
        have N4 := Lib.hid ((RW.out.alloc hgr _).trans (hb2.mono (by rw [World.size_alloc]; exact Nat.le_succ_of_le hgr)))
        clear hb2
        go_wp2_with fail
        go_roundw
        case rel =>
          have K1 := RI.out.keep hlx (by rw [HN.out]; exact hNc) ((congrArg p Hy.out).trans hq)
          rw [Hy.out] at K1
          have K2 := (N1.out.put (i * 2) (.int .i64 y.1)).put (i * 2 + 1) (.int .i64 y.2)
          have K3 : Boxed ((w2.setCell ⟨g, i * 2, none⟩ (.int .i64 y.1)).setCell ⟨g, i * 2 + 1, none⟩ (.int .i64 y.2)) B 3 (.int .i64 n) := (Below.heap_setCell _ ⟨g, i * 2 + 1, none⟩ _ B (Ne.symm hgB)).trans ((Below.heap_setCell w2 ⟨g, i * 2, none⟩ _ B (Ne.symm hgB)).trans N3.out)
          have K4 := (N4.out.setCell (p := ⟨g, i * 2, none⟩) hg (.int .i64 y.1)).setCell (p := ⟨g, i * 2 + 1, none⟩) hg (.int .i64 y.2)
          clear N1 N2 N3 N4 d1 d2 d3 d4 d5 d6
          refine ⟨i + 1, j + 1, (c2.setIfInBounds (i * 2) (.int .i64 y.1)).setIfInBounds (i * 2 + 1) (.int .i64 y.2), by go_num, by go_num, by omega, ?_⟩
          exact ⟨K2, K1, K3, K4⟩
        case measure => simp [intOf]; omega
      | true =>
        rw [hq] at hcall
        go_wp2_with fail
        refine hcall.mono ?_
        rintro e w2 ⟨rfl, hb2⟩
        have N1 := Lib.hid ((Rb.out.alloc' (.cells #[.int .i64 y.1, .int .i64 y.2] 24)).below hb2 (by have := Rb.out.lt; simp; omega))
        have N3 := Lib.hid ((hb2.block _ (RB.out.alloc _).lt).trans (RB.out.alloc _))
        have N4 := Lib.hid ((RW.out.alloc hgr _).trans (hb2.mono (by rw [World.size_alloc]; exact Nat.le_succ_of_le hgr)))
        clear hb2
        go_wp2_with fail
        go_roundw
        case rel => exact ⟨i, j + 1, c2, rfl, by go_num, by omega, N1, RI.out.skip hlx ((congrArg p Hy.out).trans hq), N3, N4⟩
        case measure => simp [intOf]; omega
    · have hltz : ¬ (j : Int) < (N : Int) := by omega
      obtain rfl : N = j := by omega
      have hlenk := RI.out.len
      have hsz2 := RI.out.size
      have hiN : i ≤ N := by omega
      have hcl : ∃ vs : List Value, ∀ ty, (Builtin.clear_ #[88] ty #[.slice (some ⟨g, i * 2, none⟩) (N - i) (cap - i)]).run Try.prog wr = .ok (.tuple #[]) (wr.setCells g (i * 2) vs) := by
        obtain ⟨vs, h⟩ := run_clear_ids wr 0 g (i * 2) (N - i) (cap - i) c2 Rb.out (by omega) (by rw [hsz2]; omega)
        exact ⟨vs, fun ty => h⟩
      obtain ⟨vs, hcl⟩ := hcl
      obtain ⟨c4, hb4, hs4, hk4⟩ := Rb.out.puts vs (i * 2)
      have HB4 := Lib.hid hb4
      have HS4 := Lib.hid (hs4.trans hsz2)
      have HK4 := Lib.hid hk4
      have HLK := Lib.hid hlenk
      clear hb4 hs4 hk4 hlenk hsz2
      go_wp2
      go_ret
      have hf : (xs.take N).filter (fun x => !p x) = xs.filter (fun x => !p x) := by rw [List.take_of_length_le (by rw [HN.out]; exact Nat.le_refl _)]
      have hk5 := RI.out.kept
      have hl5 := HLK.out
      rw [hf] at hk5 hl5
      refine ⟨_, rfl, ?_, below_setCells hg vs _ _ RW.out⟩
      rw [← hl5]
      refine own_of_blk HB4.out hg HS4.out (by omega) hcap _ ?_
      rw [← hk5]
      apply List.ext_getElem?
      intro q
      rw [List.getElem?_take, List.getElem?_take]
      by_cases hq : q < i * 2
      · rw [if_pos hq, if_pos hq, Array.getElem?_toList, Array.getElem?_toList, HK4.out q hq]
      · rw [if_neg hq, if_neg hq]
end Go.Proofs.Ytondnammkcgjpaa.Til
namespace Go.Proofs.Ytondnammkcgjpaa.Til
open Go Go.Proofs Go.RowKit Go.Shelf

def WidthC (wd : Int → Int → Int → Int) : Prop :=
  ∀ (n a b : Int) (w : World), Calls Try.prog 50 #[.int .i64 n, .agg #[.int .i64 a, .int .i64 b]] w fun e w2 => e = .returned (.int .i64 (wd n a b)) ∧ Below w.heap.size w w2
def fullB (wd : Int → Int → Int → Int) (n : Int) (x : Int × Int) : Bool := wd n x.1 x.2 == 4

theorem edge1_c (wd : Int → Int → Int → Int) (HW : WidthC wd) (B : Nat) (n : Int) : PredC B n (fullB wd n) := by
  intro W x hB
  have HX := Lib.hid (show fullB wd n x = (wd n x.1 x.2 == 4) from rfl)
  have HWH := Lib.hid HW
  have BB := Lib.hid hB
  have hc := hB.cell
  clear HW hB
  have hlt := BB.out.lt
  have hcn : (W.alloc (.cells #[.int .i64 x.1, .int .i64 x.2] 24)).cell? ⟨B, 0, none⟩ = some (.int .i64 n) := (BB.out.alloc _).cell
  go_enter Try.func122, Try.ntmps122
  go_wp2_with fail
  refine (HWH.out n x.1 x.2 _).mono ?_
  rintro e w2 ⟨rfl, hb2⟩
  have HB2 := Lib.hid hb2
  clear hb2
  go_wp2_with fail
  go_ret
  exact ⟨by rw [HX.out]; rfl, ((Below.refl _ W).alloc (Nat.le_refl _) _).trans (HB2.out.mono (by simp))⟩

theorem ix_nil (f : Value) (w : World) : Calls Try.prog 129 #[.slice none 0 0, f] w fun e w2 => e = .returned (.int .i64 (-1)) ∧ w2 = w := by
  go_enter Try.func129, Try.ntmps129
  go_wp2
  go_loop [8] (fun s8 => s8 = .int .i64 0) (fun _ => 0)
  case atStart => rfl
  case round =>
    subst hrel
    go_wp2
    go_ret
    exact ⟨rfl, rfl⟩
theorem del_nil (f : Value) (w : World) : Calls Try.prog 121 #[.slice none 0 0, f] w fun e w2 => e = .returned (.slice none 0 0) ∧ w2 = w := by
  go_enter Try.func121, Try.ntmps121
  go_wp2_with fail
  refine (ix_nil f w).mono ?_
  rintro e w2 ⟨rfl, rfl⟩
  go_wp2
  go_ret
  exact ⟨rfl, rfl⟩

def edgeF (wd : Int → Int → Int → Int) (n : Int) : List (Int × Int) := (planF n).filter fun x => !fullB wd n x
theorem planF_len (n : Int) : (planF n).length ≤ 64 := by
  unfold planF
  split
  · have h := planL_len (lvs n (ln n))
    rw [lvs_len] at h
    have := ln_le n
    omega
  · simp
theorem edge_c (wd : Int → Int → Int → Int) (HW : WidthC wd) (n : Int) (w : World) : Calls Try.prog 111 #[.int .i64 n] w fun e w2 => ∃ v, e = .returned v ∧ w2.ownsRow w.heap.size 24 2 v (edgeF wd n).length (idc (edgeF wd n)) ∧ Below w.heap.size w w2 := by
  have HP := Lib.hid (plan_c n)
  have HWH := Lib.hid HW
  clear HW
  go_enter Try.func111, Try.ntmps111
  go_wp2_with fail
  refine (HP.out _).mono ?_
  rintro e w2 ⟨v, rfl, ho, hb⟩
  have hBx := Boxed.new w 3 (.int .i64 n)
  have HB := Lib.hid ((hb.block _ hBx.lt).trans hBx : Boxed w2 w.heap.size 3 (.int .i64 n))
  have HW2 := Lib.hid (((Below.refl _ w).alloc (Nat.le_refl _) _).trans (hb.mono (by simp)) : Below w.heap.size w w2)
  have hl := planF_len n
  have HO := Lib.hid ho
  clear ho hb hBx
  rcases HO.out.2 with ⟨rfl, h0⟩ | ⟨g, cap, cur, rfl, hg, hgb, hN, hcap, hsz, hcur⟩
  · have hnil : planF n = [] := List.eq_nil_of_length_eq_zero h0
    have HN := Lib.hid hnil
    clear hnil h0
    go_wp2_with fail
    refine (del_nil _ _).mono ?_
    rintro e w3 ⟨rfl, rfl⟩
    go_wp2
    go_ret
    refine ⟨_, rfl, ?_, HW2.out⟩
    have he : edgeF wd n = [] := by unfold edgeF; rw [HN.out]; rfl
    rw [he]; exact World.ownsRow_nil _ _ _ _
  · have hg2 : w.heap.size + 1 ≤ g := by simpa using hg
    have hd := del_c w.heap.size g w.heap.size n (fullB wd n) (edge1_c wd HWH.out w.heap.size n) (planF n) cap cur w2 HB.out hgb (by omega) (by omega) (by omega) hcap hN hsz hcur
    have HD := Lib.hid hd
    clear hd hg hgb hsz hcur hN hcap
    go_wp2_with fail
    refine HD.out.mono ?_
    rintro e w3 ⟨v, rfl, ho3, hb3⟩
    have HO3 := Lib.hid ho3
    have HB3 := Lib.hid hb3
    clear ho3 hb3
    go_wp2
    go_ret
    exact ⟨_, rfl, HO3.out, HW2.out.trans HB3.out⟩
end Go.Proofs.Ytondnammkcgjpaa.Til
namespace Go.Proofs.Ytondnammkcgjpaa
open Go Go.RowKit
variable {F : Fence} {n : Nat} {P : Program}
def SeqB {α : Type} (F : Fence) (n : Nat) (P : Program) (g : Nat) (lb : Array Value) (encs : α → Array Value) (Kp : World → World → Prop) (S Sp : List α → Prop) (Nx : List α → α → Prop) (w : World) : Prop :=
  ∀ (l : Nat) (J Jx : List α → World → Prop) (W : World), Below w.heap.size w W →
    (∀ s A B, J s A → Below A.heap.size A B → J s B) → (∀ s A B, Jx s A → Below A.heap.size A B → Jx s B) →
    (∀ pre x W1, J pre W1 → Nx pre x → YieldAt F (n - 1) P l (encs x) W1 fun e W2 =>
      (e = .returned (.bool true) ∧ J (pre ++ [x]) W2 ∧ Kp W1 W2) ∨ (e = .returned (.bool false) ∧ Jx (pre ++ [x]) W2)) →
    J [] W →
    CallsIn F n P g (#[.func (.yield l) #[] #[]] ++ lb) W fun e W2 => (∃ v, e = .returned v) ∧ ((∃ xs, S xs ∧ J xs W2) ∨ (∃ pre, Sp pre ∧ Jx pre W2))

theorem keep_blk {A B : World} {k : Nat} {o : Obj} (hB : Below A.heap.size A B) (h : A.heap[k]? = some o) : B.heap[k]? = some o := (hB.block k (Array.getElem?_eq_some_iff.1 h).1).trans h
theorem range_seqX {α : Type} {g : Operand} {ps : Array Tmp} {assign body : Code} {Q : Exit → Act → World → Prop} {a : Act} {w : World}
    (hro : F.round = none) (h1 : 1 ≤ n) {gf : Nat} {lb : Array Value} (hg : a.eval g = .func (.func gf) #[] lb) (hF : F.fn gf) (eg : ∀ args w, (callFunc gf args).run P w = .ok (.enter gf args) w)
    {encs : α → Array Value} {Kp : World → World → Prop} {S Sp : List α → Prop} {Nx : List α → α → Prop} {w0 : World} (hseq : SeqB F (n - 1) P gf lb encs Kp S Sp Nx w0)
    (hKt : ∀ {A B C : World}, Kp A B → Kp B C → Kp A C)
    (hKb : ∀ (W : World) (l : Nat) (o o2 : Obj), w.heap.size ≤ l → W.heap[l]? = some o → o.isCells = false → Kp W (W.putObj l o2))
    (hb0 : Below w0.heap.size w0 w) (hps : ∀ x, (encs x).size = ps.size)
    (I : List α → World → Prop) (Ix : Code → List α → World → Prop) (hI : OwnFrom w.heap.size I) (hIx : ∀ c, OwnFrom w.heap.size (Ix c))
    (hIb : ∀ s A B, I s A → Below A.heap.size A B → I s B) (hIxb : ∀ c s A B, Ix c s A → Below A.heap.size A B → Ix c s B) (h0 : I [] w) (bt : TypeId) (bc : α → Array Value) (hKa : ∀ (W : World) (o : Obj), w.heap.size ≤ W.heap.size → Kp W (W.alloc o)) (a1 : α → Nat → Act)
    (hassign : ∀ (l : Nat) (x : α) (W : World) (K : Act → World → Prop), K (a1 x W.heap.size) (W.alloc (.cells (bc x) bt)) →
      assign.wpIn (F.inRound l) (n - 1 - 1) P (Exit.then K (fun _ _ _ => False)) { tmps := (ps.zip (encs x)).foldl (fun t (p, v) => t.setIfInBounds p v) a.tmps, defers := [] } W)
    (hbody : ∀ (l : Nat) (pre : List α) (x : α) (b : Nat) (W : World), I pre W → Nx pre x → w.heap.size ≤ b → W.heap[b]? = some (.cells (bc x) bt (0, 0)) → body.wpIn (F.inRound l) (n - 1 - 1) P (bodyWay w.heap.size Kp I Ix (pre ++ [x]) W) (a1 x b) W)
    (hdone : ∀ (D : Nat) (xs : List α) (W : World), w.heap.size ≤ D → S xs → I xs W → W.heap[D]? = some (.deferred (some [])) → Q .normal { a with defers := { target := .collected D, args := #[] } :: a.defers } W)
    (hstop : ∀ (D : Nat) (c : Code) (pre : List α) (W : World), w.heap.size ≤ D → Sp pre → Ix c pre W → W.heap[D]? = some (.deferred (some [])) → c.wpIn F n P Q { a with defers := { target := .collected D, args := #[] } :: a.defers } W) :
    (Code.rangeFunc g ps assign body).wpIn F n P Q a w := by
  refine wpIn_rangeFunc fun fn hfn => ?_
  rw [hro]
  obtain ⟨rec, hrec⟩ : ∃ r : LoopState → Option Code → Loop, r = fun st pe => { state := st, pending := pe, fn, tmps := a.tmps, params := ps, assign, body, defers := w.heap.size } := ⟨_, rfl⟩
  obtain ⟨V, hV⟩ : ∃ V, (w.alloc (.deferred (some []))).alloc (.loop (rec .ready none)) = V := ⟨_, rfl⟩
  have hD : V.heap[w.heap.size]? = some (.deferred (some [])) := by rw [← hV]; exact at_alloc _ (World.alloc_heap_new w _)
  have hR : V.heap[w.heap.size + 1]? = some (.loop (rec .ready none)) := by
    rw [← hV]; have h := World.alloc_heap_new (w.alloc (.deferred (some []))) (.loop (rec .ready none)); rwa [World.size_alloc] at h
  have hI0 : I [] V := by rw [← hV]; exact hI.alloc _ (hI.alloc _ h0)
  have hBV : Below w0.heap.size w0 V := by rw [← hV]; exact hb0.trans ((((Below.refl _ w).alloc (Nat.le_refl _) _).alloc (by simp) _).mono hb0.size)
  refine ⟨w.heap.size + 1, [{ target := .collected w.heap.size, args := #[] }], V, { target := .fn (.func gf) lb, args := #[.func (.yield (w.heap.size + 1)) #[] #[]] }, V, gf,
    #[.func (.yield (w.heap.size + 1)) #[] #[]] ++ lb, V, ?_, ?_, ?_, ?_, fun _ => h1, ?_⟩
  · rw [← hV, hrec]; exact run_enterLoop_outer _ _ _ _ _
  · simp only [resolve, hg]; simp [go_sem]
  · intro f2 h2; simp [Target.leads] at h2; subst h2; exact hF
  · simp [invoke, go_sem, eg]
  have hround : ∀ pre x W1, (I pre W1 ∧ W1.heap[w.heap.size + 1]? = some (.loop (rec .ready none)) ∧ W1.heap[w.heap.size]? = some (.deferred (some []))) → Nx pre x →
      YieldAt F (n - 1 - 1) P (w.heap.size + 1) (encs x) W1 fun e W2 =>
        (e = .returned (.bool true) ∧ (I (pre ++ [x]) W2 ∧ W2.heap[w.heap.size + 1]? = some (.loop (rec .ready none)) ∧ W2.heap[w.heap.size]? = some (.deferred (some []))) ∧ Kp W1 W2) ∨
        (e = .returned (.bool false) ∧ ∃ c, Ix c (pre ++ [x]) W2 ∧ W2.heap[w.heap.size + 1]? = some (.loop (rec .done (some c))) ∧ W2.heap[w.heap.size]? = some (.deferred (some []))) := by
    rintro pre x W1 ⟨hi, hl, hd⟩ hlen
    have hlt := (Array.getElem?_eq_some_iff.1 hl).1
    have hy := run_yield (P := P) (args := encs x) hl (by rw [hrec]; exact hps x)
    rw [hrec] at hy
    have hAB : Below W1.heap.size W1 (W1.alloc (.cells (bc x) bt)) := (Below.refl _ W1).alloc (Nat.le_refl _) _
    refine ⟨fn, _, assign, body, hy, roundIn_of_wpIn hfn (hassign _ x W1 _ ⟨_, run_beginRound (at_alloc _ hl) (by rw [hrec]), ?_⟩)⟩
    have hkA : Kp W1 (W1.alloc (.cells (bc x) bt)) := hKa _ _ (by omega)
    have hbx : (W1.alloc (.cells (bc x) bt)).heap[W1.heap.size]? = some (.cells (bc x) bt (0, 0)) := World.alloc_heap_new W1 _
    obtain ⟨bx, hbxe⟩ : ∃ bx, W1.heap.size = bx := ⟨_, rfl⟩
    have hbN : w.heap.size ≤ bx := by omega
    have hbne : w.heap.size + 1 < bx := by omega
    rw [hbxe] at hbx ⊢
    replace hl := at_alloc (.cells (bc x) bt) hl
    replace hd := at_alloc (.cells (bc x) bt) hd
    replace hi := hIb _ _ _ hi hAB
    replace hlt := (Array.getElem?_eq_some_iff.1 hl).1
    obtain ⟨V1, hV1⟩ : ∃ V1, W1.alloc (.cells (bc x) bt) = V1 := ⟨_, rfl⟩
    rw [hV1] at hl hd hi hlt hkA hbx ⊢
    generalize hW3 : V1.putObj (w.heap.size + 1) (.loop { rec .ready none with state := .busy }) = W3
    have hl3 : W3.heap[w.heap.size + 1]? = some (.loop { rec .ready none with state := .busy }) := by rw [← hW3]; exact World.putObj_heap_same hlt
    have hd3 : W3.heap[w.heap.size]? = some (.deferred (some [])) := by rw [← hW3]; exact (World.putObj_heap_other (by omega)).trans hd
    have hk3 : Kp W1 W3 := by rw [← hW3]; exact hKt hkA (hKb _ _ _ _ (by omega) hl rfl)
    have hb3 : W3.heap[bx]? = some (.cells (bc x) bt (0, 0)) := by rw [← hW3]; exact (World.putObj_heap_other (by omega)).trans hbx
    have hi3 : I pre W3 := by rw [← hW3]; exact own_put hI hi (by omega) hl rfl
    have last : ∀ (j : Option Code) (W4 : World), KeepsFrom w.heap.size W3 W4 → ∃ W5, (Instr.endRound (w.heap.size + 1) j).run P W4 = .ok (.bool j.isNone) W5 ∧ W5 = W4.putObj (w.heap.size + 1) (.loop (rec (if j.isNone then .ready else .done) j)) ∧
        W4.heap[w.heap.size + 1]? = some (.loop { rec .ready none with state := .busy }) ∧
        W5.heap[w.heap.size + 1]? = some (.loop (rec (if j.isNone then .ready else .done) j)) ∧ W5.heap[w.heap.size]? = some (.deferred (some [])) := fun j W4 h4 => by
      have hl4 := h4.same _ _ (by omega) hl3 rfl
      have hd4 := h4.same _ _ (Nat.le_refl _) hd3 rfl
      have he := run_endRound (P := P) j hl4
      refine ⟨_, he, ?_, hl4, ?_, ?_⟩
      · rw [hrec]
      · rw [World.putObj_heap_same (Array.getElem?_eq_some_iff.1 hl4).1, hrec]
      · exact (World.putObj_heap_other (by omega)).trans hd4
    refine wpIn_mono (hbody _ pre x bx _ hi3 hlen hbN hb3) ?_
    rintro e a4 W4 hp
    cases e with
    | normal =>
      obtain ⟨h4, hk4, hi4⟩ := hp
      obtain ⟨W5, he, e5, hl4, hl5, hd5⟩ := last none W4 h4
      exact ⟨_, _, he, .inl ⟨rfl, ⟨by rw [e5]; exact own_put hI hi4 (by omega) hl4 rfl, hl5, hd5⟩, by rw [e5]; exact hKt (hKt hk3 hk4) (hKb _ _ _ _ (by omega) hl4 rfl)⟩⟩
    | ret =>
      obtain ⟨h4, hi4⟩ := hp
      obtain ⟨W5, he, e5, hl4, hl5, hd5⟩ := last (some .ret) W4 h4
      exact ⟨_, _, he, .inr ⟨rfl, .ret, by rw [e5]; exact own_put (hIx _) hi4 (by omega) hl4 rfl, hl5, hd5⟩⟩
    | exit i =>
      obtain ⟨h4, hi4⟩ := hp
      obtain ⟨W5, he, e5, hl4, hl5, hd5⟩ := last (some (.exit i)) W4 h4
      exact ⟨_, _, he, .inr ⟨rfl, .exit i, by rw [e5]; exact own_put (hIx _) hi4 (by omega) hl4 rfl, hl5, hd5⟩⟩
    | goto t =>
      obtain ⟨h4, hi4⟩ := hp
      obtain ⟨W5, he, e5, hl4, hl5, hd5⟩ := last (some (.goto t)) W4 h4
      exact ⟨_, _, he, .inr ⟨rfl, .goto t, by rw [e5]; exact own_put (hIx _) hi4 (by omega) hl4 rfl, hl5, hd5⟩⟩
    | panic ch => exact hp.elim
    | outgrown => exact hp.elim
  refine (hseq (w.heap.size + 1)
    (fun pre W => I pre W ∧ W.heap[w.heap.size + 1]? = some (.loop (rec .ready none)) ∧ W.heap[w.heap.size]? = some (.deferred (some [])))
    (fun pre W => ∃ c, Ix c pre W ∧ W.heap[w.heap.size + 1]? = some (.loop (rec .done (some c))) ∧ W.heap[w.heap.size]? = some (.deferred (some [])))
    V hBV (fun s A B h hB => ⟨hIb s A B h.1 hB, keep_blk hB h.2.1, keep_blk hB h.2.2⟩)
    (fun s A B h hB => by obtain ⟨c, hc, hl, hd⟩ := h; exact ⟨c, hIxb c s A B hc hB, keep_blk hB hl, keep_blk hB hd⟩)
    hround ⟨hI0, hR, hD⟩).mono ?_
  rintro e W2 ⟨⟨v, rfl⟩, (⟨xs, hS, hi, hl, hd⟩ | ⟨pre, hSp, c, hi, hl, hd⟩)⟩
  · refine ⟨none, _, by have h := run_endLoop (P := P) hl (by rw [hrec]; simp); rw [hrec] at h; exact h, ?_⟩
    exact hdone _ xs _ (Nat.le_refl _) hS (own_put hI hi (by omega) hl rfl) ((World.putObj_heap_other (by omega)).trans hd)
  · refine ⟨some c, _, by have h := run_endLoop (P := P) hl (by rw [hrec]; simp); rw [hrec] at h; exact h, ?_⟩
    exact hstop _ c pre _ (Nat.le_refl _) hSp (own_put (hIx c) hi (by omega) hl rfl) ((World.putObj_heap_other (by omega)).trans hd)

end Go.Proofs.Ytondnammkcgjpaa
namespace Go.Proofs.Ytondnammkcgjpaa.Ft
open Go Go.RowKit Go.Shelf Go.Proofs.YtondnammkcgjpaaW.PrintWords Go.Proofs.YtondnammkcgjpaaW.PrintLast Go.Proofs.YtondnammkcgjpaaW.PrintMore Go.Proofs.Ytondnammkcgjpaa.Mp
open Go.Proofs.Ytondnammkcgjpaa.ShaP Go.Proofs.Ytondnammkcgjpaa.Mk Go.Proofs.Ytondnammkcgjpaa.Rg Go.Proofs.Ytondnammkcgjpaa.RgP Go.Proofs.Ytondnammkcgjpaa.Rf Go.Proofs.Ytondnammkcgjpaa.RgL Go.Proofs.Ytondnammkcgjpaa.Til Go.Proofs.Ytondnammkcgjpaa.Fg
def flat {α : Type} (sz : Nat) (enc : α → List Value) (hl : ∀ x, (enc x).length = sz) (h1 : ∀ x, ∀ u ∈ enc x, u.oneCell' = true) : Kd α where
  sz := sz
  E := []
  K := fun _ x cs => cs = enc x
  M := fun _ _ _ x cs => cs = enc x
  K_len := fun {_ x _} h => by rw [h]; exact hl x
  K_one := fun {_ x _} h => by rw [h]; exact h1 x
  K_below := fun _ h => h
  K_of_M := fun h => h
  M_mono := fun _ h => h
  M_bound := fun h => h
  M_move := fun _ h => h
  M_lower := fun _ h => h
def encI (x : Int × Int) : List Value := [.int .i64 x.1, .int .i64 x.2]
def KI : Kd (Int × Int) := flat 2 encI (fun _ => rfl) (fun x u hu => by simp [encI] at hu; rcases hu with rfl | rfl <;> rfl)
theorem idc_cons (x : Int × Int) (l : List (Int × Int)) : idc (x :: l) = .int .i64 x.1 :: .int .i64 x.2 :: idc l := by simp [idc]
theorem idc_reps : ∀ l : List (Int × Int), (idc l).length = l.length * 2 ∧ ∀ j p, l[j]? = some p → ((idc l).drop (j * 2)).take 2 = encI p
  | [] => ⟨rfl, fun j p h => by simp at h⟩
  | x :: l => by
    obtain ⟨h1, h2⟩ := idc_reps l
    rw [idc_cons]
    refine ⟨by simp [h1]; omega, fun j p h => ?_⟩
    cases j with
    | zero => cases Option.some.inj h; rfl
    | succ j =>
      rw [Nat.succ_mul]
      exact h2 j p h
theorem ki_own {w : World} {base : Nat} {v : Value} {l : List (Int × Int)} (h : w.ownsRow base 24 2 v l.length (idc l)) : KI.R 24 w base (fun _ => True) v l :=
  ⟨fun _ _ => trivial, _, h, idc_reps l⟩
theorem ki_at {w : World} {A : Option Addr} {n : Nat} {l : List (Int × Int)} (h : KI.C w A n l) (j : Nat) (hj : j < l.length) :
    ∃ ad, A = some ad ∧ w.cell? (ad.add (j * 2)) = some (.int .i64 l[j].1) ∧ w.cell? (ad.add (j * 2 + 1)) = some (.int .i64 l[j].2) := by
  obtain ⟨h1, h2, h3⟩ := h
  obtain ⟨ad, e, hc⟩ := h3 (by omega)
  obtain ⟨c, hs, hr, hcell⟩ := hc j _ (List.getElem?_eq_getElem hj)
  have hk : KI.sz = 2 := rfl
  rw [hk] at hcell
  subst hr
  exact ⟨ad, e, hcell 0 _ rfl, hcell 1 _ rfl⟩
theorem plan_k (n : Int) (w : World) : Calls Try.prog 46 #[.int .i64 n] w fun e w' => ∃ v, e = .returned v ∧ KI.R 24 w' w.heap.size (fun _ => True) v (planF n) ∧ Below w.heap.size w w' := by
  refine (plan_c n w).mono ?_
  rintro e w' ⟨v, rfl, ho, hB⟩
  exact ⟨v, rfl, ki_own ho, hB⟩
def wdF (n a b : Int) : Int := inTile b (cntv n a)
theorem edge_k (n : Int) (w : World) : Calls Try.prog 111 #[.int .i64 n] w fun e w' => ∃ v, e = .returned v ∧ KI.R 24 w' w.heap.size (fun _ => True) v (edgeF wdF n) ∧ Below w.heap.size w w' := by
  refine (edge_c wdF (fun n a b w => width_c n a b w) n w).mono ?_
  rintro e w' ⟨v, rfl, ho, hB⟩
  exact ⟨v, rfl, ki_own ho, hB⟩
def edB (n : Nat) (x : Int × Int) : Bool := decide (inTile x.2 (cntv n x.1) < 4)
theorem edF_eq (n : Nat) : edgeF wdF n = (planF n).filter (edB n) := by
  unfold edgeF
  refine List.filter_congr fun x _ => ?_
  unfold fullB edB wdF
  have := inTile_in x.2 (cntv n x.1)
  by_cases h : inTile x.2 (cntv n x.1) = 4
  · rw [h]; rfl
  · have h1 : (inTile x.2 (cntv n x.1) == 4) = false := beq_eq_false_iff_ne.2 h
    rw [h1, decide_eq_true (by omega)]; rfl
abbrev Want := Bool × Int × Int
def pickT (n : Nat) (e : Bool) (l : List (Int × Int)) : List Want := (l.filter fun x => edB n x == e).map fun x => (false, x)
def pickB (l : List (Int × Int)) : List Want := (l.filter fun x => x.1 == 0).map fun x => (true, x)
def wantsF (n : Nat) : List Want := pickT n true (planF n) ++ pickT n false (planF n) ++ pickB (planF n)
theorem edge1_f (base g gt gb : Nat) (s : FS) (x0 x1 : Int) (w : World) (h : IsF base w g gt gb s) :
    Calls Try.prog 95 #[.pointer (some ⟨g, 0, none⟩), .agg #[.int .i64 x0, .int .i64 x1]] w fun e w' => e = .returned (.bool (edB s.size (x0, x1))) ∧ Below w.heap.size w w' := by
  have OW := Aside0.mk (Mem.Own.nil w)
  have HF := Aside0.mk h
  have HW := Aside0.mk (fun W => width_c (s.size : Int) x0 x1 W)
  have HE := Aside0.mk (show edB s.size (x0, x1) = decide (inTile x1 (cntv s.size x0) < 4) from rfl)
  generalize inTile x1 (cntv s.size x0) = q at *
  clear h
  go_enter Try.func95, Try.ntmps95
  go_wp2_with (first
    | ((with_reducible refine gate_dst (N := 3) rfl ?_); refine box_event ?hg (N := 3) ?hd (cs := #[.int .i64 x0, .int .i64 x1]) (t := 24) ?hr ?_; (case hd => rfl); (case hg => rfl); (case hr => first | (go_simp; done) | (go_simp; rfl)); intro gI hg W_ hb hbb; have n_ := Aside0.mk (HF.out.below hbb); clear HF; have HF := n_; clear n_; have n_ : Aside0 (Mem.Own w W_ [(gI, #[.int .i64 x0, .int .i64 x1], 24)]) := ⟨OW.out.new hg hb hbb⟩; clear OW hb hbb hg; have OW := n_; clear n_))
  have OD := Aside0.mk OW.out.drew
  have HD := Aside0.mk HF.out.drew
  have i0 : W_.drew.cell? ⟨gI, 0, none⟩ = some (.int .i64 x0) := (OD.out.cell 0 rfl 0).trans rfl
  have i1 : W_.drew.cell? ⟨gI, 1, none⟩ = some (.int .i64 x1) := (OD.out.cell 0 rfl 1).trans rfl
  have c0 : W_.drew.cell? ⟨g, 72, none⟩ = some (.int .i64 s.size) := (HD.out.cell 0).trans rfl
  clear OW HF
  refine start_ (n := 8) (S := fun w' => Below (W_).drew.heap.size (W_).drew w') (ds := []) #[false, false, false, false, false, false, false, false] (by kernel_rfl) rfl rfl (Below.refl _ _) (fun hHeld => ?_)
  generalize (W_).drew = W0 at *
  refine pure_ (i := 0) (N := (some 5)) (v := ?_) (a' := ?_) #[true, false, false, false, false, false, false, false] rfl rfl (by kernel_rfl) (fun _ _ _ h => h) (Or.inl ⟨by rfl, ?_⟩) ?_ ?_
  rotate_left
  · intro w'
    go_simp
    first | done | with_reducible rfl
  rotate_left
  · simp only [Act.put, List.setIfInBounds_toArray, List.set_cons_zero, List.set_cons_succ, i64_w, i32_w]
    rfl
  refine pure_ (i := 1) (N := (some 6)) (v := ?_) (a' := ?_) #[true, true, false, false, false, false, false, false] rfl rfl (by kernel_rfl) (fun _ _ _ h => h) (Or.inl ⟨by rfl, ?_⟩) ?_ ?_
  rotate_left
  · intro w'
    skip
    go_simp
    first | done | with_reducible rfl
  rotate_left
  · simp only [Act.put, List.setIfInBounds_toArray, List.set_cons_zero, List.set_cons_succ, i64_w, i32_w]
    rfl
  refine pure_ (i := 2) (N := (some 7)) (v := ?_) (a' := ?_) #[true, true, true, false, false, false, false, false] rfl rfl (by kernel_rfl) (fun _ _ _ h => h) (Or.inl ⟨by rfl, ?_⟩) ?_ ?_
  rotate_left
  · intro w'
    go_simp
    first | done | with_reducible rfl
  rotate_left
  · simp only [Act.put, List.setIfInBounds_toArray, List.set_cons_zero, List.set_cons_succ, i64_w, i32_w]
    rfl
  refine take_ (i := 3) (N := (some 8)) (v := ?_) (a' := ?_) #[true, true, true, true, false, false, false, false] rfl rfl (by kernel_rfl) (fun _ _ _ h => h) (Or.inl ⟨by rfl, ?_⟩) hHeld ?_ ?_
  rotate_left
  · intro w' hS
    have s0 := pw_cell_below hS c0
    go_simp
    first | done | with_reducible rfl
  rotate_left
  · simp only [Act.put, List.setIfInBounds_toArray, List.set_cons_zero, List.set_cons_succ, i64_w, i32_w]
    rfl
  refine take_ (i := 4) (N := (some 9)) (v := ?_) (a' := ?_) #[true, true, true, true, true, false, false, false] rfl rfl (by kernel_rfl) (fun _ _ _ h => h) (Or.inl ⟨by rfl, ?_⟩) hHeld ?_ ?_
  rotate_left
  · intro w' hS
    have s0 := pw_cell_below hS i0
    have s1 := pw_cell_below hS i1
    go_simp
    first | done | with_reducible rfl
  rotate_left
  · simp only [Act.put, List.setIfInBounds_toArray, List.set_cons_zero, List.set_cons_succ, i64_w, i32_w]
    rfl
  refine one_ (i := 5) (N := (some 10)) #[true, true, true, true, true, true, false, false] rfl rfl (by kernel_rfl) (by decide) (fun K hK => ?_)
  refine goes_ Try.func50 (by kernel_rfl) rfl #[.int .i64 s.size, .agg #[.int .i64 x0, .int .i64 x1]] (by rfl) rfl rfl (by (try simp only [List.map_toArray, List.map_cons, List.map_nil]); first | done | rfl) ?_
  (with_reducible refine (HW.out _).mono ?_)
  rintro e wa ⟨rfl, hB⟩
  refine ⟨_, rfl, ?_⟩
  have hS2 : Below W0.heap.size W0 wa := below_step hHeld hB
  clear hB
  refine hK.out _ _ hS2 (fun hHeld => ?_)
  clear hK K
  refine norm_ (a' := ?_) ?_ ?_
  rotate_left
  · show Act.put _ (some 10) _ = _
    simp only [Act.put, List.setIfInBounds_toArray, List.set_cons_zero, List.set_cons_succ, i64_w, i32_w]
    rfl
  refine pure_ (i := 6) (N := (some 11)) (v := ?_) (a' := ?_) #[true, true, true, true, true, true, true, false] rfl rfl (by kernel_rfl) (fun _ _ _ h => h) (Or.inl ⟨by rfl, ?_⟩) ?_ ?_
  rotate_left
  · intro w'
    go_simp
    first | done | with_reducible rfl
  rotate_left
  · simp only [Act.put, List.setIfInBounds_toArray, List.set_cons_zero, List.set_cons_succ, i64_w, i32_w]
    rfl
  refine pure_ (i := 7) (N := (some 4)) (v := ?_) (a' := ?_) #[true, true, true, true, true, true, true, true] rfl rfl (by kernel_rfl) (fun _ _ _ h => h) (Or.inl ⟨by rfl, ?_⟩) ?_ ?_
  rotate_left
  · intro w'
    go_simp
    first | done | with_reducible rfl
  rotate_left
  · simp only [Act.put, List.setIfInBounds_toArray, List.set_cons_zero, List.set_cons_succ, i64_w, i32_w]
    rfl
  refine done_ (by kernel_rfl) ?_
  have OB := Aside0.mk (OD.out.step hHeld).below
  clear hHeld
  go_wp2_with fail
  go_ret
  exact ⟨by rw [HE.out]; rfl, OB.out⟩
attribute [local go_sem] Oper.semAt_some
theorem pickT_yes {n : Nat} {e : Bool} {l : List (Int × Int)} {x : Int × Int} (h : edB n x = e) : pickT n e (l ++ [x]) = pickT n e l ++ [(false, x)] := by simp [pickT, h]
theorem pickT_no {n : Nat} {e : Bool} {l : List (Int × Int)} {x : Int × Int} (h : edB n x ≠ e) : pickT n e (l ++ [x]) = pickT n e l := by simp [pickT, h]
theorem pickB_yes {l : List (Int × Int)} {x : Int × Int} (h : x.1 = 0) : pickB (l ++ [x]) = pickB l ++ [(true, x)] := by simp [pickB, h]
theorem pickB_no {l : List (Int × Int)} {x : Int × Int} (h : x.1 ≠ 0) : pickB (l ++ [x]) = pickB l := by simp [pickB, h]
def preO (n : Nat) : Nat → List Want
  | 0 => []
  | 1 => pickT n true (planF n)
  | _ => pickT n true (planF n) ++ pickT n false (planF n)
def eO (o : Nat) : Bool := o == 0
theorem pickT_pre (n : Nat) (e : Bool) (j : Nat) : pickT n e ((planF n).take j) <+: pickT n e (planF n) := by
  refine ⟨pickT n e ((planF n).drop j), ?_⟩
  unfold pickT
  rw [← List.map_append, ← List.filter_append, List.take_append_drop]
theorem pickB_pre (n j : Nat) : pickB ((planF n).take j) <+: pickB (planF n) := by
  refine ⟨pickB ((planF n).drop j), ?_⟩
  unfold pickB
  rw [← List.map_append, ← List.filter_append, List.take_append_drop]
theorem pre_succ (n o : Nat) (h : o < 2) : preO n o ++ pickT n (eO o) (planF n) = preO n (o + 1) := by
  rcases o with _ | _ | o
  · rfl
  · rfl
  · omega
theorem pre_in (n o : Nat) (h : o ≤ 2) : preO n o <+: preO n 2 := by
  rcases o with _ | _ | _ | o
  · exact ⟨preO n 2, rfl⟩
  · exact ⟨pickT n false (planF n), rfl⟩
  · exact ⟨[], by simp⟩
  · omega
theorem pre_all (n : Nat) : preO n 2 ++ pickB (planF n) = wantsF n := rfl
theorem pre_t (n o j : Nat) (h : o < 2) : preO n o ++ pickT n (eO o) ((planF n).take j) <+: wantsF n := by
  have h1 : preO n o ++ pickT n (eO o) ((planF n).take j) <+: preO n o ++ pickT n (eO o) (planF n) := by
    obtain ⟨r, hr⟩ := pickT_pre n (eO o) j
    exact ⟨r, by rw [List.append_assoc, hr]⟩
  rw [pre_succ n o h] at h1
  exact h1.trans ((pre_in n (o + 1) (by omega)).trans ⟨_, pre_all n⟩)
theorem pre_b (n j : Nat) : preO n 2 ++ pickB ((planF n).take j) <+: wantsF n := by
  obtain ⟨r, hr⟩ := pickB_pre n j
  exact ⟨r, by rw [List.append_assoc, hr, pre_all]⟩
def Kp (N : Nat) (V W : World) : Prop := V.heap.size ≤ W.heap.size ∧ (∀ k, k < N → W.heap[k]? = V.heap[k]?) ∧ ∀ (k : Nat) (cs : Array Value) (t : TypeId) (fr : Nat × Nat), V.heap[k]? = some (Obj.cells cs t fr) → W.heap[k]? = some (Obj.cells cs t fr)
theorem kp_t {N : Nat} {U V W : World} (h : Kp N U V) (k : Kp N V W) : Kp N U W := ⟨Nat.le_trans h.1 k.1, fun j hj => (k.2.1 j hj).trans (h.2.1 j hj), fun j cs t fr e => k.2.2 j cs t fr (h.2.2 j cs t fr e)⟩
theorem kp_b {N : Nat} (W : World) (l : Nat) (o o2 : Obj) (hl : N ≤ l) (h : W.heap[l]? = some o) (hc : o.isCells = false) : Kp N W (W.putObj l o2) :=
  ⟨by simp [World.putObj], fun k hk => World.putObj_heap_other (by omega), fun k cs t fr e => (World.putObj_heap_other (fun q => by
    subst q; rw [h] at e; cases Option.some.inj e; cases hc)).trans e⟩
theorem kp_below {N : Nat} {V W : World} (hN : N ≤ V.heap.size) (h : Below V.heap.size V W) : Kp N V W :=
  ⟨h.size, fun k hk => h.block k (by omega), fun k cs t fr e => (h.block k (Array.getElem?_eq_some_iff.1 e).1).trans e⟩
theorem tag_str {W : World} {k : Nat} {t : Nat} (h : tag W k = some t) (ht : t ≠ 1000000) : ∃ cs fr, W.heap[k]? = some (.cells cs t fr) := by
  unfold tag at h
  split at h
  · rename_i e; cases Option.some.inj h; exact ⟨_, _, e⟩
  · exact absurd (Option.some.inj h).symm ht
  · cases h
theorem IsF.kp {base g gt gb N : Nat} {V W : World} {s : FS} (h : IsF base V g gt gb s) (h1 : gt < N) (h2 : gb < N) (hk : Kp N V W) : IsF base W g gt gb s := by
  refine h.keep fun k hlt hf => ?_
  rcases hf with rfl | rfl | rfl | e
  · exact (hk.2.2 _ _ _ _ h.blk).trans h.blk.symm
  · exact hk.2.1 _ h1
  · exact hk.2.1 _ h2
  · obtain ⟨cs, fr, e2⟩ := tag_str e (by decide)
    exact (hk.2.2 _ _ _ _ e2).trans e2.symm
theorem only_k {e base : Nat} {W : World} {ok : Nat → Prop} {v : Value} {xs : List (Int × Int)} (h : KI.R e W base ok v xs) : KI.R e W base (fun k => v.ownBlock = some k) v xs := ⟨fun k hk => hk, h.2.imp_ (fun _ _ hp => hp)⟩
theorem ki_kp {N base : Nat} {V W : World} {v : Value} {l : List (Int × Int)} (h : KI.R 24 V base (fun _ => True) v l) (hk : Kp N V W) : KI.R 24 W base (fun _ => True) v l :=
  Kd.R_mono (Kd.R_step (only_k h) (fun k ho hlt => by
    obtain ⟨cs, fr, e2⟩ := tag_str (tag_row h k ho) (by decide)
    exact (hk.2.2 _ _ _ _ e2).trans e2.symm)) (fun _ _ => trivial)
structure WC (base N B0 g gt gb Bx gB : Nat) (s : FS) (v : Value) (W : World) : Prop where
  f : IsF base W g gt gb s
  b : Boxed W Bx 67 (.pointer (some ⟨g, 0, none⟩))
  r : KI.R 24 W B0 (fun _ => True) v (planF s.size)
  l : W.heap[gB]? = some (.cells #[.bool true, .bool false] 4 (0, 0))
  n1 : gt < N
  n2 : gb < N
  n3 : N ≤ W.heap.size
variable {base N B0 g gt gb Bx gB : Nat} {s : FS} {v : Value} {V W : World}
theorem WC.kp (h : WC base N B0 g gt gb Bx gB s v V) (hk : Kp N V W) : WC base N B0 g gt gb Bx gB s v W :=
  ⟨h.f.kp h.n1 h.n2 hk, hk.2.2 _ _ _ _ h.b, ki_kp h.r hk, hk.2.2 _ _ _ _ h.l, h.n1, h.n2, Nat.le_trans h.n3 hk.1⟩
theorem WC.below (h : WC base N B0 g gt gb Bx gB s v V) (hB : Below V.heap.size V W) : WC base N B0 g gt gb Bx gB s v W := h.kp (kp_below h.n3 hB)
def encW (x : Want) : Array Value := #[.agg #[.bool x.1, .int .i64 x.2.1, .int .i64 x.2.2]]
theorem ki_form {W : World} {e base : Nat} {ok : Nat → Prop} {v : Value} {l : List (Int × Int)} (h : KI.R e W base ok v l) : ∃ A c, v = .slice A l.length c := Kd.R_slice h
theorem eO_cell (W : World) (gB o : Nat) (h : W.heap[gB]? = some (.cells #[.bool true, .bool false] 4 (0, 0))) (ho : o < 2) : W.cell? ⟨gB, o, none⟩ = some (.bool (eO o)) := by
  rw [blk_cell h]
  rcases o with _ | _ | o
  · rfl
  · rfl
  · omega
theorem ki_elem {W : World} {A : Option Addr} {base n c : Nat} {l : List (Int × Int)} (h : KI.R 24 W base (fun _ => True) (.slice A n c) l) (j : Nat) (hj : j < l.length) :
    ∃ gp, A = some ⟨gp, 0, none⟩ ∧ W.cell? ⟨gp, j * 2, none⟩ = some (.int .i64 l[j].1) ∧ W.cell? ⟨gp, j * 2 + 1, none⟩ = some (.int .i64 l[j].2) := by
  obtain ⟨gp, cap, e, _⟩ := Kd.R_form h (by omega)
  injection e with e1 e2 e3
  subst e1
  obtain ⟨ad, ea, h0, h1⟩ := ki_at (Kd.R_reads' h).2.2 j hj
  injection ea with ea
  subst ea
  refine ⟨gp, rfl, ?_, ?_⟩
  · have : (⟨gp, 0, none⟩ : Addr).add (j * 2) = ⟨gp, j * 2, none⟩ := by unfold Addr.add; split <;> simp_all
    rw [this] at h0; exact h0
  · have : (⟨gp, 0, none⟩ : Addr).add (j * 2 + 1) = ⟨gp, j * 2 + 1, none⟩ := by unfold Addr.add; split <;> simp_all
    rw [this] at h1; exact h1
theorem wantsB (n : Nat) (hn : 1 ≤ n) (w : World) (hF : IsF base w g gt gb s) (hb : Boxed w Bx 67 (.pointer (some ⟨g, 0, none⟩))) (hbx : Bx < w.heap.size) :
    SeqB Fence.wide n Try.prog 94 #[.pointer (some ⟨Bx, 0, none⟩)] encW (Kp w.heap.size) (fun xs => xs = wantsF s.size) (fun pre => pre <+: wantsF s.size) (fun pre x => pre ++ [x] <+: wantsF s.size) w := fun lp J Jx W hW hJb _ hY hJ0 => by
  have HF0 := Aside0.mk (hF.below hW)
  have hbW : Boxed W Bx 67 (.pointer (some ⟨g, 0, none⟩)) := (hW.block Bx hbx).trans hb
  have HBX := Aside0.mk hbW
  have HN := Aside0.mk (show gt < w.heap.size ∧ gb < w.heap.size ∧ w.heap.size ≤ W.heap.size from ⟨hF.tl.lt, hF.bn.lt, hW.size⟩)
  have HPL := Aside0.mk (fun W => plan_k (s.size : Int) W)
  have hce := hbW.cell
  have c0 : W.cell? ⟨g, 72, none⟩ = some (.int .i64 s.size) := (HF0.out.cell 0).trans rfl
  clear hF hb hbx hW
  refine callsIn_of_wp Try.func94 rfl trivial ?_ rfl
  simp only [Try.ntmps94, List.size_toArray, List.length_cons, List.length_nil, Nat.reduceAdd, Nat.reduceSub, Array.replicate_succ, Array.replicate_zero, List.push_toArray, List.append_toArray, List.nil_append, List.cons_append]
  gi_wp2_with (first
    | (refine ⟨trivial, ?_⟩; gi_at_call 46; refine (callsIn_wide.2 (HPL.out _)).mono ?_; rintro e wz ⟨v, rfl, hr, hB⟩; obtain ⟨A1, cp, rfl⟩ := ki_form hr; have HB := Aside0.mk hB; have HR := Aside0.mk hr; clear hr hB))
  obtain ⟨w2, hw2⟩ : ∃ w2, wz.alloc (.cells #[.bool true, .bool false] 4) = w2 := ⟨_, rfl⟩
  rw [hw2]
  have HB2 : Aside0 (Below W.heap.size W w2) := ⟨by rw [← hw2]; exact below_alloc HB.out _⟩
  have hB2z : Below wz.heap.size wz w2 := by rw [← hw2]; exact below_alloc (Below.refl _ _) _
  have HBL : w2.heap[wz.heap.size]? = some (.cells #[.bool true, .bool false] 4 (0, 0)) := by rw [← hw2]; exact blk_new wz _
  obtain ⟨gB, hgB⟩ : ∃ gB, wz.heap.size = gB := ⟨_, rfl⟩
  rw [hgB] at HBL ⊢
  have HC0 : Aside0 (WC base w.heap.size W.heap.size g gt gb Bx gB s (.slice A1 (planF s.size).length cp) w2) := ⟨⟨(HF0.out.below HB.out).below hB2z, (HB2.out.block Bx (Boxed.lt HBX.out)).trans HBX.out, Kd.R_below HR.out hB2z, HBL, HN.out.1, HN.out.2.1, Nat.le_trans HN.out.2.2 HB2.out.size⟩⟩
  have hJ2 : J [] w2 := hJb _ _ _ hJ0 HB2.out
  have HPlen := Aside0.mk (planF_len (s.size : Int))
  have HPT := Aside0.mk (fun o j (h : o < 2) => pre_t s.size o j h)
  have HPS := Aside0.mk (fun o (h : o < 2) => pre_succ s.size o h)
  have HPB := Aside0.mk (fun j => pre_b s.size j)
  have HPA := Aside0.mk (pre_all s.size)
  have HY := Aside0.mk hY
  obtain ⟨N, hNe⟩ : ∃ N, w.heap.size = N := ⟨_, rfl⟩
  rw [hNe] at HC0 HN HY
  obtain ⟨B0, hB0e⟩ : ∃ B0, W.heap.size = B0 := ⟨_, rfl⟩
  rw [hB0e] at HC0 
  obtain ⟨m, hm⟩ : ∃ m, (planF s.size).length = m := ⟨_, rfl⟩
  have HM := Aside0.mk hm
  rw [hm] at HC0 ⊢
  have hmi : (m : Int) ≤ 64 := by have := HPlen.out; omega
  clear hB2z HBL hw2 hgB HB2 HB HR HF0 HBX HN hce c0 hJ0 hY hm
  gi_loopw [17] (fun v17 wr => ∃ o : Nat, v17 = .int .i64 o ∧ o ≤ 2 ∧ J (preO s.size o) wr ∧ Aside0 (WC base N B0 g gt gb Bx gB s (.slice A1 m cp) wr)) (fun v17 _ => 2 - (intOf v17).toNat)
  case atStart => exact ⟨0, rfl, by omega, hJ2, HC0⟩
  case round =>
    clear HC0 hJ2
    obtain ⟨o, rfl, ho, hJ, HC⟩ := hrel
    by_cases h1 : o < 2
    · have h1i : (o : Int) < 2 := by omega
      have cB := eO_cell wr gB o HC.out.l h1
      have HO := Aside0.mk h1
      obtain ⟨e, he⟩ : ∃ e, eO o = e := ⟨_, rfl⟩
      rw [he] at cB
      have HE := Aside0.mk he
      clear h1 he
      gi_wp2_with fail
      gi_loopw [23] (fun v23 wx => ∃ j : Nat, v23 = .int .i64 j ∧ j ≤ m ∧ J (preO s.size o ++ pickT s.size e ((planF s.size).take j)) wx ∧ Aside0 (WC base N B0 g gt gb Bx gB s (.slice A1 m cp) wx)) (fun v23 _ => m - (intOf v23).toNat)
      case atStart => exact ⟨0, rfl, Nat.zero_le _, by rw [List.take_zero, show pickT s.size e [] = [] from rfl, List.append_nil]; exact hJ, HC⟩
      case round =>
        clear HC hJ cB
        obtain ⟨j, rfl, hj, hJ, HC⟩ := hrel
        by_cases h2 : j < m
        · have h2i : (j : Int) < (m : Int) := by omega
          have hjl : j < (planF s.size).length := by rw [HM.out]; exact h2
          obtain ⟨gp, ea, i0, i1⟩ := ki_elem HC.out.r j hjl
          cases ea
          have HTK := Aside0.mk (List.take_succ_eq_append_getElem hjl)
          have hpx := HPT.out o (j + 1) HO.out
          rw [HE.out, HTK.out] at hpx
          have HJ2 := Aside0.mk h2
          obtain ⟨x, hx⟩ : ∃ x, (planF s.size)[j] = x := ⟨_, rfl⟩
          rw [hx] at i0 i1 HTK hpx
          have HPX := Aside0.mk hpx
          obtain ⟨x0, x1⟩ := x
          simp only at i0 i1
          have hce := HC.out.b.cell
          have HEG := Aside0.mk (fun W (h : IsF base W g gt gb s) => edge1_f base g gt gb s x0 x1 W h)
          have hA4 : Below wr.heap.size wr (wr.alloc (.cells #[.int .i64 x0, .int .i64 x1] 24)) := below_alloc (Below.refl _ _) _
          have hce4 := pw_cell_below hA4 hce
          clear hpx hjl hx h2
          have hA5 := blk_new wr (.cells #[.int .i64 x0, .int .i64 x1] 24)
          gi_wp2_with fail
          refine ⟨trivial, ?_⟩
          refine (callsIn_wide.2 (HEG.out _ (HC.out.f.below hA4))).mono ?_
          rintro e' wa ⟨rfl, hB⟩
          have k0 := pw_cell_below hB ((blk_cell hA5 0).trans rfl)
          have k1 := pw_cell_below hB ((blk_cell hA5 1).trans rfl)
          have hBw : Below wr.heap.size wr wa := below_step hA4 hB
          have HCa := Aside0.mk (HC.out.below hBw)
          have hJa : J (preO s.size o ++ pickT s.size e ((planF s.size).take j)) wa := hJb _ _ _ hJ hBw
          clear hA4 hce4 hA5 hce i0 i1 hB hBw HC hJ HEG
          by_cases hq : edB s.size (x0, x1) = e
          · have HTE := Aside0.mk (pickT_yes (l := (planF s.size).take j) hq)
            have hnx : (preO s.size o ++ pickT s.size e ((planF s.size).take j)) ++ [(false, x0, x1)] <+: wantsF s.size := by
              have := HPX.out
              rw [HTE.out, ← List.append_assoc] at this
              exact this
            obtain ⟨fn, tmps, assign, body, hy, hR⟩ := HY.out _ (false, x0, x1) wa hJa hnx
            simp only [encW] at hy
            have HNX := Aside0.mk hnx
            have hqb : (edB s.size (x0, x1) == e) = true := by rw [hq]; simp
            generalize edB s.size (x0, x1) = q at *
            clear hnx hq
            gi_wp2_with fail
            refine hR.mono ?_
            rintro e3 W3 (⟨rfl, hJ3, hk3⟩ | ⟨rfl, hx3⟩)
            · have HC3 := Aside0.mk (HCa.out.kp hk3)
              gi_wp2_with fail
              go_roundw
              case rel => exact ⟨j + 1, by go_num, HJ2.out, by rw [HTK.out, HTE.out, ← List.append_assoc]; exact hJ3, HC3⟩
              case measure => simp [intOf]; have := HJ2.out; omega
            · gi_wp2_with fail
              refine bodyPost_ret (results_none rfl _ _ _) rfl ?_
              exact ⟨⟨_, rfl⟩, .inr ⟨_, HNX.out, hx3⟩⟩
          · have HTE := Aside0.mk (pickT_no (l := (planF s.size).take j) hq)
            have hqb : (edB s.size (x0, x1) == e) = false := beq_eq_false_iff_ne.2 hq
            generalize edB s.size (x0, x1) = q at *
            gi_wp2_with fail
            refine ⟨fun f h => (by cases h), ?_⟩
            gi_wp2_with fail
            go_roundw
            case rel => exact ⟨j + 1, by go_num, HJ2.out, by rw [HTK.out, HTE.out]; exact hJa, HCa⟩
            case measure => simp [intOf]; have := HJ2.out; omega
        · have h2i : ¬ (j : Int) < (m : Int) := by omega
          obtain rfl : j = m := by omega
          have hps := HPS.out o HO.out
          rw [HE.out] at hps
          have htk : (planF s.size).take j = planF s.size := by rw [← HM.out]; exact List.take_length
          rw [htk, hps] at hJ
          clear hps htk
          gi_wp2_with fail
          go_roundw
          case rel => exact ⟨o + 1, by go_num, HO.out, hJ, HC⟩
          case measure => simp [intOf]; have := HO.out; omega
    · have h1i : ¬ (o : Int) < 2 := by omega
      obtain rfl : o = 2 := by omega
      gi_wp2_with fail
      gi_loopw [43] (fun v43 wx => ∃ j : Nat, v43 = .int .i64 j ∧ j ≤ m ∧ J (preO s.size 2 ++ pickB ((planF s.size).take j)) wx ∧ Aside0 (WC base N B0 g gt gb Bx gB s (.slice A1 m cp) wx)) (fun v43 _ => m - (intOf v43).toNat)
      case atStart => exact ⟨0, rfl, Nat.zero_le _, by rw [List.take_zero, show pickB [] = [] from rfl, List.append_nil]; exact hJ, HC⟩
      case round =>
        clear HC hJ
        obtain ⟨j, rfl, hj, hJ, HC⟩ := hrel
        by_cases h2 : j < m
        · have h2i : (j : Int) < (m : Int) := by omega
          have hjl : j < (planF s.size).length := by rw [HM.out]; exact h2
          obtain ⟨gp, ea, i0, i1⟩ := ki_elem HC.out.r j hjl
          cases ea
          have HTK := Aside0.mk (List.take_succ_eq_append_getElem hjl)
          have hpx := HPB.out (j + 1)
          rw [HTK.out] at hpx
          have HJ2 := Aside0.mk h2
          obtain ⟨x, hx⟩ : ∃ x, (planF s.size)[j] = x := ⟨_, rfl⟩
          rw [hx] at i0 i1 HTK hpx
          have HPX := Aside0.mk hpx
          obtain ⟨x0, x1⟩ := x
          simp only at i0 i1
          have hA4 : Below wr.heap.size wr (wr.alloc (.cells #[.int .i64 x0, .int .i64 x1] 24)) := below_alloc (Below.refl _ _) _
          have HC4 := Aside0.mk (HC.out.below hA4)
          have hJ4 : J (preO s.size 2 ++ pickB ((planF s.size).take j)) (wr.alloc (.cells #[.int .i64 x0, .int .i64 x1] 24)) := hJb _ _ _ hJ hA4
          clear hpx hjl hx h2 HC hJ hA4
          by_cases hq : x0 = 0
          · subst hq
            have HTE := Aside0.mk (pickB_yes (l := (planF s.size).take j) (x := (0, x1)) rfl)
            have hnx : (preO s.size 2 ++ pickB ((planF s.size).take j)) ++ [(true, 0, x1)] <+: wantsF s.size := by
              have := HPX.out
              rw [HTE.out, ← List.append_assoc] at this
              exact this
            obtain ⟨fn, tmps, assign, body, hy, hR⟩ := HY.out _ (true, 0, x1) _ hJ4 hnx
            simp only [encW] at hy
            have HNX := Aside0.mk hnx
            clear hnx
            gi_wp2_with fail
            refine hR.mono ?_
            rintro e3 W3 (⟨rfl, hJ3, hk3⟩ | ⟨rfl, hx3⟩)
            · have HC3 := Aside0.mk (HC4.out.kp hk3)
              gi_wp2_with fail
              go_roundw
              case rel => exact ⟨j + 1, by go_num, HJ2.out, by rw [HTK.out, HTE.out, ← List.append_assoc]; exact hJ3, HC3⟩
              case measure => simp [intOf]; have := HJ2.out; omega
            · gi_wp2_with fail
              refine bodyPost_ret (results_none rfl _ _ _) rfl ?_
              exact ⟨⟨_, rfl⟩, .inr ⟨_, HNX.out, hx3⟩⟩
          · have HTE := Aside0.mk (pickB_no (l := (planF s.size).take j) (x := (x0, x1)) hq)
            have hqb : (x0 == 0) = false := beq_eq_false_iff_ne.2 hq
            gi_wp2_with fail
            refine ⟨fun f h => (by cases h), ?_⟩
            gi_wp2_with fail
            go_roundw
            case rel => exact ⟨j + 1, by go_num, HJ2.out, by rw [HTK.out, HTE.out]; exact hJ4, HC4⟩
            case measure => simp [intOf]; have := HJ2.out; omega
        · have h2i : ¬ (j : Int) < (m : Int) := by omega
          obtain rfl : j = m := by omega
          have htk : (planF s.size).take j = planF s.size := by rw [← HM.out]; exact List.take_length
          rw [htk, HPA.out] at hJ
          clear htk HY
          gi_wp2_with fail
          go_end0
          exact ⟨⟨_, rfl⟩, .inl hJ⟩
end Go.Proofs.Ytondnammkcgjpaa.Ft
namespace Go.Proofs.Ytondnammkcgjpaa.Ft
open Go Go.RowKit Go.Shelf Go.Proofs.YtondnammkcgjpaaW.PrintWords Go.Proofs.YtondnammkcgjpaaW.PrintLast Go.Proofs.YtondnammkcgjpaaW.PrintMore Go.Proofs.Ytondnammkcgjpaa.Mp
open Go.Proofs.Ytondnammkcgjpaa.ShaP Go.Proofs.Ytondnammkcgjpaa.Mk Go.Proofs.Ytondnammkcgjpaa.Rg Go.Proofs.Ytondnammkcgjpaa.RgP Go.Proofs.Ytondnammkcgjpaa.Rf Go.Proofs.Ytondnammkcgjpaa.RgL Go.Proofs.Ytondnammkcgjpaa.Til Go.Proofs.Ytondnammkcgjpaa.Fg
open Go.Maps (Keyed)
theorem laid : laidOutB Try.prog = true := by kernel_rfl
theorem K24 : Keyed Try.prog 24 := Keyed.of_law (deep_law_laid laid (m := 2) (by omega) (of_decide_eq_true (by kernel_rfl)) (by kernel_rfl) (by rw [Try.underlying24]))
theorem K3 : Keyed Try.prog 3 := Go.Maps.int_keyed Try.underlying3
def wf (a : Int) : Prop := (Lit.int .i64 a).wf = true
theorem wf_of {a : Int} (h0 : -1000000 ≤ a) (h1 : a ≤ 1000000) : wf a := by
  unfold wf Lit.wf
  have e1 : IntKind.i64.min = -9223372036854775808 := rfl
  have e2 : IntKind.i64.max = 9223372036854775807 := rfl
  simp [e1, e2]
  omega
theorem key3 {a : Int} (h : wf a) : ∃ kl, keyOf Try.prog 3 (inV a) = some kl := ⟨_, Go.Maps.keyOf_int_mk Try.underlying3 h⟩
theorem kt24 : Try.prog.keyType 24 = true := by kernel_rfl
theorem cells24 : Try.prog.cellsOf 24 = 2 := by kernel_rfl
theorem cells3 : Try.prog.cellsOf 3 = 1 := by kernel_rfl
theorem key24 {a b : Int} (ha : wf a) (hb : wf b) : ∃ kl, keyOf Try.prog 24 (idV (a, b)) = some kl := by
  have hu := Try.underlying24
  have hu3 := Try.underlying3
  have hf : (Value.agg #[.int .i64 a, .int .i64 b]).formed Try.prog 24 = true := by simp [Value.formed, hu, cells24]
  obtain ⟨d, hd⟩ : ∃ d, Try.prog.types.size = d + 1 := ⟨Try.prog.types.size - 1, by
    have : 0 < Try.prog.types.size := of_decide_eq_true (by kernel_rfl)
    omega⟩
  have h3 : ∀ x, wf x → Try.prog.keyLits (d + 1) 3 [.int .i64 x] = some [.int .i64 x] := fun x hx => by
    unfold Program.keyLits
    rw [hu3]
    simp only [and_self, true_and]
    exact if_pos hx
  have hk : Try.prog.keyLits (Try.prog.types.size + 1) 24 [.int .i64 a, .int .i64 b] = some [.int .i64 a, .int .i64 b] := by
    rw [hd]
    unfold Program.keyLits
    rw [hu]
    simp only [cells24, cells3, List.length_cons, List.length_nil, List.mapM_cons, List.mapM_nil, List.drop, List.take]
    simp [h3 a ha, h3 b hb]
  refine ⟨.string (keyBytes [.int .i64 a, .int .i64 b]), ?_⟩
  unfold keyOf
  rw [hu]
  simp only [kt24, idV, hf, Bool.and_self, if_true]
  rw [show (Value.agg #[.int .i64 a, .int .i64 b]).cells.toList = [.int .i64 a, .int .i64 b] from rfl, hk]
  rfl
theorem look_s {W : World} {gm : Nat} {f : Cont} {k tm : TypeId} {key : Value} {A : Option Addr} {n c : Nat} {kl : Lit} (hm : IMap W Try.prog k gm f) (K : Keyed Try.prog k) (ht : Try.prog.underlying tm = some (.map k 22)) (hk : keyOf Try.prog k key = some kl)
    (hv : (f key).getD (.slice none 0 0) = .slice A n c) : (Instr.lookup tm (.map (some gm)) key false).run Try.prog W = .ok (.slice A n c) W := by
  have h := hm.look false K ht (z := .slice none 0 0) (by kernel_rfl) hk
  rw [hv] at h
  exact h
theorem has_t (base g gt gb : Nat) (s : FS) (x0 x1 : Int) (w : World) (h : IsF base w g gt gb s) (h0 : wf x0) (h1 : wf x1) :
    Calls Try.prog 70 #[.pointer (some ⟨g, 0, none⟩), .agg #[.bool false, .int .i64 x0, .int .i64 x1]] w fun e w' => e = .returned (.bool (s.tiles (x0, x1)).isSome) ∧ Below w.heap.size w w' := by
  have OW := Aside0.mk (Mem.Own.nil w)
  have HF := Aside0.mk h
  have hsn := fun (W : World) (a : Option Addr) (n c : Nat) => run_neq_slice_nil_any (P := Try.prog) W 22 9 a n c 0 0 Try.underlying22
  obtain ⟨kl, hkl⟩ := key24 h0 h1
  obtain ⟨f, hm, hx⟩ := h.tl
  have hc : ∃ A n c, (f (idV (x0, x1))).getD (.slice none 0 0) = .slice A n c ∧ A.isSome = (s.tiles (x0, x1)).isSome := by
    obtain ⟨q1, q2⟩ := hx (x0, x1)
    cases hq : s.tiles (x0, x1) with
    | none => rw [q1 hq]; exact ⟨none, 0, 0, rfl, rfl⟩
    | some l =>
      obtain ⟨v, e, hr, h0l, _⟩ := q2 l hq
      obtain ⟨gr, cap, rfl, _⟩ := Kd.R_form hr h0l
      rw [e]
      exact ⟨_, _, _, rfl, rfl⟩
  obtain ⟨A, n, c, hv, hA⟩ := hc
  have HA := Aside0.mk hA
  have HM := Aside0.mk hm
  have HV := Aside0.mk hv
  have HKL := Aside0.mk hkl
  clear h h0 h1 hx hv hkl hA
  go_enter Try.func70, Try.ntmps70
  go_wp2_with (first
    | ((with_reducible refine gate_dst (N := 3) rfl ?_); refine box_event ?hg (N := 3) ?hd (cs := #[.bool false, .int .i64 x0, .int .i64 x1]) (t := 58) ?hr ?_; (case hd => rfl); (case hg => rfl); (case hr => first | (go_simp; done) | (go_simp; rfl)); intro gI hg W_ hb hbb; have n_ := Aside0.mk (HF.out.below hbb); have n2 := Aside0.mk (HM.out.below' hbb); clear HF HM; have HF := n_; have HM := n2; clear n_ n2; have j0 := (blk_cell hb 0).trans rfl; have n_ : Aside0 (Mem.Own w W_ [(gI, #[.bool false, .int .i64 x0, .int .i64 x1], 58)]) := ⟨OW.out.new hg hb hbb⟩; clear OW hb hbb hg; have OW := n_; clear n_))
  have OD := Aside0.mk OW.out.drew
  have HD := Aside0.mk HF.out.drew
  have HMD := Aside0.mk HM.out.drew
  have i0 : W_.drew.cell? ⟨gI, 1, none⟩ = some (.int .i64 x0) := (OD.out.cell 0 rfl 1).trans rfl
  have i1 : W_.drew.cell? ⟨gI, 2, none⟩ = some (.int .i64 x1) := (OD.out.cell 0 rfl 2).trans rfl
  have c0 : W_.drew.cell? ⟨g, 74, none⟩ = some (.map (some gt)) := (HD.out.cell 2).trans rfl
  clear OW HF HM j0
  refine start_ (n := 9) (S := fun w' => Below (W_).drew.heap.size (W_).drew w') (ds := []) #[false, false, false, false, false, false, false, false, false] (by kernel_rfl) rfl rfl (Below.refl _ _) (fun hHeld => ?_)
  generalize (W_).drew = W0 at *
  refine pure_ (i := 0) (N := (some 16)) (v := ?_) (a' := ?_) #[true, false, false, false, false, false, false, false, false] rfl rfl (by kernel_rfl) (fun _ _ _ h => h) (Or.inl ⟨by rfl, ?_⟩) ?_ ?_
  rotate_left
  · intro w'
    go_simp
    first | done | with_reducible rfl
  rotate_left
  · simp only [Act.put, List.setIfInBounds_toArray, List.set_cons_zero, List.set_cons_succ, i64_w, i32_w]
    rfl
  refine pure_ (i := 1) (N := (some 17)) (v := ?_) (a' := ?_) #[true, true, false, false, false, false, false, false, false] rfl rfl (by kernel_rfl) (fun _ _ _ h => h) (Or.inl ⟨by rfl, ?_⟩) ?_ ?_
  rotate_left
  · intro w'
    skip
    go_simp
    first | done | with_reducible rfl
  rotate_left
  · simp only [Act.put, List.setIfInBounds_toArray, List.set_cons_zero, List.set_cons_succ, i64_w, i32_w]
    rfl
  refine pure_ (i := 2) (N := (some 18)) (v := ?_) (a' := ?_) #[true, true, true, false, false, false, false, false, false] rfl rfl (by kernel_rfl) (fun _ _ _ h => h) (Or.inl ⟨by rfl, ?_⟩) ?_ ?_
  rotate_left
  · intro w'
    go_simp
    first | done | with_reducible rfl
  rotate_left
  · simp only [Act.put, List.setIfInBounds_toArray, List.set_cons_zero, List.set_cons_succ, i64_w, i32_w]
    rfl
  refine take_ (i := 3) (N := (some 19)) (v := ?_) (a' := ?_) #[true, true, true, true, false, false, false, false, false] rfl rfl (by kernel_rfl) (fun _ _ _ h => h) (Or.inl ⟨by rfl, ?_⟩) hHeld ?_ ?_
  rotate_left
  · intro w' hS
    have s0 := pw_cell_below hS c0
    go_simp
    first | done | with_reducible rfl
  rotate_left
  · simp only [Act.put, List.setIfInBounds_toArray, List.set_cons_zero, List.set_cons_succ, i64_w, i32_w]
    rfl
  refine pure_ (i := 4) (N := (some 20)) (v := ?_) (a' := ?_) #[true, true, true, true, true, false, false, false, false] rfl rfl (by kernel_rfl) (fun _ _ _ h => h) (Or.inl ⟨by rfl, ?_⟩) ?_ ?_
  rotate_left
  · intro w'
    go_simp
    first | done | with_reducible rfl
  rotate_left
  · simp only [Act.put, List.setIfInBounds_toArray, List.set_cons_zero, List.set_cons_succ, i64_w, i32_w]
    rfl
  refine take_ (i := 5) (N := (some 21)) (v := ?_) (a' := ?_) #[true, true, true, true, true, true, false, false, false] rfl rfl (by kernel_rfl) (fun _ _ _ h => h) (Or.inl ⟨by rfl, ?_⟩) hHeld ?_ ?_
  rotate_left
  · intro w' hS
    have s0 := pw_cell_below hS i0
    have s1 := pw_cell_below hS i1
    go_simp
    first | done | with_reducible rfl
  rotate_left
  · simp only [Act.put, List.setIfInBounds_toArray, List.set_cons_zero, List.set_cons_succ, i64_w, i32_w]
    rfl
  refine take_ (i := 6) (N := (some 22)) (v := ?_) (a' := ?_) #[true, true, true, true, true, true, true, false, false] rfl rfl (by kernel_rfl) (fun _ _ _ h => h) (Or.inl ⟨by rfl, ?_⟩) hHeld ?_ ?_
  rotate_left
  · intro w' hS
    have hl : (Instr.lookup 111 (.map (some gt)) (.agg #[.int .i64 x0, .int .i64 x1]) false).run Try.prog w' = .ok (.slice A n c) w' := look_s (HMD.out.below' hS) K24 Try.underlying111 HKL.out HV.out
    go_simp
    first | done | with_reducible rfl
  rotate_left
  · simp only [Act.put, List.setIfInBounds_toArray, List.set_cons_zero, List.set_cons_succ, i64_w, i32_w]
    rfl
  refine pure_ (i := 7) (N := (some 23)) (v := ?_) (a' := ?_) #[true, true, true, true, true, true, true, true, false] rfl rfl (by kernel_rfl) (fun _ _ _ h => h) (Or.inl ⟨by rfl, ?_⟩) ?_ ?_
  rotate_left
  · intro w'
    go_simp
    first | done | with_reducible rfl
  rotate_left
  · simp only [Act.put, List.setIfInBounds_toArray, List.set_cons_zero, List.set_cons_succ, i64_w, i32_w]
    rfl
  refine pure_ (i := 8) (N := (some 4)) (v := ?_) (a' := ?_) #[true, true, true, true, true, true, true, true, true] rfl rfl (by kernel_rfl) (fun _ _ _ h => h) (Or.inl ⟨by rfl, ?_⟩) ?_ ?_
  rotate_left
  · intro w'
    go_simp
    first | done | with_reducible rfl
  rotate_left
  · simp only [Act.put, List.setIfInBounds_toArray, List.set_cons_zero, List.set_cons_succ, i64_w, i32_w]
    rfl
  refine done_ (by kernel_rfl) ?_
  have OB := Aside0.mk (OD.out.step hHeld).below
  clear hHeld
  go_wp2_with fail
  go_ret
  exact ⟨by rw [← HA.out]; cases A <;> rfl, OB.out⟩
theorem has_b (base g gt gb : Nat) (s : FS) (x0 x1 : Int) (w : World) (h : IsF base w g gt gb s) (h0 : wf x0) (h1 : wf x1) :
    Calls Try.prog 70 #[.pointer (some ⟨g, 0, none⟩), .agg #[.bool true, .int .i64 x0, .int .i64 x1]] w fun e w' => e = .returned (.bool (s.bund x1).isSome) ∧ Below w.heap.size w w' := by
  have OW := Aside0.mk (Mem.Own.nil w)
  have HF := Aside0.mk h
  have hsn := fun (W : World) (a : Option Addr) (n c : Nat) => run_neq_slice_nil_any (P := Try.prog) W 22 9 a n c 0 0 Try.underlying22
  obtain ⟨kl, hkl⟩ := key3 h1
  obtain ⟨f, hm, hx⟩ := h.bn
  have hc : ∃ A n c, (f (inV x1)).getD (.slice none 0 0) = .slice A n c ∧ A.isSome = (s.bund x1).isSome := by
    obtain ⟨q1, q2⟩ := hx x1
    cases hq : s.bund x1 with
    | none => rw [q1 hq]; exact ⟨none, 0, 0, rfl, rfl⟩
    | some l =>
      obtain ⟨v, e, hr, h0l, _⟩ := q2 l hq
      obtain ⟨gr, cap, rfl, _⟩ := Kd.R_form hr h0l
      rw [e]
      exact ⟨_, _, _, rfl, rfl⟩
  obtain ⟨A, n, c, hv, hA⟩ := hc
  have HA := Aside0.mk hA
  have HM := Aside0.mk hm
  have HV := Aside0.mk hv
  have HKL := Aside0.mk hkl
  clear h h0 h1 hx hv hkl hA
  go_enter Try.func70, Try.ntmps70
  go_wp2_with (first
    | ((with_reducible refine gate_dst (N := 3) rfl ?_); refine box_event ?hg (N := 3) ?hd (cs := #[.bool true, .int .i64 x0, .int .i64 x1]) (t := 58) ?hr ?_; (case hd => rfl); (case hg => rfl); (case hr => first | (go_simp; done) | (go_simp; rfl)); intro gI hg W_ hb hbb; have n_ := Aside0.mk (HF.out.below hbb); have n2 := Aside0.mk (HM.out.below' hbb); clear HF HM; have HF := n_; have HM := n2; clear n_ n2; have j0 := (blk_cell hb 0).trans rfl; have n_ : Aside0 (Mem.Own w W_ [(gI, #[.bool true, .int .i64 x0, .int .i64 x1], 58)]) := ⟨OW.out.new hg hb hbb⟩; clear OW hb hbb hg; have OW := n_; clear n_))
  have OD := Aside0.mk OW.out.drew
  have HD := Aside0.mk HF.out.drew
  have HMD := Aside0.mk HM.out.drew
  have i0 : W_.drew.cell? ⟨gI, 1, none⟩ = some (.int .i64 x0) := (OD.out.cell 0 rfl 1).trans rfl
  have i1 : W_.drew.cell? ⟨gI, 2, none⟩ = some (.int .i64 x1) := (OD.out.cell 0 rfl 2).trans rfl
  have c0 : W_.drew.cell? ⟨g, 75, none⟩ = some (.map (some gb)) := (HD.out.cell 3).trans rfl
  clear OW HF HM j0
  refine start_ (n := 10) (S := fun w' => Below (W_).drew.heap.size (W_).drew w') (ds := []) #[false, false, false, false, false, false, false, false, false, false] (by kernel_rfl) rfl rfl (Below.refl _ _) (fun hHeld => ?_)
  generalize (W_).drew = W0 at *
  refine pure_ (i := 0) (N := (some 7)) (v := ?_) (a' := ?_) #[true, false, false, false, false, false, false, false, false, false] rfl rfl (by kernel_rfl) (fun _ _ _ h => h) (Or.inl ⟨by rfl, ?_⟩) ?_ ?_
  rotate_left
  · intro w'
    go_simp
    first | done | with_reducible rfl
  rotate_left
  · simp only [Act.put, List.setIfInBounds_toArray, List.set_cons_zero, List.set_cons_succ, i64_w, i32_w]
    rfl
  refine pure_ (i := 1) (N := (some 8)) (v := ?_) (a' := ?_) #[true, true, false, false, false, false, false, false, false, false] rfl rfl (by kernel_rfl) (fun _ _ _ h => h) (Or.inl ⟨by rfl, ?_⟩) ?_ ?_
  rotate_left
  · intro w'
    skip
    go_simp
    first | done | with_reducible rfl
  rotate_left
  · simp only [Act.put, List.setIfInBounds_toArray, List.set_cons_zero, List.set_cons_succ, i64_w, i32_w]
    rfl
  refine pure_ (i := 2) (N := (some 9)) (v := ?_) (a' := ?_) #[true, true, true, false, false, false, false, false, false, false] rfl rfl (by kernel_rfl) (fun _ _ _ h => h) (Or.inl ⟨by rfl, ?_⟩) ?_ ?_
  rotate_left
  · intro w'
    go_simp
    first | done | with_reducible rfl
  rotate_left
  · simp only [Act.put, List.setIfInBounds_toArray, List.set_cons_zero, List.set_cons_succ, i64_w, i32_w]
    rfl
  refine take_ (i := 3) (N := (some 10)) (v := ?_) (a' := ?_) #[true, true, true, true, false, false, false, false, false, false] rfl rfl (by kernel_rfl) (fun _ _ _ h => h) (Or.inl ⟨by rfl, ?_⟩) hHeld ?_ ?_
  rotate_left
  · intro w' hS
    have s0 := pw_cell_below hS c0
    go_simp
    first | done | with_reducible rfl
  rotate_left
  · simp only [Act.put, List.setIfInBounds_toArray, List.set_cons_zero, List.set_cons_succ, i64_w, i32_w]
    rfl
  refine pure_ (i := 4) (N := (some 11)) (v := ?_) (a' := ?_) #[true, true, true, true, true, false, false, false, false, false] rfl rfl (by kernel_rfl) (fun _ _ _ h => h) (Or.inl ⟨by rfl, ?_⟩) ?_ ?_
  rotate_left
  · intro w'
    go_simp
    first | done | with_reducible rfl
  rotate_left
  · simp only [Act.put, List.setIfInBounds_toArray, List.set_cons_zero, List.set_cons_succ, i64_w, i32_w]
    rfl
  refine pure_ (i := 5) (N := (some 12)) (v := ?_) (a' := ?_) #[true, true, true, true, true, true, false, false, false, false] rfl rfl (by kernel_rfl) (fun _ _ _ h => h) (Or.inl ⟨by rfl, ?_⟩) ?_ ?_
  rotate_left
  · intro w'
    go_simp
    first | done | with_reducible rfl
  rotate_left
  · simp only [Act.put, List.setIfInBounds_toArray, List.set_cons_zero, List.set_cons_succ, i64_w, i32_w]
    rfl
  refine take_ (i := 6) (N := (some 13)) (v := ?_) (a' := ?_) #[true, true, true, true, true, true, true, false, false, false] rfl rfl (by kernel_rfl) (fun _ _ _ h => h) (Or.inl ⟨by rfl, ?_⟩) hHeld ?_ ?_
  rotate_left
  · intro w' hS
    have s0 := pw_cell_below hS i0
    have s1 := pw_cell_below hS i1
    go_simp
    first | done | with_reducible rfl
  rotate_left
  · simp only [Act.put, List.setIfInBounds_toArray, List.set_cons_zero, List.set_cons_succ, i64_w, i32_w]
    rfl
  refine take_ (i := 7) (N := (some 14)) (v := ?_) (a' := ?_) #[true, true, true, true, true, true, true, true, false, false] rfl rfl (by kernel_rfl) (fun _ _ _ h => h) (Or.inl ⟨by rfl, ?_⟩) hHeld ?_ ?_
  rotate_left
  · intro w' hS
    have hl : (Instr.lookup 112 (.map (some gb)) (.int .i64 x1) false).run Try.prog w' = .ok (.slice A n c) w' := look_s (HMD.out.below' hS) K3 Try.underlying112 HKL.out HV.out
    go_simp
    first | done | with_reducible rfl
  rotate_left
  · simp only [Act.put, List.setIfInBounds_toArray, List.set_cons_zero, List.set_cons_succ, i64_w, i32_w]
    rfl
  refine pure_ (i := 8) (N := (some 15)) (v := ?_) (a' := ?_) #[true, true, true, true, true, true, true, true, true, false] rfl rfl (by kernel_rfl) (fun _ _ _ h => h) (Or.inl ⟨by rfl, ?_⟩) ?_ ?_
  rotate_left
  · intro w'
    go_simp
    first | done | with_reducible rfl
  rotate_left
  · simp only [Act.put, List.setIfInBounds_toArray, List.set_cons_zero, List.set_cons_succ, i64_w, i32_w]
    rfl
  refine pure_ (i := 9) (N := (some 4)) (v := ?_) (a' := ?_) #[true, true, true, true, true, true, true, true, true, true] rfl rfl (by kernel_rfl) (fun _ _ _ h => h) (Or.inl ⟨by rfl, ?_⟩) ?_ ?_
  rotate_left
  · intro w'
    go_simp
    first | done | with_reducible rfl
  rotate_left
  · simp only [Act.put, List.setIfInBounds_toArray, List.set_cons_zero, List.set_cons_succ, i64_w, i32_w]
    rfl
  refine done_ (by kernel_rfl) ?_
  have OB := Aside0.mk (OD.out.step hHeld).below
  clear hHeld
  go_wp2_with fail
  go_ret
  exact ⟨by rw [← HA.out]; cases A <;> rfl, OB.out⟩
def hasF (s : FS) (x : Want) : Bool := if x.1 then (s.bund x.2.2).isSome else (s.tiles (x.2.1, x.2.2)).isSome
theorem has_c (base g gt gb : Nat) (s : FS) (x : Want) (w : World) (h : IsF base w g gt gb s) (h0 : wf x.2.1) (h1 : wf x.2.2) :
    Calls Try.prog 70 #[.pointer (some ⟨g, 0, none⟩), .agg #[.bool x.1, .int .i64 x.2.1, .int .i64 x.2.2]] w fun e w' => e = .returned (.bool (hasF s x)) ∧ Below w.heap.size w w' := by
  obtain ⟨b, x0, x1⟩ := x
  cases b with
  | true => exact has_b base g gt gb s x0 x1 w h h0 h1
  | false => exact has_t base g gt gb s x0 x1 w h h0 h1
end Go.Proofs.Ytondnammkcgjpaa.Ft
namespace Go.Proofs.Ytondnammkcgjpaa.Ft
open Go Go.RowKit Go.Shelf Go.Proofs.YtondnammkcgjpaaW.PrintWords Go.Proofs.YtondnammkcgjpaaW.PrintLast Go.Proofs.YtondnammkcgjpaaW.PrintMore Go.Proofs.Ytondnammkcgjpaa.Mp
open Go.Proofs.Ytondnammkcgjpaa.ShaP Go.Proofs.Ytondnammkcgjpaa.Mk Go.Proofs.Ytondnammkcgjpaa.Rg Go.Proofs.Ytondnammkcgjpaa.RgP Go.Proofs.Ytondnammkcgjpaa.Rf Go.Proofs.Ytondnammkcgjpaa.RgL Go.Proofs.Ytondnammkcgjpaa.Til Go.Proofs.Ytondnammkcgjpaa.Fg Go.Proofs.Ytondnammkcgjpaa.Fun
attribute [local go_sem] Oper.semAt_some
theorem plan_b : ∀ n : Nat, n < 65 → ∀ x ∈ planF n, 0 ≤ x.1 ∧ x.1 ≤ 3 ∧ 0 ≤ x.2 ∧ x.2 ≤ 16 := by decide +kernel
theorem wants_b (n : Nat) (hn : n ≤ 64) (x : Want) (hx : x ∈ wantsF n) : 0 ≤ x.2.1 ∧ x.2.1 ≤ 3 ∧ 0 ≤ x.2.2 ∧ x.2.2 ≤ 16 := by
  have key : x.2 ∈ planF n := by
    unfold wantsF pickT pickB at hx
    simp only [List.mem_append, List.mem_map, List.mem_filter] at hx
    rcases hx with (⟨y, hy, rfl⟩ | ⟨y, hy, rfl⟩) | ⟨y, hy, rfl⟩ <;> exact hy.1
  exact plan_b n (by omega) _ key
def nextF (s : FS) : Option Want := (wantsF s.size).find? fun x => !hasF s x
variable {base g gt gb gF gR gD : Nat} {s : FS} {w : World}
def wcs (x : Want) : Array Value := #[.bool x.1, .int .i64 x.2.1, .int .i64 x.2.2]
def NI (w : World) (base g gt gb : Nat) (s : FS) (gF gR gD : Nat) (pre : List Want) (W : World) : Prop :=
  IsF base W g gt gb s ∧ Mem.Own w W [(gF, #[.pointer (some ⟨g, 0, none⟩)], 67), (gR, wcs (false, 0, 0), 58), (gD, #[.bool false], 4)] ∧ ∀ x ∈ pre, hasF s x = true
def NX (w : World) (base g gt gb : Nat) (s : FS) (gF gR gD : Nat) (c : Code) (pre : List Want) (W : World) : Prop :=
  c = .ret ∧ ∃ x, nextF s = some x ∧ Mem.Own w W [(gF, #[.pointer (some ⟨g, 0, none⟩)], 67), (gR, wcs x, 58), (gD, #[.bool true], 4)]
theorem IsF.recs {W V : World} {row : Option Nat} {N : Nat} (h : IsF base W g gt gb s) (h1 : gt < N) (h2 : gb < N) (hg : W.grownBy V row) (hr : ∀ r, row = some r → N ≤ r ∧ ∃ o : Obj, W.heap[r]? = some o ∧ o.isCells = false) : IsF base V g gt gb s :=
  h.keep fun k hlt hf => hg.block k hlt (fun e => by
    obtain ⟨hN, o, ho, hc⟩ := hr k e.symm
    rcases hf with rfl | rfl | rfl | q
    · rw [h.blk] at ho; cases Option.some.inj ho; cases hc
    · omega
    · omega
    · obtain ⟨cs, fr, e2⟩ := tag_str q (by decide)
      rw [e2] at ho; cases Option.some.inj ho; cases hc)
theorem results_cb {fn : Func} {p q : Tmp} (h : fn.results = #[.cell p 58, .cell q 4]) (tmps : Array Value) (W : World) (gR gD : Nat) (x : Want) (b : Bool) (hp : tmps.getD p undef = .pointer (some ⟨gR, 0, none⟩)) (hq : tmps.getD q undef = .pointer (some ⟨gD, 0, none⟩))
    (hR : W.heap[gR]? = some (.cells (wcs x) 58 (0, 0))) (hD : W.heap[gD]? = some (.cells #[.bool b] 4 (0, 0))) : (results fn tmps).run Try.prog W = .ok (.tuple #[.agg (wcs x), .bool b]) W := by
  have hp' : tmps[p]?.getD undef = .pointer (some ⟨gR, 0, none⟩) := by simpa using hp
  have hq' : tmps[q]?.getD undef = .pointer (some ⟨gD, 0, none⟩) := by simpa using hq
  have hc : W.cell? ⟨gD, 0, none⟩ = some (.bool b) := (blk_cell hD 0).trans rfl
  have c0 : W.cell? ⟨gR, 0, none⟩ = some (.bool x.1) := (blk_cell hR 0).trans rfl
  have c1 : W.cell? ⟨gR, 1, none⟩ = some (.int .i64 x.2.1) := (blk_cell hR 1).trans rfl
  have c2 : W.cell? ⟨gR, 2, none⟩ = some (.int .i64 x.2.2) := (blk_cell hR 2).trans rfl
  simp [results, h, hp', hq', asAddr, go_sem, hc, c0, c1, c2, wcs, Result.andThen]
theorem wants_c (g : Nat) (w : World) : Calls Try.prog 69 #[.pointer (some ⟨g, 0, none⟩)] w fun e w' => e = .returned (.func (.func 94) #[] #[.pointer (some ⟨w.heap.size, 0, none⟩)]) ∧ w' = w.alloc (.cells #[.pointer (some ⟨g, 0, none⟩)] 67) := by
  go_enter Try.func69, Try.ntmps69
  go_wp2
  go_ret
  exact ⟨rfl, rfl⟩
theorem find_pre {p : Want → Bool} {l pre : List Want} {x : Want} (h : pre ++ [x] <+: l) (h1 : ∀ y ∈ pre, p y = false) (h2 : p x = true) : l.find? p = some x := by
  obtain ⟨r, rfl⟩ := h
  rw [List.append_assoc, List.find?_append, List.find?_eq_none.2 (fun y hy => by rw [h1 y hy]; simp)]
  simp [h2]
theorem next_c (w : World) (h : IsF base w g gt gb s) :
    Calls Try.prog 39 #[.pointer (some ⟨g, 0, none⟩)] w fun e w' => ∃ x b, e = .returned (.tuple #[.agg (wcs x), .bool b]) ∧ ((nextF s = some x ∧ b = true) ∨ (nextF s = none ∧ x = (false, 0, 0) ∧ b = false)) ∧ Below w.heap.size w w' := by
  have OW := Aside0.mk (Mem.Own.nil w)
  have HF := Aside0.mk h
  have HWA := Aside0.mk (fun W => wants_c g W)
  clear h
  refine (callsIn_wide (n := 5)).1 ?_
  refine callsIn_of_wp_marks Try.func39 rfl trivial ?_ rfl
  simp only [Try.ntmps39, List.size_toArray, List.length_cons, List.length_nil, Nat.reduceAdd, Nat.reduceSub, Array.replicate_succ, Array.replicate_zero, List.push_toArray, List.append_toArray, List.nil_append, List.cons_append]
  refine wpIn_wide.2 ?_
  go_wp2_with (first
    | ((with_reducible refine gate_dst (N := 1) rfl ?_); refine box_event ?hg (N := 1) ?hd (cs := #[.pointer (some ⟨g, 0, none⟩)]) (t := 67) ?hr ?_; (case hd => rfl); (case hg => rfl); (case hr => first | (go_simp; done) | (go_simp; rfl)); intro gF hg W_ hb hbb; have n_ := Aside0.mk (HF.out.below hbb); clear HF; have HF := n_; clear n_; have n_ : Aside0 (Mem.Own w W_ [(gF, #[.pointer (some ⟨g, 0, none⟩)], 67)]) := ⟨OW.out.new hg hb hbb⟩; clear OW hb hbb hg; have OW := n_; clear n_)
    | ((with_reducible refine gate_dst (N := 2) rfl ?_); refine box_event ?hg (N := 2) ?hd (cs := wcs (false, 0, 0)) (t := 58) ?hr ?_; (case hd => rfl); (case hg => rfl); (case hr => first | (go_simp; done) | (go_simp; rfl)); intro gR hg W_ hb hbb; have n_ := Aside0.mk (HF.out.below hbb); clear HF; have HF := n_; clear n_; have n_ : Aside0 (Mem.Own w W_ [(gF, #[.pointer (some ⟨g, 0, none⟩)], 67), (gR, wcs (false, 0, 0), 58)]) := ⟨OW.out.new hg hb hbb⟩; clear OW hb hbb hg; have OW := n_; clear n_)
    | ((with_reducible refine gate_dst (N := 3) rfl ?_); refine box_event ?hg (N := 3) ?hd (cs := #[.bool false]) (t := 4) ?hr ?_; (case hd => rfl); (case hg => rfl); (case hr => first | (go_simp; done) | (go_simp; rfl)); intro gD hg W_ hb hbb; have n_ := Aside0.mk (HF.out.below hbb); clear HF; have HF := n_; clear n_; have j0 := ((OW.out.step hbb).cell 0 rfl 0).trans rfl; have n_ : Aside0 (Mem.Own w W_ [(gF, #[.pointer (some ⟨g, 0, none⟩)], 67), (gR, wcs (false, 0, 0), 58), (gD, #[.bool false], 4)]) := ⟨OW.out.new hg hb hbb⟩; clear OW hb hbb hg; have OW := n_; clear n_)
    | (go_at_call 69; (with_reducible refine (HWA.out _).mono ?_); rintro e w_ ⟨rfl, rfl⟩))
  clear j0 HWA
  have hBx := blk_new W_ (.cells #[.pointer (some ⟨g, 0, none⟩)] 67)
  have HF1 := Aside0.mk (HF.out.below (below_alloc (Below.refl _ _) (.cells #[.pointer (some ⟨g, 0, none⟩)] 67)))
  have OW1 := Aside0.mk (OW.out.step (below_alloc (Below.refl _ _) (.cells #[.pointer (some ⟨g, 0, none⟩)] 67)))
  obtain ⟨Bx, hBxe⟩ : ∃ Bx, W_.heap.size = Bx := ⟨_, rfl⟩
  obtain ⟨w1, hw1⟩ : ∃ w1, W_.alloc (.cells #[.pointer (some ⟨g, 0, none⟩)] 67) = w1 := ⟨_, rfl⟩
  rw [hBxe, hw1] at hBx
  rw [hw1] at HF1 OW1
  rw [hBxe, hw1]
  have hbx : Bx < w1.heap.size := blk_lt hBx
  have hgt : gt < w1.heap.size := HF1.out.tl.lt
  have hgb : gb < w1.heap.size := HF1.out.bn.lt
  clear hBxe hw1 HF OW
  refine (wpIn_wide (n := 5)).1 ?_
  refine range_seqX (α := Want) (encs := encW) (Nx := fun pre x => pre ++ [x] <+: wantsF s.size) (Kp := Kp w1.heap.size) rfl (by omega) (gf := 94) (lb := #[.pointer (some ⟨Bx, 0, none⟩)]) rfl trivial (enters_of Try.func94 (by kernel_rfl) rfl)
    (wantsB 4 (by omega) w1 HF1.out hBx hbx) kp_t (fun V lp o o2 hl h hc => kp_b V lp o o2 hl h hc) (Below.refl _ _) (fun _ => rfl)
    (NI w base g gt gb s gF gR gD) (NX w base g gt gb s gF gR gD)
    (fun pre W V row h hg hr => ⟨h.1.recs hgt hgb hg hr, own_rec h.2.1 hg (fun r e => (hr r e).2) (fun r e => Nat.le_trans OW1.out.size (hr r e).1), h.2.2⟩)
    (fun c pre W V row h hg hr => ⟨h.1, by obtain ⟨x, h1, h2⟩ := h.2; exact ⟨x, h1, own_rec h2 hg (fun r e => (hr r e).2) (fun r e => Nat.le_trans OW1.out.size (hr r e).1)⟩⟩)
    (fun pre A B h hB => ⟨h.1.below hB, h.2.1.step hB, h.2.2⟩)
    (fun c pre A B h hB => ⟨h.1, by obtain ⟨x, h1, h2⟩ := h.2; exact ⟨x, h1, h2.step hB⟩⟩)
    ⟨HF1.out, OW1.out, fun x hx => by cases hx⟩ 58 wcs (fun W o hN => kp_below hN (below_alloc (Below.refl _ _) _))
    (fun x b => { tmps := #[.pointer (some ⟨g, 0, none⟩), .pointer (some ⟨gF, 0, none⟩), .pointer (some ⟨gR, 0, none⟩), .pointer (some ⟨gD, 0, none⟩), .pointer (some ⟨b, 0, none⟩), .pointer (some ⟨g, 0, none⟩), .func (.func 94) #[] #[.pointer (some ⟨Bx, 0, none⟩)], .agg (wcs x), undef, undef, undef, undef, undef, undef], defers := [] }) ?assign ?body ?done ?stop
  case assign =>
    intro lp x W K hK
    obtain ⟨b, x0, x1⟩ := x
    simp only [wcs] at hK
    simp only [encW, wcs]
    gi_wp2
    exact hK
  case body =>
    rintro lp pre x b W ⟨hI, hO, hall⟩ hnx hN hbk
    have hxm : x ∈ wantsF s.size := by
      obtain ⟨r, hr⟩ := hnx
      rw [← hr]; simp
    obtain ⟨q1, q2, q3, q4⟩ := wants_b s.size hI.sz x hxm
    have HH := Aside0.mk (fun V (h : IsF base V g gt gb s) => has_c base g gt gb s x V h (wf_of (by omega) (by omega)) (wf_of (by omega) (by omega)))
    have HI := Aside0.mk hI
    have HO := Aside0.mk hO
    have HA := Aside0.mk hall
    have HNX := Aside0.mk hnx
    have c1 : W.cell? ⟨gF, 0, none⟩ = some (.pointer (some ⟨g, 0, none⟩)) := (hO.cell 0 rfl 0).trans rfl
    have k0 : W.cell? ⟨b, 0, none⟩ = some (.bool x.1) := (blk_cell hbk 0).trans rfl
    have k1 : W.cell? ⟨b, 1, none⟩ = some (.int .i64 x.2.1) := (blk_cell hbk 1).trans rfl
    have k2 : W.cell? ⟨b, 2, none⟩ = some (.int .i64 x.2.2) := (blk_cell hbk 2).trans rfl
    have HBK := Aside0.mk hbk
    clear hxm q1 q2 q3 q4 hI hO hall hnx hbk
    gi_wp2_with fail
    refine ⟨trivial, ?_⟩
    refine (InR.calls_in (HH.out _ HI.out)).mono ?_
    rintro e wa ⟨rfl, hB⟩
    have HB := Aside0.mk hB
    have HIa := Aside0.mk (HI.out.below hB)
    have HOa := Aside0.mk (HO.out.step hB)
    have j0 := pw_cell_below hB k0
    have j1 := pw_cell_below hB k1
    have j2 := pw_cell_below hB k2
    have y0 := HOa.out.frozen 1 rfl 0
    have y1 := HOa.out.frozen 1 rfl 1
    have y2 := HOa.out.frozen 1 rfl 2
    have y3 := HOa.out.frozen 2 rfl 0
    have z0 : wa.cell? ⟨gR, 0, none⟩ = some (.bool false) := (HOa.out.cell 1 rfl 0).trans rfl
    have z1 : wa.cell? ⟨gR, 1, none⟩ = some (.int .i64 0) := (HOa.out.cell 1 rfl 1).trans rfl
    have z2 : wa.cell? ⟨gR, 2, none⟩ = some (.int .i64 0) := (HOa.out.cell 1 rfl 2).trans rfl
    have z3 : wa.cell? ⟨gD, 0, none⟩ = some (.bool false) := (HOa.out.cell 2 rfl 0).trans rfl
    have P0 := HOa.out.put 1 rfl 0 (.bool x.1) rfl
    have P1 := P0.put 1 rfl 1 (.int .i64 x.2.1) rfl
    have P2 := P1.put 1 rfl 2 (.int .i64 x.2.2) rfl
    have P3 := Aside0.mk (P2.put 2 rfl 0 (.bool true) rfl)
    have z4 : (((wa.setCell ⟨gR, 0, none⟩ (.bool x.1)).setCell ⟨gR, 1, none⟩ (.int .i64 x.2.1)).setCell ⟨gR, 2, none⟩ (.int .i64 x.2.2)).cell? ⟨gD, 0, none⟩ = some (.bool false) := (P2.cell 2 rfl 0).trans rfl
    have y4 := P2.frozen 2 rfl 0
    clear hB k0 k1 k2 c1 P0 P1 P2
    by_cases hq : hasF s x = true
    · have HQ := Aside0.mk hq
      rw [hq]
      clear hq
      gi_wp2_with fail
      exact ⟨(keeps_below HB.out).from _, kp_below (by have := OW1; exact Nat.le_trans hN (Nat.le_of_lt (blk_lt HBK.out)) |> fun h => h) HB.out, HIa.out, HOa.out, fun y hy => by
        rcases List.mem_append.1 hy with h | h
        · exact HA.out y h
        · rw [List.mem_singleton.1 h]; exact HQ.out⟩
    · have hqf : hasF s x = false := by simpa using hq
      have HNF := Aside0.mk (show nextF s = some x from find_pre HNX.out (fun y hy => by rw [HA.out y hy]; rfl) (by rw [hqf]; rfl))
      rw [hqf]
      clear hq hqf
      gi_wp2_with fail
      exact ⟨((((keeps_below HB.out).trans (KeepsOthers.setCell _ _ _)).trans (KeepsOthers.setCell _ _ _)).trans (KeepsOthers.setCell _ _ _)).trans (KeepsOthers.setCell _ _ _) |>.from _, rfl, x, HNF.out, P3.out⟩
  case done =>
    rintro D xs W hD rfl ⟨hI, hO, hall⟩ hK
    have HO := Aside0.mk hO
    have HNF := Aside0.mk (show nextF s = none from List.find?_eq_none.2 (fun y hy => by rw [hall y hy]; simp))
    have y0 := hO.frozen 1 rfl 0
    have y1 := hO.frozen 1 rfl 1
    have y2 := hO.frozen 1 rfl 2
    have y3 := hO.frozen 2 rfl 0
    have z0 : W.cell? ⟨gR, 0, none⟩ = some (.bool false) := (hO.cell 1 rfl 0).trans rfl
    have z1 : W.cell? ⟨gR, 1, none⟩ = some (.int .i64 0) := (hO.cell 1 rfl 1).trans rfl
    have z2 : W.cell? ⟨gR, 2, none⟩ = some (.int .i64 0) := (hO.cell 1 rfl 2).trans rfl
    have z3 : W.cell? ⟨gD, 0, none⟩ = some (.bool false) := (hO.cell 2 rfl 0).trans rfl
    have P0 := hO.put 1 rfl 0 (.bool false) rfl
    have P1 := P0.put 1 rfl 1 (.int .i64 0) rfl
    have P2 := P1.put 1 rfl 2 (.int .i64 0) rfl
    have P3 := Aside0.mk (P2.put 2 rfl 0 (.bool false) rfl)
    have z4 : (((W.setCell ⟨gR, 0, none⟩ (.bool false)).setCell ⟨gR, 1, none⟩ (.int .i64 0)).setCell ⟨gR, 2, none⟩ (.int .i64 0)).cell? ⟨gD, 0, none⟩ = some (.bool false) := (P2.cell 2 rfl 0).trans rfl
    have y4 := P2.frozen 2 rfl 0
    have hK2 : ((((W.setCell ⟨gR, 0, none⟩ (.bool false)).setCell ⟨gR, 1, none⟩ (.int .i64 0)).setCell ⟨gR, 2, none⟩ (.int .i64 0)).setCell ⟨gD, 0, none⟩ (.bool false)).heap[D]? = some (.deferred (some [])) := Fun.def_set (Fun.def_set (Fun.def_set (Fun.def_set hK _ _) _ _) _ _) _ _
    clear hO hI hall P0 P1 P2
    go_wp2_with fail
    have O3 := Fun.own_put P3.out (Obj.deferred none) (Nat.le_trans OW1.out.size hD) hK2 rfl
    refine ⟨by simp, .inl ⟨_, _, rfl, run_takeDeferred hK2, ?_⟩⟩
    exact ⟨_, results_cb rfl _ _ gR gD (false, 0, 0) false rfl rfl (O3.blk 1 rfl) (O3.blk 2 rfl), (false, 0, 0), false, rfl, .inr ⟨HNF.out, rfl, rfl⟩, O3.below⟩
  case stop =>
    rintro D c pre W hD hSp ⟨rfl, x, hx, hO⟩ hK
    have HO := Aside0.mk hO
    have HX := Aside0.mk hx
    clear hO hx
    gi_wp2
    have O3 := Fun.own_put HO.out (Obj.deferred none) (Nat.le_trans OW1.out.size hD) hK rfl
    refine ⟨by simp, .inl ⟨_, _, rfl, run_takeDeferred hK, ?_⟩⟩
    exact ⟨_, results_cb rfl _ _ gR gD x true rfl rfl (O3.blk 1 rfl) (O3.blk 2 rfl), x, true, rfl, .inl ⟨HX.out, rfl⟩, O3.below⟩
end Go.Proofs.Ytondnammkcgjpaa.Ft
namespace Go.Proofs.Ytondnammkcgjpaa.RngT
open Go Go.Proofs Go.RowKit Go.Shelf Go.Proofs.Ytondnammkcgjpaa.Rng
theorem notHash_c (s : ByteArray) (w : World) (b : Bool) (hb : (s.size != 32) = b) : Calls Try.prog 128 #[.string s] w fun e w2 => e = .returned (.bool b) ∧ w = w2 := by
  have HB := Lib.hid hb
  clear hb
  cases b with
  | false =>
    have e := HB.out
    have h32 : s.size = 32 := by simpa using e
    have hi : ((s.size : Int) != 32) = false := by rw [h32]; rfl
    clear e h32
    go_enter Try.func128, Try.ntmps128
    go_wp2
    go_ret
    exact ⟨rfl, rfl⟩
  | true =>
    have e := HB.out
    have h32 : s.size ≠ 32 := by simpa using e
    have hi : ((s.size : Int) != 32) = true := by rw [bne_iff_ne]; omega
    clear e h32
    go_enter Try.func128, Try.ntmps128
    go_wp2
    go_ret
    exact ⟨rfl, rfl⟩
theorem fnRight : ∀ args w, (callFunc 128 args).run Try.prog w = .ok (.enter 128 args) w := enters_of Try.func128 (by kernel_rfl) rfl
theorem ixBad_c (A : Option Addr) (c : Nat) (l : List ByteArray) (w : World) (hl : l.length ≤ maxLen) (ht : Texts w A l) :
    Calls Try.prog 90 #[.slice A l.length c, .func (.func 128) #[] #[]] w fun e w2 => e = .returned (.int .i64 (firstBad l 0)) ∧ w = w2 := by
  have eg := fnRight
  have HT := Lib.hid ht
  clear ht
  unfold maxLen at hl
  obtain ⟨N, HN⟩ : ∃ N, Hid (l.length = N) := ⟨_, rfl⟩
  rw [HN.out] at hl ⊢
  go_enter Try.func90, Try.ntmps90
  go_wp2
  go_loop [5, 8] (fun _ s8 => ∃ k : Nat, k ≤ N ∧ s8 = .int .i64 k ∧ Hid (firstBad l 0 = firstBad (l.drop k) k)) (fun _ s8 => N - (intOf s8).toNat)
  case atStart => exact ⟨0, Nat.zero_le _, rfl, rfl⟩
  case round =>
    obtain ⟨k, hk, rfl, HF⟩ := hrel
    by_cases hlt : k < N
    · have hlx : k < l.length := by rw [HN.out]; exact hlt
      have hltz : (k : Int) < (N : Int) := by omega
      obtain ⟨ad, rfl, hc⟩ := HT.out k hlx
      have hd : firstBad (l.drop k) k = if l[k].size != 32 then (k : Int) else firstBad (l.drop (k + 1)) (k + 1) := by
        rw [List.drop_eq_getElem_cons hlx]; rfl
      generalize l[k] = s at hc hd
      cases hq : s.size != 32 with
      | true =>
        rw [hq, if_pos rfl] at hd
        have HF2 := Lib.hid (HF.out.trans hd)
        have hcall := notHash_c s w true hq
        clear hd hq
        go_wp2_with (go_at_fn 128; refine hcall.mono ?_; rintro e w2 ⟨rfl, rfl⟩)
        go_ret
        exact ⟨by rw [HF2.out]; rfl, rfl⟩
      | false =>
        rw [hq, if_neg (by decide)] at hd
        have HF2 := Lib.hid (HF.out.trans hd)
        have hcall := notHash_c s w false hq
        clear hd hq
        go_wp2_with (go_at_fn 128; refine hcall.mono ?_; rintro e w2 ⟨rfl, rfl⟩)
        go_round
        case rel => exact ⟨k + 1, by omega, by go_num, HF2⟩
        case measure => simp [intOf]; omega
    · have hltz : ¬ (k : Int) < (N : Int) := by omega
      obtain rfl : k = N := by omega
      have HF2 := Lib.hid (HF.out.trans (by rw [List.drop_of_length_le (by rw [HN.out]; exact Nat.le_refl _)]; rfl : firstBad (l.drop k) k = -1))
      go_wp2
      go_ret
      exact ⟨by rw [HF2.out]; rfl, rfl⟩
theorem anyBad_c (A : Option Addr) (c : Nat) (l : List ByteArray) (w : World) (hl : l.length ≤ maxLen) (ht : Texts w A l) (b : Bool) (hb : (!l.all fun s => s.size == 32) = b) :
    Calls Try.prog 65 #[.slice A l.length c, .func (.func 128) #[] #[]] w fun e w2 => e = .returned (.bool b) ∧ w2 = w := by
  have HX := Lib.hid (ixBad_c A c l w hl ht)
  have h2 := firstBad_lt l 0
  have HB := Lib.hid hb
  clear hb ht
  cases b with
  | false =>
    have h3 : 0 ≤ 0 := Nat.le_refl 0
    have hlt : firstBad l 0 < 0 := by have := HB.out; rw [h2] at this; simpa using this
    clear h2 h3
    generalize firstBad l 0 = x at HX hlt
    have hd : decide (0 ≤ x) = false := decide_eq_false (by omega)
    go_enter Try.func65, Try.ntmps65
    go_wp2_with fail
    refine HX.out.mono ?_
    rintro e w2 ⟨rfl, rfl⟩
    go_wp2
    go_ret
    exact ⟨rfl, rfl⟩
  | true =>
    have hlt : 0 ≤ firstBad l 0 := by have := HB.out; rw [h2] at this; simpa using this
    clear h2
    generalize firstBad l 0 = x at HX hlt
    go_enter Try.func65, Try.ntmps65
    go_wp2_with fail
    refine HX.out.mono ?_
    rintro e w2 ⟨rfl, rfl⟩
    go_wp2
    go_ret
    exact ⟨rfl, rfl⟩
end Go.Proofs.Ytondnammkcgjpaa.RngT
namespace Go.Proofs.Ytondnammkcgjpaa.RngS
open Go Go.Proofs Go.RowKit Go.Shelf Go.Proofs.Ytondnammkcgjpaa.Rng
theorem notHash_c (s : ByteArray) (w : World) (b : Bool) (hb : (s.size != 32) = b) : Calls Try.prog 109 #[.string s] w fun e w2 => e = .returned (.bool b) ∧ w = w2 := by
  have HB := Lib.hid hb
  clear hb
  cases b with
  | false =>
    have e := HB.out
    have h32 : s.size = 32 := by simpa using e
    have hi : ((s.size : Int) != 32) = false := by rw [h32]; rfl
    clear e h32
    go_enter Try.func109, Try.ntmps109
    go_wp2
    go_ret
    exact ⟨rfl, rfl⟩
  | true =>
    have e := HB.out
    have h32 : s.size ≠ 32 := by simpa using e
    have hi : ((s.size : Int) != 32) = true := by rw [bne_iff_ne]; omega
    clear e h32
    go_enter Try.func109, Try.ntmps109
    go_wp2
    go_ret
    exact ⟨rfl, rfl⟩
theorem fnRight : ∀ args w, (callFunc 109 args).run Try.prog w = .ok (.enter 109 args) w := enters_of Try.func109 (by kernel_rfl) rfl
theorem ixBad_c (A : Option Addr) (c : Nat) (l : List ByteArray) (w : World) (hl : l.length ≤ maxLen) (ht : Texts w A l) :
    Calls Try.prog 90 #[.slice A l.length c, .func (.func 109) #[] #[]] w fun e w2 => e = .returned (.int .i64 (firstBad l 0)) ∧ w = w2 := by
  have eg := fnRight
  have HT := Lib.hid ht
  clear ht
  unfold maxLen at hl
  obtain ⟨N, HN⟩ : ∃ N, Hid (l.length = N) := ⟨_, rfl⟩
  rw [HN.out] at hl ⊢
  go_enter Try.func90, Try.ntmps90
  go_wp2
  go_loop [5, 8] (fun _ s8 => ∃ k : Nat, k ≤ N ∧ s8 = .int .i64 k ∧ Hid (firstBad l 0 = firstBad (l.drop k) k)) (fun _ s8 => N - (intOf s8).toNat)
  case atStart => exact ⟨0, Nat.zero_le _, rfl, rfl⟩
  case round =>
    obtain ⟨k, hk, rfl, HF⟩ := hrel
    by_cases hlt : k < N
    · have hlx : k < l.length := by rw [HN.out]; exact hlt
      have hltz : (k : Int) < (N : Int) := by omega
      obtain ⟨ad, rfl, hc⟩ := HT.out k hlx
      have hd : firstBad (l.drop k) k = if l[k].size != 32 then (k : Int) else firstBad (l.drop (k + 1)) (k + 1) := by
        rw [List.drop_eq_getElem_cons hlx]; rfl
      generalize l[k] = s at hc hd
      cases hq : s.size != 32 with
      | true =>
        rw [hq, if_pos rfl] at hd
        have HF2 := Lib.hid (HF.out.trans hd)
        have hcall := notHash_c s w true hq
        clear hd hq
        go_wp2_with (go_at_fn 109; refine hcall.mono ?_; rintro e w2 ⟨rfl, rfl⟩)
        go_ret
        exact ⟨by rw [HF2.out]; rfl, rfl⟩
      | false =>
        rw [hq, if_neg (by decide)] at hd
        have HF2 := Lib.hid (HF.out.trans hd)
        have hcall := notHash_c s w false hq
        clear hd hq
        go_wp2_with (go_at_fn 109; refine hcall.mono ?_; rintro e w2 ⟨rfl, rfl⟩)
        go_round
        case rel => exact ⟨k + 1, by omega, by go_num, HF2⟩
        case measure => simp [intOf]; omega
    · have hltz : ¬ (k : Int) < (N : Int) := by omega
      obtain rfl : k = N := by omega
      have HF2 := Lib.hid (HF.out.trans (by rw [List.drop_of_length_le (by rw [HN.out]; exact Nat.le_refl _)]; rfl : firstBad (l.drop k) k = -1))
      go_wp2
      go_ret
      exact ⟨by rw [HF2.out]; rfl, rfl⟩
theorem anyBad_c (A : Option Addr) (c : Nat) (l : List ByteArray) (w : World) (hl : l.length ≤ maxLen) (ht : Texts w A l) (b : Bool) (hb : (!l.all fun s => s.size == 32) = b) :
    Calls Try.prog 65 #[.slice A l.length c, .func (.func 109) #[] #[]] w fun e w2 => e = .returned (.bool b) ∧ w2 = w := by
  have HX := Lib.hid (ixBad_c A c l w hl ht)
  have h2 := firstBad_lt l 0
  have HB := Lib.hid hb
  clear hb ht
  cases b with
  | false =>
    have h3 : 0 ≤ 0 := Nat.le_refl 0
    have hlt : firstBad l 0 < 0 := by have := HB.out; rw [h2] at this; simpa using this
    clear h2 h3
    generalize firstBad l 0 = x at HX hlt
    have hd : decide (0 ≤ x) = false := decide_eq_false (by omega)
    go_enter Try.func65, Try.ntmps65
    go_wp2_with fail
    refine HX.out.mono ?_
    rintro e w2 ⟨rfl, rfl⟩
    go_wp2
    go_ret
    exact ⟨rfl, rfl⟩
  | true =>
    have hlt : 0 ≤ firstBad l 0 := by have := HB.out; rw [h2] at this; simpa using this
    clear h2
    generalize firstBad l 0 = x at HX hlt
    go_enter Try.func65, Try.ntmps65
    go_wp2_with fail
    refine HX.out.mono ?_
    rintro e w2 ⟨rfl, rfl⟩
    go_wp2
    go_ret
    exact ⟨rfl, rfl⟩
end Go.Proofs.Ytondnammkcgjpaa.RngS
namespace Go.Proofs.Ytondnammkcgjpaa.Ft
open Go Go.RowKit Go.Shelf Go.Proofs.YtondnammkcgjpaaW.PrintWords Go.Proofs.YtondnammkcgjpaaW.PrintLast Go.Proofs.YtondnammkcgjpaaW.PrintMore Go.Proofs.Ytondnammkcgjpaa.Mp
open Go.Proofs.Ytondnammkcgjpaa.ShaP Go.Proofs.Ytondnammkcgjpaa.Mk Go.Proofs.Ytondnammkcgjpaa.Rg Go.Proofs.Ytondnammkcgjpaa.RgP Go.Proofs.Ytondnammkcgjpaa.Rf Go.Proofs.Ytondnammkcgjpaa.RgL Go.Proofs.Ytondnammkcgjpaa.Til Go.Proofs.Ytondnammkcgjpaa.Fg Go.Proofs.Ytondnammkcgjpaa.Fun
def all32 (l : List ByteArray) : Bool := l.all fun s => s.size == 32
theorem short_c (A : Option Addr) (c : Nat) (l : List ByteArray) (w : World) (hl : l.length ≤ maxLen) (hr : Kd.C Kd.string w A l.length l) :
    Calls Try.prog 96 #[.slice A l.length c] w fun e w' => e = .returned (.bool (!all32 l)) ∧ w' = w := by
  have HC := Aside0.mk (RngS.anyBad_c A c l w hl (texts_C hr) (!all32 l) rfl)
  clear hr hl
  generalize (!all32 l) = b at *
  go_enter Try.func96, Try.ntmps96
  go_wp2_with (first
    | (go_at_call 65; (with_reducible refine HC.out.mono ?_); rintro e w_ ⟨rfl, rfl⟩))
  go_ret
  exact ⟨rfl, rfl⟩
end Go.Proofs.Ytondnammkcgjpaa.Ft
namespace Go.Proofs.Ytondnammkcgjpaa.Ft
open Go Go.RowKit Go.Shelf Go.Proofs.YtondnammkcgjpaaW.PrintWords Go.Proofs.YtondnammkcgjpaaW.PrintLast Go.Proofs.YtondnammkcgjpaaW.PrintMore Go.Proofs.Ytondnammkcgjpaa.Mp
open Go.Proofs.Ytondnammkcgjpaa.ShaP Go.Proofs.Ytondnammkcgjpaa.Mk Go.Proofs.Ytondnammkcgjpaa.Rg Go.Proofs.Ytondnammkcgjpaa.RgP Go.Proofs.Ytondnammkcgjpaa.Rf Go.Proofs.Ytondnammkcgjpaa.RgL Go.Proofs.Ytondnammkcgjpaa.Til Go.Proofs.Ytondnammkcgjpaa.Fg Go.Proofs.Ytondnammkcgjpaa.Fun Go.Proofs.Ytondnammkcgjpaa.Rng
abbrev Tl := (Int × Int) × Option Addr × Nat × Nat
def encT (x : Tl) : List Value := [.int .i64 x.1.1, .int .i64 x.1.2, .slice x.2.1 x.2.2.1 x.2.2.2]
def KT : Kd Tl := flat 3 encT (fun _ => rfl) (fun x u hu => by simp [encT] at hu; rcases hu with rfl | rfl | rfl <;> rfl)
theorem add_zero (ad : Addr) (k : Nat) : ad.add (k + 0) = ad.add k := rfl
theorem kt_at {w : World} {A : Option Addr} {n : Nat} {l : List Tl} (h : KT.C w A n l) (j : Nat) (hj : j < l.length) :
    ∃ ad, A = some ad ∧ w.cell? (ad.add (j * 3)) = some (.int .i64 l[j].1.1) ∧ w.cell? (ad.add (j * 3 + 1)) = some (.int .i64 l[j].1.2) ∧ w.cell? (ad.add (j * 3 + 2)) = some (.slice l[j].2.1 l[j].2.2.1 l[j].2.2.2) := by
  obtain ⟨h1, h2, h3⟩ := h
  obtain ⟨ad, e, hc⟩ := h3 (by omega)
  obtain ⟨c, hs, hr, hcell⟩ := hc j _ (List.getElem?_eq_getElem hj)
  have hk : KT.sz = 3 := rfl
  rw [hk] at hcell
  subst hr
  exact ⟨ad, e, hcell 0 _ rfl, hcell 1 _ rfl, hcell 2 _ rfl⟩
theorem add_lit (gp k : Nat) : (⟨gp, 0, none⟩ : Addr).add k = ⟨gp, k, none⟩ := by unfold Addr.add; split <;> simp_all
def accF (Ls : List (List ByteArray)) : List ByteArray := Ls.flatMap ofF
theorem accF_snoc (Ls : List (List ByteArray)) (L : List ByteArray) : accF (Ls ++ [L]) = accF Ls ++ ofF L := by simp [accF]
theorem edge_len : ∀ n : Nat, n < 65 → (edgeF wdF n).length ≤ 4 := by decide +kernel
def TlsC (w : World) (ts : List Tl) (Ls : List (List ByteArray)) : Prop := ts.length = Ls.length ∧ ∀ (i : Nat) (h : i < ts.length) (h2 : i < Ls.length), (ts[i]).2.2.1 = (Ls[i]).length ∧ (ts[i]).2.2.1 ≤ (ts[i]).2.2.2 ∧ Kd.C Kd.string w (ts[i]).2.1 (Ls[i]).length (Ls[i])
theorem TlsC.below {w W : World} {ts : List Tl} {Ls : List (List ByteArray)} (h : TlsC w ts Ls) (hB : Below w.heap.size w W) : TlsC W ts Ls := ⟨h.1, fun i h1 h2 => ⟨(h.2 i h1 h2).1, (h.2 i h1 h2).2.1, Kd.C_below (h.2 i h1 h2).2.2 hB⟩⟩
theorem accF_len (Ls : List (List ByteArray)) (h4 : ∀ L ∈ Ls, L.length ≤ 4) : (accF Ls).length ≤ 64 * Ls.length := by
  induction Ls with
  | nil => simp [accF]
  | cons L Ls ih =>
    have h1 := ih (fun x hx => h4 x (by simp [hx]))
    have h2 := ofF_size L
    have h3 := h4 L (by simp)
    simp only [accF, List.flatMap_cons, List.length_append, List.length_cons] at h1 ⊢
    omega
theorem accF_32 (Ls : List (List ByteArray)) (h4 : ∀ L ∈ Ls, L.length ≤ 4) (h : ∀ L ∈ Ls, A32 L) : A32 (accF Ls) := fun s hs => by
  obtain ⟨L, hL, hs⟩ := List.mem_flatMap.1 hs
  exact ofF_32 L (h L hL) (by have := h4 L hL; omega) s hs
theorem own_take {w W : World} {l : List Mem.Blk} (h : Mem.Own w W l) (q : Nat) : Mem.Own w W (l.take q) := by
  have key : ∀ (i : Nat) (b : Mem.Blk), (l.take q)[i]? = some b → l[i]? = some b := fun i b e => by
    rw [List.getElem?_take] at e
    split at e
    · exact e
    · cases e
  exact ⟨h.1, fun k b e => h.2.1 k b (key k b e), fun i j a b ea eb hij => h.2.2 i j a b (key i a ea) (key j b eb) hij⟩
theorem ki_grown {W W1 : World} {base : Nat} {v : Value} {l : List (Int × Int)} {row : Option Nat} (h : KI.R 24 W base (fun _ => True) v l) (hg : W.grownBy W1 row) (hrow : ∀ k, row = some k → tag W k = some 9) : KI.R 24 W1 base (fun _ => True) v l :=
  Kd.R_mono (Kd.R_step (only_k h) (fun k ho hlt => hg.block k hlt (fun e => by
    have h1 := hrow k e.symm
    rw [tag_row h k ho] at h1
    exact absurd (Option.some.inj h1) (by decide)))) (fun _ _ => trivial)
theorem troot_c (A : Option Addr) (c n m : Nat) (ts : List Tl) (Ls : List (List ByteArray)) (w : World) (hn : n ≤ 64) (hm : ts.length = m) (hid : ts.map (·.1) = edgeF wdF n) (hc : m ≤ c) (hT : TlsC w ts Ls)
    (hw : ∀ (i : Nat) (h : i < ts.length) (h2 : i < Ls.length), ((Ls[i]).length : Int) = wdF n (ts[i]).1.1 (ts[i]).1.2) (h32 : ∀ L ∈ Ls, A32 L) (hA : 0 < m → ∃ gl, A = some ⟨gl, 0, none⟩) (hr : KT.C w A m ts) :
    Calls Try.prog 120 #[.agg TV, .int .i64 (n : Int), .slice A m c] w fun e w' => e = .returned (.tuple #[.string (rootR (accF Ls)), .int .i64 0]) ∧ Below w.heap.size w w' := by
  have OW := Aside0.mk (Mem.Own.nil w)
  have HI := Aside0.mk info_tab
  have HR := Aside0.mk hr
  have HT := Aside0.mk hT
  have HIN := Aside0.mk (in_c (n : Int) true (by unfold inB; simp; omega))
  have HEK := Aside0.mk (fun W => edge_k (n : Int) W)
  have hlen := edge_len n (by omega)
  have h4 : ∀ L ∈ Ls, L.length ≤ 4 := fun L hL => by
    obtain ⟨i, hi, rfl⟩ := List.getElem_of_mem hL
    have h1 := hw i (by rw [hT.1]; exact hi) hi
    have h2 := inTile_in (ts[i]'(by rw [hT.1]; exact hi)).1.2 (cntv n (ts[i]'(by rw [hT.1]; exact hi)).1.1)
    unfold wdF at h1
    omega
  have hml : m ≤ 4 := by rw [← hm, ← List.length_map (f := (·.1)), hid]; exact hlen
  have H4 := Aside0.mk h4
  have H32 := Aside0.mk h32
  have HW := Aside0.mk hw
  have HID := Aside0.mk hid
  have HM := Aside0.mk hm
  have HAA := Aside0.mk hA
  have hme : (edgeF wdF n).length = m := by rw [← hid, List.length_map, hm]
  have hmi : (m : Int) ≤ 4 := by omega
  generalize hE : edgeF wdF n = E at *
  clear hA hr hT hw h32 hid hm hlen h4 hn hml hE
  obtain ⟨ac, hac⟩ : ∃ ac, accF Ls = ac := ⟨_, rfl⟩
  rw [hac]
  have HAC := Aside0.mk hac
  clear hac
  go_enter Try.func120, Try.ntmps120
  go_wp2_with (first
    | ((with_reducible refine gate_dst (N := 3) rfl ?_); refine box_event ?hg (N := 3) ?hd (cs := TV) (t := 31) ?hr ?_; (case hd => rfl); (case hg => rfl); (case hr => first | (go_simp; done) | (go_simp; rfl)); intro gT hg W_ hb hbb; have n_ : Aside0 (Mem.Own w W_ [(gT, TV, 31)]) := ⟨OW.out.new hg hb hbb⟩; clear OW hb hbb hg; have OW := n_; clear n_)
    | ((with_reducible refine gate_dst (N := 9) rfl ?_); refine box_event ?hg (N := 9) ?hd (cs := #[.int .i64 0, .slice none 0 0]) (t := 41) ?hr ?_; (case hd => rfl); (case hg => rfl); (case hr => first | (go_simp; done) | (go_simp; rfl)); intro gR hg W_ hb hbb; have z0 := (blk_cell hb 0).trans rfl; have z1 := (blk_cell hb 1).trans rfl; have y0 := blk_frozen hb 0; have y1 := blk_frozen hb 1; have n_ := Aside0.mk (Kd.R_below HE.out hbb); clear HE; have HE := n_; clear n_; have n_ : Aside0 (Mem.Own w W_ [(gT, TV, 31), (gR, #[.int .i64 0, .slice none 0 0], 41)]) := ⟨OW.out.new hg hb hbb⟩; clear OW hb hbb hg; have OW := n_; clear n_)
    | (go_at_call 73; (with_reducible refine (HIN.out _).mono ?_); rintro e w_ ⟨rfl, rfl⟩)
    | (go_at_call 111; (with_reducible refine (HEK.out _).mono ?_); rintro e w_ ⟨v8, rfl, hr8, hB⟩; obtain ⟨A8, c8, rfl⟩ := ki_form hr8; rw [hme] at hr8 ⊢; have HE := Aside0.mk (Kd.R_lower hr8 OW.out.size); have n_ := Aside0.mk (OW.out.step hB); clear OW hB hr8; have OW := n_; clear n_))
  have OP := Aside0.mk ((OW.out.put 1 rfl 0 (.int .i64 (n : Int)) rfl).put 1 rfl 1 (.slice none 0 0) rfl)
  have HEP := Aside0.mk (Kd.R_set (Kd.R_set HE.out (OW.out.blk 1 rfl) (by decide) 0 (.int .i64 (n : Int))) ((OW.out.put 1 rfl 0 (.int .i64 (n : Int)) rfl).blk 1 rfl) (by decide) 1 (.slice none 0 0))
  clear OW HE z0 z1 y0 y1 HEK HIN
  generalize (W_.setCell ⟨gR, 0, none⟩ (.int .i64 (n : Int))).setCell ⟨gR, 1, none⟩ (.slice none 0 0) = wp at *
  go_loopw [26] (fun v26 wr => ∃ (i k : Nat) (A3 : Option Addr) (c3 : Nat), v26 = .int .i64 i ∧ i ≤ m ∧ Aside0 (SR wr w.heap.size (.slice A3 k c3) (accF (Ls.take i))) ∧ Aside0 (KI.R 24 wr w.heap.size (fun _ => True) (.slice A8 m c8) E) ∧ Aside0 (Mem.Own w (wr) [(gT, TV, 31), (gR, #[.int .i64 (n : Int), .slice A3 k c3], 41)])) (fun v26 _ => m - (intOf v26).toNat)
  case atStart => exact ⟨0, 0, none, 0, rfl, Nat.zero_le _, ⟨Kd.R_nil _ _ _ _ _⟩, HEP, OP⟩
  case round =>
    clear OP HEP
    obtain ⟨i, k, A3, c3, rfl, hi, HO, HE, OW⟩ := hrel
    by_cases h1 : i < m
    · have h1i : (i : Int) < (m : Int) := by omega
      have hit : i < ts.length := by rw [HM.out]; exact h1
      have hil : i < Ls.length := by rw [← HT.out.1, HM.out]; exact h1
      have hie : i < E.length := by rw [hme]; exact h1
      obtain ⟨ad, ea, i0, i1, i2⟩ := kt_at (Kd.C_below HR.out OW.out.below) i hit
      obtain ⟨gl, eg⟩ := HAA.out (by omega)
      rw [eg] at ea
      subst eg
      cases ea
      rw [add_lit] at i0 i1 i2
      obtain ⟨ge, eb, e0, e1⟩ := ki_elem HE.out i hie
      cases eb
      have hEi : E[i] = ts[i].1 := by
        have := HID.out
        subst this
        simp
      rw [hEi] at e0 e1
      obtain ⟨t1, t2, t3⟩ := HT.out.2 i hit hil
      have hwi := HW.out i hit hil
      have ht32 := H32.out Ls[i] (List.getElem_mem hil)
      have ht4 := H4.out Ls[i] (List.getElem_mem hil)
      have HSN : Aside0 (accF (Ls.take (i + 1)) = accF (Ls.take i) ++ ofF Ls[i]) := ⟨by rw [List.take_succ_eq_append_getElem hil, accF_snoc]⟩
      generalize Ls[i] = L at *
      generalize ts[i] = x at *
      obtain ⟨⟨x0, x1⟩, xA, xn, xc⟩ := x
      simp only at i0 i1 i2 e0 e1 t1 t2 t3 hwi
      subst t1
      have HI1 := Aside0.mk h1
      clear hit hil hie hEi h1
      go_wp2_with fail
      have hal : Below wr.heap.size wr (wr.alloc (.cells #[.int .i64 x0, .int .i64 x1, .slice xA L.length xc] 35)) := below_alloc (Below.refl _ _) _
      have O2 := Aside0.mk (OW.out.new rfl (blk_new wr (.cells #[.int .i64 x0, .int .i64 x1, .slice xA L.length xc] 35)) hal)
      have HO2 := Aside0.mk (Kd.R_below HO.out hal)
      have HE2 := Aside0.mk (Kd.R_below HE.out hal)
      have f0 := pw_cell_below hal e0
      have f1 := pw_cell_below hal e1
      obtain ⟨gX, hgX⟩ : ∃ gX, wr.heap.size = gX := ⟨_, rfl⟩
      have HLC := Aside0.mk (Kd.C_below t3 O2.out.below)
      rw [hgX] at O2 ⊢
      generalize wr.alloc (.cells #[.int .i64 x0, .int .i64 x1, .slice xA L.length xc] 35) = wx at *
      clear hal e0 e1 i0 i1 i2 HO HE OW hgX t3
      have HWD := Aside0.mk (fun W => width_c (n : Int) x0 x1 W)
      unfold wdF at hwi
      rw [← hwi] at HWD
      have hallf : (!L.all fun s => s.size == 32) = false := by
        have : (L.all fun s => s.size == 32) = true := List.all_eq_true.2 (fun s hs => by rw [ht32 s hs]; rfl)
        rw [this]; rfl
      have HCF := Aside0.mk (fun W (h : Kd.C Kd.string W xA L.length L) => RngT.anyBad_c xA xc L W (by unfold maxLen; omega) (texts_C h) false hallf)
      have HOF := Aside0.mk (fun W (h : Kd.C Kd.string W xA L.length L) => of_c xA xc L W (by omega) (A32.sm ht32) t2 h)
      have hll : ((L.length : Int) != (L.length : Int)) = false := by simp
      have OD := Aside0.mk O2.out.drew
      have HLD := Aside0.mk (Kd.C_drew HLC.out)
      have b0 : wx.drew.cell? ⟨gX, 0, none⟩ = some (.int .i64 x0) := (OD.out.cell 2 rfl 0).trans rfl
      have b1 : wx.drew.cell? ⟨gX, 1, none⟩ = some (.int .i64 x1) := (OD.out.cell 2 rfl 1).trans rfl
      have b2 : wx.drew.cell? ⟨gX, 2, none⟩ = some (.slice xA L.length xc) := (OD.out.cell 2 rfl 2).trans rfl
      have f0 : wx.drew.cell? ⟨ge, i * 2, none⟩ = some (.int .i64 x0) := f0
      have f1 : wx.drew.cell? ⟨ge, i * 2 + 1, none⟩ = some (.int .i64 x1) := f1
      have HO3 := Aside0.mk (Kd.R_drew HO2.out)
      have HE3 := Aside0.mk (Kd.R_drew HE2.out)
      have HT4 := Aside0.mk ht4
      clear hwi hallf ht32 ht4 t2 O2 HO2 HE2 HLC
      refine start_ (n := 22) (S := fun w' => Below (wx).drew.heap.size (wx).drew w') (ds := []) #[false, false, false, false, false, false, false, false, false, false, false, false, false, false, false, false, false, false, false, false, false, false] (by kernel_rfl) rfl rfl (Below.refl _ _) (fun hHeld => ?_)
      generalize (wx).drew = W0 at *
      refine pure_ (i := 0) (N := (some 31)) (v := ?_) (a' := ?_) #[true, false, false, false, false, false, false, false, false, false, false, false, false, false, false, false, false, false, false, false, false, false] rfl rfl (by kernel_rfl) (fun _ _ _ h => h) (Or.inl ⟨by rfl, ?_⟩) ?_ ?_
      rotate_left
      · intro w'
        go_simp
        first | done | with_reducible rfl
      rotate_left
      · simp only [Act.put, List.setIfInBounds_toArray, List.set_cons_zero, List.set_cons_succ, i64_w, i32_w]
        rfl
      refine take_ (i := 1) (N := (some 32)) (v := ?_) (a' := ?_) #[true, true, false, false, false, false, false, false, false, false, false, false, false, false, false, false, false, false, false, false, false, false] rfl rfl (by kernel_rfl) (fun _ _ _ h => h) (Or.inl ⟨by rfl, ?_⟩) hHeld ?_ ?_
      rotate_left
      · intro w' hS
        have s0 := pw_cell_below hS b0
        have s1 := pw_cell_below hS b1
        go_simp
        first | done | with_reducible rfl
      rotate_left
      · simp only [Act.put, List.setIfInBounds_toArray, List.set_cons_zero, List.set_cons_succ, i64_w, i32_w]
        rfl
      refine pure_ (i := 2) (N := (some 33)) (v := ?_) (a' := ?_) #[true, true, true, false, false, false, false, false, false, false, false, false, false, false, false, false, false, false, false, false, false, false] rfl rfl (by kernel_rfl) (fun _ _ _ h => h) (Or.inl ⟨by rfl, ?_⟩) ?_ ?_
      rotate_left
      · intro w'
        go_simp
        first | done | with_reducible rfl
      rotate_left
      · simp only [Act.put, List.setIfInBounds_toArray, List.set_cons_zero, List.set_cons_succ, i64_w, i32_w]
        rfl
      refine pure_ (i := 3) (N := (some 34)) (v := ?_) (a' := ?_) #[true, true, true, true, false, false, false, false, false, false, false, false, false, false, false, false, false, false, false, false, false, false] rfl rfl (by kernel_rfl) (fun _ _ _ h => h) (Or.inl ⟨by rfl, ?_⟩) ?_ ?_
      rotate_left
      · intro w'
        go_simp
        first | done | with_reducible rfl
      rotate_left
      · simp only [Act.put, List.setIfInBounds_toArray, List.set_cons_zero, List.set_cons_succ, i64_w, i32_w]
        rfl
      refine pure_ (i := 4) (N := (some 35)) (v := ?_) (a' := ?_) #[true, true, true, true, true, false, false, false, false, false, false, false, false, false, false, false, false, false, false, false, false, false] rfl rfl (by kernel_rfl) (fun _ _ _ h => h) (Or.inl ⟨by rfl, ?_⟩) ?_ ?_
      rotate_left
      · intro w'
        go_simp
        first | done | with_reducible rfl
      rotate_left
      · simp only [Act.put, List.setIfInBounds_toArray, List.set_cons_zero, List.set_cons_succ, i64_w, i32_w]
        rfl
      refine take_ (i := 5) (N := (some 36)) (v := ?_) (a' := ?_) #[true, true, true, true, true, true, false, false, false, false, false, false, false, false, false, false, false, false, false, false, false, false] rfl rfl (by kernel_rfl) (fun _ _ _ h => h) (Or.inl ⟨by rfl, ?_⟩) hHeld ?_ ?_
      rotate_left
      · intro w' hS
        have s0 := pw_cell_below hS f0
        have s1 := pw_cell_below hS f1
        go_simp
        first | done | with_reducible rfl
      rotate_left
      · simp only [Act.put, List.setIfInBounds_toArray, List.set_cons_zero, List.set_cons_succ, i64_w, i32_w]
        rfl
      refine pure_ (i := 6) (N := (some 37)) (v := ?_) (a' := ?_) #[true, true, true, true, true, true, true, false, false, false, false, false, false, false, false, false, false, false, false, false, false, false] rfl rfl (by kernel_rfl) (fun _ _ _ h => h) (Or.inl ⟨by rfl, ?_⟩) ?_ ?_
      rotate_left
      · intro w'
        go_simp
        first | done | with_reducible rfl
      rotate_left
      · simp only [Act.put, List.setIfInBounds_toArray, List.set_cons_zero, List.set_cons_succ, i64_w, i32_w]
        rfl
      refine pure_ (i := 7) (N := (some 38)) (v := ?_) (a' := ?_) #[true, true, true, true, true, true, true, true, false, false, false, false, false, false, false, false, false, false, false, false, false, false] rfl rfl (by kernel_rfl) (fun _ _ _ h => h) (Or.inl ⟨by rfl, ?_⟩) ?_ ?_
      rotate_left
      · intro w'
        go_simp
        first | done | with_reducible rfl
      rotate_left
      · simp only [Act.put, List.setIfInBounds_toArray, List.set_cons_zero, List.set_cons_succ, i64_w, i32_w]
        rfl
      refine pure_ (i := 8) (N := (some 39)) (v := ?_) (a' := ?_) #[true, true, true, true, true, true, true, true, true, false, false, false, false, false, false, false, false, false, false, false, false, false] rfl rfl (by kernel_rfl) (fun _ _ _ h => h) (Or.inl ⟨by rfl, ?_⟩) ?_ ?_
      rotate_left
      · intro w'
        go_simp
        first | done | with_reducible rfl
      rotate_left
      · simp only [Act.put, List.setIfInBounds_toArray, List.set_cons_zero, List.set_cons_succ, i64_w, i32_w]
        rfl
      refine take_ (i := 9) (N := (some 40)) (v := ?_) (a' := ?_) #[true, true, true, true, true, true, true, true, true, true, false, false, false, false, false, false, false, false, false, false, false, false] rfl rfl (by kernel_rfl) (fun _ _ _ h => h) (Or.inl ⟨by rfl, ?_⟩) hHeld ?_ ?_
      rotate_left
      · intro w' hS
        have s0 := pw_cell_below hS b2
        go_simp
        first | done | with_reducible rfl
      rotate_left
      · simp only [Act.put, List.setIfInBounds_toArray, List.set_cons_zero, List.set_cons_succ, i64_w, i32_w]
        rfl
      refine pure_ (i := 10) (N := (some 41)) (v := ?_) (a' := ?_) #[true, true, true, true, true, true, true, true, true, true, true, false, false, false, false, false, false, false, false, false, false, false] rfl rfl (by kernel_rfl) (fun _ _ _ h => h) (Or.inl ⟨by rfl, ?_⟩) ?_ ?_
      rotate_left
      · intro w'
        go_simp
        first | done | with_reducible rfl
      rotate_left
      · simp only [Act.put, List.setIfInBounds_toArray, List.set_cons_zero, List.set_cons_succ, i64_w, i32_w]
        rfl
      refine pure_ (i := 11) (N := (some 42)) (v := ?_) (a' := ?_) #[true, true, true, true, true, true, true, true, true, true, true, true, false, false, false, false, false, false, false, false, false, false] rfl rfl (by kernel_rfl) (fun _ _ _ h => h) (Or.inl ⟨by rfl, ?_⟩) ?_ ?_
      rotate_left
      · intro w'
        go_simp
        first | done | with_reducible rfl
      rotate_left
      · simp only [Act.put, List.setIfInBounds_toArray, List.set_cons_zero, List.set_cons_succ, i64_w, i32_w]
        rfl
      refine pure_ (i := 12) (N := (some 43)) (v := ?_) (a' := ?_) #[true, true, true, true, true, true, true, true, true, true, true, true, true, false, false, false, false, false, false, false, false, false] rfl rfl (by kernel_rfl) (fun _ _ _ h => h) (Or.inl ⟨by rfl, ?_⟩) ?_ ?_
      rotate_left
      · intro w'
        go_simp
        first | done | with_reducible rfl
      rotate_left
      · simp only [Act.put, List.setIfInBounds_toArray, List.set_cons_zero, List.set_cons_succ, i64_w, i32_w]
        rfl
      refine take_ (i := 13) (N := (some 44)) (v := ?_) (a' := ?_) #[true, true, true, true, true, true, true, true, true, true, true, true, true, true, false, false, false, false, false, false, false, false] rfl rfl (by kernel_rfl) (fun _ _ _ h => h) (Or.inl ⟨by rfl, ?_⟩) hHeld ?_ ?_
      rotate_left
      · intro w' hS
        have s0 := pw_cell_below hS b0
        have s1 := pw_cell_below hS b1
        go_simp
        first | done | with_reducible rfl
      rotate_left
      · simp only [Act.put, List.setIfInBounds_toArray, List.set_cons_zero, List.set_cons_succ, i64_w, i32_w]
        rfl
      refine one_ (i := 14) (N := (some 45)) #[true, true, true, true, true, true, true, true, true, true, true, true, true, true, true, false, false, false, false, false, false, false] rfl rfl (by kernel_rfl) (by decide) (fun K hK => ?_)
      refine goes_ Try.func50 (by kernel_rfl) rfl #[.int .i64 n, .agg #[.int .i64 x0, .int .i64 x1]] (by rfl) rfl rfl (by (try simp only [List.map_toArray, List.map_cons, List.map_nil]); first | done | rfl) ?_
      (with_reducible refine (HWD.out _).mono ?_)
      rintro e wa ⟨rfl, hB⟩
      refine ⟨_, rfl, ?_⟩
      have hS2 : Below W0.heap.size W0 wa := below_step hHeld hB
      clear hB hHeld
      refine hK.out _ _ hS2 (fun hHeld => ?_)
      clear hK K
      refine norm_ (a' := ?_) ?_ ?_
      rotate_left
      · show Act.put _ (some 45) _ = _
        simp only [Act.put, List.setIfInBounds_toArray, List.set_cons_zero, List.set_cons_succ, i64_w, i32_w]
        rfl
      refine pure_ (i := 15) (N := (some 46)) (v := ?_) (a' := ?_) #[true, true, true, true, true, true, true, true, true, true, true, true, true, true, true, true, false, false, false, false, false, false] rfl rfl (by kernel_rfl) (fun _ _ _ h => h) (Or.inl ⟨by rfl, ?_⟩) ?_ ?_
      rotate_left
      · intro w'
        go_simp
        first | done | with_reducible rfl
      rotate_left
      · simp only [Act.put, List.setIfInBounds_toArray, List.set_cons_zero, List.set_cons_succ, i64_w, i32_w]
        rfl
      refine pure_ (i := 16) (N := (some 47)) (v := ?_) (a' := ?_) #[true, true, true, true, true, true, true, true, true, true, true, true, true, true, true, true, true, false, false, false, false, false] rfl rfl (by kernel_rfl) (fun _ _ _ h => h) (Or.inl ⟨by rfl, ?_⟩) ?_ ?_
      rotate_left
      · intro w'
        go_simp
        first | done | with_reducible rfl
      rotate_left
      · simp only [Act.put, List.setIfInBounds_toArray, List.set_cons_zero, List.set_cons_succ, i64_w, i32_w]
        rfl
      refine pure_ (i := 17) (N := (some 48)) (v := ?_) (a' := ?_) #[true, true, true, true, true, true, true, true, true, true, true, true, true, true, true, true, true, true, false, false, false, false] rfl rfl (by kernel_rfl) (fun _ _ _ h => h) (Or.inl ⟨by rfl, ?_⟩) ?_ ?_
      rotate_left
      · intro w'
        go_simp
        first | done | with_reducible rfl
      rotate_left
      · simp only [Act.put, List.setIfInBounds_toArray, List.set_cons_zero, List.set_cons_succ, i64_w, i32_w]
        rfl
      refine pure_ (i := 18) (N := (some 49)) (v := ?_) (a' := ?_) #[true, true, true, true, true, true, true, true, true, true, true, true, true, true, true, true, true, true, true, false, false, false] rfl rfl (by kernel_rfl) (fun _ _ _ h => h) (Or.inl ⟨by rfl, ?_⟩) ?_ ?_
      rotate_left
      · intro w'
        go_simp
        first | done | with_reducible rfl
      rotate_left
      · simp only [Act.put, List.setIfInBounds_toArray, List.set_cons_zero, List.set_cons_succ, i64_w, i32_w]
        rfl
      refine take_ (i := 19) (N := (some 50)) (v := ?_) (a' := ?_) #[true, true, true, true, true, true, true, true, true, true, true, true, true, true, true, true, true, true, true, true, false, false] rfl rfl (by kernel_rfl) (fun _ _ _ h => h) (Or.inl ⟨by rfl, ?_⟩) hHeld ?_ ?_
      rotate_left
      · intro w' hS
        have s0 := pw_cell_below hS b2
        go_simp
        first | done | with_reducible rfl
      rotate_left
      · simp only [Act.put, List.setIfInBounds_toArray, List.set_cons_zero, List.set_cons_succ, i64_w, i32_w]
        rfl
      refine one_ (i := 20) (N := (some 51)) #[true, true, true, true, true, true, true, true, true, true, true, true, true, true, true, true, true, true, true, true, true, false] rfl rfl (by kernel_rfl) (by decide) (fun K hK => ?_)
      refine goes_ Try.func65 (by kernel_rfl) rfl #[.slice xA L.length xc, .func (.func 128) #[] #[]] (by rfl) rfl rfl (by (try simp only [List.map_toArray, List.map_cons, List.map_nil]); first | done | rfl) ?_
      (with_reducible refine (HCF.out _ (Kd.C_below HLD.out hHeld)).mono ?_)
      rintro e wb ⟨rfl, rfl⟩
      refine ⟨_, rfl, ?_⟩
      have hS2 : Below W0.heap.size W0 wb := hHeld
      clear hHeld
      refine hK.out _ _ hS2 (fun hHeld => ?_)
      clear hK K
      refine norm_ (a' := ?_) ?_ ?_
      rotate_left
      · show Act.put _ (some 51) _ = _
        simp only [Act.put, List.setIfInBounds_toArray, List.set_cons_zero, List.set_cons_succ, i64_w, i32_w]
        rfl
      refine pure_ (i := 21) (N := (some 52)) (v := ?_) (a' := ?_) #[true, true, true, true, true, true, true, true, true, true, true, true, true, true, true, true, true, true, true, true, true, true] rfl rfl (by kernel_rfl) (fun _ _ _ h => h) (Or.inl ⟨by rfl, ?_⟩) ?_ ?_
      rotate_left
      · intro w'
        go_simp
        first | done | with_reducible rfl
      rotate_left
      · simp only [Act.put, List.setIfInBounds_toArray, List.set_cons_zero, List.set_cons_succ, i64_w, i32_w]
        rfl
      refine done_ (by kernel_rfl) ?_
      have OE := Aside0.mk ((OD.out.step hHeld).drew)
      have HOE := Aside0.mk (Kd.R_drew (Kd.R_below HO3.out hHeld))
      have HEE := Aside0.mk (Kd.R_drew (Kd.R_below HE3.out hHeld))
      have HLE := Aside0.mk (Kd.C_drew (Kd.C_below HLD.out hHeld))
      clear OD HO3 HE3 HLD b0 b1 b2 f0 f1 hHeld HWD HCF
      go_wp2_with fail
      have b2 : wb.drew.cell? ⟨gX, 2, none⟩ = some (.slice xA L.length xc) := (OE.out.cell 2 rfl 2).trans rfl
      have r1 : wb.drew.cell? ⟨gR, 1, none⟩ = some (.slice A3 k c3) := (OE.out.cell 1 rfl 1).trans rfl
      have hk := (Kd.R_reads' HOE.out).1
      have hal := accF_len (Ls.take i) (fun x hx => H4.out x (List.mem_of_mem_take hx))
      have hil : (Ls.take i).length ≤ 4 := by rw [List.length_take]; have := HI1.out; omega
      have hof := ofF_size L
      generalize accF (Ls.take i) = acc at *
      generalize ofF L = O at *
      have HLEN := Aside0.mk (show acc.length + O.length ≤ 1000000 by omega)
      clear hk hal hil hof
      refine start_ (n := 10) (S := fun w' => Below (wb).drew.heap.size (wb).drew w') (ds := [7, 9]) #[false, false, false, false, false, false, false, false, false, false] (by kernel_rfl) rfl rfl (Below.refl _ _) (fun hHeld => ?_)
      generalize (wb).drew = W0 at *
      refine pure_ (i := 0) (N := (some 53)) (v := ?_) (a' := ?_) #[true, false, false, false, false, false, false, false, false, false] rfl rfl (by kernel_rfl) (fun _ _ _ h => h) (Or.inl ⟨by rfl, ?_⟩) ?_ ?_
      rotate_left
      · intro w'
        go_simp
        first | done | with_reducible rfl
      rotate_left
      · simp only [Act.put, List.setIfInBounds_toArray, List.set_cons_zero, List.set_cons_succ, i64_w, i32_w]
        rfl
      refine take_ (i := 1) (N := (some 54)) (v := ?_) (a' := ?_) #[true, true, false, false, false, false, false, false, false, false] rfl rfl (by kernel_rfl) (fun _ _ _ h => h) (Or.inl ⟨by rfl, ?_⟩) hHeld ?_ ?_
      rotate_left
      · intro w' hS
        have s0 := pw_cell_below hS r1
        go_simp
        first | done | with_reducible rfl
      rotate_left
      · simp only [Act.put, List.setIfInBounds_toArray, List.set_cons_zero, List.set_cons_succ, i64_w, i32_w]
        rfl
      refine take_ (i := 2) (N := (some 55)) (a' := ?_) #[true, true, true, false, false, false, false, false, false, false] rfl rfl (by kernel_rfl) (fun _ _ _ h => h) (yields_tab (by rfl) (.tmp 3) rfl gT rfl (fun w' hS => hS) (OE.out.blk 0 rfl)) hHeld ?_ ?_
      rotate_left
      · simp only [Act.put, List.setIfInBounds_toArray, List.set_cons_zero, List.set_cons_succ, i64_w, i32_w]
        rfl
      refine pure_ (i := 3) (N := (some 56)) (v := ?_) (a' := ?_) #[true, true, true, true, false, false, false, false, false, false] rfl rfl (by kernel_rfl) (fun _ _ _ h => h) (Or.inl ⟨by rfl, ?_⟩) ?_ ?_
      rotate_left
      · intro w'
        go_simp
        first | done | with_reducible rfl
      rotate_left
      · simp only [Act.put, List.setIfInBounds_toArray, List.set_cons_zero, List.set_cons_succ, i64_w, i32_w]
        rfl
      refine take_ (i := 4) (N := (some 57)) (v := ?_) (a' := ?_) #[true, true, true, true, true, false, false, false, false, false] rfl rfl (by kernel_rfl) (fun _ _ _ h => h) (Or.inl ⟨by rfl, ?_⟩) hHeld ?_ ?_
      rotate_left
      · intro w' hS
        have s0 := pw_cell_below hS b2
        go_simp
        first | done | with_reducible rfl
      rotate_left
      · simp only [Act.put, List.setIfInBounds_toArray, List.set_cons_zero, List.set_cons_succ, i64_w, i32_w]
        rfl
      refine one_ (i := 5) (N := (some 58)) #[true, true, true, true, true, true, false, false, false, false] rfl rfl (by kernel_rfl) (by decide) (fun K hK => ?_)
      refine goes_ Try.func21 (by kernel_rfl) rfl #[.agg TV, .slice xA L.length xc] (by rfl) rfl rfl (by (try simp only [List.map_toArray, List.map_cons, List.map_nil]); first | done | rfl) ?_
      (with_reducible refine (HOF.out _ (Kd.C_below HLE.out hHeld)).mono ?_)
      rintro e wc ⟨v5, rfl, hr5, hB⟩
      refine ⟨_, rfl, ?_⟩
      have hS2 : Below W0.heap.size W0 wc := below_step hHeld hB
      obtain ⟨A5, c5, rfl, _, hC5⟩ := Kd.R_reads hr5
      have HC5 := Aside0.mk hC5
      clear hB hHeld hr5 hC5
      refine hK.out _ _ hS2 (fun hHeld => ?_)
      clear hK K
      refine norm_ (a' := ?_) ?_ ?_
      rotate_left
      · show Act.put _ (some 58) _ = _
        simp only [Act.put, List.setIfInBounds_toArray, List.set_cons_zero, List.set_cons_succ, i64_w, i32_w]
        rfl
      refine pure_ (i := 6) (N := (some 59)) (v := ?_) (a' := ?_) #[true, true, true, true, true, true, true, false, false, false] rfl rfl (by kernel_rfl) (fun _ _ _ h => h) (Or.inl ⟨by rfl, ?_⟩) ?_ ?_
      rotate_left
      · intro w'
        have hfd : (Instr.field 41 (.agg #[.int .i64 L.length, .slice A5 O.length c5]) 1).run Try.prog w' = .ok (.slice A5 O.length c5) w' := by kernel_rfl
        go_simp
        first | done | with_reducible rfl
      rotate_left
      · simp only [Act.put, List.setIfInBounds_toArray, List.set_cons_zero, List.set_cons_succ, i64_w, i32_w]
        rfl
      refine last_ (i := 7) (N := (some 60)) #[true, true, true, true, true, true, true, true, false, false] rfl rfl (by kernel_rfl) (by decide) (fun K hK => ?_)
      have HOc := Kd.R_below HOE.out hHeld
      have HEc := Kd.R_below HEE.out hHeld
      have OEc := OE.out.step hHeld
      refine app_step2 (W0 := w) w.heap.size (by rfl) (.tmp 54) (.tmp 59) rfl (.slice A3 k c3) acc O A5 c5 rfl rfl HOc HC5.out OEc.below OEc.size HLEN.out ?_
      intro v1 w1 hr1 hb1 hg1 hat1
      obtain ⟨A1, c1, e1⟩ := Kd.R_slice hr1
      generalize (acc ++ O).length = k1 at e1
      subst e1
      have OW := Aside0.mk (OEc.grown hg1 (fun k hk => Kd.R_base HOc k hk) (fun i b hb => by
        rcases i with _ | _ | _ | i
        · cases hb; exact fun e => Kd.R_ne HOc (OEc.blk 0 rfl) (by decide) e
        · cases hb; exact fun e => Kd.R_ne HOc (OEc.blk 1 rfl) (by decide) e
        · cases hb; exact fun e => Kd.R_ne HOc (OEc.blk 2 rfl) (by decide) e
        · cases hb))
      have HE1 := Aside0.mk (ki_grown HEc hg1 (fun k hk => tag_row HOc k hk))
      have HV := Aside0.mk hr1
      have z1 := (OW.out.cell 1 rfl 1).trans rfl
      have y1 := OW.out.frozen 1 rfl 1
      clear hr1 hb1 hg1 hat1 HOc HEc OEc OE HOE HEE HLE b2 r1 hHeld HC5
      refine hK.out _ _ ?_
      clear hK K
      refine norm_ (a' := ?_) ?_ ?_
      rotate_left
      · show Act.put _ (some 60) _ = _
        simp only [Act.put, List.setIfInBounds_toArray, List.set_cons_zero, List.set_cons_succ, i64_w, i32_w]
        rfl
      refine pure_ (i := 8) (N := (some 61)) (v := ?_) (a' := ?_) #[true, true, true, true, true, true, true, true, true, false] rfl rfl (by kernel_rfl) (fun _ _ _ h => h) (Or.inl ⟨by rfl, ?_⟩) ?_ ?_
      rotate_left
      · intro w'
        go_simp
        first | done | with_reducible rfl
      rotate_left
      · simp only [Act.put, List.setIfInBounds_toArray, List.set_cons_zero, List.set_cons_succ, i64_w, i32_w]
        rfl
      refine last_ (i := 9) (N := none) #[true, true, true, true, true, true, true, true, true, true] rfl rfl (by kernel_rfl) (by decide) (fun K hK => ?_)
      refine skip_ (by rfl) rfl (by first | (go_simp; done) | (go_simp; rfl)) ?_
      refine hK.out _ _ ?_
      clear hK K
      refine done_ (by kernel_rfl) ?_
      have O3 := Aside0.mk ((OW.out.put 1 rfl 1 (.slice A1 k1 c1) rfl))
      have HV2 := Aside0.mk (Kd.R_set HV.out (OW.out.blk 1 rfl) (by decide) 1 (.slice A1 k1 c1))
      have HE2 := Aside0.mk (Kd.R_set HE1.out (OW.out.blk 1 rfl) (by decide) 1 (.slice A1 k1 c1))
      have O4 : Aside0 (Mem.Own w (w1.setCell ⟨gR, 1, none⟩ (.slice A1 k1 c1)) [(gT, TV, 31), (gR, #[.int .i64 (n : Int), .slice A1 k1 c1], 41)]) := ⟨own_take O3.out 2⟩
      clear OW HV HE1 z1 y1
      go_wp2_with fail
      go_roundw
      case rel => exact ⟨i + 1, k1, A1, c1, by go_num, HI1.out, by rw [HSN.out]; exact HV2, HE2, O4⟩
      case measure => simp [intOf]; have := HI1.out; omega
    · have h1i : ¬ (i : Int) < (m : Int) := by omega
      obtain rfl : i = m := by omega
      have hlm : Ls.length = i := by rw [← HT.out.1, HM.out]
      have htk : Ls.take i = Ls := by rw [← hlm]; exact List.take_length
      have hal := accF_len Ls H4.out
      have ha32 := accF_32 Ls H4.out H32.out
      rw [HAC.out] at hal ha32
      rw [htk, HAC.out] at HO
      have hk := (Kd.R_reads' HO.out).1
      have hcap := (Kd.R_reads' HO.out).2.1
      rw [hk] at HO OW hcap
      have HRR := Aside0.mk (fun (W : World) h => rroot_any (n : Int) A3 c3 ac W (by omega) (A32.sm ha32) hcap h)
      have r0 := (OW.out.cell 1 rfl 0).trans rfl
      have r1 := (OW.out.cell 1 rfl 1).trans rfl
      clear htk hal ha32 hk hcap hlm
      go_wp2_with (first
        | ((with_reducible refine gate_dst (N := 63) rfl ?_); refine wpList_load_row rfl 31 (.tmp 3) rfl gT rfl 31 TV (0, 0) _ (OW.out.blk 0 rfl) Try.underlying31 rfl HI.out ?_)
        | (go_at_call 29; (with_reducible refine (HRR.out _ (Kd.R_reads' HO.out).2.2).mono ?_); rintro e wz ⟨rfl, hB⟩; have n_ := Aside0.mk (OW.out.step hB); clear OW hB r0 r1; have OW := n_; clear n_))
      go_ret2
      exact ⟨rfl, OW.out.below⟩
structure InvF (s : FS) : Prop where
  tl : ∀ x l, s.tiles x = some l → (l.length : Int) = wdF s.size x.1 x.2 ∧ A32 l
  bn : ∀ k l, s.bund k = some l → (l.length : Int) = wdF s.size 0 k
def haveE (s : FS) : Bool := (edgeF wdF s.size).all fun x => (s.tiles x).isSome
def tileOf (s : FS) (x : Int × Int) : List ByteArray := (s.tiles x).getD []
def rootE (s : FS) : ByteArray := rootR (accF ((edgeF wdF s.size).map (tileOf s)))
theorem info_T : (Try.prog.info? 35).map (fun i => (i.zero, i.size, i.bytes)) = some (some (.agg #[.int .i64 0, .int .i64 0, .slice none 0 0]), 3, 40) := by kernel_rfl
def slF (f : Cont) (x : Int × Int) : Option Addr × Nat × Nat := match f (idV x) with
  | some (.slice A n c) => (A, n, c)
  | _ => (none, 0, 0)
theorem edge_in : ∀ n : Nat, n < 65 → ∀ x ∈ edgeF wdF n, 0 ≤ x.1 ∧ x.1 ≤ 3 ∧ 0 ≤ x.2 ∧ x.2 ≤ 16 := by decide +kernel
theorem kt_own {W : World} {base : Nat} {v : Value} {l : List Tl} (h : KT.R 35 W base (fun _ => True) v l) (hp : 0 < l.length) : ∃ gl c, v = .slice (some ⟨gl, 0, none⟩) l.length c := by
  obtain ⟨g, cap, e, _⟩ := Kd.R_form h hp
  exact ⟨g, cap, e⟩
theorem ki_grownT {W W1 : World} {base : Nat} {v : Value} {l : List (Int × Int)} {row : Option Nat} (h : KI.R 24 W base (fun _ => True) v l) (hg : W.grownBy W1 row) (hrow : ∀ k, row = some k → tag W k = some 35) : KI.R 24 W1 base (fun _ => True) v l :=
  Kd.R_mono (Kd.R_step (only_k h) (fun k ho hlt => hg.block k hlt (fun e => by
    have h1 := hrow k e.symm
    rw [tag_row h k ho] at h1
    exact absurd (Option.some.inj h1) (by decide)))) (fun _ _ => trivial)
theorem fet_range {base g gt gb : Nat} {s : FS} {W : World} (h : IsF base W g gt gb s) : W.rangeAt g 0 TL := fun j v hv => by
  have hj : j < TL.length := (List.getElem?_eq_some_iff.1 hv).1
  rw [tl_len] at hj
  rw [Nat.zero_add, blk_cell h.blk j]
  unfold fcs
  rw [Array.getElem?_append_left (by rw [tv_size]; exact hj)]
  unfold TV
  rw [List.getElem?_toArray]
  exact hv
theorem yields_fet {ops : Array Oper} {S : World → Prop} {op : Oper} {a : Act} (hw : Region.wanted op (yielded ops a.tmps) = true) (x : Operand) (ho : op.op = .load 31 x) (g : Nat) (hx : a.eval x = .pointer (some ⟨g, 0, none⟩)) {base gt gb : Nat} {s : FS}
    (hS : ∀ w, S w → IsF base w g gt gb s) : YieldsIf Try.prog ops S op (.agg TV) a :=
  yieldsIf_load_mid hw 31 x ho g 0 hx TL _ (fun w h => fet_range (hS w h)) Try.underlying31 rfl info_tl
theorem whole_c (base g gt gb : Nat) (s : FS) (w : World) (h : IsF base w g gt gb s) (hv : InvF s) :
    Calls Try.prog 110 #[.pointer (some ⟨g, 0, none⟩)] w fun e w' => e = .returned (.tuple #[.bool (haveE s && decide (rootE s = s.root)), .bool (haveE s)]) ∧ Below w.heap.size w w' := by
  have OW := Aside0.mk (Mem.Own.nil w)
  have HF := Aside0.mk h
  have HV := Aside0.mk hv
  obtain ⟨f, hm, hx⟩ := h.tl
  have HMF := Aside0.mk hm
  have HX := Aside0.mk hx
  have HEK := Aside0.mk (fun W => edge_k (s.size : Int) W)
  have HEL := Aside0.mk (edge_len s.size (by have := h.sz; omega))
  have HEI := Aside0.mk (edge_in s.size (by have := h.sz; omega))
  have hsn := fun (W : World) (a : Option Addr) (n c : Nat) => Lib.run_eql_slice_nil (P := Try.prog) W 22 9 a n c 0 0 Try.underlying22
  have c0 : w.cell? ⟨g, 72, none⟩ = some (.int .i64 s.size) := (h.cell 0).trans rfl
  obtain ⟨E, hE⟩ : ∃ E, edgeF wdF s.size = E := ⟨_, rfl⟩
  obtain ⟨m, hme⟩ : ∃ m, E.length = m := ⟨_, rfl⟩
  have hmi : (m : Int) ≤ 4 := by have := HEL.out; rw [hE, hme] at this; omega
  have HEE := Aside0.mk hE
  have HME := Aside0.mk hme
  rw [hE] at HEK
  clear h hv hm hx hE hme
  go_enter Try.func110, Try.ntmps110
  go_wp2_with (first
    | (go_at_call 111; (with_reducible refine (HEK.out _).mono ?_); rintro e wz ⟨v8, rfl, hr8, hB⟩; obtain ⟨A8, c8, rfl⟩ := ki_form hr8; rw [HME.out] at hr8 ⊢; have HE := Aside0.mk hr8; have HB := Aside0.mk hB; clear hr8 hB))
  clear c0 HEK OW
  go_loopw [4, 16] (fun v4 v16 wr => ∃ (i : Nat) (A4 : Option Addr) (c4 : Nat), v16 = .int .i64 i ∧ v4 = .slice A4 i c4 ∧ i ≤ m ∧ Aside0 (∀ x ∈ E.take i, (s.tiles x).isSome = true) ∧ Aside0 (KT.R 35 wr w.heap.size (fun _ => True) (.slice A4 i c4) ((E.take i).map fun x => (x, slF f x)))
    ∧ Aside0 (KI.R 24 wr w.heap.size (fun _ => True) (.slice A8 m c8) E) ∧ Aside0 (Below w.heap.size w wr)) (fun _ v16 _ => m - (intOf v16).toNat)
  case atStart => exact ⟨0, none, 0, rfl, rfl, Nat.zero_le _, ⟨fun x hx => by cases hx⟩, ⟨Kd.R_nil _ _ _ _ _⟩, HE, HB⟩
  case round =>
    clear HE HB
    obtain ⟨i, A4, c4, rfl, rfl, hi, HS, HT, HE, HB⟩ := hrel
    by_cases h1 : i < m
    · have h1i : (i : Int) < (m : Int) := by omega
      have hie : i < E.length := by rw [HME.out]; exact h1
      obtain ⟨ge, eb, e0, e1⟩ := ki_elem HE.out i hie
      cases eb
      have HTK := Aside0.mk (List.take_succ_eq_append_getElem hie)
      have hbd := HEI.out (E[i]) (by rw [HEE.out]; exact List.getElem_mem hie)
      have hmemE : E[i] ∈ E := List.getElem_mem hie
      obtain ⟨x, hxe⟩ : ∃ x, E[i] = x := ⟨_, rfl⟩
      rw [hxe] at e0 e1 HTK hbd hmemE
      obtain ⟨x0, x1⟩ := x
      simp only at e0 e1 hbd
      obtain ⟨kl, hkl⟩ := key24 (a := x0) (b := x1) (wf_of (by omega) (by omega)) (wf_of (by omega) (by omega))
      have HKL := Aside0.mk hkl
      have HMEM := Aside0.mk hmemE
      have HI1 := Aside0.mk h1
      obtain ⟨q1, q2⟩ := HX.out (x0, x1)
      have hcs : ∃ A n c, (f (idV (x0, x1))).getD (.slice none 0 0) = .slice A n c ∧ ((s.tiles (x0, x1) = none ∧ A = none) ∨ ∃ l, s.tiles (x0, x1) = some l ∧ (∃ gr, A = some ⟨gr, 0, none⟩) ∧ slF f (x0, x1) = (A, n, c)) := by
        cases hq : s.tiles (x0, x1) with
        | none => rw [q1 hq]; exact ⟨none, 0, 0, rfl, .inl ⟨rfl, rfl⟩⟩
        | some l =>
          obtain ⟨v, e, hr, h0l, _⟩ := q2 l hq
          obtain ⟨gr, cap, rfl, _⟩ := Kd.R_form hr h0l
          refine ⟨_, _, _, by rw [e]; rfl, .inr ⟨l, rfl, ⟨gr, rfl⟩, ?_⟩⟩
          unfold slF
          rw [e]
      obtain ⟨A, n, c, hval, hcs⟩ := hcs
      have HVL := Aside0.mk hval
      clear q1 q2 hkl hbd hmemE hie hxe h1 hval
      go_wp2_with fail
      have hal : Below wr.heap.size wr (wr.alloc (.cells #[.int .i64 x0, .int .i64 x1] 24)) := below_alloc (Below.refl _ _) _
      have hbk := blk_new wr (.cells #[.int .i64 x0, .int .i64 x1] 24)
      have HB2 := Aside0.mk (below_step HB.out hal)
      have HT2 := Aside0.mk (Kd.R_below HT.out hal)
      have HE2 := Aside0.mk (Kd.R_below HE.out hal)
      obtain ⟨gI, hgI⟩ : ∃ gI, wr.heap.size = gI := ⟨_, rfl⟩
      rw [hgI] at hbk ⊢
      generalize wr.alloc (.cells #[.int .i64 x0, .int .i64 x1] 24) = wx at *
      clear hal e0 e1 HT HE HB hgI
      have OX := Aside0.mk (Mem.Own.of_below (Below.refl wx.heap.size wx))
      have HFX := Aside0.mk (HF.out.below HB2.out)
      have HMX := Aside0.mk (HMF.out.below' HB2.out)
      have b0 : wx.drew.cell? ⟨gI, 0, none⟩ = some (.int .i64 x0) := (blk_cell hbk 0).trans rfl
      have b1 : wx.drew.cell? ⟨gI, 1, none⟩ = some (.int .i64 x1) := (blk_cell hbk 1).trans rfl
      have c2 : wx.drew.cell? ⟨g, 74, none⟩ = some (.map (some gt)) := (HFX.out.cell 2).trans rfl
      have HMD := Aside0.mk HMX.out.drew
      have HBD := Aside0.mk HB2.out.drew
      have HTD := Aside0.mk (Kd.R_drew HT2.out)
      have HED := Aside0.mk (Kd.R_drew HE2.out)
      clear OX HFX HMX HB2 HT2 HE2 hbk
      refine start_ (n := 7) (S := fun w' => Below (wx).drew.heap.size (wx).drew w') (ds := []) #[false, false, false, false, false, false, false] (by kernel_rfl) rfl rfl (Below.refl _ _) (fun hHeld => ?_)
      generalize (wx).drew = W0 at *
      refine pure_ (i := 0) (N := (some 20)) (v := ?_) (a' := ?_) #[true, false, false, false, false, false, false] rfl rfl (by kernel_rfl) (fun _ _ _ h => h) (Or.inl ⟨by rfl, ?_⟩) ?_ ?_
      rotate_left
      · intro w'
        go_simp
        first | done | with_reducible rfl
      rotate_left
      · simp only [Act.put, List.setIfInBounds_toArray, List.set_cons_zero, List.set_cons_succ, i64_w, i32_w]
        rfl
      refine pure_ (i := 1) (N := (some 21)) (v := ?_) (a' := ?_) #[true, true, false, false, false, false, false] rfl rfl (by kernel_rfl) (fun _ _ _ h => h) (Or.inl ⟨by rfl, ?_⟩) ?_ ?_
      rotate_left
      · intro w'
        skip
        go_simp
        first | done | with_reducible rfl
      rotate_left
      · simp only [Act.put, List.setIfInBounds_toArray, List.set_cons_zero, List.set_cons_succ, i64_w, i32_w]
        rfl
      refine pure_ (i := 2) (N := (some 22)) (v := ?_) (a' := ?_) #[true, true, true, false, false, false, false] rfl rfl (by kernel_rfl) (fun _ _ _ h => h) (Or.inl ⟨by rfl, ?_⟩) ?_ ?_
      rotate_left
      · intro w'
        go_simp
        first | done | with_reducible rfl
      rotate_left
      · simp only [Act.put, List.setIfInBounds_toArray, List.set_cons_zero, List.set_cons_succ, i64_w, i32_w]
        rfl
      refine take_ (i := 3) (N := (some 23)) (v := ?_) (a' := ?_) #[true, true, true, true, false, false, false] rfl rfl (by kernel_rfl) (fun _ _ _ h => h) (Or.inl ⟨by rfl, ?_⟩) hHeld ?_ ?_
      rotate_left
      · intro w' hS
        have s0 := pw_cell_below hS c2
        go_simp
        first | done | with_reducible rfl
      rotate_left
      · simp only [Act.put, List.setIfInBounds_toArray, List.set_cons_zero, List.set_cons_succ, i64_w, i32_w]
        rfl
      refine take_ (i := 4) (N := (some 24)) (v := ?_) (a' := ?_) #[true, true, true, true, true, false, false] rfl rfl (by kernel_rfl) (fun _ _ _ h => h) (Or.inl ⟨by rfl, ?_⟩) hHeld ?_ ?_
      rotate_left
      · intro w' hS
        have s0 := pw_cell_below hS b0
        have s1 := pw_cell_below hS b1
        go_simp
        first | done | with_reducible rfl
      rotate_left
      · simp only [Act.put, List.setIfInBounds_toArray, List.set_cons_zero, List.set_cons_succ, i64_w, i32_w]
        rfl
      refine take_ (i := 5) (N := (some 25)) (v := ?_) (a' := ?_) #[true, true, true, true, true, true, false] rfl rfl (by kernel_rfl) (fun _ _ _ h => h) (Or.inl ⟨by rfl, ?_⟩) hHeld ?_ ?_
      rotate_left
      · intro w' hS
        have hl : (Instr.lookup 111 (.map (some gt)) (.agg #[.int .i64 x0, .int .i64 x1]) false).run Try.prog w' = .ok (.slice A n c) w' := look_s (HMD.out.below' hS) K24 Try.underlying111 HKL.out HVL.out
        go_simp
        first | done | with_reducible rfl
      rotate_left
      · simp only [Act.put, List.setIfInBounds_toArray, List.set_cons_zero, List.set_cons_succ, i64_w, i32_w]
        rfl
      refine pure_ (i := 6) (N := (some 7)) (v := ?_) (a' := ?_) #[true, true, true, true, true, true, true] rfl rfl (by kernel_rfl) (fun _ _ _ h => h) (Or.inl ⟨by rfl, ?_⟩) ?_ ?_
      rotate_left
      · intro w'
        go_simp
        first | done | with_reducible rfl
      rotate_left
      · simp only [Act.put, List.setIfInBounds_toArray, List.set_cons_zero, List.set_cons_succ, i64_w, i32_w]
        rfl
      refine done_ (by kernel_rfl) ?_
      have k0 := pw_cell_below hHeld b0
      have k1 := pw_cell_below hHeld b1
      have HB3 := Aside0.mk (below_step HBD.out hHeld)
      have HT3 := Aside0.mk (Kd.R_below HTD.out hHeld)
      have HE3 := Aside0.mk (Kd.R_below HED.out hHeld)
      clear b0 b1 c2 HMD HBD HTD HED hHeld
      rcases hcs with ⟨hnone, rfl⟩ | ⟨l, hsome, ⟨gr, rfl⟩, hsl⟩
      · have HNE : Aside0 (haveE s = false) := ⟨by
          unfold haveE
          rw [HEE.out, List.all_eq_false]
          exact ⟨(x0, x1), HMEM.out, by rw [hnone]; simp⟩⟩
        clear hnone
        go_wp2_with fail
        go_ret2
        exact ⟨by rw [HNE.out]; rfl, HB3.out⟩
      · have HS2 : Aside0 (∀ x ∈ E.take (i + 1), (s.tiles x).isSome = true) := ⟨fun x hx => by
          rw [HTK.out] at hx
          rcases List.mem_append.1 hx with h | h
          · exact HS.out x h
          · rw [List.mem_singleton.1 h, hsome]; rfl⟩
        have HTT : Aside0 ((E.take (i + 1)).map (fun x => (x, slF f x)) = (E.take i).map (fun x => (x, slF f x)) ++ [((x0, x1), some ⟨gr, 0, none⟩, n, c)]) := ⟨by rw [HTK.out, List.map_append, List.map_singleton, hsl]⟩
        have HLN : Aside0 (((E.take i).map fun x => (x, slF f x)).length = i) := ⟨by rw [List.length_map, List.length_take, HME.out]; have := HI1.out; omega⟩
        generalize ((E.take i).map fun x => (x, slF f x)) = ts at *
        clear hsome hsl
        go_wp2_with (first
          | ((with_reducible refine gate_builtin (b := .append) (xs := #[.tmp 28, .tmp 32]) rfl ?_); at_builtin; refine Kd.R_append (P := Try.prog) KT (w0 := w) (W := W0) w.heap.size rfl (.tmp 28) (.tmp 32) 174 35 (.agg #[.int .i64 0, .int .i64 0, .slice none 0 0]) 40 rfl Try.underlying174 info_T rfl (by decide) (by decide) (.slice A4 i c4) ts ((x0, x1), some ⟨gr, 0, none⟩, n, c) [.int .i64 x0, .int .i64 x1, .slice (some ⟨gr, 0, none⟩) n c] (fun _ => True) (fun _ => False) rfl rfl rfl (fun _ h => h.elim) (fun _ _ => trivial) HT3.out HB3.out HB3.out.size (by rw [HLN.out]; have := HI1.out; omega) ?_; intro v2 w2 hr2 hb2 hg2 hat2; have HE4 := Aside0.mk (ki_grownT HE3.out hg2 (fun k hk => tag_row HT3.out k hk)); obtain ⟨A5, c5, e5⟩ := Kd.R_slice hr2; have e6 : (ts ++ [((x0, x1), some (⟨gr, 0, none⟩ : Addr), n, c)]).length = i + 1 := (by rw [List.length_append, HLN.out]; rfl); rw [e6] at e5; subst e5; have HR2 := Aside0.mk hr2; have HB2 := Aside0.mk hb2; clear hr2 hb2 hg2 hat2 e6))
        go_roundw
        case rel => exact ⟨i + 1, A5, c5, by go_num, rfl, HI1.out, HS2, by rw [HTT.out]; exact HR2, HE4, HB2⟩
        case measure => simp [intOf]; have := HI1.out; omega
    · have h1i : ¬ (i : Int) < (m : Int) := by omega
      obtain rfl : i = m := by omega
      have htk : E.take i = E := by rw [← HME.out]; exact List.take_length
      rw [htk] at HS HT
      have hall : haveE s = true := by
        unfold haveE
        rw [HEE.out]
        exact List.all_eq_true.2 HS.out
      clear htk
      go_wp2_with fail
      have hKc := (Kd.R_reads' HT.out).2.2
      have hcap := (Kd.R_reads' HT.out).2.1
      have hlen := (Kd.R_reads' HT.out).1
      have hroot : ∀ W, Below w.heap.size w W → KT.C W A4 i (E.map fun x => (x, slF f x)) → Calls Try.prog 120 #[.agg TV, .int .i64 (s.size : Int), .slice A4 i c4] W fun e w' => e = .returned (.tuple #[.string (rootE s), .int .i64 0]) ∧ Below W.heap.size W w' := by
        intro W hBW hCW
        have h64 := HF.out.sz
        refine troot_c A4 c4 s.size i _ (E.map (tileOf s)) W h64 (by rw [List.length_map, HME.out]) (by rw [List.map_map]; rw [HEE.out]; exact List.map_id E) hcap ?_ ?_ ?_ ?_ hCW |>.mono ?_
        · refine TlsC.below ⟨by rw [List.length_map, List.length_map], fun j hj1 hj2 => ?_⟩ hBW
          have hjE : j < E.length := by rw [List.length_map] at hj1; exact hj1
          have hs1 := HS.out E[j] (List.getElem_mem hjE)
          simp only [List.getElem_map]
          cases hq : s.tiles E[j] with
          | none => rw [hq] at hs1; cases hs1
          | some l =>
            obtain ⟨v, e, hr, h0l, _⟩ := (HX.out E[j]).2 l hq
            obtain ⟨gr, cap, rfl, _⟩ := Kd.R_form hr h0l
            have hsl : slF f E[j] = (some ⟨gr, 0, none⟩, l.length, cap) := by unfold slF; rw [e]
            have htl : tileOf s E[j] = l := by unfold tileOf; rw [hq]; rfl
            rw [hsl, htl]
            exact ⟨rfl, (Kd.R_reads' hr).2.1, (Kd.R_reads' hr).2.2⟩
        · intro j hj1 hj2
          have hjE : j < E.length := by rw [List.length_map] at hj1; exact hj1
          have hs1 := HS.out E[j] (List.getElem_mem hjE)
          simp only [List.getElem_map]
          cases hq : s.tiles E[j] with
          | none => rw [hq] at hs1; cases hs1
          | some l =>
            have htl : tileOf s E[j] = l := by unfold tileOf; rw [hq]; rfl
            rw [htl]
            exact (HV.out.tl _ l hq).1
        · intro L hL
          obtain ⟨x, hx, rfl⟩ := List.mem_map.1 hL
          have hs1 := HS.out x hx
          cases hq : s.tiles x with
          | none => rw [hq] at hs1; cases hs1
          | some l =>
            have htl : tileOf s x = l := by unfold tileOf; rw [hq]; rfl
            rw [htl]
            exact (HV.out.tl _ l hq).2
        · intro hp
          obtain ⟨gl, cc, e⟩ := kt_own HT.out (by rw [List.length_map, HME.out]; exact hp)
          injection e with e1 _ _
          exact ⟨gl, e1⟩
        · rintro e w' ⟨rfl, hB⟩
          exact ⟨by unfold rootE; rw [HEE.out], hB⟩
      have HRT := Aside0.mk hroot
      have HAL := Aside0.mk hall
      have HKC := Aside0.mk (show KT.C wr.drew A4 i (E.map fun x => (x, slF f x)) by rw [← hlen] at hKc; exact Kd.C_drew hKc)
      have HFD := Aside0.mk (HF.out.below HB.out).drew
      have HBD := Aside0.mk HB.out.drew
      have c1 : wr.drew.cell? ⟨g, 72, none⟩ = some (.int .i64 s.size) := (HFD.out.cell 0).trans rfl
      clear hKc hcap hlen hroot hall HS HT HE HB
      refine start_ (n := 15) (S := fun w' => Below (wr).drew.heap.size (wr).drew w') (ds := []) #[false, false, false, false, false, false, false, false, false, false, false, false, false, false, false] (by kernel_rfl) rfl rfl (Below.refl _ _) (fun hHeld => ?_)
      generalize (wr).drew = W0 at *
      refine pure_ (i := 0) (N := (some 36)) (v := ?_) (a' := ?_) #[true, false, false, false, false, false, false, false, false, false, false, false, false, false, false] rfl rfl (by kernel_rfl) (fun _ _ _ h => h) (Or.inl ⟨by rfl, ?_⟩) ?_ ?_
      rotate_left
      · intro w'
        go_simp
        first | done | with_reducible rfl
      rotate_left
      · simp only [Act.put, List.setIfInBounds_toArray, List.set_cons_zero, List.set_cons_succ, i64_w, i32_w]
        rfl
      refine pure_ (i := 1) (N := (some 37)) (v := ?_) (a' := ?_) #[true, true, false, false, false, false, false, false, false, false, false, false, false, false, false] rfl rfl (by kernel_rfl) (fun _ _ _ h => h) (Or.inl ⟨by rfl, ?_⟩) ?_ ?_
      rotate_left
      · intro w'
        skip
        go_simp
        first | done | with_reducible rfl
      rotate_left
      · simp only [Act.put, List.setIfInBounds_toArray, List.set_cons_zero, List.set_cons_succ, i64_w, i32_w]
        rfl
      refine pure_ (i := 2) (N := (some 38)) (v := ?_) (a' := ?_) #[true, true, true, false, false, false, false, false, false, false, false, false, false, false, false] rfl rfl (by kernel_rfl) (fun _ _ _ h => h) (Or.inl ⟨by rfl, ?_⟩) ?_ ?_
      rotate_left
      · intro w'
        go_simp
        first | done | with_reducible rfl
      rotate_left
      · simp only [Act.put, List.setIfInBounds_toArray, List.set_cons_zero, List.set_cons_succ, i64_w, i32_w]
        rfl
      refine take_ (i := 3) (N := (some 39)) (a' := ?_) #[true, true, true, true, false, false, false, false, false, false, false, false, false, false, false] rfl rfl (by kernel_rfl) (fun _ _ _ h => h) (yields_fet (by rfl) (.tmp 38) rfl g rfl (fun w' hS => HFD.out.below hS)) hHeld ?_ ?_
      rotate_left
      · simp only [Act.put, List.setIfInBounds_toArray, List.set_cons_zero, List.set_cons_succ, i64_w, i32_w]
        rfl
      refine pure_ (i := 4) (N := (some 40)) (v := ?_) (a' := ?_) #[true, true, true, true, true, false, false, false, false, false, false, false, false, false, false] rfl rfl (by kernel_rfl) (fun _ _ _ h => h) (Or.inl ⟨by rfl, ?_⟩) ?_ ?_
      rotate_left
      · intro w'
        go_simp
        first | done | with_reducible rfl
      rotate_left
      · simp only [Act.put, List.setIfInBounds_toArray, List.set_cons_zero, List.set_cons_succ, i64_w, i32_w]
        rfl
      refine pure_ (i := 5) (N := (some 41)) (v := ?_) (a' := ?_) #[true, true, true, true, true, true, false, false, false, false, false, false, false, false, false] rfl rfl (by kernel_rfl) (fun _ _ _ h => h) (Or.inl ⟨by rfl, ?_⟩) ?_ ?_
      rotate_left
      · intro w'
        skip
        go_simp
        first | done | with_reducible rfl
      rotate_left
      · simp only [Act.put, List.setIfInBounds_toArray, List.set_cons_zero, List.set_cons_succ, i64_w, i32_w]
        rfl
      refine pure_ (i := 6) (N := (some 42)) (v := ?_) (a' := ?_) #[true, true, true, true, true, true, true, false, false, false, false, false, false, false, false] rfl rfl (by kernel_rfl) (fun _ _ _ h => h) (Or.inl ⟨by rfl, ?_⟩) ?_ ?_
      rotate_left
      · intro w'
        go_simp
        first | done | with_reducible rfl
      rotate_left
      · simp only [Act.put, List.setIfInBounds_toArray, List.set_cons_zero, List.set_cons_succ, i64_w, i32_w]
        rfl
      refine take_ (i := 7) (N := (some 43)) (v := ?_) (a' := ?_) #[true, true, true, true, true, true, true, true, false, false, false, false, false, false, false] rfl rfl (by kernel_rfl) (fun _ _ _ h => h) (Or.inl ⟨by rfl, ?_⟩) hHeld ?_ ?_
      rotate_left
      · intro w' hS
        have s0 := pw_cell_below hS c1
        go_simp
        first | done | with_reducible rfl
      rotate_left
      · simp only [Act.put, List.setIfInBounds_toArray, List.set_cons_zero, List.set_cons_succ, i64_w, i32_w]
        rfl
      refine pure_ (i := 8) (N := (some 44)) (v := ?_) (a' := ?_) #[true, true, true, true, true, true, true, true, true, false, false, false, false, false, false] rfl rfl (by kernel_rfl) (fun _ _ _ h => h) (Or.inl ⟨by rfl, ?_⟩) ?_ ?_
      rotate_left
      · intro w'
        go_simp
        first | done | with_reducible rfl
      rotate_left
      · simp only [Act.put, List.setIfInBounds_toArray, List.set_cons_zero, List.set_cons_succ, i64_w, i32_w]
        rfl
      refine one_ (i := 9) (N := (some 45)) #[true, true, true, true, true, true, true, true, true, true, false, false, false, false, false] rfl rfl (by kernel_rfl) (by decide) (fun K hK => ?_)
      refine goes_ Try.func120 (by kernel_rfl) rfl #[.agg TV, .int .i64 s.size, .slice A4 i c4] (by rfl) rfl rfl (by (try simp only [List.map_toArray, List.map_cons, List.map_nil]); first | done | rfl) ?_
      (with_reducible refine (HRT.out _ (below_step HBD.out hHeld) (Kd.C_below HKC.out hHeld)).mono ?_)
      rintro e wa ⟨rfl, hB⟩
      refine ⟨_, rfl, ?_⟩
      have hS2 : Below W0.heap.size W0 wa := below_step hHeld hB
      clear hB hHeld
      refine hK.out _ _ hS2 (fun hHeld => ?_)
      clear hK K
      refine norm_ (a' := ?_) ?_ ?_
      rotate_left
      · show Act.put _ (some 45) _ = _
        simp only [Act.put, List.setIfInBounds_toArray, List.set_cons_zero, List.set_cons_succ, i64_w, i32_w]
        rfl
      refine pure_ (i := 10) (N := (some 35)) (v := ?_) (a' := ?_) #[true, true, true, true, true, true, true, true, true, true, true, false, false, false, false] rfl rfl (by kernel_rfl) (fun _ _ _ h => h) (Or.inl ⟨by rfl, ?_⟩) ?_ ?_
      rotate_left
      · intro w'
        go_simp
        first | done | with_reducible rfl
      rotate_left
      · simp only [Act.put, List.setIfInBounds_toArray, List.set_cons_zero, List.set_cons_succ, i64_w, i32_w]
        rfl
      refine pure_ (i := 11) (N := (some 46)) (v := ?_) (a' := ?_) #[true, true, true, true, true, true, true, true, true, true, true, true, false, false, false] rfl rfl (by kernel_rfl) (fun _ _ _ h => h) (Or.inl ⟨by rfl, ?_⟩) ?_ ?_
      rotate_left
      · intro w'
        go_simp
        first | done | with_reducible rfl
      rotate_left
      · simp only [Act.put, List.setIfInBounds_toArray, List.set_cons_zero, List.set_cons_succ, i64_w, i32_w]
        rfl
      refine pure_ (i := 12) (N := (some 47)) (v := ?_) (a' := ?_) #[true, true, true, true, true, true, true, true, true, true, true, true, true, false, false] rfl rfl (by kernel_rfl) (fun _ _ _ h => h) (Or.inl ⟨by rfl, ?_⟩) ?_ ?_
      rotate_left
      · intro w'
        go_simp
        first | done | with_reducible rfl
      rotate_left
      · simp only [Act.put, List.setIfInBounds_toArray, List.set_cons_zero, List.set_cons_succ, i64_w, i32_w]
        rfl
      refine pure_ (i := 13) (N := (some 8)) (v := ?_) (a' := ?_) #[true, true, true, true, true, true, true, true, true, true, true, true, true, true, false] rfl rfl (by kernel_rfl) (fun _ _ _ h => h) (Or.inl ⟨by rfl, ?_⟩) ?_ ?_
      rotate_left
      · intro w'
        go_simp
        first | done | with_reducible rfl
      rotate_left
      · simp only [Act.put, List.setIfInBounds_toArray, List.set_cons_zero, List.set_cons_succ, i64_w, i32_w]
        rfl
      refine pure_ (i := 14) (N := (some 9)) (v := ?_) (a' := ?_) #[true, true, true, true, true, true, true, true, true, true, true, true, true, true, true] rfl rfl (by kernel_rfl) (fun _ _ _ h => h) (Or.inl ⟨by rfl, ?_⟩) ?_ ?_
      rotate_left
      · intro w'
        go_simp
        first | done | with_reducible rfl
      rotate_left
      · simp only [Act.put, List.setIfInBounds_toArray, List.set_cons_zero, List.set_cons_succ, i64_w, i32_w]
        rfl
      refine done_ (by kernel_rfl) ?_
      have HB5 := Aside0.mk (below_step HBD.out hHeld)
      have c3 : wa.cell? ⟨g, 73, none⟩ = some (.string s.root) := ((HFD.out.below hHeld).cell 1).trans rfl
      clear hHeld c1 HKC HFD HBD HRT
      by_cases hq : rootE s = s.root
      · have h3c : ((rootE s).toList == s.root.toList) = true := by rw [hq]; simp
        have HQ := Aside0.mk (show decide (rootE s = s.root) = true from decide_eq_true hq)
        clear hq
        go_wp2_with fail
        go_ret2
        exact ⟨by rw [HAL.out, HQ.out]; rfl, HB5.out⟩
      · have h3c : ((rootE s).toList == s.root.toList) = false := beq_eq_false_iff_ne.2 (fun e => hq (toList_inj e))
        have HQ := Aside0.mk (show decide (rootE s = s.root) = false from decide_eq_false hq)
        clear hq
        go_wp2_with fail
        go_ret2
        exact ⟨by rw [HAL.out, HQ.out]; rfl, HB5.out⟩
end Go.Proofs.Ytondnammkcgjpaa.Ft
