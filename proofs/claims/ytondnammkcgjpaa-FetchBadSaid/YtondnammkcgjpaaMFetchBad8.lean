/- Here is proved: whatever is given, what is had stays right; who has all has leaves whose root is the head's. Conditions: at most 64 leaves. No program is walked here. -/
import Derived.Test.YtondnammkcgjpaaMFetchBad2
import Derived.Test.YtondnammkcgjpaaMFetchBad5
import Derived.Test.YtondnammkcgjpaaMFetchBad6
import Derived.Test.YtondnammkcgjpaaMFetchBad7
import Derived.Deep.Slices
import Derived.ChangeSame
import Derived.OpenShut
import Derived.Test.YtondnammkcgjpaaRows
import Derived.WalkKit
import Derived.ProofKit
import Derived.ShutString
import Derived.ChangeOld
import Derived.Below
import Derived.SizedLaws
set_option linter.unusedVariables false
set_option linter.unusedSimpArgs false
set_option maxRecDepth 100000
set_option maxHeartbeats 8000000
namespace Go.Proofs.Ytondnammkcgjpaa.Ft
open Go Go.RowKit Go.Shelf Go.Proofs.YtondnammkcgjpaaW.PrintWords
open Go.Proofs.Ytondnammkcgjpaa.ShaP Go.Proofs.Ytondnammkcgjpaa.Mk Go.Proofs.Ytondnammkcgjpaa.Rg Go.Proofs.Ytondnammkcgjpaa.RgP Go.Proofs.Ytondnammkcgjpaa.Rf Go.Proofs.Ytondnammkcgjpaa.RgL Go.Proofs.Ytondnammkcgjpaa.Til Go.Proofs.Ytondnammkcgjpaa.Fg Go.Proofs.Ytondnammkcgjpaa.Rng
structure Snd (s : FS) : Prop where
  sz : s.size ≤ 64
  inv : InvF s
  edge : haveE s = true → rootE s = s.root
  full : ∀ k i : Nat, k < 4 → tw s.size k i = 4 → (s.tiles ((k : Int), (i : Int))).isSome = true → haveE s = true ∧ okF s k i (tileOf s ((k : Int), (i : Int))) = true
  bund : ∀ i : Nat, ∀ l, s.bund (i : Int) = some l → (∀ x ∈ planF s.size, (s.tiles x).isSome = true) ∧ okB s (0, (i : Int)) l = true
variable {s : FS} {x : Want} {l : List ByteArray}
theorem find_left {α : Type} {A B : List α} {p : α → Bool} {x : α} (h : (A ++ B).find? p = some x) (hx : x ∉ A) : A.find? p = none := by
  rw [List.find?_append] at h
  cases hA : A.find? p with
  | none => rfl
  | some y =>
    rw [hA] at h
    have e : y = x := by simpa using h
    exact absurd (e ▸ List.mem_of_find?_eq_some hA) hx
theorem next_not (h : nextF s = some x) : hasF s x = false := by
  have := List.find?_some h
  simpa using this
theorem mem_pickT {n : Nat} {e : Bool} {l : List (Int × Int)} {x : Want} : x ∈ pickT n e l ↔ x.1 = false ∧ x.2 ∈ l ∧ edB n x.2 = e := by
  unfold pickT
  simp only [List.mem_map, List.mem_filter]
  constructor
  · rintro ⟨y, ⟨h1, h2⟩, rfl⟩
    exact ⟨rfl, h1, by simpa using h2⟩
  · rintro ⟨h1, h2, h3⟩
    obtain ⟨b, y⟩ := x
    simp only at h1 h2 h3
    subst h1
    exact ⟨y, ⟨h2, by simpa using h3⟩, rfl⟩
theorem mem_pickB {l : List (Int × Int)} {x : Want} : x ∈ pickB l ↔ x.1 = true ∧ x.2 ∈ l ∧ x.2.1 = 0 := by
  unfold pickB
  simp only [List.mem_map, List.mem_filter]
  constructor
  · rintro ⟨y, ⟨h1, h2⟩, rfl⟩
    exact ⟨rfl, h1, by simpa using h2⟩
  · rintro ⟨h1, h2, h3⟩
    obtain ⟨b, y⟩ := x
    simp only at h1 h2 h3
    subst h1
    exact ⟨y, ⟨h2, by simpa using h3⟩, rfl⟩
theorem mem_edge {n : Nat} {y : Int × Int} : y ∈ edgeF wdF n ↔ y ∈ planF n ∧ edB n y = true := by rw [edF_eq, List.mem_filter]
theorem haveE_iff : haveE s = true ↔ ∀ y ∈ edgeF wdF s.size, (s.tiles y).isSome = true := by unfold haveE; exact List.all_eq_true
theorem next_full {y : Int × Int} (h : nextF s = some (false, y)) (he : edB s.size y = false) : haveE s = true := by
  unfold nextF wantsF at h
  rw [List.append_assoc] at h
  have h1 := find_left h (fun hm => by have := (mem_pickT.1 hm).2.2; rw [he] at this; cases this)
  rw [haveE_iff]
  intro z hz
  have h2 := List.find?_eq_none.1 h1 (false, z) (mem_pickT.2 ⟨rfl, (mem_edge.1 hz).1, (mem_edge.1 hz).2⟩)
  unfold hasF at h2
  cases hq : s.tiles z with
  | none => rw [hq] at h2; exact absurd rfl h2
  | some q => rfl
theorem next_bund {y : Int × Int} (h : nextF s = some (true, y)) : ∀ z ∈ planF s.size, (s.tiles z).isSome = true := by
  unfold nextF wantsF at h
  have h1 := find_left h (fun hm => by
    rcases List.mem_append.1 hm with h | h <;> exact absurd (mem_pickT.1 h).1 (by simp))
  intro z hz
  have h2 := List.find?_eq_none.1 h1 (false, z) (List.mem_append.2 (by
    cases he : edB s.size z with
    | true => exact .inl (mem_pickT.2 ⟨rfl, hz, he⟩)
    | false => exact .inr (mem_pickT.2 ⟨rfl, hz, he⟩)))
  unfold hasF at h2
  cases hq : s.tiles z with
  | none => rw [hq] at h2; exact absurd rfl h2
  | some q => rfl
theorem next_plan (h : nextF s = some x) : x.2 ∈ planF s.size ∧ (x.1 = true → x.2.1 = 0) := by
  have hm := next_mem h
  unfold wantsF at hm
  rcases List.mem_append.1 hm with hm | hm
  · rcases List.mem_append.1 hm with hm | hm
    · exact ⟨(mem_pickT.1 hm).2.1, fun e => by rw [(mem_pickT.1 hm).1] at e; cases e⟩
    · exact ⟨(mem_pickT.1 hm).2.1, fun e => by rw [(mem_pickT.1 hm).1] at e; cases e⟩
  · exact ⟨(mem_pickB.1 hm).2.1, fun _ => (mem_pickB.1 hm).2.2⟩
theorem drops_tiles (l : List (Int × Int)) : ∀ (s : FS) (z : Int × Int), (l.foldl dropT s).tiles z = if z ∈ l then none else s.tiles z := by
  induction l with
  | nil => intro s z; simp
  | cons y l ih =>
    intro s z
    rw [List.foldl_cons, ih]
    by_cases h1 : z ∈ l
    · rw [if_pos h1, if_pos (by simp [h1])]
    · rw [if_neg h1]
      by_cases h2 : z = y
      · subst h2
        rw [if_pos (by simp)]
        exact upd_self _ _ _
      · rw [if_neg (by simp [h1, h2])]
        exact upd_ne _ _ h2
theorem drops_bund (l : List (Int × Int)) : ∀ s : FS, (l.foldl dropT s).bund = s.bund := by
  induction l with
  | nil => intro s; rfl
  | cons y l ih => intro s; rw [List.foldl_cons, ih]; rfl
theorem drops_root (l : List (Int × Int)) : ∀ s : FS, (l.foldl dropT s).root = s.root := by
  induction l with
  | nil => intro s; rfl
  | cons y l ih => intro s; rw [List.foldl_cons, ih]; rfl
theorem putT_self (s : FS) (y : Int × Int) (l : List ByteArray) : (putT s y l).tiles y = some l := upd_self _ _ _
theorem putT_ne (s : FS) {y z : Int × Int} (l : List ByteArray) (h : z ≠ y) : (putT s y l).tiles z = s.tiles z := upd_ne _ _ h
theorem tileOf_ne (s : FS) {y z : Int × Int} (l : List ByteArray) (h : z ≠ y) : tileOf (putT s y l) z = tileOf s z := by unfold tileOf; rw [putT_ne s l h]
theorem tw_edB {n k i : Nat} (hn : n ≤ 64) (hk : k < 4) (h : tw n k i = 4) : edB n ((k : Int), (i : Int)) = false := by
  unfold edB
  have := tw_in n k i hn hk
  simp only
  rw [this, h]
  rfl
theorem mt_snd (n : Nat) (r : ByteArray) (hn : n ≤ 64) (h0 : 0 < n) : Snd (mt n r) := by
  refine ⟨hn, ⟨fun x l h => (by cases h), fun k l h => (by cases h)⟩, fun h => ?_, fun k i _ _ h => (by cases h), fun i l h => (by cases h)⟩
  exfalso
  have h1 : ∀ m : Nat, m < 65 → (edgeF wdF m = [] → m = 0) := by decide +kernel
  rw [haveE_iff] at h
  cases he : edgeF wdF (mt n r).size with
  | nil => exact absurd (h1 n (by omega) he) (by omega)
  | cons y l =>
    have := h y (by rw [he]; simp)
    cases this
theorem Snd.take (h : Snd s) (hx : nextF s = some x) (l : List ByteArray) : Snd (takeS s x l).1 := by
  have hnot := next_not hx
  have hpl := next_plan hx
  unfold takeS
  by_cases h1 : (l.length : Int) ≠ wdF s.size x.2.1 x.2.2
  · rw [if_pos h1]; exact h
  rw [if_neg h1]
  have hlw : (l.length : Int) = wdF s.size x.2.1 x.2.2 := Decidable.byContradiction h1
  by_cases h2 : x.1 = false ∧ all32 l = false
  · rw [if_pos h2]; exact h
  rw [if_neg h2]
  obtain ⟨b, y⟩ := x
  cases b with
  | true =>
    rw [if_pos rfl]
    show Snd (if okB s y l then putB s y.2 l else s)
    have hy0 : y = (0, y.2) := Prod.ext (hpl.2 rfl) rfl
    cases hok : okB s y l with
    | false => exact h
    | true =>
      show Snd (putB s y.2 l)
      have hall := next_bund hx
      refine ⟨h.sz, ⟨h.inv.tl, fun k l' hk => ?_⟩, h.edge, h.full, fun i l' hi => ?_⟩
      · by_cases e : k = y.2
        · subst e
          have : (putB s y.2 l).bund y.2 = some l := upd_self _ _ _
          rw [this] at hk
          cases hk
          rw [hy0] at hlw
          exact hlw
        · have : (putB s y.2 l).bund k = s.bund k := upd_ne _ _ e
          rw [this] at hk
          exact h.inv.bn k l' hk
      · by_cases e : (i : Int) = y.2
        · have : (putB s y.2 l).bund i = some l := by rw [e]; exact upd_self _ _ _
          rw [this] at hi
          cases hi
          refine ⟨hall, ?_⟩
          rw [e]
          rw [hy0] at hok
          exact hok
        · have : (putB s y.2 l).bund i = s.bund i := upd_ne _ _ e
          rw [this] at hi
          exact h.bund i l' hi
  | false =>
    rw [if_neg (by simp)]
    have hnone : s.tiles y = none := by
      unfold hasF at hnot
      cases hq : s.tiles y with
      | none => rfl
      | some l' => simp [hq] at hnot
    have h32 : A32 l := all32_A l (by
      cases hq : all32 l with
      | true => rfl
      | false => exact absurd ⟨rfl, hq⟩ h2)
    have hinv := inv_put (x := y) h.inv hlw h32
    have hnb : ∀ (i : Nat) (l' : List ByteArray), s.bund (i : Int) = some l' → False := fun i l' hi => by
      have := (h.bund i l' hi).1 y hpl.1
      rw [hnone] at this
      cases this
    cases he : edB s.size y with
    | true =>
      show Snd (if true = true then (if okE (putT s y l) then putT s y l else dropE (putT s y l), _) else _).1
      rw [if_pos rfl]
      show Snd (if okE (putT s y l) then putT s y l else dropE (putT s y l))
      have hnf : ∀ k i : Nat, k < 4 → tw s.size k i = 4 → (s.tiles ((k : Int), (i : Int))).isSome = true → False := fun k i hk ht hs => by
        have h3 := (h.full k i hk ht hs).1
        rw [haveE_iff] at h3
        have := h3 y (mem_edge.2 ⟨hpl.1, he⟩)
        rw [hnone] at this
        cases this
      have hne : ∀ k i : Nat, k < 4 → tw s.size k i = 4 → ((k : Int), (i : Int)) ≠ y := fun k i hk ht e => by
        have := tw_edB h.sz hk ht
        rw [e, he] at this
        cases this
      cases hok : okE (putT s y l) with
      | true =>
        show Snd (putT s y l)
        refine ⟨h.sz, hinv, fun hh => ?_, fun k i hk ht hs => ?_, fun i l' hi => (hnb i l' hi).elim⟩
        · show rootE (putT s y l) = (putT s y l).root
          have hh : haveE (putT s y l) = true := hh
          unfold okE at hok
          rw [hh] at hok
          simpa using hok
        · have hs : ((putT s y l).tiles ((k : Int), (i : Int))).isSome = true := hs
          rw [putT_ne s l (hne k i hk ht)] at hs
          exact (hnf k i hk ht hs).elim
      | false =>
        show Snd (dropE (putT s y l))
        have hsz : (dropE (putT s y l)).size = s.size := drops_size _ _
        have htl : ∀ z, (dropE (putT s y l)).tiles z = if z ∈ edgeF wdF s.size then none else (putT s y l).tiles z := drops_tiles _ _
        have hbn : (dropE (putT s y l)).bund = s.bund := drops_bund _ _
        refine ⟨by show (dropE (putT s y l)).size ≤ 64; rw [hsz]; exact h.sz, ⟨fun z l' hz => ?_, fun k l' hk => ?_⟩, fun hh => ?_, fun k i hk ht hs => ?_, fun i l' hi => ?_⟩
        · have hz : (dropE (putT s y l)).tiles z = some l' := hz
          rw [htl] at hz
          split at hz
          · cases hz
          · have := hinv.tl z l' hz
            show (l'.length : Int) = wdF (dropE (putT s y l)).size z.1 z.2 ∧ A32 l'
            rw [hsz]
            exact this
        · have hk : (dropE (putT s y l)).bund k = some l' := hk
          rw [hbn] at hk
          show (l'.length : Int) = wdF (dropE (putT s y l)).size 0 k
          rw [hsz]
          exact h.inv.bn k l' hk
        · exfalso
          have hh : haveE (dropE (putT s y l)) = true := hh
          rw [haveE_iff, hsz] at hh
          have := hh y (mem_edge.2 ⟨hpl.1, he⟩)
          rw [htl, if_pos (mem_edge.2 ⟨hpl.1, he⟩)] at this
          cases this
        · have ht : tw (dropE (putT s y l)).size k i = 4 := ht
          rw [hsz] at ht
          have hs : ((dropE (putT s y l)).tiles ((k : Int), (i : Int))).isSome = true := hs
          rw [htl] at hs
          split at hs
          · cases hs
          · rw [putT_ne s l (hne k i hk ht)] at hs
            exact (hnf k i hk ht hs).elim
        · have hi : (dropE (putT s y l)).bund i = some l' := hi
          rw [hbn] at hi
          exact (hnb i l' hi).elim
    | false =>
      show Snd (if false = true then _ else (if okF s y.1.toNat y.2.toNat l then putT s y l else s, _)).1
      rw [if_neg (by simp)]
      show Snd (if okF s y.1.toNat y.2.toNat l then putT s y l else s)
      have hhe := next_full hx he
      cases hok : okF s y.1.toNat y.2.toNat l with
      | false => exact h
      | true =>
        show Snd (putT s y l)
        have hb := plan_b s.size (by have := h.sz; omega) y hpl.1
        obtain ⟨k0, i0, rfl⟩ : ∃ k0 i0 : Nat, y = ((k0 : Int), (i0 : Int)) := ⟨y.1.toNat, y.2.toNat, Prod.ext (by simp only; omega) (by simp only; omega)⟩
        simp only [Int.toNat_natCast] at hok
        have hez : ∀ z ∈ edgeF wdF s.size, z ≠ ((k0 : Int), (i0 : Int)) := fun z hz e => by
          have := (mem_edge.1 hz).2
          rw [e, he] at this
          cases this
        have hh1 : haveE (putT s ((k0 : Int), (i0 : Int)) l) = true := by
          rw [haveE_iff] at hhe ⊢
          intro z hz
          have hz : z ∈ edgeF wdF s.size := hz
          rw [putT_ne s l (hez z hz)]
          exact hhe z hz
        have hrt : rootE (putT s ((k0 : Int), (i0 : Int)) l) = rootE s := by
          unfold rootE
          show rootR (accF ((edgeF wdF s.size).map (tileOf (putT s ((k0 : Int), (i0 : Int)) l)))) = _
          rw [List.map_congr_left (fun z hz => tileOf_ne s l (hez z hz))]
        refine ⟨h.sz, hinv, fun _ => hrt.trans (h.edge hhe), fun k i hk ht hs => ⟨hh1, ?_⟩, fun i l' hi => (hnb i l' hi).elim⟩
        have hs : ((putT s ((k0 : Int), (i0 : Int)) l).tiles ((k : Int), (i : Int))).isSome = true := hs
        have ht : tw s.size k i = 4 := ht
        by_cases e : ((k : Int), (i : Int)) = ((k0 : Int), (i0 : Int))
        · obtain ⟨rfl, rfl⟩ : k = k0 ∧ i = i0 := by simp at e; omega
          have e1 : tileOf (putT s ((k : Int), (i : Int)) l) ((k : Int), (i : Int)) = l := by unfold tileOf; rw [putT_self]; rfl
          rw [e1]
          unfold okF at hok ⊢
          rw [tileOf_ne s l (fun q => by have := congrArg Prod.fst q; simp only at this; omega)]
          exact hok
        · rw [putT_ne s l e] at hs
          rw [tileOf_ne s l e]
          have h3 := (h.full k i hk ht hs).2
          unfold okF at h3 ⊢
          have hne : (((k : Int) + 1, ((i / 4 : Nat) : Int)) : Int × Int) ≠ ((k0 : Int), (i0 : Int)) := fun q => by
            rw [q] at h3
            have e2 : tileOf s ((k0 : Int), (i0 : Int)) = [] := by unfold tileOf; rw [hnone]; rfl
            rw [e2] at h3
            have := of_decide_eq_true h3
            simp at this
          rw [tileOf_ne s l hne]
          exact h3
theorem Snd.asked (h : Snd s) (a : Int) : Snd ⟨s.size, s.root, s.tiles, s.bund, a⟩ := ⟨h.sz, ⟨h.inv.tl, h.inv.bn⟩, h.edge, h.full, h.bund⟩
theorem Snd.taken (h : Snd s) (x : Want) (l : List ByteArray) : Snd (takenS s x l).1 := by
  unfold takenS
  split
  · rename_i hx
    have h1 := h.take hx l
    split
    · exact h1.asked _
    · exact h1
  · exact h
theorem Snd.done (h : Snd s) (hn : nextF s = none) : (allK s (nb s.size)).length = s.size ∧ rootF (leavesF (allK s (nb s.size))) = s.root := by
  have hall := List.find?_eq_none.1 hn
  have hpt : ∀ z ∈ planF s.size, (s.tiles z).isSome = true := fun z hz => by
    have := hall (false, z) (by
      unfold wantsF
      refine List.mem_append.2 (.inl (List.mem_append.2 ?_))
      cases he : edB s.size z with
      | true => exact .inl (mem_pickT.2 ⟨rfl, hz, he⟩)
      | false => exact .inr (mem_pickT.2 ⟨rfl, hz, he⟩))
    unfold hasF at this
    cases hq : s.tiles z with
    | none => rw [hq] at this; exact absurd rfl this
    | some q => rfl
  have hpp : ∀ k i : Nat, k < 4 → 0 < tw s.size k i → ((k : Int), (i : Int)) ∈ planF s.size := fun k i hk hp => by
    have := quo_le s.size k h.sz
    exact (in_plan s.size (by have := h.sz; omega) k hk i (by unfold tw at hp; omega)).resolve_left (by rw [tw_in s.size k i h.sz hk]; omega)
  have hF : Full s := ⟨h.sz, h.inv, hpt, fun k i hk ht => (h.full k i hk ht (hpt _ (hpp k i hk (by omega)))).2, fun i hi => by
    have hm := hpp 0 i (by omega) (by unfold tw; rw [Nat.pow_zero, Nat.div_one]; omega)
    have := hall (true, (0, (i : Int))) (by
      unfold wantsF
      exact List.mem_append.2 (.inr (mem_pickB.2 ⟨rfl, hm, rfl⟩)))
    unfold hasF at this
    simp only [if_true] at this
    cases hq : s.bund (i : Int) with
    | none => rw [hq] at this; simp at this
    | some l => exact ⟨l, rfl, (h.bund i l hq).2⟩⟩
  have he : haveE s = true := haveE_iff.2 (fun y hy => hpt y (mem_edge.1 hy).1)
  exact ⟨hF.sound.1, hF.sound.2.trans (h.edge he)⟩
end Go.Proofs.Ytondnammkcgjpaa.Ft
namespace Go.Proofs.Ytondnammkcgjpaa.Ft
open Go Go.RowKit Go.Shelf Go.Proofs.YtondnammkcgjpaaW.PrintWords
open Go.Proofs.Ytondnammkcgjpaa.ShaP Go.Proofs.Ytondnammkcgjpaa.Mk Go.Proofs.Ytondnammkcgjpaa.Rg Go.Proofs.Ytondnammkcgjpaa.RgP Go.Proofs.Ytondnammkcgjpaa.Rf Go.Proofs.Ytondnammkcgjpaa.RgL Go.Proofs.Ytondnammkcgjpaa.Til Go.Proofs.Ytondnammkcgjpaa.Fg Go.Proofs.Ytondnammkcgjpaa.Rng
def ordB (n : Nat) : Bool := (List.range (wantsF n).length).all fun j => match (wantsF n)[j]? with
  | none => true
  | some x => !((wantsF n).take j).contains x && (if x.1 then decide (x.2.1 = 0) && ((wantsF n).take j).contains (false, x.2) else edB n x.2 || decide (inTile x.2.2 (cntv n x.2.1) = 4) && ((wantsF n).take j).contains (false, (x.2.1 + 1, x.2.2 / 4)) && (edgeF wdF n).all fun y => ((wantsF n).take j).contains (false, y))
theorem ordB_all : ∀ n : Nat, n < 65 → ordB n = true := by decide +kernel
theorem ord_at (n : Nat) (hn : n ≤ 64) (j : Nat) (x : Want) (h : (wantsF n)[j]? = some x) :
    x ∉ (wantsF n).take j ∧ (x.1 = true → x.2.1 = 0 ∧ (false, x.2) ∈ (wantsF n).take j) ∧ (x.1 = false → edB n x.2 = false → inTile x.2.2 (cntv n x.2.1) = 4 ∧ (false, (x.2.1 + 1, x.2.2 / 4)) ∈ (wantsF n).take j) := by
  have hj : j < (wantsF n).length := by
    obtain ⟨h1, _⟩ := List.getElem?_eq_some_iff.1 h
    exact h1
  have h1 := List.all_eq_true.1 (ordB_all n (by omega)) j (List.mem_range.2 hj)
  simp only [h] at h1
  obtain ⟨b, y⟩ := x
  cases b with
  | true =>
    simp at h1
    refine ⟨h1.1, fun _ => ⟨h1.2.1, h1.2.2⟩, fun q => (by cases q)⟩
  | false =>
    simp at h1
    refine ⟨h1.1, fun q => (by cases q), fun _ he => ?_⟩
    rcases h1.2 with h2 | h2
    · rw [show edB n (y.1, y.2) = edB n y from rfl, he] at h2; cases h2
    · exact ⟨h2.1.1, h2.1.2⟩
def honS (l : List ByteArray) (k : Nat) : FS := ⟨l.length, rootF (leavesF l), fun y => if (false, y) ∈ (wantsF l.length).take k then some (giveF l false y.1 y.2) else none, fun i => if (true, ((0 : Int), i)) ∈ (wantsF l.length).take k then some (giveF l true 0 i) else none, k⟩
theorem hon_zero (l : List ByteArray) : honS l 0 = mt l.length (rootF (leavesF l)) := by
  unfold honS mt
  simp
theorem seg_zero (l : List ByteArray) (a : Nat) : seg l a 0 = [] := by
  unfold seg
  rw [Nat.add_zero]
  exact List.drop_eq_nil_of_le (by rw [List.length_take]; omega)
theorem leavesF_len (l : List ByteArray) : (leavesF l).length = l.length := by unfold leavesF; rw [List.length_map]
theorem tileF_seg (L : List ByteArray) (hl : L.length ≤ 64) (k i : Nat) (hk : k < 4) : tileF L k i = seg (levF k L) (4 * i) (tw L.length k i) := by
  unfold tileF
  rw [tw_in L.length k i hl hk, Int.toNat_natCast, Int.toNat_natCast, Int.toNat_natCast]
  by_cases h : tw L.length k i = 0
  · rw [if_pos (by omega), h, seg_zero]
  · rw [if_neg (by omega), seg_hash L k i _ hk hl (by unfold tw at h ⊢; omega)]
theorem give_tileF (l : List ByteArray) (lv ix : Int) : giveF l false lv ix = tileF (leavesF l) lv ix := rfl
theorem leaves_32 (l : List ByteArray) : A32 (leavesF l) := fun s hs => by
  obtain ⟨y, _, rfl⟩ := List.mem_map.1 hs
  exact leaf_size y
theorem tile_32 (l : List ByteArray) (hl : l.length ≤ 64) (k i : Nat) (hk : k < 4) : A32 (giveF l false k i) := by
  rw [give_tileF, tileF_seg _ (by rw [leavesF_len]; exact hl) k i hk]
  exact seg_32 _ _ _ (levF_32 _ _ (leaves_32 l) (by rw [leavesF_len]; exact hl))
theorem tile_len (l : List ByteArray) (lv ix : Int) : ((giveF l false lv ix).length : Int) = wdF l.length lv ix := by
  rw [give_tileF, tileF_len, leavesF_len]
  rfl
theorem bund_seg (l : List ByteArray) (hl : l.length ≤ 64) (i : Nat) : giveF l true 0 (i : Int) = seg l (4 * i) (tw l.length 0 i) := by
  have h3 := tw_in l.length 0 i hl (by omega)
  rw [show ((0 : Nat) : Int) = 0 from rfl] at h3
  unfold giveF
  rw [if_pos rfl, h3, Int.toNat_natCast, Int.toNat_natCast]
theorem bund_len (l : List ByteArray) (hl : l.length ≤ 64) (i : Nat) : ((giveF l true 0 (i : Int)).length : Int) = wdF l.length 0 (i : Int) := by
  have h3 := tw_in l.length 0 i hl (by omega)
  rw [show ((0 : Nat) : Int) = 0 from rfl] at h3
  rw [bund_seg l hl i]
  unfold wdF
  rw [h3]
  by_cases h : tw l.length 0 i = 0
  · rw [h, seg_zero]; rfl
  · rw [seg_len _ _ _ (by unfold tw at h ⊢; rw [Nat.pow_zero, Nat.div_one] at *; omega)]
theorem want_nat (n : Nat) (hn : n ≤ 64) (x : Want) (hx : x ∈ wantsF n) : ∃ k i : Nat, k < 4 ∧ x.2 = ((k : Int), (i : Int)) := by
  have h := wants_b n hn x hx
  exact ⟨x.2.1.toNat, x.2.2.toNat, by omega, Prod.ext (by simp only; omega) (by simp only; omega)⟩
theorem hon_has (l : List ByteArray) (hl : l.length ≤ 64) (k : Nat) (x : Want) (hx : x ∈ wantsF l.length) : hasF (honS l k) x = decide (x ∈ (wantsF l.length).take k) := by
  obtain ⟨b, a, i⟩ := x
  cases b with
  | true =>
    have h0 : a = 0 := by
      obtain ⟨j, hj⟩ := List.mem_iff_getElem?.1 hx
      exact ((ord_at l.length hl j _ hj).2.1 rfl).1
    subst h0
    show (if (true, ((0 : Int), i)) ∈ (wantsF l.length).take k then some (giveF l true 0 i) else none).isSome = _
    by_cases h : (true, ((0 : Int), i)) ∈ (wantsF l.length).take k
    · rw [if_pos h, decide_eq_true h]; rfl
    · rw [if_neg h, decide_eq_false h]; rfl
  | false =>
    show (if (false, (a, i)) ∈ (wantsF l.length).take k then some (giveF l false a i) else none).isSome = _
    by_cases h : (false, (a, i)) ∈ (wantsF l.length).take k
    · rw [if_pos h, decide_eq_true h]; rfl
    · rw [if_neg h, decide_eq_false h]; rfl
theorem find_some {α : Type} (p : α → Bool) : ∀ (l : List α) (k : Nat), (∀ j y, l[j]? = some y → p y = decide (k ≤ j)) → l.find? p = l[k]?
  | [], k, _ => by simp
  | y :: l, 0, h => by rw [List.find?_cons, h 0 y rfl]; rfl
  | y :: l, k + 1, h => by
    rw [List.find?_cons, h 0 y rfl]
    exact find_some p l k (fun j z hz => by
      rw [h (j + 1) z hz]
      exact decide_eq_decide.2 (by omega))
theorem hon_next (l : List ByteArray) (hl : l.length ≤ 64) (k : Nat) : nextF (honS l k) = (wantsF l.length)[k]? := by
  unfold nextF
  show (wantsF l.length).find? _ = _
  refine find_some _ _ _ fun j y hy => ?_
  rw [hon_has l hl k y (List.mem_iff_getElem?.2 ⟨j, hy⟩)]
  have hno := (ord_at l.length hl j y hy).1
  by_cases h : k ≤ j
  · rw [decide_eq_true h, decide_eq_false (fun hm => hno (List.take_subset_take_left _ h hm))]
    rfl
  · rw [decide_eq_false h, decide_eq_true (List.mem_iff_getElem?.2 ⟨j, by rw [List.getElem?_take, if_pos (by omega)]; exact hy⟩)]
    rfl
theorem mem_take1 {n k : Nat} {x y : Want} (hx : (wantsF n)[k]? = some x) : y ∈ (wantsF n).take (k + 1) ↔ y ∈ (wantsF n).take k ∨ y = x := by
  obtain ⟨hk, e⟩ := List.getElem?_eq_some_iff.1 hx
  rw [List.take_succ_eq_append_getElem hk, e, List.mem_append, List.mem_singleton]
theorem hon_tile (l : List ByteArray) (k : Nat) (z : Int × Int) (h : (false, z) ∈ (wantsF l.length).take k) : tileOf (honS l k) z = giveF l false z.1 z.2 := by
  unfold tileOf
  show (if (false, z) ∈ (wantsF l.length).take k then some (giveF l false z.1 z.2) else none).getD [] = _
  rw [if_pos h]
  rfl
theorem hon_putT (l : List ByteArray) (k : Nat) (y : Int × Int) (hx : (wantsF l.length)[k]? = some (false, y)) :
    (⟨(putT (honS l k) y (giveF l false y.1 y.2)).size, (putT (honS l k) y (giveF l false y.1 y.2)).root, (putT (honS l k) y (giveF l false y.1 y.2)).tiles, (putT (honS l k) y (giveF l false y.1 y.2)).bund, (putT (honS l k) y (giveF l false y.1 y.2)).asked + 1⟩ : FS) = honS l (k + 1) := by
  have e1 : (putT (honS l k) y (giveF l false y.1 y.2)).tiles = (honS l (k + 1)).tiles := by
    funext z
    by_cases e : z = y
    · subst e
      rw [putT_self]
      show _ = (if (false, z) ∈ (wantsF l.length).take (k + 1) then some (giveF l false z.1 z.2) else none)
      rw [if_pos ((mem_take1 hx).2 (.inr rfl))]
    · rw [putT_ne _ _ e]
      show (if (false, z) ∈ (wantsF l.length).take k then some (giveF l false z.1 z.2) else none) = (if (false, z) ∈ (wantsF l.length).take (k + 1) then some (giveF l false z.1 z.2) else none)
      by_cases h : (false, z) ∈ (wantsF l.length).take k
      · rw [if_pos h, if_pos ((mem_take1 hx).2 (.inl h))]
      · rw [if_neg h, if_neg (fun h' => ((mem_take1 hx).1 h').elim h (fun q => e (by injection q)))]
  have e2 : (putT (honS l k) y (giveF l false y.1 y.2)).bund = (honS l (k + 1)).bund := by
    funext i
    show (if (true, ((0 : Int), i)) ∈ (wantsF l.length).take k then some (giveF l true 0 i) else none) = (if (true, ((0 : Int), i)) ∈ (wantsF l.length).take (k + 1) then some (giveF l true 0 i) else none)
    by_cases h : (true, ((0 : Int), i)) ∈ (wantsF l.length).take k
    · rw [if_pos h, if_pos ((mem_take1 hx).2 (.inl h))]
    · rw [if_neg h, if_neg (fun h' => ((mem_take1 hx).1 h').elim h (fun q => by injection q with q1 _; cases q1))]
  rw [e1, e2]
  rfl
theorem hon_putB (l : List ByteArray) (k : Nat) (i : Int) (hx : (wantsF l.length)[k]? = some (true, (0, i))) :
    (⟨(putB (honS l k) i (giveF l true 0 i)).size, (putB (honS l k) i (giveF l true 0 i)).root, (putB (honS l k) i (giveF l true 0 i)).tiles, (putB (honS l k) i (giveF l true 0 i)).bund, (putB (honS l k) i (giveF l true 0 i)).asked + 1⟩ : FS) = honS l (k + 1) := by
  have e1 : (putB (honS l k) i (giveF l true 0 i)).bund = (honS l (k + 1)).bund := by
    funext z
    by_cases e : z = i
    · subst e
      have : (putB (honS l k) z (giveF l true 0 z)).bund z = some (giveF l true 0 z) := upd_self _ _ _
      rw [this]
      show _ = (if (true, ((0 : Int), z)) ∈ (wantsF l.length).take (k + 1) then some (giveF l true 0 z) else none)
      rw [if_pos ((mem_take1 hx).2 (.inr rfl))]
    · have : (putB (honS l k) i (giveF l true 0 i)).bund z = (honS l k).bund z := upd_ne _ _ e
      rw [this]
      show (if (true, ((0 : Int), z)) ∈ (wantsF l.length).take k then some (giveF l true 0 z) else none) = (if (true, ((0 : Int), z)) ∈ (wantsF l.length).take (k + 1) then some (giveF l true 0 z) else none)
      by_cases h : (true, ((0 : Int), z)) ∈ (wantsF l.length).take k
      · rw [if_pos h, if_pos ((mem_take1 hx).2 (.inl h))]
      · rw [if_neg h, if_neg (fun h' => ((mem_take1 hx).1 h').elim h (fun q => e (by injection q with _ q2; injection q2)))]
  have e2 : (putB (honS l k) i (giveF l true 0 i)).tiles = (honS l (k + 1)).tiles := by
    funext z
    show (if (false, z) ∈ (wantsF l.length).take k then some (giveF l false z.1 z.2) else none) = (if (false, z) ∈ (wantsF l.length).take (k + 1) then some (giveF l false z.1 z.2) else none)
    by_cases h : (false, z) ∈ (wantsF l.length).take k
    · rw [if_pos h, if_pos ((mem_take1 hx).2 (.inl h))]
    · rw [if_neg h, if_neg (fun h' => ((mem_take1 hx).1 h').elim h (fun q => by injection q with q1 _; cases q1))]
  rw [e1, e2]
  rfl
theorem map_seg (l : List ByteArray) (a n : Nat) : (seg l a n).map leafF = seg (leavesF l) a n := by
  unfold seg leavesF
  rw [List.map_drop, List.map_take]
theorem hon_edge (l : List ByteArray) (hl : l.length ≤ 64) (k : Nat) (y : Int × Int) (hy : y ∈ planF l.length) : okE (putT (honS l k) y (giveF l false y.1 y.2)) = true := by
  unfold okE
  cases hh : haveE (putT (honS l k) y (giveF l false y.1 y.2)) with
  | false => rfl
  | true =>
    show (false || decide _) = true
    rw [Bool.false_or]
    refine decide_eq_true ?_
    show rootR (accF ((edgeF wdF l.length).map (tileOf (putT (honS l k) y (giveF l false y.1 y.2))))) = rootF (leavesF l)
    have hll := leavesF_len l
    have key := root_edge (leavesF l) (tileOf (putT (honS l k) y (giveF l false y.1 y.2))) (by omega) (fun x hx => by
      rw [hll] at hx
      have h1 := (haveE_iff.1 hh) x hx
      obtain ⟨a, i, ha, rfl, hp⟩ := edge_nat l.length (by omega) x hx
      have e : tileOf (putT (honS l k) y (giveF l false y.1 y.2)) ((a : Int), (i : Int)) = giveF l false a i := by
        by_cases e : ((a : Int), (i : Int)) = y
        · subst e
          unfold tileOf
          rw [putT_self]
          rfl
        · rw [putT_ne _ _ e] at h1
          rw [tileOf_ne _ _ e]
          refine hon_tile l k ((a : Int), (i : Int)) ?_
          refine Decidable.byContradiction fun hm => ?_
          have h1 : (if (false, ((a : Int), (i : Int))) ∈ (wantsF l.length).take k then some (giveF l false a i) else none).isSome = true := h1
          rw [if_neg hm] at h1
          cases h1
      rw [e, give_tileF, tileF_seg _ (by omega) a i ha]
      simp only [Int.toNat_natCast]
      have h3 := tw_in (leavesF l).length a i (by omega) ha
      rw [h3, Int.toNat_natCast])
    rw [hll] at key
    exact key
theorem hon_full (l : List ByteArray) (hl : l.length ≤ 64) (k a i : Nat) (ha : a < 4) (h4 : inTile (i : Int) (cntv l.length a) = 4) (hm : (false, ((a : Int) + 1, (i : Int) / 4)) ∈ (wantsF l.length).take k) : okF (honS l k) a i (giveF l false a i) = true := by
  have hll := leavesF_len l
  have ht : tw l.length a i = 4 := by have := tw_in l.length a i hl ha; omega
  have hfit : 4 * i + 4 ≤ (leavesF l).length / 4 ^ a := by rw [hll]; unfold tw at ht; omega
  obtain ⟨ha3, hi1, hup⟩ := up_hash (leavesF l) a i ha (by omega) hfit
  unfold okF
  refine decide_eq_true ?_
  have e4 : ((i / 4 : Nat) : Int) = (i : Int) / 4 := by omega
  rw [e4, hon_tile l k _ hm]
  show (giveF l false ((a : Int) + 1) ((i : Int) / 4))[i % 4]? = _
  rw [← e4, show (a : Int) + 1 = ((a + 1 : Nat) : Int) by omega, give_tileF, give_tileF, tileF_seg _ (by omega) (a + 1) (i / 4) (by omega), tileF_seg _ (by omega) a i ha, hll, ht]
  rw [seg_hash (leavesF l) a i 4 ha (by omega) hfit, hup]
  rw [hll] at hi1
  have htw : i % 4 < tw l.length (a + 1) (i / 4) := by unfold tw; omega
  rw [seg_hash (leavesF l) (a + 1) (i / 4) _ (by omega) (by omega) (by rw [hll]; unfold tw at htw ⊢; omega), List.getElem?_map, List.getElem?_range htw]
  show some (hashF (leavesF l) (a + 1) (4 * (i / 4) + i % 4)) = _
  rw [show 4 * (i / 4) + i % 4 = i by omega]
theorem all32_of (l : List ByteArray) (h : A32 l) : all32 l = true := List.all_eq_true.2 fun y hy => by rw [beq_iff_eq]; exact h y hy
theorem hon_take (l : List ByteArray) (hl : l.length ≤ 64) (k : Nat) (x : Want) (hx : (wantsF l.length)[k]? = some x) : takenS (honS l k) x (giveF l x.1 x.2.1 x.2.2) = (honS l (k + 1), 0) := by
  have hnx : nextF (honS l k) = some x := (hon_next l hl k).trans hx
  have hmem : x ∈ wantsF l.length := List.mem_iff_getElem?.2 ⟨k, hx⟩
  have hpl := next_plan hnx
  obtain ⟨o1, o2, o3⟩ := ord_at l.length hl k x hx
  obtain ⟨a, i, ha, e⟩ := want_nat l.length hl x hmem
  obtain ⟨b, y⟩ := x
  simp only at e
  subst e
  unfold takenS
  rw [if_pos hnx]
  cases b with
  | true =>
    have h0 := (o2 rfl).1
    have hm := (o2 rfl).2
    simp only at h0
    obtain rfl : a = 0 := by omega
    have hok : okB (honS l k) (((0 : Nat) : Int), (i : Int)) (giveF l true ((0 : Nat) : Int) i) = true := by
      unfold okB
      refine decide_eq_true ?_
      rw [hon_tile l k _ hm]
      show ((giveF l true 0 (i : Int)).map leafF).take (giveF l false ((0 : Nat) : Int) (i : Int)).length = giveF l false ((0 : Nat) : Int) (i : Int)
      rw [bund_seg l hl i, map_seg, give_tileF, tileF_seg _ (by rw [leavesF_len]; exact hl) 0 i (by omega), leavesF_len]
      exact List.take_length
    have ht : takeS (honS l k) (true, (((0 : Nat) : Int), (i : Int))) (giveF l true ((0 : Nat) : Int) i) = (putB (honS l k) i (giveF l true 0 i), 0) := by
      unfold takeS
      rw [if_neg (by rw [Decidable.not_not]; exact bund_len l hl i), if_neg (by simp), if_pos rfl]
      simp only
      rw [hok]
      rfl
    simp only
    rw [ht, if_pos rfl]
    exact congrArg (fun s => (s, (0 : Int))) (hon_putB l k i hx)
  | false =>
    have hlen : ¬ ((giveF l false (a : Int) (i : Int)).length : Int) ≠ wdF (honS l k).size (a : Int) (i : Int) := by rw [Decidable.not_not]; exact tile_len l a i
    have h32 := all32_of _ (tile_32 l hl a i ha)
    cases he : edB l.length ((a : Int), (i : Int)) with
    | true =>
      have hok := hon_edge l hl k ((a : Int), (i : Int)) hpl.1
      have ht : takeS (honS l k) (false, ((a : Int), (i : Int))) (giveF l false a i) = (putT (honS l k) ((a : Int), (i : Int)) (giveF l false a i), 0) := by
        unfold takeS
        rw [if_neg hlen, if_neg (by rw [h32]; simp), if_neg (by simp), if_pos (show edB (honS l k).size (false, ((a : Int), (i : Int))).2 = true from he), if_pos (show okE (putT (honS l k) (false, ((a : Int), (i : Int))).2 (giveF l false a i)) = true from hok), if_pos (show okE (putT (honS l k) (false, ((a : Int), (i : Int))).2 (giveF l false a i)) = true from hok)]
      simp only
      rw [ht, if_pos rfl]
      exact congrArg (fun s => (s, (0 : Int))) (hon_putT l k _ hx)
    | false =>
      obtain ⟨h4, hm⟩ := o3 rfl he
      have hok := hon_full l hl k a i ha h4 hm
      have ht : takeS (honS l k) (false, ((a : Int), (i : Int))) (giveF l false a i) = (putT (honS l k) ((a : Int), (i : Int)) (giveF l false a i), 0) := by
        unfold takeS
        rw [if_neg hlen, if_neg (by rw [h32]; simp), if_neg (by simp), if_neg (by rw [show edB (honS l k).size _ = edB l.length ((a : Int), (i : Int)) from rfl, he]; simp), if_pos (show okF (honS l k) (false, ((a : Int), (i : Int))).2.1.toNat (false, ((a : Int), (i : Int))).2.2.toNat (giveF l false a i) = true from hok), if_pos (show okF (honS l k) (false, ((a : Int), (i : Int))).2.1.toNat (false, ((a : Int), (i : Int))).2.2.toNat (giveF l false a i) = true from hok)]
      simp only
      rw [ht, if_pos rfl]
      exact congrArg (fun s => (s, (0 : Int))) (hon_putT l k _ hx)
theorem takeS_codes (s : FS) (x : Want) (l : List ByteArray) : (takeS s x l).2 = 0 ∨ ((takeS s x l).2 = 2 ∨ (takeS s x l).2 = 8) ∧ ((takeS s x l).1 = s ∨ (x.1 = false ∧ edB s.size x.2 = true ∧ (takeS s x l).1 = dropE (putT s x.2 l))) := by
  unfold takeS
  split
  · exact .inr ⟨.inl rfl, .inl rfl⟩
  split
  · exact .inr ⟨.inl rfl, .inl rfl⟩
  split
  · dsimp only
    split
    · exact .inl rfl
    · exact .inr ⟨.inr rfl, .inl rfl⟩
  split
  · rename_i h3 h4
    dsimp only
    split
    · exact .inl rfl
    · exact .inr ⟨.inr rfl, .inr ⟨by cases hx : x.1 with
        | false => rfl
        | true => exact absurd hx h3, h4, rfl⟩⟩
  · dsimp only
    split
    · exact .inl rfl
    · exact .inr ⟨.inr rfl, .inl rfl⟩
end Go.Proofs.Ytondnammkcgjpaa.Ft
namespace Go.Proofs.Ytondnammkcgjpaa.Ft
open Go Go.RowKit Go.Shelf Go.Proofs.YtondnammkcgjpaaW.PrintWords Go.Proofs.YtondnammkcgjpaaW.PrintLast Go.Proofs.YtondnammkcgjpaaW.PrintMore Go.Proofs.Ytondnammkcgjpaa.Mp
open Go.Proofs.Ytondnammkcgjpaa.ShaP Go.Proofs.Ytondnammkcgjpaa.Mk Go.Proofs.Ytondnammkcgjpaa.Rg Go.Proofs.Ytondnammkcgjpaa.RgP Go.Proofs.Ytondnammkcgjpaa.Rf Go.Proofs.Ytondnammkcgjpaa.RgL Go.Proofs.Ytondnammkcgjpaa.Til Go.Proofs.Ytondnammkcgjpaa.Fg Go.Proofs.Ytondnammkcgjpaa.Fun Go.Proofs.Ytondnammkcgjpaa.Rng
theorem drops_asked (l : List (Int × Int)) : ∀ s : FS, (l.foldl dropT s).asked = s.asked := by
  induction l with
  | nil => intro s; rfl
  | cons y l ih => intro s; rw [List.foldl_cons, ih]; rfl
theorem takeS_keeps (s : FS) (x : Want) (l : List ByteArray) : (takeS s x l).1.size = s.size ∧ (takeS s x l).1.root = s.root ∧ (takeS s x l).1.asked = s.asked := by
  unfold takeS
  split
  · exact ⟨rfl, rfl, rfl⟩
  split
  · exact ⟨rfl, rfl, rfl⟩
  split
  · dsimp only
    split <;> exact ⟨rfl, rfl, rfl⟩
  split
  · dsimp only
    split
    · exact ⟨rfl, rfl, rfl⟩
    · exact ⟨drops_size _ _, drops_root _ _, drops_asked _ _⟩
  · dsimp only
    split <;> exact ⟨rfl, rfl, rfl⟩
theorem takenS_keeps (s : FS) (x : Want) (l : List ByteArray) : (takenS s x l).1.size = s.size ∧ (takenS s x l).1.root = s.root ∧ s.asked ≤ (takenS s x l).1.asked ∧ (takenS s x l).1.asked ≤ s.asked + 1 := by
  have h := takeS_keeps s x l
  unfold takenS
  split
  · split
    · refine ⟨h.1, h.2.1, ?_, ?_⟩
      · show s.asked ≤ (takeS s x l).1.asked + 1
        rw [h.2.2]; omega
      · show (takeS s x l).1.asked + 1 ≤ s.asked + 1
        rw [h.2.2]; omega
    · exact ⟨h.1, h.2.1, by rw [h.2.2]; omega, by rw [h.2.2]; omega⟩
  · exact ⟨rfl, rfl, Int.le_refl _, by show s.asked ≤ s.asked + 1; omega⟩
end Go.Proofs.Ytondnammkcgjpaa.Ft
namespace Go.Proofs.Ytondnammkcgjpaa.Ft
open Go Go.RowKit Go.Shelf Go.Proofs.YtondnammkcgjpaaW.PrintWords
open Go.Proofs.Ytondnammkcgjpaa.ShaP Go.Proofs.Ytondnammkcgjpaa.Mk Go.Proofs.Ytondnammkcgjpaa.Rg Go.Proofs.Ytondnammkcgjpaa.RgP Go.Proofs.Ytondnammkcgjpaa.Rf Go.Proofs.Ytondnammkcgjpaa.RgL Go.Proofs.Ytondnammkcgjpaa.Til Go.Proofs.Ytondnammkcgjpaa.Fg Go.Proofs.Ytondnammkcgjpaa.Rng
def withA (s : FS) (a : Int) : FS := ⟨s.size, s.root, s.tiles, s.bund, a⟩
theorem drops_withA (a : Int) (l : List (Int × Int)) : ∀ s : FS, l.foldl dropT (withA s a) = withA (l.foldl dropT s) a := by
  induction l with
  | nil => intro s; rfl
  | cons y l ih => intro s; rw [List.foldl_cons, List.foldl_cons, ← ih]; rfl
theorem takeS_withA (s : FS) (a : Int) (x : Want) (l : List ByteArray) : takeS (withA s a) x l = (withA (takeS s x l).1 a, (takeS s x l).2) := by
  unfold takeS
  by_cases h1 : (l.length : Int) ≠ wdF s.size x.2.1 x.2.2
  · rw [if_pos h1, if_pos (show (l.length : Int) ≠ wdF (withA s a).size x.2.1 x.2.2 from h1)]
  rw [if_neg h1, if_neg (show ¬ (l.length : Int) ≠ wdF (withA s a).size x.2.1 x.2.2 from h1)]
  by_cases h2 : x.1 = false ∧ all32 l = false
  · rw [if_pos h2, if_pos h2]
  rw [if_neg h2, if_neg h2]
  by_cases h3 : x.1 = true
  · rw [if_pos h3, if_pos h3]
    rw [show okB (withA s a) x.2 l = okB s x.2 l from rfl]
    cases okB s x.2 l <;> rfl
  rw [if_neg h3, if_neg h3]
  by_cases h4 : edB s.size x.2 = true
  · rw [if_pos h4, if_pos (show edB (withA s a).size x.2 = true from h4)]
    rw [show okE (putT (withA s a) x.2 l) = okE (putT s x.2 l) from rfl]
    cases okE (putT s x.2 l)
    · simp only [Bool.false_eq_true, if_false]
      rw [show dropE (putT (withA s a) x.2 l) = withA (dropE (putT s x.2 l)) a from drops_withA a _ (putT s x.2 l)]
    · rfl
  · rw [if_neg h4, if_neg (show ¬ edB (withA s a).size x.2 = true from h4)]
    rw [show okF (withA s a) x.2.1.toNat x.2.2.toNat l = okF s x.2.1.toNat x.2.2.toNat l from rfl]
    cases okF s x.2.1.toNat x.2.2.toNat l <;> rfl
def honA (l : List ByteArray) (k : Nat) (a : Int) : FS := withA (honS l k) a
theorem honA_next (l : List ByteArray) (hl : l.length ≤ 64) (k : Nat) (a : Int) : nextF (honA l k a) = (wantsF l.length)[k]? := hon_next l hl k
theorem honA_take (l : List ByteArray) (hl : l.length ≤ 64) (k : Nat) (a : Int) (x : Want) (hx : (wantsF l.length)[k]? = some x) : takenS (honA l k a) x (giveF l x.1 x.2.1 x.2.2) = (honA l (k + 1) (a + 1), 0) := by
  have hnx : nextF (honS l k) = some x := (hon_next l hl k).trans hx
  have h := hon_take l hl k x hx
  unfold takenS at h ⊢
  rw [if_pos hnx] at h
  rw [if_pos (show nextF (honA l k a) = some x from hnx)]
  have hw := takeS_withA (honS l k) a x (giveF l x.1 x.2.1 x.2.2)
  rw [show withA (honS l k) a = honA l k a from rfl] at hw
  rw [hw]
  by_cases hc : (takeS (honS l k) x (giveF l x.1 x.2.1 x.2.2)).2 = 0
  · rw [if_pos hc] at h
    rw [if_pos (show (takeS (honS l k) x (giveF l x.1 x.2.1 x.2.2)).2 = 0 from hc)]
    have h1 : (takeS (honS l k) x (giveF l x.1 x.2.1 x.2.2)).1.tiles = (honS l (k + 1)).tiles := congrArg (fun z : FS × Int => z.1.tiles) h
    have h2 : (takeS (honS l k) x (giveF l x.1 x.2.1 x.2.2)).1.bund = (honS l (k + 1)).bund := congrArg (fun z : FS × Int => z.1.bund) h
    have h3 : (takeS (honS l k) x (giveF l x.1 x.2.1 x.2.2)).1.size = (honS l (k + 1)).size := congrArg (fun z : FS × Int => z.1.size) h
    have h4 : (takeS (honS l k) x (giveF l x.1 x.2.1 x.2.2)).1.root = (honS l (k + 1)).root := congrArg (fun z : FS × Int => z.1.root) h
    show ((⟨(takeS (honS l k) x (giveF l x.1 x.2.1 x.2.2)).1.size, (takeS (honS l k) x (giveF l x.1 x.2.1 x.2.2)).1.root, (takeS (honS l k) x (giveF l x.1 x.2.1 x.2.2)).1.tiles, (takeS (honS l k) x (giveF l x.1 x.2.1 x.2.2)).1.bund, a + 1⟩ : FS), (0 : Int)) = _
    rw [h1, h2, h3, h4]
    rfl
  · rw [if_neg hc] at h
    rw [h] at hc
    exact absurd rfl hc
def ordE (n : Nat) : Bool := (List.range (wantsF n).length).all fun j => match (wantsF n)[j]? with
  | none => true
  | some x => x.1 || !edB n x.2 || ((wantsF n).take (j + 1)).all fun y => !y.1 && (edgeF wdF n).contains y.2
theorem ordE_all : ∀ n : Nat, n < 65 → ordE n = true := by decide +kernel
theorem edge_first (n : Nat) (hn : n ≤ 64) (j : Nat) (x : Want) (h : (wantsF n)[j]? = some x) (h0 : x.1 = false) (he : edB n x.2 = true) : ∀ y ∈ (wantsF n).take (j + 1), y.1 = false ∧ y.2 ∈ edgeF wdF n := by
  have hj : j < (wantsF n).length := by
    obtain ⟨h1, _⟩ := List.getElem?_eq_some_iff.1 h
    exact h1
  have h1 := List.all_eq_true.1 (ordE_all n (by omega)) j (List.mem_range.2 hj)
  simp only [h, h0, he] at h1
  intro y hy
  simp only [Bool.not_true, Bool.or_false, Bool.false_or] at h1
  have h2 := List.all_eq_true.1 h1 y hy
  simp at h2
  exact ⟨h2.1, by simpa using h2.2⟩
theorem honA_drop (l T : List ByteArray) (hl : l.length ≤ 64) (k : Nat) (a : Int) (x : Want) (hx : (wantsF l.length)[k]? = some x) (h0 : x.1 = false) (he : edB l.length x.2 = true) : dropE (putT (honA l k a) x.2 T) = honA l 0 a := by
  have hall := edge_first l.length hl k x hx h0 he
  have e1 : (dropE (putT (honA l k a) x.2 T)).tiles = (honA l 0 a).tiles := by
    funext z
    unfold dropE
    rw [drops_tiles]
    have e0 : (honA l 0 a).tiles z = none := by
      show (if (false, z) ∈ (wantsF l.length).take 0 then some (giveF l false z.1 z.2) else none) = none
      rw [List.take_zero]
      exact if_neg (by simp)
    rw [e0]
    by_cases hz : z ∈ edgeF wdF l.length
    · exact if_pos hz
    · rw [if_neg (show ¬ z ∈ edgeF wdF (putT (honA l k a) x.2 T).size from hz)]
      have hzx : z ≠ x.2 := fun e => hz (by
        rw [e]
        exact (hall x ((mem_take1 hx).2 (.inr rfl))).2)
      rw [putT_ne _ _ hzx]
      show (if (false, z) ∈ (wantsF l.length).take k then some (giveF l false z.1 z.2) else none) = none
      exact if_neg (fun hm => hz (hall _ ((mem_take1 hx).2 (.inl hm))).2)
  have e2 : (dropE (putT (honA l k a) x.2 T)).bund = (honA l 0 a).bund := by
    funext i
    unfold dropE
    rw [drops_bund]
    show (if (true, ((0 : Int), i)) ∈ (wantsF l.length).take k then some (giveF l true 0 i) else none) = (if (true, ((0 : Int), i)) ∈ (wantsF l.length).take 0 then some (giveF l true 0 i) else none)
    rw [show (if (true, ((0 : Int), i)) ∈ (wantsF l.length).take 0 then some (giveF l true 0 i) else none) = none from if_neg (by rw [List.take_zero]; simp)]
    exact if_neg (fun hm => by have := (hall _ ((mem_take1 hx).2 (.inl hm))).1; cases this)
  have e3 : (dropE (putT (honA l k a) x.2 T)).size = (honA l 0 a).size := drops_size _ _
  have e4 : (dropE (putT (honA l k a) x.2 T)).root = (honA l 0 a).root := drops_root _ _
  have e5 : (dropE (putT (honA l k a) x.2 T)).asked = (honA l 0 a).asked := drops_asked _ _
  cases h9 : dropE (putT (honA l k a) x.2 T) with
  | mk p q r t u =>
    rw [h9] at e1 e2 e3 e4 e5
    simp only at e1 e2 e3 e4 e5
    subst e1; subst e2; subst e3; subst e4; subst e5
    rfl
theorem hasF_drop (s : FS) (x : Want) (l : List ByteArray) (h0 : x.1 = false) (hm : x.2 ∈ edgeF wdF s.size) : hasF (dropE (putT s x.2 l)) x = false := by
  unfold hasF
  rw [if_neg (by rw [h0]; simp)]
  unfold dropE
  rw [drops_tiles, if_pos (show (x.2.1, x.2.2) ∈ edgeF wdF (putT s x.2 l).size from hm)]
  rfl
theorem taken_bad {s : FS} {x : Want} (hx : nextF s = some x) (T : List ByteArray) (hc : (takenS s x T).2 ≠ 0) :
    ((takenS s x T).2 = 2 ∨ (takenS s x T).2 = 8) ∧ (takenS s x T).1.asked = s.asked ∧ ∃ y, nextF (takenS s x T).1 = some y ∧ (y = x ∨ wdF s.size x.2.1 x.2.2 ≠ 4) := by
  have hT : takenS s x T = takeS s x T := by
    unfold takenS at hc ⊢
    rw [if_pos hx] at hc ⊢
    by_cases h : (takeS s x T).2 = 0
    · rw [if_pos h] at hc; exact absurd rfl hc
    · rw [if_neg h]
  rw [hT] at hc ⊢
  rcases takeS_codes s x T with h | ⟨h1, h2⟩
  · exact absurd h hc
  refine ⟨h1, (takeS_keeps s x T).2.2, ?_⟩
  rcases h2 with h2 | ⟨h3, h4, h5⟩
  · rw [h2]
    exact ⟨x, hx, .inl rfl⟩
  · have hm : x.2 ∈ edgeF wdF s.size := mem_edge.2 ⟨(next_plan hx).1, h4⟩
    have hf := hasF_drop s x T h3 hm
    rw [← h5] at hf
    cases hn : nextF (takeS s x T).1 with
    | none =>
      unfold nextF at hn
      rw [(takeS_keeps s x T).1] at hn
      have := List.find?_eq_none.1 hn x (next_mem hx)
      rw [hf] at this
      exact absurd rfl this
    | some y =>
      refine ⟨y, rfl, .inr ?_⟩
      have := of_decide_eq_true h4
      unfold wdF
      omega
theorem honA_bad (l T : List ByteArray) (hl : l.length ≤ 64) (k : Nat) (a : Int) (x : Want) (hx : (wantsF l.length)[k]? = some x) (hc : (takenS (honA l k a) x T).2 ≠ 0) : ∃ j, (takenS (honA l k a) x T).1 = honA l j a := by
  have hnx : nextF (honA l k a) = some x := (honA_next l hl k a).trans hx
  have hT : takenS (honA l k a) x T = takeS (honA l k a) x T := by
    unfold takenS at hc ⊢
    rw [if_pos hnx] at hc ⊢
    by_cases h : (takeS (honA l k a) x T).2 = 0
    · rw [if_pos h] at hc; exact absurd rfl hc
    · rw [if_neg h]
  rw [hT] at hc ⊢
  rcases takeS_codes (honA l k a) x T with h | ⟨h1, h2⟩
  · exact absurd h hc
  rcases h2 with h2 | ⟨h3, h4, h5⟩
  · exact ⟨k, h2⟩
  · exact ⟨0, h5.trans (honA_drop l T hl k a x hx h3 h4)⟩
def BSk (s : FS) : Prop := ∀ k l, s.bund k = some l → ∀ y ∈ l, y.size ≤ 1000
theorem takeS_bsk (s : FS) (x : Want) (l : List ByteArray) (h : BSk s) (hl : ∀ y ∈ l, y.size ≤ 1000) : BSk (takeS s x l).1 := by
  unfold takeS
  split
  · exact h
  split
  · exact h
  split
  · dsimp only
    split
    · intro k l' hk
      by_cases e : k = x.2.2
      · subst e
        have : (putB s x.2.2 l).bund x.2.2 = some l := upd_self _ _ _
        rw [this] at hk
        cases hk
        exact hl
      · have : (putB s x.2.2 l).bund k = s.bund k := upd_ne _ _ e
        rw [this] at hk
        exact h k l' hk
    · exact h
  split
  · dsimp only
    split
    · exact h
    · intro k l' hk
      have hbn : (dropE (putT s x.2 l)).bund = s.bund := drops_bund _ _
      rw [hbn] at hk
      exact h k l' hk
  · dsimp only
    split
    · exact h
    · exact h
theorem takenS_bsk (s : FS) (x : Want) (l : List ByteArray) (h : BSk s) (hl : ∀ y ∈ l, y.size ≤ 1000) : BSk (takenS s x l).1 := by
  have h1 := takeS_bsk s x l h hl
  unfold takenS
  split
  · split
    · exact h1
    · exact h1
  · exact h
theorem allK_smk (s : FS) (h : BSk s) : ∀ k : Nat, ∀ y ∈ allK s k, y.size ≤ 1000
  | 0, y, hy => by cases hy
  | k + 1, y, hy => by
    rw [allK_succ] at hy
    rcases List.mem_append.1 hy with hy | hy
    · exact allK_smk s h k y hy
    · unfold bundOf at hy
      cases hq : s.bund (k : Int) with
      | none => rw [hq] at hy; cases hy
      | some l => rw [hq] at hy; exact h k l hq y hy
def SndZ (s : FS) : Prop := (s.size = 0 ∧ s.root = rootF []) ∨ Snd s
theorem SndZ.done {s : FS} (h : SndZ s) (hn : nextF s = none) : (allK s (nb s.size)).length = s.size ∧ rootF (leavesF (allK s (nb s.size))) = s.root := by
  rcases h with ⟨h0, h1⟩ | h
  · rw [h0, h1]
    exact ⟨rfl, rfl⟩
  · exact h.done hn
theorem wants_zero : wantsF 0 = [] := by decide +kernel
theorem SndZ.pos {s : FS} (h : SndZ s) {x : Want} (hx : nextF s = some x) : Snd s := by
  rcases h with ⟨h0, _⟩ | h
  · have := next_mem hx
    rw [h0, wants_zero] at this
    cases this
  · exact h
theorem wants_few : ∀ n : Nat, n < 65 → (wantsF n).length ≤ 100 := by decide +kernel
theorem give_pos (l : List ByteArray) (hl : l.length ≤ 64) (x : Want) (hx : x ∈ wantsF l.length) : 0 < (giveF l x.1 x.2.1 x.2.2).length := by
  have hw := (wants_w l.length hl x hx).1
  obtain ⟨a, i, ha, e⟩ := want_nat l.length hl x hx
  obtain ⟨j, hj⟩ := List.mem_iff_getElem?.1 hx
  have h0 := (ord_at l.length hl j x hj).2.1
  obtain ⟨b, y⟩ := x
  simp only at e hw
  subst e
  cases b with
  | true =>
    have h0 := (h0 rfl).1
    simp only at h0
    obtain rfl : a = 0 := by omega
    have := bund_len l hl i
    rw [show ((0 : Nat) : Int) = 0 from rfl] at hw ⊢
    simp only at hw ⊢
    omega
  | false =>
    have := tile_len l a i
    simp only at hw ⊢
    omega
theorem mt_sndz (l : List ByteArray) (hl : l.length ≤ 64) : SndZ (mt l.length (rootF (leavesF l))) := by
  rcases Nat.eq_zero_or_pos l.length with h | h
  · left
    obtain rfl := List.length_eq_zero_iff.1 h
    exact ⟨rfl, rfl⟩
  · right
    exact mt_snd _ _ hl h
end Go.Proofs.Ytondnammkcgjpaa.Ft

namespace Go.Proofs.Ytondnammkcgjpaa.Ft
open Go Go.RowKit Go.Shelf Go.Proofs.YtondnammkcgjpaaW.PrintWords Go.Proofs.YtondnammkcgjpaaW.PrintLast Go.Proofs.YtondnammkcgjpaaW.PrintMore Go.Proofs.Ytondnammkcgjpaa.Mp
open Go.Proofs.Ytondnammkcgjpaa.ShaP Go.Proofs.Ytondnammkcgjpaa.Mk Go.Proofs.Ytondnammkcgjpaa.Rg Go.Proofs.Ytondnammkcgjpaa.RgP Go.Proofs.Ytondnammkcgjpaa.Rf Go.Proofs.Ytondnammkcgjpaa.RgL Go.Proofs.Ytondnammkcgjpaa.Til Go.Proofs.Ytondnammkcgjpaa.Fg
theorem wj1 (j : Nat) (h : j ≤ 1000) : wrap64 ((j : Int) + 1) = (j : Int) + 1 := by unfold wrap64; omega
end Go.Proofs.Ytondnammkcgjpaa.Ft
namespace Go.Proofs.Ytondnammkcgjpaa.Ft
open Go Go.RowKit Go.Shelf Go.Proofs.YtondnammkcgjpaaW.PrintWords Go.Proofs.YtondnammkcgjpaaW.PrintLast Go.Proofs.YtondnammkcgjpaaW.PrintMore Go.Proofs.Ytondnammkcgjpaa.Mp
open Go.Proofs.Ytondnammkcgjpaa.ShaP Go.Proofs.Ytondnammkcgjpaa.Mk Go.Proofs.Ytondnammkcgjpaa.Rg Go.Proofs.Ytondnammkcgjpaa.RgP Go.Proofs.Ytondnammkcgjpaa.Rf Go.Proofs.Ytondnammkcgjpaa.RgL Go.Proofs.Ytondnammkcgjpaa.Til Go.Proofs.Ytondnammkcgjpaa.Fg Go.Proofs.Ytondnammkcgjpaa.Fun Go.Proofs.Ytondnammkcgjpaa.Rng
theorem give_small (l : List ByteArray) (hl : l.length ≤ 64) (hs : ∀ z ∈ l, z.size ≤ 40) (x : Want) (hx : x ∈ wantsF l.length) : (giveF l x.1 x.2.1 x.2.2).length ≤ 64 ∧ ∀ y ∈ giveF l x.1 x.2.1 x.2.2, y.size ≤ 100 := by
  obtain ⟨a, i, ha, e⟩ := want_nat l.length hl x hx
  obtain ⟨j, hj⟩ := List.mem_iff_getElem?.1 hx
  have h0 := (ord_at l.length hl j x hj).2.1
  obtain ⟨b, y⟩ := x
  simp only at e
  subst e
  have h4 : tw l.length a i ≤ 4 := by unfold tw; omega
  cases b with
  | true =>
    have h0 := (h0 rfl).1
    simp only at h0
    obtain rfl : a = 0 := by omega
    have e := bund_seg l hl i
    simp only
    rw [show ((0 : Nat) : Int) = 0 from rfl, e]
    refine ⟨by unfold seg; rw [List.length_drop, List.length_take]; omega, fun z hz => ?_⟩
    have := hs z (List.mem_of_mem_take (List.mem_of_mem_drop hz))
    omega
  | false =>
    have h1 := tile_len l a i
    unfold wdF at h1
    simp only at h1 ⊢
    have h2 := inTile_in (i : Int) (cntv l.length a)
    refine ⟨by omega, fun z hz => ?_⟩
    have := tile_32 l hl a i ha z hz
    omega
end Go.Proofs.Ytondnammkcgjpaa.Ft

namespace Go.Proofs.YtondnammkcgjpaaOpens
open Go.ChangeShapes Go.WideShapes Go.Deep Go.Proofs.YtondnammkcgjpaaW.PrintWords

def Reads {α : Type} (d : Kd α) (P : Program) (e : TypeId) (Q : α → Prop) : Prop :=
  ∀ (H : Type) (enc : TypeId × Value → H) (w : World) (base : Nat) (spare : Nat → Bool) (held : Bool) (n : Nat) (cs : List Value) (x : DataW H × List MemPlace),
    DataW.trod enc P w base spare held n e cs = some x → ∃ a : α, d.K w a cs ∧ Q a

theorem reads_string {P : Program} {e : TypeId} (he : P.underlying e = some .string) : Reads Kd.string P e (fun s => s.size ≤ maxLen) := by
  intro H enc w base spare held n cs x h
  obtain ⟨m, rfl, _, hs⟩ := DataW.trod_string he h
  exact ⟨m, rfl, hs⟩
theorem collect {α : Type} (len : Nat) (R : Nat → α → Prop) (each : ∀ i, i < len → ∃ z, R i z) : ∃ xs : List α, xs.length = len ∧ ∀ i z, xs[i]? = some z → R i z := by
  induction len with
  | zero => exact ⟨[], rfl, fun i z hz => by cases hz⟩
  | succ len ih =>
    obtain ⟨xs, hxl, hxs⟩ := ih (fun i hil => each i (by omega))
    obtain ⟨z, hz⟩ := each len (by omega)
    refine ⟨xs ++ [z], by rw [List.length_append, hxl]; rfl, fun i y hy => ?_⟩
    by_cases hil : i < xs.length
    · rw [List.getElem?_append_left hil] at hy; exact hxs i y hy
    · rw [List.getElem?_append_right (by omega)] at hy
      obtain ⟨hj, rfl⟩ := List.getElem?_eq_some_iff.1 hy
      have : i = len := by simp at hj; omega
      subst this
      simpa using hz

theorem slice_row {α : Type} {d : Kd α} {P : Program} {t e : TypeId} {Q : α → Prop} (ht : P.underlying t = some (.slice e)) (hs : P.cellsOf e = d.sz) (h : Reads d P e Q)
    (H : Type) (enc : TypeId × Value → H) (w : World) (base : Nat) (spare : Nat → Bool) (held : Bool) (n : Nat) (cs : List Value) (x : DataW H × List MemPlace)
    (hx : DataW.trod enc P w base spare held n t cs = some x) : ∃ (A : Option Addr) (c : Nat) (xs : List α), cs = [.slice A xs.length c] ∧ xs.length ≤ c ∧ c ≤ maxLen ∧ d.C w A xs.length xs ∧ ∀ a ∈ xs, Q a := by
  rcases open_slice ht hx with ⟨rfl, _⟩ | ⟨a, len, cap, m, n', D, Pl, rfl, hb, hl, hm, hmm, _, hi⟩
  · exact ⟨none, 0, [], rfl, Nat.le_refl _, by decide, ⟨rfl, Nat.zero_le _, fun h0 => absurd h0 (Nat.lt_irrefl 0)⟩, fun a ha => by cases ha⟩
  · have hlm : len ≤ m := by rw [hmm]; split <;> omega
    have each : ∀ i, i < len → ∃ z : α, Q z ∧ ∃ c : List Value, c.length = d.sz ∧ d.K w z c ∧ ∀ j u, c[j]? = some u → w.cell? (a.add (i * d.sz + j)) = some u := by
      intro i hil
      obtain ⟨cs', hc, hy⟩ := hi i (by omega)
      rw [hs] at hc
      obtain ⟨z, hz, hq⟩ := h H enc w base spare held n' cs' _ hy
      obtain ⟨_, hcl, hat⟩ := World.cells?_some hc
      refine ⟨z, hq, cs', d.K_len hz, hz, fun j u hu => ?_⟩
      obtain ⟨hj, hu2⟩ := List.getElem?_eq_some_iff.1 hu
      have := hat j (by omega)
      rw [← Go.Deep.add_add, this]
      exact hu
    have hex := collect len _ each
    obtain ⟨xs, rfl, hxs⟩ := hex
    refine ⟨some a, cap, xs, rfl, hl, hm, ⟨rfl, by have : xs.length ≤ maxLen := by omega
                                                   unfold maxLen at this; exact this, fun _ => ⟨a, rfl, fun j p hp => (hxs j p hp).2⟩⟩, fun z hz => ?_⟩
    obtain ⟨i, hi2, rfl⟩ := List.mem_iff_getElem.1 hz
    exact (hxs i _ (List.getElem?_eq_getElem hi2)).1
theorem arg_slice {α : Type} {d : Kd α} {P : Program} {t e : TypeId} {Q : α → Prop} (ht : P.underlying t = some (.slice e)) (hs : P.cellsOf e = d.sz) (h : Reads d P e Q)
    {H : Type} {enc : TypeId × Value → H} {w : World} {base : Nat} {spare : Nat → Bool} {held : Bool} {r : Reach} {b0 : Nat} {v : Value} {dd : DataW H} {p : List MemPlace} (hv : Value.okWide P w r b0 t v) (hx : DataW.Trod enc P w base spare held t v dd p) :
    ∃ (A : Option Addr) (c : Nat) (xs : List α), v = .slice A xs.length c ∧ xs.length ≤ c ∧ c ≤ maxLen ∧ d.C w A xs.length xs ∧ ∀ a ∈ xs, Q a := by
  obtain ⟨a, len, cap, rfl⟩ := okWide_slice ht hv
  obtain ⟨fuel, hf⟩ := hx
  obtain ⟨A, c, xs, hcs, hl, hm, hC, hq⟩ := slice_row ht hs h H enc w base spare held fuel _ _ hf
  simp only [Value.cells, List.cons.injEq, and_true] at hcs
  exact ⟨A, c, xs, hcs, hl, hm, hC, hq⟩

end Go.Proofs.YtondnammkcgjpaaOpens
namespace Go.Proofs.Ytondnammkcgjpaa.Ft
open Go Go.RowKit Go.Shelf Go.Proofs.YtondnammkcgjpaaW.PrintWords Go.Proofs.YtondnammkcgjpaaW.PrintLast Go.Proofs.YtondnammkcgjpaaW.PrintMore Go.Proofs.Ytondnammkcgjpaa.Mp
open Go.Proofs.Ytondnammkcgjpaa.ShaP Go.Proofs.Ytondnammkcgjpaa.Mk Go.Proofs.Ytondnammkcgjpaa.Rg Go.Proofs.Ytondnammkcgjpaa.RgP Go.Proofs.Ytondnammkcgjpaa.Rf Go.Proofs.Ytondnammkcgjpaa.RgL Go.Proofs.Ytondnammkcgjpaa.Til Go.Proofs.Ytondnammkcgjpaa.Fg Go.Proofs.Ytondnammkcgjpaa.Fun Go.Proofs.Ytondnammkcgjpaa.Rng Go.Proofs.YtondnammkcgjpaaOpens
def StayL (A : Option Addr) (ls : List ByteArray) (B : Nat) (w' : World) (A' : Option Addr) (l : List ByteArray) : Prop := ∀ W', Kd.C Kd.string W' A ls.length ls → (∀ k, B ≤ k → k < w'.heap.size → W'.heap[k]? = w'.heap[k]?) → Kd.C Kd.string W' A' l.length l
theorem rgive_bundle3 (A : Option Addr) (c : Nat) (ls : List ByteArray) (s i n : Nat) (w : World) (hs : s ≤ 64) (hls : ls.length = s) (hi : i ≤ 16) (hn : 0 < n) (hw : inTile (i : Int) (cntv s 0) = n) (hfit : 4 * i + n ≤ s) (hc : s ≤ c) (hr : Kd.C Kd.string w A s ls) :
    Calls Try.prog 34 #[.slice A s c, .agg #[.bool true, .int .i64 0, .int .i64 (i : Int)]] w fun e w' => ∃ A' c', e = .returned (.slice A' n c') ∧ (∀ W', Kd.C Kd.string W' A s ls → Kd.C Kd.string W' A' n (seg ls (4 * i) n)) ∧ n ≤ c' ∧ Below w.heap.size w w' := by
  subst hls
  have OW := Aside0.mk (Mem.Own.nil w)
  have HR := Aside0.mk hr
  have HW := Aside0.mk (fun W => rwidth_c (ls.length : Int) 0 (i : Int) W)
  rw [hw] at HW
  clear hw
  obtain ⟨a, ha⟩ : ∃ a, a = 4 * i := ⟨_, rfl⟩
  obtain ⟨b, hb⟩ : ∃ b, b = a + n := ⟨_, rfl⟩
  rw [← ha] at hfit ⊢
  have hsl := seg_len ls a n (by omega)
  have hseg : (ls.take b).drop a = seg ls a n := by rw [hb]; rfl
  obtain ⟨A9, hcut, hC9, _⟩ := cut_mid A c ls a b (by omega) (by omega) hc
  rw [hseg, hsl] at hcut hC9
  have HCAP := Aside0.mk (show n ≤ c - a by omega)
  have HC9 := Aside0.mk hC9
  generalize seg ls a n = sg at *
  have hia : (4 : Int) * (i : Int) = (a : Int) := by omega
  have hab : (a : Int) + (n : Int) = (b : Int) := by omega
  have hwa : wrap64 (a : Int) = (a : Int) := wr_nat _ (by omega)
  have hwb : wrap64 (b : Int) = (b : Int) := wr_nat _ (by omega)
  clear hs hr hi hn hfit hc ha hb hsl hseg hC9
  go_enter Try.func34, Try.ntmps34
  go_wp2_with (first
    | ((with_reducible refine gate_dst (N := 3) rfl ?_); refine box_event ?hg (N := 3) ?hd (cs := #[.bool true, .int .i64 0, .int .i64 (i : Int)]) (t := 58) ?hr ?_; (case hd => rfl); (case hg => rfl); (case hr => first | (go_simp; done) | (go_simp; rfl)); intro gW hg W_ hb hbb; have j0 := (blk_cell hb 0).trans rfl; have j1 := (blk_cell hb 1).trans rfl; have j2 := (blk_cell hb 2).trans rfl; have n_ : Aside0 (Mem.Own w W_ [(gW, #[.bool true, .int .i64 0, .int .i64 (i : Int)], 58)]) := ⟨OW.out.new hg hb hbb⟩; clear OW hb hbb hg; have OW := n_; clear n_)
    | (go_at_call 25; (with_reducible refine (HW.out _).mono ?_); rintro e w_ ⟨rfl, rfl⟩))
  go_ret
  exact ⟨_, _, rfl, HC9.out, HCAP.out, OW.out.below⟩
theorem rgive_any3 (A : Option Addr) (c : Nat) (ls : List ByteArray) (s : Nat) (b : Bool) (lv ix : Int) (w : World) (hs : s ≤ 64) (hls : ls.length = s) (hb : b = true → lv = 0) (hsz : ∀ x ∈ ls, x.size ≤ 10000) (hw : inTile ix (cntv s lv) ≠ 0) (hc : s ≤ c) (hr : Kd.C Kd.string w A s ls) :
    Calls Try.prog 34 #[.slice A s c, .agg #[.bool b, .int .i64 lv, .int .i64 ix]] w fun e w' => ∃ A' c', e = .returned (.slice A' (giveF ls b lv ix).length c') ∧ StayL A ls w.heap.size w' A' (giveF ls b lv ix) ∧ (giveF ls b lv ix).length ≤ c' ∧ Below w.heap.size w w' := by
  subst hls
  cases b with
  | false =>
    rw [show giveF ls false lv ix = tileF (leavesF ls) lv ix from rfl]
    have hl := tileF_len (leavesF ls) lv ix
    rw [leaves_len] at hl
    obtain ⟨k, i, m, rfl, rfl, hk, hi, hwm, hm, hm4, hfit⟩ := width_pos ls.length hs lv ix hw
    rw [hwm] at hl
    have hlen : (tileF (leavesF ls) k i).length = m := by omega
    refine (rgive_tile A c ls ls.length k i m w hs rfl hsz hk hi hm hm4 hwm hfit hc hr).mono ?_
    rintro e w' ⟨A', c', rfl, hR, hB⟩
    rw [← hlen] at hR ⊢
    exact ⟨A', c', rfl, fun W' _ hk => sr_stay hR W' hk, (Kd.R_reads' hR).2.1, hB⟩
  | true =>
    obtain rfl := hb rfl
    obtain ⟨k, i, m, hk0, rfl, hk, hi, hwm, hm, hm4, hfit⟩ := width_pos ls.length hs 0 ix hw
    obtain rfl : k = 0 := by omega
    rw [Nat.pow_zero, Nat.div_one] at hfit
    have e : giveF ls true 0 i = seg ls (4 * i) m := by
      show seg ls (4 * (i : Int).toNat) (inTile i (cntv (ls.length : Int) 0)).toNat = _
      rw [hwm]
      rfl
    have hsl := seg_len ls (4 * i) m hfit
    unfold StayL
    rw [e, hsl]
    refine (rgive_bundle3 A c ls ls.length i m w hs rfl hi hm hwm hfit hc hr).mono ?_
    rintro e w' ⟨A', c', rfl, hR, hcap, hB⟩
    exact ⟨A', c', rfl, fun W' h _ => hR W' h, hcap, hB⟩
theorem reads_two {P : Program} {t e : TypeId} {k : IntKind} (ht : P.underlying t = some (.array 2 e)) (he : P.underlying e = some (.int k)) (hs : P.cellsOf t = 2) (hc : P.cellsOf e = 1) : Reads (Kd.pair (Kd.int k) (Kd.int k)) P t (fun x => (Lit.int k x.1).wf = true ∧ (Lit.int k x.2).wf = true) := by
  intro H enc w base spare held n cs x hx
  obtain ⟨xs, m, _, _, hl, hlen, hi⟩ := DataW.trod_array ht hx
  have h0 := hi 0 (by omega)
  have h1 := hi 1 (by omega)
  rw [hs] at hl
  rw [hc] at h0 h1
  match cs, hl with
  | [c0, c1], _ =>
    rw [List.getElem?_eq_getElem (by omega)] at h0 h1
    obtain ⟨a, ea, _, wa⟩ := DataW.trod_int he h0
    obtain ⟨b, eb, _, wb⟩ := DataW.trod_int he h1
    have ea' : c0 = .int k a := by simpa using ea
    have eb' : c1 = .int k b := by simpa using eb
    exact ⟨(a, b), ⟨[c0], [c1], rfl, by rw [ea']; rfl, by rw [eb']; rfl⟩, wa, wb⟩
theorem add_at2 (a : Addr) (i j : Nat) : (a.add i).add j = a.add (i + j) := Go.Addr.add_add a i j
abbrev K2 : Kd (Int × Int) := Kd.pair (Kd.int .u16) (Kd.int .u16)
theorem bend_at {W : World} {A : Option Addr} {L : List (Int × Int)} (h : K2.C W A L.length L) (k : Nat) (hk : k < L.length) :
    ∃ ad, A = some ad ∧ W.cell? (ad.add (k * 2)) = some (.int .u16 L[k].1) ∧ W.cell? ⟨(ad.add (k * 2)).block, (ad.add (k * 2)).off + 1, none⟩ = some (.int .u16 L[k].2) := by
  obtain ⟨ad, cs, e, hl, hK, hx⟩ := Kd.C_get h (0, 0) (k : Int) (by omega) (by omega)
  have e2 : L.getD (k : Int).toNat (0, 0) = L[k] := by simp [hk]
  rw [e2] at hK
  obtain ⟨c0, c1, rfl, k0, k1⟩ := hK
  have e3 : (k : Int).toNat * K2.sz = k * 2 := rfl
  obtain rfl : c0 = [.int .u16 L[k].1] := k0
  obtain rfl : c1 = [.int .u16 L[k].2] := k1
  have h0 := hx 0 _ rfl
  have h1 := hx 1 _ rfl
  rw [e3] at h0 h1
  exact ⟨ad, e, h0, show W.cell? ((ad.add (k * 2)).add 1) = _ from (add_at2 ad (k * 2) 1).symm ▸ h1⟩
theorem sr_own {W : World} {B : Nat} {v : Value} {l : List ByteArray} (h : SR W B v l) (h0 : 0 < l.length) : ∃ g c, v = .slice (some ⟨g, 0, none⟩) l.length c := by
  obtain ⟨inner, ho⟩ := Kd.R_own h
  rcases ho.2 with ⟨_, e⟩ | ⟨g, c, cur, rfl, _⟩
  · omega
  · exact ⟨g, c, rfl⟩
theorem few4040 (A : Option Addr) (c : Nat) (l : List ByteArray) (w : World) (hr : Kd.C Kd.string w A l.length l) :
    Calls Try.prog 15 #[.slice A l.length c, .int .i64 40, .int .i64 40] w fun e w' => e = .returned (.bool (fewB l 40 40)) ∧ w = w' := few_c A c l 40 40 w (by omega) (by omega) hr
theorem c_turn {W W1 : World} {g gt gb : Nat} {A : Option Addr} {l : List ByteArray} {B : Nat} (h : StayC B W A l) (hf : ∀ k, Foot g gt gb k → k < B) (hT : Turn (Foot g gt gb) W W1) : Kd.C Kd.string W1 A l.length l :=
  h W1 (fun k h1 h2 => hT.keep k h2 (fun q => absurd (hf k q) (Nat.not_lt.2 h1)))
end Go.Proofs.Ytondnammkcgjpaa.Ft
namespace Go.Proofs.Ytondnammkcgjpaa.Ft
open Go Go.RowKit Go.Shelf Go.Proofs.YtondnammkcgjpaaW.PrintWords Go.Proofs.YtondnammkcgjpaaW.PrintLast Go.Proofs.YtondnammkcgjpaaW.PrintMore Go.Proofs.Ytondnammkcgjpaa.Mp
open Go.Proofs.Ytondnammkcgjpaa.ShaP Go.Proofs.Ytondnammkcgjpaa.Mk Go.Proofs.Ytondnammkcgjpaa.Rg Go.Proofs.Ytondnammkcgjpaa.RgP Go.Proofs.Ytondnammkcgjpaa.Rf Go.Proofs.Ytondnammkcgjpaa.RgL Go.Proofs.Ytondnammkcgjpaa.Til Go.Proofs.Ytondnammkcgjpaa.Fg Go.Proofs.Ytondnammkcgjpaa.Fun Go.Proofs.Ytondnammkcgjpaa.Rng
structure InL (w W : World) (base g gt gb : Nat) (s : FS) (gx : Nat) (x : Want) : Prop where
  below : Below w.heap.size w W
  blk : W.heap[gx]? = some (.cells #[.bool x.1, .int .i64 x.2.1, .int .i64 x.2.2] 58 (0, 0))
  isf : IsF base W g gt gb s
  ge : base ≤ W.heap.size
  low : w.heap.size ≤ base
  lt : ∀ k, Foot g gt gb k → k < gx
variable {w W W1 : World} {base g gt gb gx : Nat} {s s' : FS} {x : Want}
theorem InL.step (h : InL w W base g gt gb s gx x) (hB : Below W.heap.size W W1) : InL w W1 base g gt gb s gx x := ⟨below_step h.below hB, blk_below h.blk hB, h.isf.below hB, Nat.le_trans h.ge hB.size, h.low, h.lt⟩
theorem InL.turn (h : InL w W base g gt gb s gx x) (hI : IsF base W1 g gt gb s') (hT : Turn (Foot g gt gb) W W1) : InL w W1 base g gt gb s' gx x :=
  ⟨h.below.trans (hT.to_below (fun q hq => Nat.le_trans h.low (h.isf.foot_ge q hq)) (Nat.le_trans h.low h.ge)), (hT.keep gx (blk_lt h.blk) (fun q => absurd (h.lt gx q) (Nat.lt_irrefl _))).trans h.blk, hI, Nat.le_trans h.ge hT.size, h.low, h.lt⟩
theorem InL.cells (h : InL w W base g gt gb s gx x) : W.cell? ⟨gx, 0, none⟩ = some (.bool x.1) ∧ W.cell? ⟨gx, 1, none⟩ = some (.int .i64 x.2.1) ∧ W.cell? ⟨gx, 2, none⟩ = some (.int .i64 x.2.2) :=
  ⟨(blk_cell h.blk 0).trans rfl, (blk_cell h.blk 1).trans rfl, (blk_cell h.blk 2).trans rfl⟩
structure Rnd (l : List ByteArray) (nb r : Nat) (fg : Bool) (s : FS) : Prop where
  snd : SndZ s
  bsk : BSk s
  size : s.size = l.length
  root : s.root = rootF (leavesF l)
  low : 0 ≤ s.asked
  high : s.asked ≤ r
  hon : fg = true ∨ ∃ j, s = honA l j s.asked ∧ r ≤ nb + j
variable {l T : List ByteArray} {nb r : Nat} {fg : Bool}
theorem Rnd.good (h : Rnd l nb r fg s) (hl : l.length ≤ 64) (hx : nextF s = some x) (hT : ∀ y ∈ T, y.size ≤ 1000) (hc : (takenS s x T).2 = 0) (hh : nb ≤ r → T = giveF l x.1 x.2.1 x.2.2) :
    Rnd l nb (r + 1) (fg || !decide (T = giveF l x.1 x.2.1 x.2.2)) (takenS s x T).1 := by
  have hk := takenS_keeps s x T
  refine ⟨.inr ((h.snd.pos hx).taken x T), takenS_bsk s x T h.bsk hT, hk.1.trans h.size, hk.2.1.trans h.root, Int.le_trans h.low hk.2.2.1, by have := h.high; have := hk.2.2.2; omega, ?_⟩
  rcases h.hon with h1 | ⟨j, h1, h2⟩
  · left; rw [h1]; rfl
  by_cases hTx : T = giveF l x.1 x.2.1 x.2.2
  · right
    have hxj : (wantsF l.length)[j]? = some x := by
      have := honA_next l hl j s.asked
      rw [← h1] at this
      exact this.symm.trans hx
    have h3 := honA_take l hl j s.asked x hxj
    rw [← h1, ← hTx] at h3
    rw [h3]
    exact ⟨j + 1, rfl, by omega⟩
  · left
    rw [decide_eq_false hTx]
    simp
theorem Rnd.bad (h : Rnd l nb r fg s) (hl : l.length ≤ 64) (hx : nextF s = some x) (hT : ∀ y ∈ T, y.size ≤ 1000) (hc : (takenS s x T).2 ≠ 0) (hh : nb ≤ r → T = giveF l x.1 x.2.1 x.2.2) : Rnd l nb (r + 1) fg (takenS s x T).1 := by
  have hk := takenS_keeps s x T
  refine ⟨.inr ((h.snd.pos hx).taken x T), takenS_bsk s x T h.bsk hT, hk.1.trans h.size, hk.2.1.trans h.root, Int.le_trans h.low hk.2.2.1, by have := h.high; have := hk.2.2.2; omega, ?_⟩
  rcases h.hon with h1 | ⟨j, h1, h2⟩
  · exact .inl h1
  right
  have hxj : (wantsF l.length)[j]? = some x := by
    have := honA_next l hl j s.asked
    rw [← h1] at this
    exact this.symm.trans hx
  have hr : r < nb := by
    rcases Nat.lt_or_ge r nb with h5 | h5
    · exact h5
    · have h3 := honA_take l hl j s.asked x hxj
      rw [← h1, ← hh h5] at h3
      rw [h3] at hc
      exact absurd rfl hc
  have hc2 := hc
  rw [h1] at hc2
  obtain ⟨i, hi⟩ := honA_bad l T hl j s.asked x hxj hc2
  rw [← h1] at hi
  have ha := (taken_bad hx T hc).2.1
  exact ⟨i, by rw [ha]; exact hi, by omega⟩
theorem Rnd.ends (h : Rnd l nb 400 fg s) (hl : l.length ≤ 64) (hnb : nb ≤ 60) (hx : nextF s ≠ none) : fg = true := by
  rcases h.hon with h1 | ⟨j, h1, h2⟩
  · exact h1
  exfalso
  apply hx
  rw [h1, honA_next l hl]
  exact List.getElem?_eq_none (by have := wants_few l.length (by omega); omega)
theorem bad_off (A A2 : Option Addr) (c c2 : Nat) (l : List ByteArray) (L : List (Int × Int)) (w : World) (hr : Kd.C Kd.string w A l.length l) (h : fewB l 40 40 = false ∨ 60 < L.length) :
    Calls Try.prog 13 #[.slice A l.length c, .slice A2 L.length c2] w fun e w' => e = .returned (.bool true) ∧ Below w.heap.size w w' := by
  have OW := Aside0.mk (Mem.Own.nil w)
  have HAW := Aside0.mk awake21_c
  have HF := Aside0.mk (fun W h => few4040 A c l W h)
  have HR := Aside0.mk hr
  cases hb : fewB l 40 40 with
  | false =>
    rw [hb] at HF
    clear hb hr h
    go_enter Try.func13, Try.ntmps13
    go_wp2_with (first
      | (go_at_call 31; (with_reducible refine (HAW.out _).mono ?_); rintro e w_ ⟨rfl, hB⟩; have n_ := Aside0.mk (OW.out.step hB); clear OW hB; have OW := n_; clear n_)
      | (go_at_call 15; (with_reducible refine (HF.out _ (Kd.C_below HR.out OW.out.below)).mono ?_); rintro e w_ ⟨rfl, rfl⟩))
    go_ret
    exact ⟨rfl, OW.out.below⟩
  | true =>
    have h60 : (60 : Int) < (L.length : Int) := by
      rcases h with h | h
      · rw [hb] at h; cases h
      · omega
    rw [hb] at HF
    clear hb hr h
    go_enter Try.func13, Try.ntmps13
    go_wp2_with (first
      | (go_at_call 31; (with_reducible refine (HAW.out _).mono ?_); rintro e w_ ⟨rfl, hB⟩; have n_ := Aside0.mk (OW.out.step hB); clear OW hB; have OW := n_; clear n_)
      | (go_at_call 15; (with_reducible refine (HF.out _ (Kd.C_below HR.out OW.out.below)).mono ?_); rintro e w_ ⟨rfl, rfl⟩))
    go_ret
    exact ⟨rfl, OW.out.below⟩
theorem bad_main (A A2 : Option Addr) (c c2 : Nat) (l : List ByteArray) (L : List (Int × Int)) (w : World) (hc : l.length ≤ c) (hr : Kd.C Kd.string w A l.length l) (hr2 : K2.C w A2 L.length L) (hLw : ∀ z ∈ L, 0 ≤ z.1 ∧ z.1 ≤ 65535 ∧ 0 ≤ z.2 ∧ z.2 ≤ 65535) (hb : fewB l 40 40 = true) (hL : L.length ≤ 60) :
    Calls Try.prog 13 #[.slice A l.length c, .slice A2 L.length c2] w fun e w' => e = .returned (.bool true) ∧ Below w.heap.size w w' := by
  obtain ⟨hl, hsz⟩ := few_yes hb (by omega)
  have OW := Aside0.mk (Mem.Own.nil w)
  have HI := Aside0.mk info_tab
  have HAW := Aside0.mk awake21_c
  have HF := Aside0.mk (fun W h => few4040 A c l W h)
  rw [hb] at HF
  have HR := Aside0.mk hr
  have HR2 := Aside0.mk hr2
  have HLW := Aside0.mk hLw
  have HL := Aside0.mk hl
  have HLB := Aside0.mk hL
  have HSZ := Aside0.mk hsz
  have hr32 : (rootF (leavesF l)).size = 32 := rootF_32 _ (leaves_32 l) (by rw [leavesF_len]; omega)
  have hemp : l.length = 0 → rootF (leavesF l) = emptyF := fun e => by rw [List.length_eq_zero_iff.1 e]; exact rootF_nil
  have HN := Aside0.mk (fun W => new_good l.length (rootF (leavesF l)) W (by omega) hr32 hemp)
  have HLV := Aside0.mk (fun W h => leaves_c A c l W (by omega) (fun z hz => by have := hsz z hz; omega) h)
  have HRT := Aside0.mk (fun A5 c5 W h h2 => rfroot_c 100000 A5 c5 (leavesF l) W (by rw [leavesF_len]; omega) (by rw [leavesF_len]; omega) (leaves_sm l) h h2)
  have HCC := Aside0.mk hc
  have hR0 : Rnd l L.length 0 false (mt l.length (rootF (leavesF l))) := ⟨mt_sndz l (by omega), fun k l h => (by cases h), rfl, rfl, Int.le_refl 0, Int.le_refl 0, .inr ⟨0, (hon_zero l).symm, Nat.zero_le _⟩⟩
  have HR0 := Aside0.mk hR0
  have hROOT := Aside0.mk (rfl : rootN 100000 (leavesF l) = rootF (leavesF l))
  rw [show rootN 100000 (leavesF l) = rootF (leavesF l) from rfl] at HRT
  obtain ⟨root, hroot⟩ : ∃ root, rootF (leavesF l) = root := ⟨_, rfl⟩
  rw [hroot] at HRT HN HR0
  have HROOT := Aside0.mk hroot
  have hL60 : ¬ (60 : Int) < (L.length : Int) := by omega
  clear hb hr hr2 hl hsz hr32 hemp hc hLw hR0 hROOT hroot hL
  go_enter Try.func13, Try.ntmps13
  go_wp2_with (first
    | (go_at_call 31; (with_reducible refine (HAW.out _).mono ?_); rintro e w_ ⟨rfl, hB⟩; have n_ := Aside0.mk (OW.out.step hB); clear OW hB; have OW := n_; clear n_)
    | (go_at_call 15; (with_reducible refine (HF.out _ (Kd.C_below HR.out OW.out.below)).mono ?_); rintro e w_ ⟨rfl, rfl⟩)
    | (go_at_call 16; (with_reducible refine (make_c _).mono ?_); rintro e wz ⟨rfl, hB⟩; have n_ := Aside0.mk (OW.out.step hB); clear OW hB; have OW := n_; clear n_)
    | ((with_reducible refine gate_dst (N := 5) rfl ?_); refine tab_event (N := 5) rfl rfl rfl rfl rfl rfl (fun _ => rfl) (fun _ => rfl) ?_; intro gT hg wz hb hbb; have n_ : Aside0 (Mem.Own w (wz) [(gT, TV, 31)]) := ⟨OW.out.new hg hb hbb⟩; clear OW hb hbb hg; have OW := n_; clear n_)
    | (go_at_call 17; (with_reducible refine (HLV.out _ (Kd.C_below HR.out OW.out.below)).mono ?_); rintro e wc ⟨v5, rfl, hr5, hB⟩; obtain ⟨A5, c5, rfl, hl5, hC5⟩ := Kd.R_reads hr5; have HC5 := Aside0.mk hC5; have HL5 := Aside0.mk hl5; have n_ := Aside0.mk (OW.out.step hB); clear OW hB hr5 hC5 hl5; have OW := n_; clear n_)
    | (go_at_call 36; (with_reducible refine (HRT.out A5 c5 _ HL5.out HC5.out).mono ?_); rintro e wd ⟨rfl, hB⟩; have n_ := Aside0.mk (OW.out.step hB); clear OW hB; have OW := n_; clear n_)
    | ((with_reducible refine gate_dst (N := 40) rfl ?_); refine wpList_load_row rfl 31 (.tmp 5) rfl gT rfl 31 TV (0, 0) _ (OW.out.blk 0 rfl) Try.underlying31 rfl HI.out ?_)
    | (go_at_call 37; (with_reducible refine (HN.out _).mono ?_); rintro e wn ⟨g, gt, gb, rfl, hI, hB⟩; have HK := Aside0.mk (show ∃ base, IsF base wn g gt gb (mt l.length root) ∧ w.heap.size ≤ base ∧ base ≤ wn.heap.size from ⟨_, hI, OW.out.size, hB.size⟩); have n_ := Aside0.mk (OW.out.step hB); clear OW hB hI; have OW := n_; clear n_))
  obtain ⟨base, hI, hbw, hbn⟩ := HK.out
  have HI1 := Aside0.mk hI
  have HBW := Aside0.mk hbw
  have HBN1 := Aside0.mk hbn
  have HOB := Aside0.mk OW.out.below
  clear hI hbw hbn HK HN HF HAW HLV OW HC5 HL5
  go_loopw [9, 10, 11] (fun v9 v10 v11 wr => ∃ (r : Nat) (fg : Bool) (s : FS), v9 = .int .i64 ((min r L.length : Nat) : Int) ∧ v10 = .bool fg ∧ v11 = .int .i64 r ∧ r ≤ 400 ∧ Aside0 (IsF base wr g gt gb s) ∧ Aside0 (Rnd l L.length r fg s) ∧ Aside0 (Below w.heap.size w wr) ∧ Aside0 (base ≤ wr.heap.size)) (fun _ _ v11 _ => 400 - (intOf v11).toNat)
  case atStart => exact ⟨0, false, _, by rw [Nat.zero_min]; rfl, rfl, rfl, Nat.zero_le _, HI1, HR0, HOB, HBN1⟩
  case round =>
    clear HI1 HR0 HOB HBN1
    obtain ⟨r, fg, s, rfl, rfl, rfl, hr4, HI, HRD, HB, HBN⟩ := hrel
    by_cases hrk : r < 400
    · have hri : (r : Int) < 400 := by omega
      have hr1 : wrap64 ((r : Int) + 1) = (r : Int) + 1 := wj1 r (by omega)
      go_wp2_with fail
      refine (next_c _ HI.out).mono ?_
      rintro e wx ⟨x, ok, rfl, hcs, hB⟩
      obtain ⟨yb, yl, yi⟩ := x
      rcases hcs with ⟨hx, rfl⟩ | ⟨hx, hx2, rfl⟩
      · have hal := below_alloc hB (.cells #[.bool yb, .int .i64 yl, .int .i64 yi] 58)
        have hnb := blk_new wx (.cells #[.bool yb, .int .i64 yl, .int .i64 yi] 58)
        have IL : Aside0 (InL w (wx.alloc (.cells #[.bool yb, .int .i64 yl, .int .i64 yi] 58)) base g gt gb s wx.heap.size (yb, yl, yi)) := ⟨⟨below_step HB.out hal, hnb, HI.out.below hal, Nat.le_trans HBN.out hal.size, HBW.out, fun k hk => Nat.lt_of_lt_of_le (by
          rcases hk with rfl | rfl | rfl
          · exact blk_lt HI.out.blk
          · exact HI.out.tl.lt
          · exact HI.out.bn.lt) hB.size⟩⟩
        have hmem : (yb, yl, yi) ∈ wantsF l.length := by have := next_mem hx; rw [HRD.out.size] at this; exact this
        have HMEM := Aside0.mk hmem
        have hordb : yb = true → yl = 0 := fun e => by
          obtain ⟨j, hj⟩ := List.mem_iff_getElem?.1 hmem
          exact ((ord_at l.length (by have := HL.out; omega) j _ hj).2.1 e).1
        have HGV := Aside0.mk (fun W h => rgive_any3 A c l l.length yb yl yi W (by have := HL.out; omega) rfl hordb (fun z hz => by have := HSZ.out z hz; omega) (by have := wants_w l.length (by have := HL.out; omega) _ hmem; unfold wdF at this; simp only at this; omega) HCC.out h)
        have HGS := Aside0.mk (give_small l (by have := HL.out; omega) HSZ.out _ hmem)
        have HGP := Aside0.mk (give_pos l (by have := HL.out; omega) _ hmem)
        simp only at HGS HGP
        obtain ⟨j0, j1, j2⟩ := IL.out.cells
        simp only at j0 j1 j2
        have HX := Aside0.mk hx
        simp only [wcs]
        have HGX : Aside0 (wx.heap.size ≤ (wx.alloc (.cells #[.bool yb, .int .i64 yl, .int .i64 yi] 58)).heap.size) := ⟨Nat.le_of_lt (blk_lt hnb)⟩
        clear hmem hordb hnb hal hB hx HI HB HBN
        by_cases hrb : r < L.length
        · obtain ⟨ad, hA2, _, _⟩ := bend_at HR2.out r hrb
          subst hA2
          have HBD := Aside0.mk (fun W (hB : Below w.heap.size w W) => by
            obtain ⟨ad', e, h1, h2⟩ := bend_at (Kd.C_below HR2.out hB) r hrb
            cases e
            exact And.intro h1 h2)
          have hlw := HLW.out L[r] (List.getElem_mem hrb)
          have hHON : L.length ≤ r → True := fun _ => trivial
          generalize L[r] = bd at *
          obtain ⟨ba, bb⟩ := bd
          simp only at hlw HBD
          obtain ⟨ha0, ha1, hb0, hb1⟩ := hlw
          have hmin : min r L.length = r := Nat.min_eq_left (Nat.le_of_lt hrb)
          have hmin1 : min (r + 1) L.length = r + 1 := Nat.min_eq_left hrb
          have hrbi : (r : Int) < (L.length : Int) := by omega
          rw [hmin]
          go_wp2_with (first
            | (go_at_call 34; (with_reducible refine (HGV.out _ (Kd.C_below HR.out IL.out.below)).mono ?_); rintro e wG ⟨A9, c9, rfl, hSt, hl9, hB⟩; have HST := Aside0.mk hSt; have HL9 := Aside0.mk hl9; have HB9 := Aside0.mk hB; have n_ := Aside0.mk (IL.out.step hB); clear IL hSt hl9 hB j0 j1 j2; have IL := n_; clear n_; have HBG := Aside0.mk (Below.refl wG.heap.size wG); have HC9 := Aside0.mk (HST.out wG (Kd.C_below HR.out IL.out.below) (fun _ _ _ => rfl)))
            | ((with_reducible refine gate_dst (N := 63) rfl ?_); refine Kd.R_lit Kd.string (w0 := wG) wG.heap.size 9 rfl (N := 63) rfl (xs := []) (inner := []) (ok := fun _ => True) (okp := fun _ => True) (by first | (go_simp; done) | (go_simp; rfl)) (Reps.none _ _) (fun _ _ => trivial) trivial HBG.out (below_size HBG.out) (by decide) ?_; intro v1 w1 hr1 hb1 hg1 hat1; have n_ := Aside0.mk hb1; have HR1 := Aside0.mk hr1; obtain ⟨A1, c1, rfl⟩ := Kd.R_slice hr1; clear HBG hb1 hg1 hat1 hr1; have HBG := n_; clear n_)
            | ((with_reducible refine gate_builtin (b := .append) (xs := #[.tmp 63, .tmp 64]) rfl ?_); at_builtin; refine Kd.R_append_row (P := Try.prog) Value.string (⟨#[]⟩ : ByteArray) (w0 := wG) wG.heap.size rfl (.tmp 63) (.tmp 64) 22 9 (.string ⟨#[]⟩) 16 rfl Try.underlying22 info_str rfl (by decide) _ [] (giveF l yb yl yi) A9 (giveF l yb yl yi).length c9 (fun _ => True) rfl rfl (fun _ _ => trivial) HR1.out (Kd.C_below HC9.out HBG.out) HBG.out (below_size HBG.out) (by have := HGS.out.1; simp only [List.length_nil]; omega) ?_; intro v2 w2 hr2 hb2 hg2 hat2; have HR2G := Aside0.mk hr2; have n_ := Aside0.mk hb2; clear HBG hr2 hb2 hg2 hat2 HR1; have HBG := n_; clear n_; obtain ⟨gN, cN, rfl⟩ := sr_own HR2G.out HGP.out; obtain ⟨b0, b1⟩ := HBD.out w2 (IL.out.step HBG.out).below))
          refine (bent_c ⟨ha0, ha1⟩ ⟨hb0, hb1⟩ (B := wG.heap.size) (below_size HBG.out) HGP.out (by have := HGS.out.1; omega) (fun z hz => by have := HGS.out.2 z hz; omega) HR2G.out).mono ?_
          rintro e wb ⟨AT, cT, T, rfl, hcT, hlT, hsT, hBT, hST⟩
          have HTC := Aside0.mk hcT
          have HTL := Aside0.mk hlT
          have HTS := Aside0.mk hsT
          have HT := Aside0.mk hST
          have n_ := Aside0.mk (HBG.out.trans (hBT.mono (Nat.le_refl _)))
          clear HBG hcT hlT hsT hBT hST b0 b1 HR2G
          have HBG := n_
          clear n_
          have HHON := Aside0.mk (fun (h : L.length ≤ r) => (absurd hrb (Nat.not_lt.2 h) : T = giveF l yb yl yi))
          go_wp2_with (first
            | (go_at_call 41; (with_reducible refine (asked_c (IL.out.step HBG.out).isf).mono ?_); rintro e w_ ⟨rfl, rfl⟩; obtain ⟨j0, j1, j2⟩ := (IL.out.step HBG.out).cells; simp only at j0 j1 j2))
          have IW := Aside0.mk (IL.out.step HBG.out)
          have hxs := HX.out
          have HFG := Aside0.mk (fun k (hk : Foot g gt gb k) => Nat.lt_trans (IL.out.lt k hk) (blk_lt IL.out.blk))
          refine (Take_yes (yb, yl, yi) AT cT T IW.out.isf (HRD.out.snd.pos hxs).inv hxs IW.out.ge (by have := HTL.out; unfold maxLen; omega) (fun z hz => by have := HTS.out z hz; omega) HTC.out (HT.out _ (fun _ _ _ => rfl)) (by rw [(takeS_keeps s (yb, yl, yi) T).2.2]; exact HRD.out.low) (by rw [(takeS_keeps s (yb, yl, yi) T).2.2]; have := HRD.out.high; omega)).mono ?_
          rintro e wt ⟨rfl, hI, hTu⟩
          have IT := Aside0.mk (IW.out.turn hI hTu)
          have CT := Aside0.mk (c_turn HT.out HFG.out hTu)
          have CX := Aside0.mk (HST.out wt (Kd.C_below HR.out IT.out.below) (fun k h1 h2 => (hTu.keep k (Nat.lt_of_lt_of_le h2 HBG.out.size) (fun q => absurd (Nat.lt_of_lt_of_le (IL.out.lt k q) HGX.out) (Nat.not_lt.2 h1))).trans (HBG.out.block k h2)))
          clear hI hTu IW
          by_cases hz : (takenS s (yb, yl, yi) T).2 = 0
          · have HRD2 : Aside0 (Rnd l L.length (r + 1) (fg || !decide (T = giveF l yb yl yi)) (takenS s (yb, yl, yi) T).1) := ⟨HRD.out.good (by have := HL.out; omega) hxs HTS.out hz HHON.out⟩
            have HSM := Aside0.mk (fun W h1 h2 => same21_c AT A9 cT c9 T (giveF l yb yl yi) W h1 h2)
            obtain ⟨dq, hdq⟩ : ∃ dq, decide (T = giveF l yb yl yi) = dq := ⟨_, rfl⟩
            rw [hdq] at HRD2 HSM
            rw [hz]
            clear hz hxs HX HRD IL HT HST HBG hdq
            cases fg with
            | false =>
              go_wp2_with (first
                | (go_at_call 33; (with_reducible refine (HSM.out _ CT.out CX.out).mono ?_); rintro e w9 ⟨rfl, hB⟩; have n_ := Aside0.mk (IT.out.step hB); clear IT hB; have IT := n_; clear n_))
              go_roundw
              case rel => exact ⟨r + 1, !dq, _, by rw [hmin1]; go_num, by first | rfl | simp, by go_num, by omega, ⟨IT.out.isf⟩, HRD2, ⟨IT.out.below⟩, ⟨IT.out.ge⟩⟩
              case measure => simp [intOf]; omega
            | true =>
              go_wp2_with fail
              go_roundw
              case rel => exact ⟨r + 1, true, _, by rw [hmin1]; go_num, rfl, by go_num, by omega, ⟨IT.out.isf⟩, HRD2, ⟨IT.out.below⟩, ⟨IT.out.ge⟩⟩
              case measure => simp [intOf]; omega
          · obtain ⟨hcd, hask, y, hy, hyx⟩ := taken_bad hxs T hz
            have HRD2 := Aside0.mk (HRD.out.bad (by have := HL.out; omega) hxs HTS.out hz HHON.out)
            obtain ⟨s2, hs2⟩ : ∃ s2, (takenS s (yb, yl, yi) T).1 = s2 := ⟨_, rfl⟩
            obtain ⟨cd, hcd2⟩ : ∃ cd, (takenS s (yb, yl, yi) T).2 = cd := ⟨_, rfl⟩
            rw [hs2] at HRD2 IT hask hy
            rw [hcd2] at hcd hz ⊢
            have hzb : (cd == 0) = false := beq_eq_false_iff_ne.2 hz
            rw [HRD.out.size] at hyx
            have HAK2 := Aside0.mk (fun W (h : IsF base W g gt gb s2) => asked_c h)
            rw [hask] at HAK2
            have HY := Aside0.mk hy
            have HYX := Aside0.mk hyx
            have HRW := Aside0.mk (fun W => rwidth_c (l.length : Int) yl yi W)
            clear hs2 hcd2 hxs HX HRD IL HT HST HBG hask hy hyx CT CX
            go_wp2_with fail
            refine (next_c _ IT.out.isf).mono ?_
            rintro e wu ⟨z, ok2, rfl, hcs2, hB2⟩
            rcases hcs2 with ⟨hz2, rfl⟩ | ⟨hz2, _, _⟩
            · obtain rfl : z = y := Option.some.inj (hz2.symm.trans HY.out)
              obtain ⟨zb, zl, zi⟩ := z
              have hal2 := below_alloc hB2 (.cells #[.bool zb, .int .i64 zl, .int .i64 zi] 58)
              have hnb2 := blk_new wu (.cells #[.bool zb, .int .i64 zl, .int .i64 zi] 58)
              have n_ := Aside0.mk (IT.out.step hal2)
              clear IT
              have IT := n_
              clear n_
              obtain ⟨j0, j1, j2⟩ := IT.out.cells
              simp only at j0 j1 j2
              have k0 := (blk_cell hnb2 0).trans rfl
              have k1 := (blk_cell hnb2 1).trans rfl
              have k2 := (blk_cell hnb2 2).trans rfl
              have hnw := fun W => neq_want W zb yb zl zi yl yi
              simp only [wcs]
              by_cases hzy : (zb, zl, zi) = (yb, yl, yi)
              · have hne : (zb == yb && (zl == yl && (zi == yi))) = true := by
                  have := want_eq (zb, zl, zi) (yb, yl, yi)
                  simp only at this
                  rw [this]
                  exact decide_eq_true hzy
                rw [hne] at hnw
                clear hne hnb2 hal2 hB2 hz2 HY HYX hzy
                rcases hcd with rfl | rfl
                all_goals (
                  go_wp2_with (first
                    | (go_at_call 41; (with_reducible refine (HAK2.out _ IT.out.isf).mono ?_); rintro e w_ ⟨rfl, rfl⟩))
                  go_roundw
                  case rel => exact ⟨r + 1, fg, s2, by rw [hmin1]; go_num, rfl, by go_num, by omega, ⟨IT.out.isf⟩, HRD2, ⟨IT.out.below⟩, ⟨IT.out.ge⟩⟩
                  case measure => simp [intOf]; omega)
              · have hne : (zb == yb && (zl == yl && (zi == yi))) = false := by
                  have := want_eq (zb, zl, zi) (yb, yl, yi)
                  simp only at this
                  rw [this]
                  exact decide_eq_false hzy
                rw [hne] at hnw
                have hw4 : (inTile yi (cntv (l.length : Int) yl) == 4) = false := by
                  rw [beq_eq_false_iff_ne]
                  rcases HYX.out with h | h
                  · exact absurd h hzy
                  · exact h
                clear hne hnb2 hal2 hB2 hz2 HY HYX hzy
                rcases hcd with rfl | rfl
                all_goals (
                  go_wp2_with (first
                    | (go_at_call 41; (with_reducible refine (HAK2.out _ IT.out.isf).mono ?_); rintro e w_ ⟨rfl, rfl⟩)
                    | (go_at_call 25; (with_reducible refine (HRW.out _).mono ?_); rintro e w_ ⟨rfl, rfl⟩))
                  go_roundw
                  case rel => exact ⟨r + 1, fg, s2, by rw [hmin1]; go_num, rfl, by go_num, by omega, ⟨IT.out.isf⟩, HRD2, ⟨IT.out.below⟩, ⟨IT.out.ge⟩⟩
                  case measure => simp [intOf]; omega)
            · exact absurd (hz2.symm.trans HY.out) (by simp)
        · have hmin : min r L.length = L.length := Nat.min_eq_right (by omega)
          have hmin1 : min (r + 1) L.length = L.length := Nat.min_eq_right (by omega)
          rw [hmin]
          go_wp2_with (first
            | (go_at_call 34; (with_reducible refine (HGV.out _ (Kd.C_below HR.out IL.out.below)).mono ?_); rintro e wG ⟨A9, c9, rfl, hSt, hl9, hB⟩; have HST := Aside0.mk hSt; have HL9 := Aside0.mk hl9; have HB9 := Aside0.mk hB; have n_ := Aside0.mk (IL.out.step hB); clear IL hSt hl9 hB j0 j1 j2; have IL := n_; clear n_; have HBG := Aside0.mk (Below.refl wG.heap.size wG); have HC9 := Aside0.mk (HST.out wG (Kd.C_below HR.out IL.out.below) (fun _ _ _ => rfl)))
            | ((with_reducible refine gate_dst (N := 63) rfl ?_); refine Kd.R_lit Kd.string (w0 := wG) wG.heap.size 9 rfl (N := 63) rfl (xs := []) (inner := []) (ok := fun _ => True) (okp := fun _ => True) (by first | (go_simp; done) | (go_simp; rfl)) (Reps.none _ _) (fun _ _ => trivial) trivial HBG.out (below_size HBG.out) (by decide) ?_; intro v1 w1 hr1 hb1 hg1 hat1; have n_ := Aside0.mk hb1; have HR1 := Aside0.mk hr1; obtain ⟨A1, c1, rfl⟩ := Kd.R_slice hr1; clear HBG hb1 hg1 hat1 hr1; have HBG := n_; clear n_)
            | ((with_reducible refine gate_builtin (b := .append) (xs := #[.tmp 63, .tmp 64]) rfl ?_); at_builtin; refine Kd.R_append_row (P := Try.prog) Value.string (⟨#[]⟩ : ByteArray) (w0 := wG) wG.heap.size rfl (.tmp 63) (.tmp 64) 22 9 (.string ⟨#[]⟩) 16 rfl Try.underlying22 info_str rfl (by decide) _ [] (giveF l yb yl yi) A9 (giveF l yb yl yi).length c9 (fun _ => True) rfl rfl (fun _ _ => trivial) HR1.out (Kd.C_below HC9.out HBG.out) HBG.out (below_size HBG.out) (by have := HGS.out.1; simp only [List.length_nil]; omega) ?_; intro v2 w2 hr2 hb2 hg2 hat2; have HR2G := Aside0.mk hr2; have n_ := Aside0.mk hb2; clear HBG hr2 hb2 hg2 hat2 HR1; have HBG := n_; clear n_; obtain ⟨AT, cT, rfl⟩ := Kd.R_slice HR2G.out)
            | (go_at_call 41; (with_reducible refine (asked_c (IL.out.step HBG.out).isf).mono ?_); rintro e w_ ⟨rfl, rfl⟩; obtain ⟨j0, j1, j2⟩ := (IL.out.step HBG.out).cells; simp only at j0 j1 j2))
          have HT := Aside0.mk (sr_stay HR2G.out)
          have HTC := Aside0.mk (Kd.R_reads' HR2G.out).2.1
          have HTL := Aside0.mk (show (giveF l yb yl yi).length ≤ 2000 by have := HGS.out.1; omega)
          have HTS := Aside0.mk (show ∀ z ∈ giveF l yb yl yi, z.size ≤ 1000 from fun z hz => by have := HGS.out.2 z hz; omega)
          have HHON := Aside0.mk (fun (h : L.length ≤ r) => (rfl : giveF l yb yl yi = giveF l yb yl yi))
          clear HR2G
          have IW := Aside0.mk (IL.out.step HBG.out)
          have hxs := HX.out
          have HFG := Aside0.mk (fun k (hk : Foot g gt gb k) => Nat.lt_trans (IL.out.lt k hk) (blk_lt IL.out.blk))
          refine (Take_yes (yb, yl, yi) AT cT (giveF l yb yl yi) IW.out.isf (HRD.out.snd.pos hxs).inv hxs IW.out.ge (by have := HTL.out; unfold maxLen; omega) (fun z hz => by have := HTS.out z hz; omega) HTC.out (HT.out _ (fun _ _ _ => rfl)) (by rw [(takeS_keeps s (yb, yl, yi) (giveF l yb yl yi)).2.2]; exact HRD.out.low) (by rw [(takeS_keeps s (yb, yl, yi) (giveF l yb yl yi)).2.2]; have := HRD.out.high; omega)).mono ?_
          rintro e wt ⟨rfl, hI, hTu⟩
          have IT := Aside0.mk (IW.out.turn hI hTu)
          have CT := Aside0.mk (c_turn HT.out HFG.out hTu)
          have CX := Aside0.mk (HST.out wt (Kd.C_below HR.out IT.out.below) (fun k h1 h2 => (hTu.keep k (Nat.lt_of_lt_of_le h2 HBG.out.size) (fun q => absurd (Nat.lt_of_lt_of_le (IL.out.lt k q) HGX.out) (Nat.not_lt.2 h1))).trans (HBG.out.block k h2)))
          clear hI hTu IW
          by_cases hz : (takenS s (yb, yl, yi) (giveF l yb yl yi)).2 = 0
          · have HRD2 : Aside0 (Rnd l L.length (r + 1) (fg || !decide ((giveF l yb yl yi) = giveF l yb yl yi)) (takenS s (yb, yl, yi) (giveF l yb yl yi)).1) := ⟨HRD.out.good (by have := HL.out; omega) hxs HTS.out hz HHON.out⟩
            have HSM := Aside0.mk (fun W h1 h2 => same21_c AT A9 cT c9 (giveF l yb yl yi) (giveF l yb yl yi) W h1 h2)
            obtain ⟨dq, hdq⟩ : ∃ dq, decide ((giveF l yb yl yi) = giveF l yb yl yi) = dq := ⟨_, rfl⟩
            rw [hdq] at HRD2 HSM
            rw [hz]
            clear hz hxs HX HRD IL HT HST HBG hdq
            cases fg with
            | false =>
              go_wp2_with (first
                | (go_at_call 33; (with_reducible refine (HSM.out _ CT.out CX.out).mono ?_); rintro e w9 ⟨rfl, hB⟩; have n_ := Aside0.mk (IT.out.step hB); clear IT hB; have IT := n_; clear n_))
              go_roundw
              case rel => exact ⟨r + 1, !dq, _, by rw [hmin1], by first | rfl | simp, by go_num, by omega, ⟨IT.out.isf⟩, HRD2, ⟨IT.out.below⟩, ⟨IT.out.ge⟩⟩
              case measure => simp [intOf]; omega
            | true =>
              go_wp2_with fail
              go_roundw
              case rel => exact ⟨r + 1, true, _, by rw [hmin1], rfl, by go_num, by omega, ⟨IT.out.isf⟩, HRD2, ⟨IT.out.below⟩, ⟨IT.out.ge⟩⟩
              case measure => simp [intOf]; omega
          · obtain ⟨hcd, hask, y, hy, hyx⟩ := taken_bad hxs (giveF l yb yl yi) hz
            have HRD2 := Aside0.mk (HRD.out.bad (by have := HL.out; omega) hxs HTS.out hz HHON.out)
            obtain ⟨s2, hs2⟩ : ∃ s2, (takenS s (yb, yl, yi) (giveF l yb yl yi)).1 = s2 := ⟨_, rfl⟩
            obtain ⟨cd, hcd2⟩ : ∃ cd, (takenS s (yb, yl, yi) (giveF l yb yl yi)).2 = cd := ⟨_, rfl⟩
            rw [hs2] at HRD2 IT hask hy
            rw [hcd2] at hcd hz ⊢
            have hzb : (cd == 0) = false := beq_eq_false_iff_ne.2 hz
            rw [HRD.out.size] at hyx
            have HAK2 := Aside0.mk (fun W (h : IsF base W g gt gb s2) => asked_c h)
            rw [hask] at HAK2
            have HY := Aside0.mk hy
            have HYX := Aside0.mk hyx
            have HRW := Aside0.mk (fun W => rwidth_c (l.length : Int) yl yi W)
            clear hs2 hcd2 hxs HX HRD IL HT HST HBG hask hy hyx CT CX
            go_wp2_with fail
            refine (next_c _ IT.out.isf).mono ?_
            rintro e wu ⟨z, ok2, rfl, hcs2, hB2⟩
            rcases hcs2 with ⟨hz2, rfl⟩ | ⟨hz2, _, _⟩
            · obtain rfl : z = y := Option.some.inj (hz2.symm.trans HY.out)
              obtain ⟨zb, zl, zi⟩ := z
              have hal2 := below_alloc hB2 (.cells #[.bool zb, .int .i64 zl, .int .i64 zi] 58)
              have hnb2 := blk_new wu (.cells #[.bool zb, .int .i64 zl, .int .i64 zi] 58)
              have n_ := Aside0.mk (IT.out.step hal2)
              clear IT
              have IT := n_
              clear n_
              obtain ⟨j0, j1, j2⟩ := IT.out.cells
              simp only at j0 j1 j2
              have k0 := (blk_cell hnb2 0).trans rfl
              have k1 := (blk_cell hnb2 1).trans rfl
              have k2 := (blk_cell hnb2 2).trans rfl
              have hnw := fun W => neq_want W zb yb zl zi yl yi
              simp only [wcs]
              by_cases hzy : (zb, zl, zi) = (yb, yl, yi)
              · have hne : (zb == yb && (zl == yl && (zi == yi))) = true := by
                  have := want_eq (zb, zl, zi) (yb, yl, yi)
                  simp only at this
                  rw [this]
                  exact decide_eq_true hzy
                rw [hne] at hnw
                clear hne hnb2 hal2 hB2 hz2 HY HYX hzy
                rcases hcd with rfl | rfl
                all_goals (
                  go_wp2_with (first
                    | (go_at_call 41; (with_reducible refine (HAK2.out _ IT.out.isf).mono ?_); rintro e w_ ⟨rfl, rfl⟩))
                  go_roundw
                  case rel => exact ⟨r + 1, fg, s2, by rw [hmin1], rfl, by go_num, by omega, ⟨IT.out.isf⟩, HRD2, ⟨IT.out.below⟩, ⟨IT.out.ge⟩⟩
                  case measure => simp [intOf]; omega)
              · have hne : (zb == yb && (zl == yl && (zi == yi))) = false := by
                  have := want_eq (zb, zl, zi) (yb, yl, yi)
                  simp only at this
                  rw [this]
                  exact decide_eq_false hzy
                rw [hne] at hnw
                have hw4 : (inTile yi (cntv (l.length : Int) yl) == 4) = false := by
                  rw [beq_eq_false_iff_ne]
                  rcases HYX.out with h | h
                  · exact absurd h hzy
                  · exact h
                clear hne hnb2 hal2 hB2 hz2 HY HYX hzy
                rcases hcd with rfl | rfl
                all_goals (
                  go_wp2_with (first
                    | (go_at_call 41; (with_reducible refine (HAK2.out _ IT.out.isf).mono ?_); rintro e w_ ⟨rfl, rfl⟩)
                    | (go_at_call 25; (with_reducible refine (HRW.out _).mono ?_); rintro e w_ ⟨rfl, rfl⟩))
                  go_roundw
                  case rel => exact ⟨r + 1, fg, s2, by rw [hmin1], rfl, by go_num, by omega, ⟨IT.out.isf⟩, HRD2, ⟨IT.out.below⟩, ⟨IT.out.ge⟩⟩
                  case measure => simp [intOf]; omega)
            · exact absurd (hz2.symm.trans HY.out) (by simp)
      · have hnx := hx
        have hal := below_alloc hB (.cells (wcs (yb, yl, yi)) 58)
        have n1 := Aside0.mk (HI.out.below hal)
        have n2 := Aside0.mk (below_step HB.out hal)
        clear HI HB hal hB hx
        have HI := n1
        have HB := n2
        clear n1 n2
        simp only [wcs] at *
        go_wp2_with fail
        have HY := Aside0.mk (leaves_yes HI.out hnx)
        obtain ⟨d1, d2⟩ := HRD.out.snd.done hnx
        have hsm := allK_smk s HRD.out.bsk (nb s.size)
        replace d1 := d1.trans HRD.out.size
        replace d2 := d2.trans (HRD.out.root.trans HROOT.out)
        generalize allK s (nb s.size) = X at *
        have HXL := Aside0.mk d1
        have HD2 := Aside0.mk d2
        have HSM := Aside0.mk hsm
        have HQ := Aside0.mk (show rootN 100000 (leavesF X) = root from d2)
        clear d1 d2 hsm hnx HI HRD
        refine HY.out.mono ?_
        rintro e wv ⟨A8, c8, rfl, hS, hB⟩
        have hC := (Kd.R_reads' hS).2.2
        have HLV := Aside0.mk (fun W (h : Kd.C Kd.string W A8 X.length X) => leaves_c A8 c8 X W (by have := HXL.out; have := HL.out; omega) (fun z hz => by have := HSM.out z hz; omega) h)
        rw [HXL.out] at HLV hC ⊢
        have HC := Aside0.mk hC
        have OW2 := Aside0.mk (below_step HB.out hB)
        clear hB hS hC HY HB
        go_wp2_with (first
          | (go_at_call 17; (with_reducible refine (HLV.out _ HC.out).mono ?_); rintro e wz ⟨v4, rfl, hr4, hB⟩; obtain ⟨A7, c7, rfl, h8, hC8⟩ := Kd.R_reads hr4; have C8 := Aside0.mk hC8; have H8 := Aside0.mk h8; have n_ := Aside0.mk (below_step OW2.out hB); clear OW2 hB hr4 h8 hC8; have OW2 := n_; clear n_)
          | (go_at_call 36; go_loud ((with_reducible refine (rfroot_c 100000 A7 c7 (leavesF X) _ (by have := HXL.out; have := HL.out; unfold leavesF; rw [List.length_map]; omega) (by have := HXL.out; have := HL.out; unfold leavesF; rw [List.length_map]; omega) (leaves_sm X) H8.out C8.out).mono ?_); rintro e wz ⟨rfl, hB⟩; rw [HQ.out]; have n_ := Aside0.mk (below_step OW2.out hB); clear OW2 hB; have OW2 := n_; clear n_)))
        go_ret
        exact ⟨rfl, OW2.out⟩
    · have hri : ¬ (r : Int) < 400 := by omega
      obtain rfl : r = 400 := by omega
      clear hrk
      go_wp2_with fail
      by_cases hnx : nextF s = none
      · have HY := Aside0.mk (leaves_yes HI.out hnx)
        obtain ⟨d1, d2⟩ := HRD.out.snd.done hnx
        have hsm := allK_smk s HRD.out.bsk (nb s.size)
        replace d1 := d1.trans HRD.out.size
        replace d2 := d2.trans (HRD.out.root.trans HROOT.out)
        generalize allK s (nb s.size) = X at *
        have HXL := Aside0.mk d1
        have HD2 := Aside0.mk d2
        have HSM := Aside0.mk hsm
        have HQ := Aside0.mk (show rootN 100000 (leavesF X) = root from d2)
        clear d1 d2 hsm hnx HI HRD
        refine HY.out.mono ?_
        rintro e wv ⟨A8, c8, rfl, hS, hB⟩
        have hC := (Kd.R_reads' hS).2.2
        have HLV := Aside0.mk (fun W (h : Kd.C Kd.string W A8 X.length X) => leaves_c A8 c8 X W (by have := HXL.out; have := HL.out; omega) (fun z hz => by have := HSM.out z hz; omega) h)
        rw [HXL.out] at HLV hC ⊢
        have HC := Aside0.mk hC
        have OW2 := Aside0.mk (below_step HB.out hB)
        clear hB hS hC HY HB
        go_wp2_with (first
          | (go_at_call 17; (with_reducible refine (HLV.out _ HC.out).mono ?_); rintro e wz ⟨v4, rfl, hr4, hB⟩; obtain ⟨A7, c7, rfl, h8, hC8⟩ := Kd.R_reads hr4; have C8 := Aside0.mk hC8; have H8 := Aside0.mk h8; have n_ := Aside0.mk (below_step OW2.out hB); clear OW2 hB hr4 h8 hC8; have OW2 := n_; clear n_)
          | (go_at_call 36; go_loud ((with_reducible refine (rfroot_c 100000 A7 c7 (leavesF X) _ (by have := HXL.out; have := HL.out; unfold leavesF; rw [List.length_map]; omega) (by have := HXL.out; have := HL.out; unfold leavesF; rw [List.length_map]; omega) (leaves_sm X) H8.out C8.out).mono ?_); rintro e wz ⟨rfl, hB⟩; rw [HQ.out]; have n_ := Aside0.mk (below_step OW2.out hB); clear OW2 hB; have OW2 := n_; clear n_)))
        go_ret
        exact ⟨rfl, OW2.out⟩
      · have hfg := HRD.out.ends (by have := HL.out; omega) HLB.out hnx
        subst hfg
        refine (leaves_no HI.out hnx).mono ?_
        rintro e wv ⟨rfl, hB⟩
        have OW2 := Aside0.mk (below_step HB.out hB)
        clear hB hnx HI HRD HB
        go_wp2_with fail
        go_ret
        exact ⟨rfl, OW2.out⟩
theorem u16_wf {a : Int} (h : (Lit.int .u16 a).wf = true) : 0 ≤ a ∧ a ≤ 65535 := by
  simp [Lit.wf, IntKind.min, IntKind.max, IntKind.bits, IntKind.signed] at h
  omega
theorem law_bad (A A2 : Option Addr) (c c2 : Nat) (l : List ByteArray) (L : List (Int × Int)) (w : World) (hc : l.length ≤ c) (hr : Kd.C Kd.string w A l.length l) (hr2 : K2.C w A2 L.length L) (hLw : ∀ z ∈ L, (Lit.int .u16 z.1).wf = true ∧ (Lit.int .u16 z.2).wf = true) :
    Calls Try.prog 13 #[.slice A l.length c, .slice A2 L.length c2] w fun e w' => e = .returned (.bool true) ∧ Below w.heap.size w w' := by
  cases hb : fewB l 40 40 with
  | false => exact bad_off A A2 c c2 l L w hr (.inl hb)
  | true =>
    by_cases h6 : 60 < L.length
    · exact bad_off A A2 c c2 l L w hr (.inr h6)
    · exact bad_main A A2 c c2 l L w hc hr hr2 (fun z hz => ⟨(u16_wf (hLw z hz).1).1, (u16_wf (hLw z hz).1).2, (u16_wf (hLw z hz).2).1, (u16_wf (hLw z hz).2).2⟩) hb (by omega)
end Go.Proofs.Ytondnammkcgjpaa.Ft
namespace Go.Proofs.Ytondnammkcgjpaa.fetchBad
open Go.ChangeShapes Go.WideShapes Go.ChangeAt Go.RowKit
open Go.ChangeMaps (open_string shut_string)
open Go.Proofs.Ytondnammkcgjpaa Go.Proofs.YtondnammkcgjpaaOpens Go.Proofs.YtondnammkcgjpaaW.PrintWords
theorem own : ownKnob Try.prog.godebug = none := by kernel_rfl
theorem laidOut : laidOutB Try.prog = true := by kernel_rfl
theorem lifted (os : Os) (started : os.Started) (H : Type) (enc : TypeId × Value → H) :
    ReturnsInHanded {} Try.checked os 13 .any (Rows.fetchBadSpec.pre6 enc Try.prog Try.f13 Rows.fetchBadRow.domain false) (Rows.fetchBadSpec.post enc Try.prog Try.f13 false true false false) := by
  refine returnsInHanded_of_change_sized (C := Try.checked) own started (by kernel_rfl) Try.func13
    (ChangeSpec.witness6 (enc := enc) (C := Try.checked) false ⟨#[], #[.slice none 0 0, .slice none 0 0], []⟩ 8 (by kernel_rfl) (by kernel_rfl) (by kernel_rfl) (by kernel_rfl)) ?_
  intro W base args ds gs before hval0 hW hcnd hsz0 _
  have hsz : (DataW.weightsEach Try.prog (Try.f13.params.toList ++ Rows.fetchBadSpec.plain.varTypes Try.prog) (ds ++ gs)).all (· ≤ reachBytes) = true := hsz0
  have hval : ∀ (j : Nat) t v, Try.f13.params[j]? = some t → args[j]? = some v → Value.okWide Try.prog W .any base t v := hval0
  have hW' := hW
  obtain ⟨p, q, hA0, hV, rfl, hfz, hnd⟩ := hW
  have hA : DataW.TrodAll enc Try.prog W 0 (fun _ => true) true Try.f13.params.toList args.toList ds p := hA0
  rw [Try.params13] at hA hval hsz
  obtain ⟨v0, vs0, d0, ds0, p0, q0, hargs, rfl, rfl, h0, r0⟩ := trodAll_cons hA
  obtain ⟨v1, vs1, d1, ds1, p1, q1, rfl, rfl, rfl, h1, r1⟩ := trodAll_cons r0
  obtain ⟨rfl, rfl, rfl⟩ := trodAll_nil r1
  obtain rfl : args = #[v0, v1] := by cases args; simp_all
  obtain ⟨rfl, rfl⟩ := trodVars_none hV
  have k0 := h0
  have lt0 : ∀ x ∈ p0, x.block < W.heap.size := by obtain ⟨m, hm⟩ := k0; exact DataW.trod_lt m _ _ _ hm
  obtain ⟨A0, c0, l0, rfl, hl0, hm0, hC0, hq0⟩ := arg_slice Try.underlying22 (by kernel_rfl) (reads_string Try.underlying9) (hval 0 22 v0 rfl rfl) h0
  have k1 := h1
  have lt1 : ∀ x ∈ p1, x.block < W.heap.size := by obtain ⟨m, hm⟩ := k1; exact DataW.trod_lt m _ _ _ hm
  obtain ⟨A1, c1, l1, rfl, hl1, hm1, hC1, hq1⟩ := arg_slice Try.underlying82 (by kernel_rfl) (Go.Proofs.Ytondnammkcgjpaa.Ft.reads_two Try.underlying85 Try.underlying84 (by kernel_rfl) (by kernel_rfl)) (hval 1 82 v1 rfl rfl) h1
  clear hA0 hval0 hsz0 hsz
  refine (Go.Proofs.Ytondnammkcgjpaa.Ft.law_bad A0 A1 c0 c1 l0 l1 W hl0 hC0 hC1 hq1).mono fun e W' ⟨he, bel⟩ => ?_
  subst he
  exact ⟨_, rfl, _, _, _, [], _, [], hW', trodAll_mk1 (shut_bool Try.underlying4 _), (trodAll_cons_mk (Below.trod laidOut (by kernel_rfl) (of_decide_eq_true (by kernel_rfl)) k0 bel lt0) (trodAll_cons_mk (Below.trod laidOut (by kernel_rfl) (of_decide_eq_true (by kernel_rfl)) k1 bel lt1) trodAll_mk0)), rfl, bel.frame _, fun h => by cases h⟩
theorem over : Rows.fetchBadRow.holds Try.pinned (OpenSpec.ofChange Rows.fetchBadSpec) :=
  OpenClaim.holds_of_wide 13 Try.f13 rfl rfl rfl rfl rfl rfl rfl ⟨rfl, rfl, rfl, rfl, rfl⟩ rfl rfl rfl rfl rfl (by kernel_rfl) Try.func13 (by kernel_rfl)
    (of_decide_eq_true (by kernel_rfl)) (by unfold Func.isWrapper; first | (rw [if_pos (by decide +kernel)]; kernel_rfl) | (rw [if_neg (by decide +kernel)]; exact ⟨rfl, rfl⟩))
    (fun os started H enc _ => lifted os started H enc)
theorem proved : Rows.FetchBadSaid := over
#print axioms proved
end Go.Proofs.Ytondnammkcgjpaa.fetchBad
namespace Go.Proofs.Ytondnammkcgjpaa
theorem fetchBad_holds : Rows.FetchBadSaid := fetchBad.proved
end Go.Proofs.Ytondnammkcgjpaa
