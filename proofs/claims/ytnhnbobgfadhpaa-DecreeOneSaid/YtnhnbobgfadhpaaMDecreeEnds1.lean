/- Here is proved: a place that some nodes decide, as plain lists and maps, and what always holds of it: all values that are, or have been, chosen are one. Conditions: none. -/
import Derived.Maps.OwnSet
import Derived.Maps.RangeRun
import Derived.RowKit3
import Derived.Test.YtnhnbobgfadhpaaProg
import Derived.Below
import Derived.Deep.Draws
import Derived.Deep.AppendLies
import Derived.Maps.AppendAt
import Derived.OwnWalk
import Derived.Laws.BytesArg
import Derived.Laws.MakeOwn
import Derived.Laws.OwnMore
import Derived.Deep.OwnRows
import Derived.Tactics
import Derived.Lib.ConvBytes
import Derived.Laws.Slices
import Derived.WalkKit
import Derived.KernelRfl
import Derived.Deep.LoopGhost
import Derived.Deep.QuietTactic
import Derived.BigQuiet
import Derived.WideLaws
import Derived.Deep.DeepCutAuto
import Derived.Deep.CutBlock
import Derived.Deep.RegionHeld3
import Derived.Laws.Rows
import Derived.Lib.AppendStr
import Derived.ArgAppend
import Derived.Laws.IdiomCopy
import Derived.OrdersHeld
import Derived.Laws.BitsLemmas
import Derived.RowKit
import Derived.Test.YtnhnbobgfadhpaaWWords
import Derived.Test.YtnhnbobgfadhpaaWLast
import Derived.Test.YtnhnbobgfadhpaaWTab
import Derived.Test.YtnhnbobgfadhpaaWFour
import Derived.Test.YtnhnbobgfadhpaaWQPut
import Derived.Test.YtnhnbobgfadhpaaWApart
import Derived.Test.YtnhnbobgfadhpaaWArr
import Derived.Test.YtnhnbobgfadhpaaWZeros
import Derived.Test.YtnhnbobgfadhpaaWFoot
import Derived.Test.YtnhnbobgfadhpaaWKept
import Derived.Test.YtnhnbobgfadhpaaWShare
import Derived.Test.YtnhnbobgfadhpaaWN
import Derived.Test.YtnhnbobgfadhpaaWFootNe
import Derived.Test.YtnhnbobgfadhpaaWAt
import Derived.Test.YtnhnbobgfadhpaaWEqStruct
import Derived.Test.YtnhnbobgfadhpaaWRepsOne
import Derived.Test.YtnhnbobgfadhpaaWInv
import Derived.Test.YtnhnbobgfadhpaaWInvWords
import Derived.Test.YtnhnbobgfadhpaaWGuard
import Derived.Test.YtnhnbobgfadhpaaWNEv
import Derived.Test.YtnhnbobgfadhpaaWMore
import Derived.Lib.AtoiErrMem
import Derived.Deep.RegionLaw
import Derived.RegionTactic
import Derived.ChangeAlike
import Derived.BigRegion
import Derived.Deep.RegionWith
import Derived.StillTailTactics
import Derived.LoopTactic
import Derived.Lib.Hide
import Derived.IntWalk
import Derived.WalkLawsBesides
import Derived.WalkSpells
namespace Go.Proofs.Ytnhnbobgfadhpaa.Dec
set_option linter.unusedVariables false
/-- how many of the first n nodes are in a set -/
def cn (x : Nat) : Nat → Nat
  | 0 => 0
  | n + 1 => cn x n + (x.testBit n).toNat
/-- a majority of n nodes -/
def enb (x n : Nat) : Bool := decide (n / 2 + 1 ≤ cn x n)
def bput (s i : Nat) : Nat := s ||| 2 ^ i
theorem bput_bit (s i j : Nat) : (bput s i).testBit j = (s.testBit j || decide (i = j)) := by
  unfold bput; rw [Nat.testBit_or, Nat.testBit_two_pow]
theorem bput_self (s i : Nat) : (bput s i).testBit i = true := by rw [bput_bit]; simp
theorem bput_old {s i j : Nat} (h : s.testBit j = true) : (bput s i).testBit j = true := by rw [bput_bit, h]; rfl
theorem bput_cases {s i j : Nat} (h : (bput s i).testBit j = true) : s.testBit j = true ∨ i = j := by
  rw [bput_bit] at h
  cases hs : s.testBit j with
  | true => exact .inl rfl
  | false => rw [hs] at h; exact .inr (of_decide_eq_true (by simpa using h))
theorem cn_apart (a b : Nat) : ∀ n, (∀ i, i < n → ¬ (a.testBit i = true ∧ b.testBit i = true)) → cn a n + cn b n ≤ n
  | 0, _ => Nat.le_refl _
  | n + 1, h => by
    have h1 := cn_apart a b n (fun i hi => h i (by omega))
    have h2 := h n (by omega)
    unfold cn
    cases ha : a.testBit n <;> cases hb : b.testBit n <;> simp_all <;> omega
theorem enb_share {a b n : Nat} (ha : enb a n = true) (hb : enb b n = true) : ∃ i, i < n ∧ a.testBit i = true ∧ b.testBit i = true := by
  have h1 := of_decide_eq_true ha
  have h2 := of_decide_eq_true hb
  apply Classical.byContradiction
  intro h
  have h3 := cn_apart a b n (fun i hi hh => h ⟨i, hi, hh⟩)
  omega
theorem cn_le {a b : Nat} : ∀ n, (∀ i, i < n → a.testBit i = true → b.testBit i = true) → cn a n ≤ cn b n
  | 0, _ => Nat.le_refl _
  | n + 1, h => by
    have h1 := cn_le n (fun i hi => h i (by omega))
    have h2 := h n (by omega)
    unfold cn
    cases ha : a.testBit n with
    | false => simp; omega
    | true => rw [h2 ha]; simp; omega
theorem enb_le {a b n : Nat} (h : ∀ i, i < n → a.testBit i = true → b.testBit i = true) (ha : enb a n = true) : enb b n = true := by
  have h1 := of_decide_eq_true ha
  have h2 := cn_le n h
  exact decide_eq_true (by omega)

/-- a node's slot -/
structure Sl where
  pr : Int
  bal : Int
  val : ByteArray
/-- a letter -/
structure Lt where
  kd : Int
  fr : Int
  dst : Int
  bal : Int
  acc : Int
  val : ByteArray
/-- a proposal -/
structure Pp where
  b : Int
  ph : Int
  v : ByteArray
  best : Int
  fd : ByteArray
  pr : Nat
  tk : Nat
/-- the place -/
structure D where
  sl : List Sl
  pp : Int → Option Pp
  lt : List Lt
  bg : List ByteArray
  ch : List ByteArray
  tk : Int → Option (Nat × ByteArray)
def upd {α : Type} (f : Int → Option α) (k : Int) (v : Option α) : Int → Option α := fun x => if x = k then v else f x
theorem upd_self {α : Type} (f : Int → Option α) (k : Int) (v : Option α) : upd f k v k = v := if_pos rfl
theorem upd_ne {α : Type} (f : Int → Option α) {k x : Int} (v : Option α) (h : x ≠ k) : upd f k v x = f x := if_neg h
def e0 : ByteArray := ⟨#[]⟩
def fresh (b : Int) (v : ByteArray) : Pp := ⟨b, 1, v, 0, e0, 0, 0⟩
def allTo (n : Nat) (x : Lt) : List Lt := (List.range n).map fun (i : Nat) => { x with dst := (i : Int) }
def nextB (d : D) (who : Int) : Int := 8 * ((d.bg.length : Int) + 1) + who
def beginD (d : D) (who : Int) (v : ByteArray) : D :=
  if (d.bg.length : Int) ≥ 268435454 then d
  else { d with bg := d.bg ++ [v], pp := upd d.pp (nextB d who) (some (fresh (nextB d who) v)), lt := d.lt ++ allTo d.sl.length ⟨0, who, 0, nextB d who, 0, e0⟩ }
/-- a ballot that may be -/
def isB (b : Int) : Prop := 1 ≤ b ∧ b ≤ 2147483647
instance (b : Int) : Decidable (isB b) := inferInstanceAs (Decidable (_ ∧ _))
def sl0 : Sl := ⟨0, 0, e0⟩
def slot (d : D) (i : Int) : Sl := d.sl.getD i.toNat sl0
def promD (d : D) (x : Lt) : D :=
  if isB x.bal ∧ (slot d x.dst).pr < x.bal then { d with sl := d.sl.set x.dst.toNat { slot d x.dst with pr := x.bal }, lt := d.lt ++ [⟨1, x.dst, x.fr, x.bal, (slot d x.dst).bal, (slot d x.dst).val⟩] } else d
def whoOf (d : D) (b : Int) : Nat := match d.tk b with | some h => h.1 | none => 0
def accD (d : D) (x : Lt) : D :=
  if isB x.bal ∧ (slot d x.dst).pr ≤ x.bal then { d with sl := d.sl.set x.dst.toNat ⟨x.bal, x.bal, x.val⟩, tk := upd d.tk x.bal (some (bput (whoOf d x.bal) x.dst.toNat, x.val)), lt := d.lt ++ [⟨3, x.dst, x.fr, x.bal, 0, e0⟩] } else d
def cnts (n : Nat) (ph : Int) (p : Pp) (fr bal : Int) (had : Nat) : Prop := p.ph = ph ∧ bal = p.b ∧ 0 ≤ fr ∧ fr < n ∧ had.testBit fr.toNat = false
instance (n : Nat) (ph : Int) (p : Pp) (fr bal : Int) (had : Nat) : Decidable (cnts n ph p fr bal had) := inferInstanceAs (Decidable (_ ∧ _ ∧ _ ∧ _ ∧ _))
def best' (p : Pp) (acc : Int) : Int := if acc > p.best then acc else p.best
def fd' (p : Pp) (acc : Int) (val : ByteArray) : ByteArray := if acc > p.best then val else p.fd
def promP (n : Nat) (p : Pp) (fr bal acc : Int) (val : ByteArray) : Bool × Pp :=
  if cnts n 1 p fr bal p.pr then
    if enb (bput p.pr fr.toNat) n = true then (true, { p with ph := 2, v := if best' p acc > 0 then fd' p acc val else p.v, best := best' p acc, fd := fd' p acc val, pr := bput p.pr fr.toNat })
    else (false, { p with best := best' p acc, fd := fd' p acc val, pr := bput p.pr fr.toNat })
  else (false, p)
def accP (n : Nat) (p : Pp) (fr bal : Int) : Bool × Pp :=
  if cnts n 2 p fr bal p.tk then
    if enb (bput p.tk fr.toNat) n = true then (true, { p with ph := 3, tk := bput p.tk fr.toNat }) else (false, { p with tk := bput p.tk fr.toNat })
  else (false, p)
def tellD (d : D) (x : Lt) : D :=
  match d.pp x.bal with
  | none => d
  | some p =>
    if x.kd = 1 then
      { d with pp := upd d.pp x.bal (some (promP d.sl.length p x.fr x.bal x.acc x.val).2), lt := d.lt ++ (if (promP d.sl.length p x.fr x.bal x.acc x.val).1 = true then allTo d.sl.length ⟨2, x.dst, 0, x.bal, 0, (promP d.sl.length p x.fr x.bal x.acc x.val).2.v⟩ else []) }
    else
      { d with pp := upd d.pp x.bal (some (accP d.sl.length p x.fr x.bal).2), ch := d.ch ++ (if (accP d.sl.length p x.fr x.bal).1 = true then [(accP d.sl.length p x.fr x.bal).2.v] else []) }
def readD (d : D) (x : Lt) : D := if x.kd = 0 then promD d x else if x.kd = 2 then accD d x else tellD d x
def forgD (d : D) (who : Int) : D := { d with pp := fun b => match d.pp b with | none => none | some p => if Int.tmod b 8 = who ∧ p.ph ≠ 3 then none else some p }
/-- a step -/
structure St where
  kd : Int
  who : Int
  n : Int
  val : ByteArray
def md (n m : Int) : Int := Int.tmod (Int.tmod n m + m) m
def doD (d : D) (s : St) : D :=
  if s.kd = 0 then beginD d (md s.who d.sl.length) s.val
  else if s.kd = 4 then forgD d (md s.who d.sl.length)
  else if s.kd = 1 ∨ s.kd = 2 ∨ s.kd = 3 then
    match d.lt[(md s.n d.lt.length).toNat]? with
    | none => d
    | some x =>
      if s.kd = 3 then { d with lt := d.lt ++ [x] }
      else if s.kd = 1 then readD { d with lt := d.lt.eraseIdx (md s.n d.lt.length).toNat } x
      else { d with lt := d.lt.eraseIdx (md s.n d.lt.length).toNat }
  else d
def newD (n : Nat) : D := ⟨List.replicate n sl0, fun _ => none, [], [], [], fun _ => none⟩

-- what always holds
/-- node a has accepted ballot c -/
def A (d : D) (a : Nat) (c : Int) : Prop := ∃ h, d.tk c = some h ∧ h.1.testBit a = true
/-- node a has promised ballot b, or a higher one -/
def High (d : D) (a : Nat) (b : Int) : Prop := ∃ s, d.sl[a]? = some s ∧ b ≤ s.pr
abbrev Vs := Int → Option ByteArray
def Told (d : D) (V : Vs) (a : Nat) (b acc : Int) (val : ByteArray) : Prop :=
  High d a b ∧ 0 ≤ acc ∧ (acc = 0 ∨ (acc < b ∧ V acc = some val)) ∧ ∀ c, acc < c → c < b → ¬ A d a c
def LtOK (n : Nat) (d : D) (V : Vs) (x : Lt) : Prop :=
  0 ≤ x.fr ∧ x.fr < n ∧ 0 ≤ x.dst ∧ x.dst < n ∧ (x.kd = 0 ∨ (x.kd = 1 ∧ Told d V x.fr.toNat x.bal x.acc x.val) ∨ (x.kd = 2 ∧ V x.bal = some x.val) ∨ (x.kd = 3 ∧ A d x.fr.toNat x.bal))
def PpOK (n : Nat) (d : D) (V : Vs) (b : Int) (p : Pp) : Prop :=
  p.b = b ∧ p.v ∈ d.bg ∧
  ((p.ph = 1 ∧ V b = none ∧ p.tk = 0 ∧ 0 ≤ p.best ∧ (p.best = 0 ∨ (p.best < b ∧ V p.best = some p.fd)) ∧ ∀ a, p.pr.testBit a = true → High d a b ∧ ∀ c, p.best < c → c < b → ¬ A d a c) ∨
   ((p.ph = 2 ∨ p.ph = 3) ∧ V b = some p.v ∧ ∀ a, p.tk.testBit a = true → A d a b))
def VOK (n : Nat) (d : D) (V : Vs) (b : Int) (v : ByteArray) : Prop :=
  v ∈ d.bg ∧ ∃ Q : Nat, ∃ c : Int, enb Q n = true ∧ 0 ≤ c ∧ c < b ∧ (c = 0 ∨ V c = some v) ∧ ∀ a, a < n → Q.testBit a = true → High d a b ∧ ∀ c', c < c' → c' < b → ¬ A d a c'
structure Inv (n : Nat) (d : D) (V : Vs) : Prop where
  n0 : d.sl.length = n
  tkV : ∀ c h, d.tk c = some h → V c = some h.2
  slA : ∀ a s, d.sl[a]? = some s → 0 ≤ s.bal ∧ s.bal ≤ s.pr ∧ (s.bal = 0 ∨ V s.bal = some s.val) ∧ ∀ c, A d a c → c ≤ s.bal
  lts : ∀ x, x ∈ d.lt → LtOK n d V x
  pps : ∀ b p, d.pp b = some p → PpOK n d V b p
  vok : ∀ b v, V b = some v → VOK n d V b v
  cho : ∀ v, v ∈ d.ch → ∃ b h, V b = some v ∧ d.tk b = some h ∧ enb h.1 n = true
  frs : ∀ b, (V b ≠ none ∨ d.pp b ≠ none) → 0 < b ∧ b < 8 * ((d.bg.length : Int) + 1)
/-- how a step may turn it -/
structure Ext (d : D) (V : Vs) (d' : D) (V' : Vs) : Prop where
  bg : ∀ v, v ∈ d.bg → v ∈ d'.bg
  vs : ∀ b v, V b = some v → V' b = some v
  hi : ∀ a b, High d a b → High d' a b
  am : ∀ a c, A d a c → A d' a c
  an : ∀ a c b, High d a b → c < b → ¬ A d a c → ¬ A d' a c
variable {n : Nat} {d d' : D} {V V' : Vs}
theorem Ext.refl (d : D) (V : Vs) : Ext d V d V := ⟨fun _ h => h, fun _ _ h => h, fun _ _ h => h, fun _ _ h => h, fun _ _ _ _ _ h => h⟩
/-- nothing of slots and of what is accepted is otherwise -/
theorem Ext.same (hs : d'.sl = d.sl) (ht : d'.tk = d.tk) (hb : ∀ v, v ∈ d.bg → v ∈ d'.bg) (hv : ∀ b v, V b = some v → V' b = some v) : Ext d V d' V' := by
  have hA : ∀ a c, A d' a c ↔ A d a c := fun a c => by unfold A; rw [ht]
  exact ⟨hb, hv, fun a b ⟨s, h1, h2⟩ => ⟨s, by rw [hs]; exact h1, h2⟩, fun a c h => (hA a c).2 h, fun a c b _ _ h hh => h ((hA a c).1 hh)⟩
theorem Told.ext {a : Nat} {b acc : Int} {val : ByteArray} (h : Told d V a b acc val) (e : Ext d V d' V') : Told d' V' a b acc val :=
  ⟨e.hi _ _ h.1, h.2.1, h.2.2.1.imp id (fun k => ⟨k.1, e.vs _ _ k.2⟩), fun c h1 h2 => e.an _ _ _ h.1 h2 (h.2.2.2 c h1 h2)⟩
theorem LtOK.ext {x : Lt} (h : LtOK n d V x) (e : Ext d V d' V') : LtOK n d' V' x := by
  obtain ⟨h1, h2, h3, h4, h5⟩ := h
  refine ⟨h1, h2, h3, h4, ?_⟩
  rcases h5 with h | ⟨h, k⟩ | ⟨h, k⟩ | ⟨h, k⟩
  · exact .inl h
  · exact .inr (.inl ⟨h, k.ext e⟩)
  · exact .inr (.inr (.inl ⟨h, e.vs _ _ k⟩))
  · exact .inr (.inr (.inr ⟨h, e.am _ _ k⟩))
theorem VOK.ext {b : Int} {v : ByteArray} (h : VOK n d V b v) (e : Ext d V d' V') : VOK n d' V' b v := by
  obtain ⟨h1, Q, c, h2, h3, h4, h5, h6⟩ := h
  exact ⟨e.bg _ h1, Q, c, h2, h3, h4, h5.imp id (e.vs _ _), fun a ha hq => ⟨e.hi _ _ (h6 a ha hq).1, fun c' k1 k2 => e.an _ _ _ (h6 a ha hq).1 k2 ((h6 a ha hq).2 c' k1 k2)⟩⟩
theorem PpOK.ext {b : Int} {p : Pp} (h : PpOK n d V b p) (e : Ext d V d' V') (hn : V b = none → V' b = none) : PpOK n d' V' b p := by
  obtain ⟨h1, h2, h3⟩ := h
  refine ⟨h1, e.bg _ h2, ?_⟩
  rcases h3 with ⟨k1, k2, k3, k4, k5, k6⟩ | ⟨k1, k2, k3⟩
  · exact .inl ⟨k1, hn k2, k3, k4, k5.imp id (fun k => ⟨k.1, e.vs _ _ k.2⟩), fun a ha => ⟨e.hi _ _ (k6 a ha).1, fun c q1 q2 => e.an _ _ _ (k6 a ha).1 q2 ((k6 a ha).2 c q1 q2)⟩⟩
  · exact .inr ⟨k1, e.vs _ _ k2, fun a ha => e.am _ _ (k3 a ha)⟩
theorem Inv.pos (h : Inv n d V) {a : Nat} {c : Int} (hA : A d a c) : 0 < c := by
  obtain ⟨x, h1, _⟩ := hA
  exact (h.frs c (.inl (by rw [h.tkV c x h1]; simp))).1
theorem allTo_mem {x y : Lt} {n : Nat} (h : y ∈ allTo n x) : ∃ i : Nat, i < n ∧ y = { x with dst := (i : Int) } := by
  obtain ⟨i, h1, h2⟩ := List.mem_map.1 h
  exact ⟨i, List.mem_range.1 h1, h2.symm⟩
/-- letters alone -/
theorem Inv.letters (h : Inv n d V) (l : List Lt) (hl : ∀ x, x ∈ l → LtOK n d V x) : Inv n { d with lt := l } V := by
  have e : Ext d V { d with lt := l } V := Ext.same rfl rfl (fun _ h => h) (fun _ _ h => h)
  exact ⟨h.n0, h.tkV, h.slA, fun x hx => (hl x hx).ext e, fun b p hp => (h.pps b p hp).ext e id, fun b v hv => (h.vok b v hv).ext e, h.cho, h.frs⟩
theorem Inv.begin (h : Inv n d V) (who : Int) (v : ByteArray) (h0 : 0 ≤ who) (h1 : who < n) (hn : n ≤ 8) : Inv n (beginD d who v) V := by
  unfold beginD
  split
  · exact h
  · obtain ⟨b, hb⟩ : ∃ b, nextB d who = b := ⟨_, rfl⟩
    rw [hb]
    have hbn : b = 8 * ((d.bg.length : Int) + 1) + who := hb.symm
    have hf : V b = none := by
      cases hv : V b with
      | none => rfl
      | some v => have := (h.frs b (.inl (by rw [hv]; simp))).2; omega
    generalize hd : D.mk d.sl (upd d.pp b (some (fresh b v))) (d.lt ++ allTo d.sl.length ⟨0, who, 0, b, 0, e0⟩) (d.bg ++ [v]) d.ch d.tk = d'
    have e : Ext d V d' V := by subst hd; exact Ext.same rfl rfl (fun _ h => List.mem_append_left _ h) (fun _ _ h => h)
    have hA : ∀ a c, A d' a c → A d a c := fun a c k => by subst hd; exact k
    refine ⟨by rw [← hd]; exact h.n0, by rw [← hd]; exact h.tkV, fun a s hs => ?_, fun x hx => ?_, fun b' p hp => ?_, fun b' v' hv => (h.vok b' v' hv).ext e, by rw [← hd]; exact h.cho, fun b' hb' => ?_⟩
    · rw [← hd] at hs
      obtain ⟨q1, q2, q3, q4⟩ := h.slA a s hs
      exact ⟨q1, q2, q3, fun c hc => q4 c (hA a c hc)⟩
    · rw [← hd] at hx
      rcases List.mem_append.1 hx with hx | hx
      · exact (h.lts x hx).ext e
      · obtain ⟨i, hi, rfl⟩ := allTo_mem hx
        rw [h.n0] at hi
        exact ⟨h0, h1, Int.natCast_nonneg i, (by show (i : Int) < n; omega), .inl rfl⟩
    · rw [← hd] at hp
      have hp : upd d.pp b (some (fresh b v)) b' = some p := hp
      by_cases hbb : b' = b
      · subst hbb
        rw [upd_self] at hp
        cases hp
        refine ⟨rfl, by rw [← hd]; exact List.mem_append_right _ (List.mem_singleton.2 rfl), .inl ⟨rfl, hf, rfl, Int.le_refl 0, .inl rfl, fun a ha => ?_⟩⟩
        rw [show (fresh b' v).pr = 0 from rfl, Nat.zero_testBit] at ha
        cases ha
      · rw [upd_ne _ _ hbb] at hp
        exact (h.pps b' p hp).ext e id
    · have hl : d'.bg.length = d.bg.length + 1 := by rw [← hd]; exact List.length_append
      rw [hl]
      by_cases hbb : b' = b
      · subst hbb; omega
      · have : V b' ≠ none ∨ d.pp b' ≠ none := by
          rcases hb' with k | k
          · exact .inl k
          · refine .inr ?_
            rw [← hd] at k
            have k : upd d.pp b (some (fresh b v)) b' ≠ none := k
            rwa [upd_ne _ _ hbb] at k
        have := h.frs b' this
        omega
theorem slot_get (h : d.sl.length = n) {i : Int} (h0 : 0 ≤ i) (h1 : i < n) : d.sl[i.toNat]? = some (slot d i) := by
  have hlt : i.toNat < d.sl.length := by omega
  unfold slot
  rw [List.getD_eq_getElem?_getD, List.getElem?_eq_getElem hlt]; rfl
theorem Inv.prom (h : Inv n d V) (x : Lt) (hx : LtOK n d V x) (hk : x.kd = 0) : Inv n (promD d x) V := by
  obtain ⟨f0, f1, t0, t1, _⟩ := hx
  unfold promD
  split
  case isFalse => exact h
  case isTrue hc =>
  obtain ⟨hB, hlt⟩ := hc
  have hg := slot_get h.n0 t0 t1
  obtain ⟨s, hs⟩ : ∃ s, slot d x.dst = s := ⟨_, rfl⟩
  rw [hs] at hlt hg ⊢
  obtain ⟨q1, q2, q3, q4⟩ := h.slA _ s hg
  obtain ⟨i, hi⟩ : ∃ i, x.dst.toNat = i := ⟨_, rfl⟩
  rw [hi] at hg q4 ⊢
  have hin : i < d.sl.length := (List.getElem?_eq_some_iff.1 hg).1
  generalize hd : D.mk (d.sl.set i { s with pr := x.bal }) d.pp (d.lt ++ [⟨1, x.dst, x.fr, x.bal, s.bal, s.val⟩]) d.bg d.ch d.tk = d'
  have hA : ∀ a c, A d' a c ↔ A d a c := fun a c => by subst hd; exact Iff.rfl
  have hnew : d'.sl[i]? = some { s with pr := x.bal } := by rw [← hd]; exact List.getElem?_set_self hin
  have hold : ∀ a, i ≠ a → d'.sl[a]? = d.sl[a]? := fun a ha => by rw [← hd]; exact List.getElem?_set_ne ha
  have hhi : ∀ a b, High d a b → High d' a b := fun a b ⟨s', k1, k2⟩ => by
    by_cases ha : i = a
    · subst ha
      rw [hg] at k1; cases k1
      exact ⟨_, hnew, by show b ≤ x.bal; omega⟩
    · exact ⟨s', by rw [hold a ha]; exact k1, k2⟩
  have e : Ext d V d' V := ⟨fun v hv => by rw [← hd]; exact hv, fun _ _ k => k, hhi, fun a c k => (hA a c).2 k, fun a c b _ _ k kk => k ((hA a c).1 kk)⟩
  refine ⟨by rw [← hd]; show (d.sl.set _ _).length = n; rw [List.length_set]; exact h.n0, by rw [← hd]; exact h.tkV, fun a s' hs' => ?_, fun y hy => ?_, fun b p hp => ?_, fun b v hv => (h.vok b v hv).ext e, by rw [← hd]; exact h.cho, by rw [← hd]; exact h.frs⟩
  · by_cases ha : i = a
    · subst ha
      rw [hnew] at hs'; cases hs'
      exact ⟨q1, by show s.bal ≤ x.bal; omega, q3, fun c hc => q4 c ((hA _ c).1 hc)⟩
    · rw [hold a ha] at hs'
      obtain ⟨r1, r2, r3, r4⟩ := h.slA a s' hs'
      exact ⟨r1, r2, r3, fun c hc => r4 c ((hA _ c).1 hc)⟩
  · rw [← hd] at hy
    rcases List.mem_append.1 hy with hy | hy
    · exact (h.lts y hy).ext e
    · rw [List.mem_singleton.1 hy]
      refine ⟨t0, t1, f0, f1, .inr (.inl ⟨rfl, ?_⟩)⟩
      show Told d' V x.dst.toNat x.bal s.bal s.val
      rw [hi]
      refine ⟨⟨_, hnew, Int.le_refl _⟩, q1, ?_, fun c k1 k2 hAc => ?_⟩
      · rcases q3 with k | k
        · exact .inl k
        · exact .inr ⟨by omega, k⟩
      · have := q4 c ((hA _ c).1 hAc); omega
  · rw [← hd] at hp
    exact (h.pps b p hp).ext e id
theorem Inv.acc (h : Inv n d V) (x : Lt) (hx : LtOK n d V x) (hk : x.kd = 2) : Inv n (accD d x) V := by
  obtain ⟨f0, f1, t0, t1, h5⟩ := hx
  have hv : V x.bal = some x.val := by
    rcases h5 with k | ⟨k, _⟩ | ⟨_, k⟩ | ⟨k, _⟩
    · omega
    · omega
    · exact k
    · omega
  unfold accD
  split
  case isFalse => exact h
  case isTrue hc =>
  obtain ⟨hB, hle⟩ := hc
  have hg := slot_get h.n0 t0 t1
  obtain ⟨s, hs⟩ : ∃ s, slot d x.dst = s := ⟨_, rfl⟩
  rw [hs] at hle hg
  obtain ⟨q1, q2, q3, q4⟩ := h.slA _ s hg
  obtain ⟨i, hi⟩ : ∃ i, x.dst.toNat = i := ⟨_, rfl⟩
  rw [hi] at hg q4 ⊢
  have hin : i < d.sl.length := (List.getElem?_eq_some_iff.1 hg).1
  obtain ⟨W, hW⟩ : ∃ W, whoOf d x.bal = W := ⟨_, rfl⟩
  rw [hW]
  generalize hd : D.mk (d.sl.set i ⟨x.bal, x.bal, x.val⟩) d.pp (d.lt ++ [⟨3, x.dst, x.fr, x.bal, 0, e0⟩]) d.bg d.ch (upd d.tk x.bal (some (bput W i, x.val))) = d'
  have htk : d'.tk = upd d.tk x.bal (some (bput W i, x.val)) := by rw [← hd]
  have hA1 : ∀ a c, A d a c → A d' a c := fun a c ⟨z, k1, k2⟩ => by
    by_cases hcb : c = x.bal
    · subst hcb
      have : W = z.1 := by rw [← hW]; unfold whoOf; rw [k1]
      exact ⟨(bput W i, x.val), by rw [htk, upd_self], bput_old (by rw [this]; exact k2)⟩
    · exact ⟨z, by rw [htk, upd_ne _ _ hcb]; exact k1, k2⟩
  have hA2 : ∀ a c, A d' a c → A d a c ∨ (a = i ∧ c = x.bal) := fun a c ⟨z, k1, k2⟩ => by
    rw [htk] at k1
    by_cases hcb : c = x.bal
    · subst hcb
      rw [upd_self] at k1; cases k1
      rcases bput_cases k2 with k | k
      · refine .inl ?_
        cases ht : d.tk x.bal with
        | none => rw [← hW] at k; unfold whoOf at k; rw [ht] at k; rw [show (match (none : Option (Nat × ByteArray)) with | some h => h.1 | none => 0) = 0 from rfl, Nat.zero_testBit] at k; cases k
        | some y => rw [← hW] at k; unfold whoOf at k; rw [ht] at k; exact ⟨y, ht, k⟩
      · exact .inr ⟨k.symm, rfl⟩
    · rw [upd_ne _ _ hcb] at k1
      exact .inl ⟨z, k1, k2⟩
  have hAi : A d' i x.bal := ⟨(bput W i, x.val), by rw [htk, upd_self], bput_self _ _⟩
  have hnew : d'.sl[i]? = some ⟨x.bal, x.bal, x.val⟩ := by rw [← hd]; exact List.getElem?_set_self hin
  have hold : ∀ a, i ≠ a → d'.sl[a]? = d.sl[a]? := fun a ha => by rw [← hd]; exact List.getElem?_set_ne ha
  have hhi : ∀ a b, High d a b → High d' a b := fun a b ⟨s', k1, k2⟩ => by
    by_cases ha : i = a
    · subst ha
      rw [hg] at k1; cases k1
      exact ⟨_, hnew, by show b ≤ x.bal; omega⟩
    · exact ⟨s', by rw [hold a ha]; exact k1, k2⟩
  have e : Ext d V d' V := ⟨fun v hv => by rw [← hd]; exact hv, fun _ _ k => k, hhi, hA1, fun a c b ⟨s', k1, k2⟩ hcb hna hA => by
    rcases hA2 a c hA with k | ⟨rfl, rfl⟩
    · exact hna k
    · rw [hg] at k1; cases k1; omega⟩
  refine ⟨by rw [← hd]; show (d.sl.set _ _).length = n; rw [List.length_set]; exact h.n0, fun c z hz => ?_, fun a s' hs' => ?_, fun y hy => ?_, fun b p hp => ?_, fun b v hv => (h.vok b v hv).ext e, fun v hv' => ?_, by rw [← hd]; exact h.frs⟩
  · rw [htk] at hz
    by_cases hcb : c = x.bal
    · subst hcb; rw [upd_self] at hz; cases hz; exact hv
    · rw [upd_ne _ _ hcb] at hz; exact h.tkV c z hz
  · by_cases ha : i = a
    · subst ha
      rw [hnew] at hs'; cases hs'
      refine ⟨by show 0 ≤ x.bal; omega, Int.le_refl _, .inr hv, fun c hc => ?_⟩
      show c ≤ x.bal
      rcases hA2 _ c hc with k | ⟨_, rfl⟩
      · have := q4 c k; omega
      · exact Int.le_refl _
    · rw [hold a ha] at hs'
      obtain ⟨r1, r2, r3, r4⟩ := h.slA a s' hs'
      refine ⟨r1, r2, r3, fun c hc => ?_⟩
      rcases hA2 _ c hc with k | ⟨k, _⟩
      · exact r4 c k
      · exact absurd k.symm ha
  · rw [← hd] at hy
    rcases List.mem_append.1 hy with hy | hy
    · exact (h.lts y hy).ext e
    · rw [List.mem_singleton.1 hy]
      refine ⟨t0, t1, f0, f1, .inr (.inr (.inr ⟨rfl, ?_⟩))⟩
      show A d' x.dst.toNat x.bal
      rw [hi]; exact hAi
  · rw [← hd] at hp
    exact (h.pps b p hp).ext e id
  · rw [← hd] at hv'
    obtain ⟨b, z, k1, k2, k3⟩ := h.cho v hv'
    by_cases hcb : b = x.bal
    · subst hcb
      rw [hv] at k1; cases k1
      refine ⟨x.bal, (bput W i, x.val), hv, by rw [htk, upd_self], enb_le (fun a _ ha => bput_old ?_) k3⟩
      have : W = z.1 := by rw [← hW]; unfold whoOf; rw [k2]
      rw [this]; exact ha
    · exact ⟨b, z, k1, by rw [htk, upd_ne _ _ hcb]; exact k2, k3⟩
theorem Inv.tell (h : Inv n d V) (x : Lt) (hx : LtOK n d V x) (hk0 : x.kd ≠ 0) (hk2 : x.kd ≠ 2) : ∃ V', Inv n (tellD d x) V' ∧ ∀ b v, V b = some v → V' b = some v := by
  obtain ⟨f0, f1, t0, t1, h5⟩ := hx
  unfold tellD
  cases hp : d.pp x.bal with
  | none => exact ⟨V, h, fun _ _ k => k⟩
  | some p =>
    obtain ⟨p1, p2, p3⟩ := h.pps _ p hp
    have hfr := h.frs x.bal (.inr (by rw [hp]; simp))
    have hfi : ((x.fr.toNat : Nat) : Int) = x.fr := Int.toNat_of_nonneg f0
    by_cases hk : x.kd = 1
    · have hT : Told d V x.fr.toNat x.bal x.acc x.val := by
        rcases h5 with k | ⟨_, k⟩ | ⟨k, _⟩ | ⟨k, _⟩
        · omega
        · exact k
        · omega
        · omega
      show ∃ V', Inv n (if x.kd = 1 then _ else _) V' ∧ _
      rw [if_pos hk, h.n0]
      unfold promP
      by_cases hc : cnts n 1 p x.fr x.bal p.pr
      · rw [if_pos hc]
        obtain ⟨c1, _, _, _, c5⟩ := hc
        rcases p3 with ⟨k1, k2, k3, k4, k5, k6⟩ | ⟨k1, _⟩
        case inr => omega
        obtain ⟨B, hB⟩ : ∃ B, best' p x.acc = B := ⟨_, rfl⟩
        obtain ⟨F, hF⟩ : ∃ F, fd' p x.acc x.val = F := ⟨_, rfl⟩
        have hB0 : 0 ≤ B := by rw [← hB]; unfold best'; split <;> omega
        have hBge : p.best ≤ B ∧ x.acc ≤ B := by rw [← hB]; unfold best'; split <;> omega
        have hBV : B = 0 ∨ (B < x.bal ∧ V B = some F) := by
          rw [← hB, ← hF]; unfold best' fd'
          split
          · rcases hT.2.2.1 with k | k
            · omega
            · exact .inr k
          · exact k5
        have hpr : ∀ a, (bput p.pr x.fr.toNat).testBit a = true → High d a x.bal ∧ ∀ c, B < c → c < x.bal → ¬ A d a c := fun a ha => by
          rcases bput_cases ha with k | rfl
          · exact ⟨(k6 a k).1, fun c q1 q2 => (k6 a k).2 c (by omega) q2⟩
          · exact ⟨hT.1, fun c q1 q2 => hT.2.2.2 c (by omega) q2⟩
        rw [hB, hF]
        by_cases hE : enb (bput p.pr x.fr.toNat) n = true
        · rw [if_pos hE]
          obtain ⟨v, hv⟩ : ∃ v, (if B > 0 then F else p.v) = v := ⟨_, rfl⟩
          have hvb : v ∈ d.bg := by
            rw [← hv]
            split
            · rcases hBV with k | ⟨_, k⟩
              · omega
              · exact (h.vok B F k).1
            · exact p2
          rw [hv]
          simp only [if_true]
          generalize hd : D.mk d.sl (upd d.pp x.bal (some ⟨p.b, 2, v, B, F, bput p.pr x.fr.toNat, p.tk⟩)) (d.lt ++ allTo n ⟨2, x.dst, 0, x.bal, 0, v⟩) d.bg d.ch d.tk = d'
          have hvs : ∀ b v', V b = some v' → upd V x.bal (some v) b = some v' := fun b v' k => by
            by_cases hb : b = x.bal
            · subst hb; rw [k2] at k; cases k
            · rw [upd_ne _ _ hb]; exact k
          have e : Ext d V d' (upd V x.bal (some v)) := by subst hd; exact Ext.same rfl rfl (fun _ k => k) hvs
          have hA : ∀ a c, A d' a c ↔ A d a c := fun a c => by subst hd; exact Iff.rfl
          refine ⟨upd V x.bal (some v), ⟨by rw [← hd]; exact h.n0, fun c z hz => hvs _ _ (h.tkV c z (by rw [← hd] at hz; exact hz)), fun a s hs => ?_, fun y hy => ?_, fun b q hq => ?_, fun b w hw => ?_, fun w hw => ?_, fun b hb => ?_⟩, hvs⟩
          · rw [← hd] at hs
            obtain ⟨r1, r2, r3, r4⟩ := h.slA a s hs
            exact ⟨r1, r2, r3.imp id (hvs _ _), fun c hc => r4 c ((hA _ c).1 hc)⟩
          · rw [← hd] at hy
            rcases List.mem_append.1 hy with hy | hy
            · exact (h.lts y hy).ext e
            · obtain ⟨i, hi, rfl⟩ := allTo_mem hy
              exact ⟨t0, t1, Int.natCast_nonneg i, (by show (i : Int) < n; omega), .inr (.inr (.inl ⟨rfl, upd_self _ _ _⟩))⟩
          · rw [← hd] at hq
            have hq : upd d.pp x.bal _ b = some q := hq
            by_cases hb : b = x.bal
            · subst hb
              rw [upd_self] at hq; cases hq
              refine ⟨p1, by rw [← hd]; exact hvb, .inr ⟨.inl rfl, upd_self _ _ _, fun a ha => ?_⟩⟩
              rw [show (Pp.mk p.b 2 v B F (bput p.pr x.fr.toNat) p.tk).tk = 0 from k3, Nat.zero_testBit] at ha
              cases ha
            · rw [upd_ne _ _ hb] at hq
              exact (h.pps b q hq).ext e (fun k => by rw [upd_ne _ _ hb]; exact k)
          · by_cases hb : b = x.bal
            · subst hb
              rw [upd_self] at hw; cases hw
              refine ⟨by rw [← hd]; exact hvb, bput p.pr x.fr.toNat, B, hE, hB0, ?_, ?_, fun a _ ha => ⟨e.hi _ _ (hpr a ha).1, fun c q1 q2 k => (hpr a ha).2 c q1 q2 ((hA _ _).1 k)⟩⟩
              · rcases hBV with k | k
                · omega
                · exact k.1
              · rcases hBV with k | k
                · exact .inl k
                · refine .inr ?_
                  by_cases hh : B > 0
                  · have hvF : F = v := by rw [← hv, if_pos hh]
                    rw [← hvF]
                    rw [← hvF] at hvs
                    exact hvs _ _ k.2
                  · have hz : B = 0 := by omega
                    subst hz
                    have := (h.frs 0 (.inl (by rw [k.2]; simp))).1
                    omega
            · rw [upd_ne _ _ hb] at hw
              exact (h.vok b w hw).ext e
          · rw [← hd] at hw
            obtain ⟨b, z, q1, q2, q3⟩ := h.cho w hw
            exact ⟨b, z, hvs _ _ q1, by rw [← hd]; exact q2, q3⟩
          · rw [show d'.bg = d.bg by rw [← hd]]
            by_cases hbb : b = x.bal
            · rw [hbb]; exact hfr
            · refine h.frs b (hb.imp (fun k => by rwa [upd_ne _ _ hbb] at k) (fun k => ?_))
              rw [← hd] at k
              have k : upd d.pp x.bal _ b ≠ none := k
              rwa [upd_ne _ _ hbb] at k
        · rw [if_neg hE]
          simp only [Bool.false_eq_true, if_false, List.append_nil]
          generalize hd : D.mk d.sl (upd d.pp x.bal (some ⟨p.b, p.ph, p.v, B, F, bput p.pr x.fr.toNat, p.tk⟩)) d.lt d.bg d.ch d.tk = d'
          have e : Ext d V d' V := by subst hd; exact Ext.same rfl rfl (fun _ k => k) (fun _ _ k => k)
          have hA : ∀ a c, A d' a c ↔ A d a c := fun a c => by subst hd; exact Iff.rfl
          refine ⟨V, ⟨by rw [← hd]; exact h.n0, by rw [← hd]; exact h.tkV, by rw [← hd]; exact h.slA, fun y hy => (h.lts y (by rw [← hd] at hy; exact hy)).ext e, fun b q hq => ?_, fun b w hw => (h.vok b w hw).ext e, by rw [← hd]; exact h.cho, fun b hb => ?_⟩, fun _ _ k => k⟩
          · rw [← hd] at hq
            have hq : upd d.pp x.bal _ b = some q := hq
            by_cases hb : b = x.bal
            · subst hb
              rw [upd_self] at hq; cases hq
              exact ⟨p1, by rw [← hd]; exact p2, .inl ⟨k1, k2, k3, hB0, hBV, fun a ha => ⟨e.hi _ _ (hpr a ha).1, fun c q1 q2 k => (hpr a ha).2 c q1 q2 ((hA _ _).1 k)⟩⟩⟩
            · rw [upd_ne _ _ hb] at hq
              exact (h.pps b q hq).ext e id
          · rw [show d'.bg = d.bg by rw [← hd]]
            by_cases hbb : b = x.bal
            · rw [hbb]; exact hfr
            · refine h.frs b (hb.imp id (fun k => ?_))
              rw [← hd] at k
              have k : upd d.pp x.bal _ b ≠ none := k
              rwa [upd_ne _ _ hbb] at k
      · rw [if_neg hc]
        simp only [Bool.false_eq_true, if_false, List.append_nil]
        have e : upd d.pp x.bal (some p) = d.pp := funext fun b => by
          by_cases hb : b = x.bal
          · subst hb; rw [upd_self, hp]
          · rw [upd_ne _ _ hb]
        rw [e]
        exact ⟨V, h, fun _ _ k => k⟩
    · have hAc : A d x.fr.toNat x.bal := by
        rcases h5 with k | ⟨k, _⟩ | ⟨k, _⟩ | ⟨_, k⟩
        · omega
        · omega
        · omega
        · exact k
      show ∃ V', Inv n (if x.kd = 1 then _ else _) V' ∧ _
      rw [if_neg hk, h.n0]
      refine ⟨V, ?_, fun _ _ k => k⟩
      unfold accP
      by_cases hc : cnts n 2 p x.fr x.bal p.tk
      · rw [if_pos hc]
        obtain ⟨c1, _, _, _, c5⟩ := hc
        rcases p3 with ⟨k1, _⟩ | ⟨k1, k2, k3⟩
        case inl => omega
        have htk : ∀ a, (bput p.tk x.fr.toNat).testBit a = true → A d a x.bal := fun a ha => by
          rcases bput_cases ha with k | rfl
          · exact k3 a k
          · exact hAc
        by_cases hE : enb (bput p.tk x.fr.toNat) n = true
        · rw [if_pos hE]
          simp only [if_true]
          generalize hd : D.mk d.sl (upd d.pp x.bal (some ⟨p.b, 3, p.v, p.best, p.fd, p.pr, bput p.tk x.fr.toNat⟩)) d.lt d.bg (d.ch ++ [p.v]) d.tk = d'
          have e : Ext d V d' V := by subst hd; exact Ext.same rfl rfl (fun _ k => k) (fun _ _ k => k)
          refine ⟨by rw [← hd]; exact h.n0, by rw [← hd]; exact h.tkV, by rw [← hd]; exact h.slA, fun y hy => (h.lts y (by rw [← hd] at hy; exact hy)).ext e, fun b q hq => ?_, fun b w hw => (h.vok b w hw).ext e, fun w hw => ?_, fun b hb => ?_⟩
          · rw [← hd] at hq
            have hq : upd d.pp x.bal _ b = some q := hq
            by_cases hb : b = x.bal
            · subst hb
              rw [upd_self] at hq; cases hq
              exact ⟨p1, by rw [← hd]; exact p2, .inr ⟨.inr rfl, k2, fun a ha => e.am _ _ (htk a ha)⟩⟩
            · rw [upd_ne _ _ hb] at hq
              exact (h.pps b q hq).ext e id
          · rw [← hd] at hw
            rcases List.mem_append.1 hw with hw | hw
            · obtain ⟨b, z, q1, q2, q3⟩ := h.cho w hw
              exact ⟨b, z, q1, by rw [← hd]; exact q2, q3⟩
            · rw [List.mem_singleton.1 hw]
              obtain ⟨z, z1, z2⟩ := hAc
              refine ⟨x.bal, z, k2, by rw [← hd]; exact z1, enb_le (fun a _ ha => ?_) hE⟩
              obtain ⟨y, y1, y2⟩ := htk a ha
              rw [z1] at y1; cases y1; exact y2
          · rw [show d'.bg = d.bg by rw [← hd]]
            by_cases hbb : b = x.bal
            · rw [hbb]; exact hfr
            · refine h.frs b (hb.imp id (fun k => ?_))
              rw [← hd] at k
              have k : upd d.pp x.bal _ b ≠ none := k
              rwa [upd_ne _ _ hbb] at k
        · rw [if_neg hE]
          simp only [Bool.false_eq_true, if_false, List.append_nil]
          generalize hd : D.mk d.sl (upd d.pp x.bal (some ⟨p.b, p.ph, p.v, p.best, p.fd, p.pr, bput p.tk x.fr.toNat⟩)) d.lt d.bg d.ch d.tk = d'
          have e : Ext d V d' V := by subst hd; exact Ext.same rfl rfl (fun _ k => k) (fun _ _ k => k)
          refine ⟨by rw [← hd]; exact h.n0, by rw [← hd]; exact h.tkV, by rw [← hd]; exact h.slA, fun y hy => (h.lts y (by rw [← hd] at hy; exact hy)).ext e, fun b q hq => ?_, fun b w hw => (h.vok b w hw).ext e, by rw [← hd]; exact h.cho, fun b hb => ?_⟩
          · rw [← hd] at hq
            have hq : upd d.pp x.bal _ b = some q := hq
            by_cases hb : b = x.bal
            · subst hb
              rw [upd_self] at hq; cases hq
              exact ⟨p1, by rw [← hd]; exact p2, .inr ⟨k1, k2, fun a ha => e.am _ _ (htk a ha)⟩⟩
            · rw [upd_ne _ _ hb] at hq
              exact (h.pps b q hq).ext e id
          · rw [show d'.bg = d.bg by rw [← hd]]
            by_cases hbb : b = x.bal
            · rw [hbb]; exact hfr
            · refine h.frs b (hb.imp id (fun k => ?_))
              rw [← hd] at k
              have k : upd d.pp x.bal _ b ≠ none := k
              rwa [upd_ne _ _ hbb] at k
      · rw [if_neg hc]
        simp only [Bool.false_eq_true, if_false, List.append_nil]
        have e : upd d.pp x.bal (some p) = d.pp := funext fun b => by
          by_cases hb : b = x.bal
          · subst hb; rw [upd_self, hp]
          · rw [upd_ne _ _ hb]
        rw [e]
        exact h
theorem Inv.forget (h : Inv n d V) (who : Int) : Inv n (forgD d who) V := by
  have e : Ext d V (forgD d who) V := Ext.same rfl rfl (fun _ k => k) (fun _ _ k => k)
  have hpp : ∀ b p, (forgD d who).pp b = some p → d.pp b = some p := fun b p k => by
    have k : (match d.pp b with | none => none | some p => if Int.tmod b 8 = who ∧ p.ph ≠ 3 then none else some p) = some p := k
    cases hq : d.pp b with
    | none => rw [hq] at k; cases k
    | some q =>
      rw [hq] at k
      by_cases hc : Int.tmod b 8 = who ∧ q.ph ≠ 3
      · rw [show (match some q with | none => none | some p => if Int.tmod b 8 = who ∧ p.ph ≠ 3 then none else some p) = if Int.tmod b 8 = who ∧ q.ph ≠ 3 then none else some q from rfl, if_pos hc] at k; cases k
      · rw [show (match some q with | none => none | some p => if Int.tmod b 8 = who ∧ p.ph ≠ 3 then none else some p) = if Int.tmod b 8 = who ∧ q.ph ≠ 3 then none else some q from rfl, if_neg hc] at k; exact k
  refine ⟨h.n0, h.tkV, h.slA, fun x hx => (h.lts x hx).ext e, fun b p hp => (h.pps b p (hpp b p hp)).ext e id, fun b v hv => (h.vok b v hv).ext e, h.cho, fun b hb => h.frs b (hb.imp id (fun k => ?_))⟩
  cases hq : (forgD d who).pp b with
  | none => exact absurd hq k
  | some q => rw [hpp b q hq]; simp
theorem md_in (x : Int) (m : Nat) (h : 0 < m) : 0 ≤ md x m ∧ md x m < m := by
  unfold md
  have h1 : -(m : Int) < Int.tmod x m := by
    have := Int.tmod_lt_of_pos (-x) (show (0 : Int) < m by omega)
    rw [Int.neg_tmod] at this; omega
  have h2 := Int.tmod_lt_of_pos x (show (0 : Int) < m by omega)
  have h3 : 0 ≤ Int.tmod x m + m := by omega
  exact ⟨Int.tmod_nonneg _ h3, Int.tmod_lt_of_pos _ (by omega)⟩
theorem Inv.step (h : Inv n d V) (hn0 : 0 < n) (hn : n ≤ 8) (s : St) : ∃ V', Inv n (doD d s) V' ∧ ∀ b v, V b = some v → V' b = some v := by
  unfold doD
  have hw := md_in s.who d.sl.length (by rw [h.n0]; exact hn0)
  split
  · rw [h.n0] at hw ⊢
    exact ⟨V, h.begin _ _ hw.1 hw.2 hn, fun _ _ k => k⟩
  · split
    · exact ⟨V, h.forget _, fun _ _ k => k⟩
    · split
      · cases hx : d.lt[(md s.n d.lt.length).toNat]? with
        | none => exact ⟨V, h, fun _ _ k => k⟩
        | some x =>
          have hm : x ∈ d.lt := List.mem_of_getElem? hx
          have hE := h.letters (d.lt.eraseIdx (md s.n d.lt.length).toNat) (fun y hy => h.lts y (List.mem_of_mem_eraseIdx hy))
          have hxE : LtOK n { d with lt := d.lt.eraseIdx (md s.n d.lt.length).toNat } V x := (h.lts x hm).ext (Ext.same rfl rfl (fun _ k => k) (fun _ _ k => k))
          show ∃ V', Inv n (if s.kd = 3 then _ else if s.kd = 1 then _ else _) V' ∧ _
          split
          · exact ⟨V, h.letters _ (fun y hy => by
              rcases List.mem_append.1 hy with k | k
              · exact h.lts y k
              · rw [List.mem_singleton.1 k]; exact h.lts x hm), fun _ _ k => k⟩
          · split
            · unfold readD
              split
              · rename_i hk; exact ⟨V, hE.prom x hxE hk, fun _ _ k => k⟩
              · split
                · rename_i hk; exact ⟨V, hE.acc x hxE hk, fun _ _ k => k⟩
                · rename_i h0 h2; exact hE.tell x hxE h0 h2
            · exact ⟨V, hE, fun _ _ k => k⟩
      · exact ⟨V, h, fun _ _ k => k⟩
theorem Inv.new (n : Nat) : Inv n (newD n) (fun _ => none) := by
  refine ⟨List.length_replicate, fun c h k => (by cases k), fun a s hs => ?_, fun x hx => (by cases hx), fun b p hp => (by cases hp), fun b v hv => (by cases hv), fun v hv => (by cases hv), fun b hb => (by rcases hb with k | k <;> exact absurd rfl k)⟩
  have : s = sl0 := List.eq_of_mem_replicate (List.mem_of_getElem? hs)
  subst this
  exact ⟨Int.le_refl 0, Int.le_refl 0, .inl rfl, fun c ⟨h, k, _⟩ => (by cases k)⟩
/-- a value that a majority has accepted is that of all higher ballots -/
theorem Inv.agree (h : Inv n d V) {b : Int} {z : Nat × ByteArray} (hz : d.tk b = some z) (he : enb z.1 n = true) : ∀ (k : Nat) (b' : Int) (v' : ByteArray), b'.toNat < k → b ≤ b' → V b' = some v' → v' = z.2
  | 0, b', v', hk, _, _ => absurd hk (Nat.not_lt_zero _)
  | k + 1, b', v', hk, hle, hv => by
    have hb := h.tkV b z hz
    have hb0 := (h.frs b (.inl (by rw [hb]; simp))).1
    by_cases hbb : b' = b
    · subst hbb; rw [hb] at hv; cases hv; rfl
    · obtain ⟨_, Q, c, q1, q2, q3, q4, q5⟩ := h.vok b' v' hv
      obtain ⟨a, ha, a1, a2⟩ := enb_share he q1
      have hAb : A d a b := ⟨z, hz, a1⟩
      have hcb : b ≤ c := by
        apply Classical.byContradiction
        intro hh
        exact (q5 a ha a2).2 b (by omega) (by omega) hAb
      have hvc : V c = some v' := by
        rcases q4 with k | k
        · omega
        · exact k
      exact h.agree hz he k c v' (by omega) hcb hvc
theorem Inv.one (h : Inv n d V) {b b' : Int} {z z' : Nat × ByteArray} (hz : d.tk b = some z) (he : enb z.1 n = true) (hz' : d.tk b' = some z') (he' : enb z'.1 n = true) : z.2 = z'.2 := by
  rcases Int.le_total b b' with k | k
  · exact (h.agree hz he (b'.toNat + 1) b' z'.2 (Nat.lt_succ_self _) k (h.tkV b' z' hz')).symm
  · exact h.agree hz' he' (b.toNat + 1) b z.2 (Nat.lt_succ_self _) k (h.tkV b z hz)
/-- the values that have been chosen, by their ballots in order -/
def beenOf (d : D) (ks : List Int) : List ByteArray := ks.filterMap fun k => match d.tk k with | some h => if enb h.1 d.sl.length = true then some h.2 else none | none => none
def Keys (d : D) (ks : List Int) : Prop := ks.Nodup ∧ ∀ k, k ∈ ks ↔ d.tk k ≠ none
theorem been_mem {ks : List Int} {v : ByteArray} (h : v ∈ beenOf d ks) : ∃ b z, d.tk b = some z ∧ enb z.1 d.sl.length = true ∧ z.2 = v ∧ b ∈ ks := by
  obtain ⟨b, hb, hv⟩ := List.mem_filterMap.1 h
  cases ht : d.tk b with
  | none => rw [ht] at hv; cases hv
  | some z =>
    rw [ht] at hv
    have hv : (if enb z.1 d.sl.length = true then some z.2 else none) = some v := hv
    by_cases he : enb z.1 d.sl.length = true
    · rw [if_pos he] at hv; exact ⟨b, z, ht, he, Option.some.inj hv, hb⟩
    · rw [if_neg he] at hv; cases hv
theorem mem_been {ks : List Int} (hk : Keys d ks) {b : Int} {z : Nat × ByteArray} (hz : d.tk b = some z) (he : enb z.1 d.sl.length = true) : z.2 ∈ beenOf d ks :=
  List.mem_filterMap.2 ⟨b, (hk.2 b).2 (by rw [hz]; simp), by rw [hz]; show (if enb z.1 d.sl.length = true then some z.2 else none) = _; rw [if_pos he]⟩
/-- all that are, or have been, chosen are one, which was begun with; what is chosen has been -/
theorem Inv.all_one (h : Inv n d V) {ks : List Int} (hk : Keys d ks) : (∀ x y, x ∈ d.ch ++ beenOf d ks → y ∈ d.ch ++ beenOf d ks → x = y) ∧ (∀ x, x ∈ d.ch ++ beenOf d ks → x ∈ d.bg ∧ beenOf d ks ≠ []) := by
  have key : ∀ x, x ∈ d.ch ++ beenOf d ks → ∃ b z, d.tk b = some z ∧ enb z.1 n = true ∧ z.2 = x := fun x hx => by
    rcases List.mem_append.1 hx with k | k
    · obtain ⟨b, z, k1, k2, k3⟩ := h.cho x k
      have := h.tkV b z k2
      rw [k1] at this; cases this
      exact ⟨b, z, k2, k3, rfl⟩
    · obtain ⟨b, z, k1, k2, k3, _⟩ := been_mem k
      rw [h.n0] at k2
      exact ⟨b, z, k1, k2, k3⟩
  refine ⟨fun x y hx hy => ?_, fun x hx => ?_⟩
  · obtain ⟨b, z, k1, k2, rfl⟩ := key x hx
    obtain ⟨b', z', q1, q2, rfl⟩ := key y hy
    exact h.one k1 k2 q1 q2
  · obtain ⟨b, z, k1, k2, rfl⟩ := key x hx
    refine ⟨(h.vok b z.2 (h.tkV b z k1)).1, fun hnil => ?_⟩
    have := mem_been hk k1 (by rw [h.n0]; exact k2)
    rw [hnil] at this; cases this
end Go.Proofs.Ytnhnbobgfadhpaa.Dec
namespace Go.Proofs.Ytnhnbobgfadhpaa.Dec
set_option linter.unusedVariables false
def stT : St := ⟨1, 0, 0, e0⟩
def takes : Nat → D → D
  | 0, d => d
  | k + 1, d => takes k (doD d stT)
theorem takes_add : ∀ (a b : Nat) (d : D), takes (a + b) d = takes b (takes a d)
  | 0, b, d => by rw [Nat.zero_add]; rfl
  | a + 1, b, d => by rw [Nat.add_right_comm]; exact takes_add a b _
theorem md0 (m : Nat) : md 0 (m : Int) = 0 := by
  unfold md
  rw [Int.zero_tmod, Int.zero_add, Int.tmod_self]
theorem take_nil (d : D) (h : d.lt = []) : doD d stT = d := by
  unfold doD
  rw [if_neg (by decide), if_neg (by decide), if_pos (by decide), h]
  rfl
theorem take_cons (d : D) (x : Lt) (l : List Lt) (h : d.lt = x :: l) : doD d stT = readD { d with lt := l } x := by
  unfold doD
  rw [if_neg (by decide), if_neg (by decide), if_pos (by decide)]
  rw [show stT.n = 0 from rfl, md0, h]
  show (if stT.kd = 3 then _ else if stT.kd = 1 then _ else _) = _
  rw [if_neg (by decide), if_pos (by decide)]
  rfl
theorem takes_nil : ∀ (k : Nat) (d : D), d.lt = [] → takes k d = d
  | 0, _, _ => rfl
  | k + 1, d, h => by show takes k (doD d stT) = d; rw [take_nil d h]; exact takes_nil k d h
/-- more letters ahead of those that are there -/
def pre (r : List Lt) (d : D) : D := { d with lt := r ++ d.lt }
theorem promD_pre (r : List Lt) (d : D) (x : Lt) : promD (pre r d) x = pre r (promD d x) := by
  unfold promD
  by_cases h : isB x.bal ∧ (slot d x.dst).pr < x.bal
  · rw [if_pos h, if_pos (show isB x.bal ∧ (slot (pre r d) x.dst).pr < x.bal from h)]
    unfold pre
    simp only [List.append_assoc]
    rfl
  · rw [if_neg h, if_neg (show ¬ (isB x.bal ∧ (slot (pre r d) x.dst).pr < x.bal) from h)]
theorem accD_pre (r : List Lt) (d : D) (x : Lt) : accD (pre r d) x = pre r (accD d x) := by
  unfold accD
  by_cases h : isB x.bal ∧ (slot d x.dst).pr ≤ x.bal
  · rw [if_pos h, if_pos (show isB x.bal ∧ (slot (pre r d) x.dst).pr ≤ x.bal from h)]
    unfold pre
    simp only [List.append_assoc]
    rfl
  · rw [if_neg h, if_neg (show ¬ (isB x.bal ∧ (slot (pre r d) x.dst).pr ≤ x.bal) from h)]
theorem tellD_pre (r : List Lt) (d : D) (x : Lt) : tellD (pre r d) x = pre r (tellD d x) := by
  unfold tellD
  rw [show (pre r d).pp = d.pp from rfl]
  cases d.pp x.bal with
  | none => rfl
  | some p =>
    show (if x.kd = 1 then _ else _) = pre r (if x.kd = 1 then _ else _)
    split
    · unfold pre
      simp only [List.append_assoc]
    · rfl
theorem readD_pre (r : List Lt) (d : D) (x : Lt) : readD (pre r d) x = pre r (readD d x) := by
  unfold readD
  split
  · exact promD_pre r d x
  · split
    · exact accD_pre r d x
    · exact tellD_pre r d x
def runL : D → List Lt → D
  | d, [] => d
  | d, x :: xs => runL (readD d x) xs
theorem takes_run : ∀ (xs : List Lt) (d : D), takes xs.length (pre xs d) = runL d xs
  | [], d => rfl
  | x :: xs, d => by
    show takes xs.length (doD (pre (x :: xs) d) stT) = runL (readD d x) xs
    rw [take_cons (pre (x :: xs) d) x (xs ++ d.lt) rfl]
    rw [show ({ pre (x :: xs) d with lt := xs ++ d.lt } : D) = pre xs d from rfl, readD_pre]
    exact takes_run xs (readD d x)
theorem cn_prefix (x j : Nat) (h : ∀ i, x.testBit i = decide (i < j)) : ∀ n, cn x n = min j n
  | 0 => by rw [Nat.min_zero]; rfl
  | n + 1 => by
    unfold cn
    rw [cn_prefix x j h n, h n]
    by_cases hn : n < j
    · rw [decide_eq_true hn]; show min j n + 1 = _; omega
    · rw [decide_eq_false hn]; show min j n + 0 = _; omega
theorem enb_prefix (x j n : Nat) (h : ∀ i, x.testBit i = decide (i < j)) (hj : j ≤ n) : enb x n = decide (n / 2 + 1 ≤ j) := by
  unfold enb
  rw [cn_prefix x j h n, Nat.min_eq_left hj]
theorem bput_prefix (x j : Nat) (h : ∀ i, x.testBit i = decide (i < j)) (i : Nat) : (bput x j).testBit i = decide (i < j + 1) := by
  rw [bput_bit, h]
  by_cases h1 : i < j
  · rw [decide_eq_true h1, decide_eq_true (show i < j + 1 by omega)]; rfl
  · rw [decide_eq_false h1]
    by_cases h2 : j = i
    · rw [decide_eq_true h2, decide_eq_true (show i < j + 1 by omega)]; rfl
    · rw [decide_eq_false h2, decide_eq_false (show ¬ i < j + 1 by omega)]; rfl
theorem slot_nat (d : D) (i : Nat) (s : Sl) (h : d.sl[i]? = some s) : slot d (i : Int) = s := by
  unfold slot
  rw [Int.toNat_natCast, List.getD_eq_getElem?_getD, h]; rfl
structure Core (n : Nat) (b : Int) (pp0 : Pp) (bg0 ch0 : List ByteArray) (d : D) : Prop where
  n0 : d.sl.length = n
  pp : d.pp b = some pp0
  ch : d.ch = ch0
variable {n : Nat} {b : Int} {p : Pp} {bg0 ch0 : List ByteArray} {d : D}
-- the askings
structure Ph1 (n : Nat) (b : Int) (p : Pp) (ch0 : List ByteArray) (j : Nat) (d : D) : Prop where
  n0 : d.sl.length = n
  pp : d.pp b = some p
  ch : d.ch = ch0
  lo : ∀ (i : Nat) (s : Sl), j ≤ i → d.sl[i]? = some s → s.pr < b
  hi : ∀ (i : Nat) (s : Sl), i < j → d.sl[i]? = some s → s.pr = b
  ll : d.lt.length = j
  lt : ∀ (i : Nat) (x : Lt), d.lt[i]? = some x → x.kd = 1 ∧ x.fr = (i : Int) ∧ x.bal = b ∧ x.dst = 0
theorem Ph1.step {j : Nat} (h : Ph1 n b p ch0 j d) (hj : j < n) (hB : isB b) (x : Lt) (hx : x = ⟨0, 0, (j : Int), b, 0, e0⟩) : Ph1 n b p ch0 (j + 1) (readD d x) := by
  subst hx
  have hin : j < d.sl.length := by rw [h.n0]; exact hj
  obtain ⟨s, hs⟩ : ∃ s, d.sl[j]? = some s := ⟨_, List.getElem?_eq_getElem hin⟩
  have hsl := slot_nat d j s hs
  have hlo := h.lo j s (Nat.le_refl _) hs
  unfold readD
  rw [if_pos rfl]
  unfold promD
  show Ph1 n b p ch0 (j + 1) (if isB b ∧ (slot d (j : Int)).pr < b then _ else _)
  rw [hsl, if_pos ⟨hB, hlo⟩]
  refine ⟨?_, h.pp, h.ch, fun i s' hi hs' => ?_, fun i s' hi hs' => ?_, ?_, fun i y hy => ?_⟩
  · show (d.sl.set _ _).length = n
    rw [List.length_set]; exact h.n0
  · have hs' : (d.sl.set j _)[i]? = some s' := hs'
    rw [List.getElem?_set_ne (by omega)] at hs'
    exact h.lo i s' (by omega) hs'
  · have hs' : (d.sl.set j _)[i]? = some s' := hs'
    by_cases hij : j = i
    · subst hij
      rw [List.getElem?_set_self hin] at hs'
      cases hs'; rfl
    · rw [List.getElem?_set_ne hij] at hs'
      exact h.hi i s' (by omega) hs'
  · show (d.lt ++ [_]).length = j + 1
    rw [List.length_append, h.ll]; rfl
  · have hy : (d.lt ++ [_])[i]? = some y := hy
    by_cases hij : i < d.lt.length
    · rw [List.getElem?_append_left hij] at hy
      exact h.lt i y hy
    · by_cases he : i = d.lt.length
      · subst he
        rw [List.getElem?_append_right (Nat.le_refl _), Nat.sub_self] at hy
        have hy : some _ = some y := hy
        cases hy
        exact ⟨rfl, by rw [h.ll], rfl, rfl⟩
      · rw [List.getElem?_eq_none (by rw [List.length_append]; show d.lt.length + 1 ≤ i; omega)] at hy
        cases hy
-- the promises
structure Ph2 (n : Nat) (b : Int) (ch0 : List ByteArray) (j : Nat) (d : D) : Prop where
  n0 : d.sl.length = n
  ch : d.ch = ch0
  sl : ∀ (i : Nat) (s : Sl), d.sl[i]? = some s → s.pr = b
  pp : ∃ p, d.pp b = some p ∧ p.b = b ∧ p.tk = 0 ∧ ((j ≤ n / 2 ∧ p.ph = 1 ∧ (∀ i, p.pr.testBit i = decide (i < j)) ∧ d.lt = []) ∨ (n / 2 < j ∧ p.ph = 2 ∧ d.lt = allTo n ⟨2, 0, 0, b, 0, p.v⟩))
theorem Ph2.step {j : Nat} (h : Ph2 n b ch0 j d) (hj : j < n) (x : Lt) (h1 : x.kd = 1) (h2 : x.fr = (j : Int)) (h3 : x.bal = b) (h4 : x.dst = 0) : Ph2 n b ch0 (j + 1) (readD d x) := by
  obtain ⟨p, hp, hb, ht, hc⟩ := h.pp
  unfold readD
  rw [if_neg (by omega), if_neg (by omega)]
  unfold tellD
  rw [h3, hp]
  show Ph2 n b ch0 (j + 1) (if x.kd = 1 then _ else _)
  rw [if_pos h1, h.n0]
  have hjn : x.fr.toNat = j := by omega
  rcases hc with ⟨q1, q2, q3, q4⟩ | ⟨q1, q2, q3⟩
  · have hcn : cnts n 1 p x.fr b p.pr := ⟨q2, hb.symm, by omega, by omega, by rw [hjn, q3]; exact decide_eq_false (Nat.lt_irrefl _)⟩
    unfold promP
    rw [if_pos hcn, hjn, enb_prefix _ (j + 1) n (bput_prefix _ j q3) (by omega)]
    by_cases he : n / 2 + 1 ≤ j + 1
    · rw [decide_eq_true he, if_pos rfl]
      refine ⟨h.n0, h.ch, h.sl, _, upd_self _ _ _, hb, ht, .inr ⟨by omega, rfl, ?_⟩⟩
      show d.lt ++ (if true = true then _ else _) = _
      rw [if_pos rfl, q4, h4]; rfl
    · rw [decide_eq_false he, if_neg Bool.false_ne_true]
      refine ⟨h.n0, h.ch, h.sl, _, upd_self _ _ _, hb, ht, .inl ⟨by omega, q2, fun i => bput_prefix _ j q3 i, ?_⟩⟩
      show d.lt ++ (if false = true then _ else _) = _
      rw [if_neg Bool.false_ne_true, q4]; rfl
  · have hcn : ¬ cnts n 1 p x.fr b p.pr := fun k => by have := k.1; omega
    unfold promP
    rw [if_neg hcn]
    refine ⟨h.n0, h.ch, h.sl, p, upd_self _ _ _, hb, ht, .inr ⟨by omega, q2, ?_⟩⟩
    show d.lt ++ (if false = true then _ else _) = _
    rw [if_neg Bool.false_ne_true, List.append_nil]; exact q3
-- what is proposed
structure Ph3 (n : Nat) (b : Int) (p : Pp) (ch0 : List ByteArray) (j : Nat) (d : D) : Prop where
  n0 : d.sl.length = n
  pp : d.pp b = some p
  ch : d.ch = ch0
  sl : ∀ (i : Nat) (s : Sl), d.sl[i]? = some s → s.pr = b
  ll : d.lt.length = j
  lt : ∀ (i : Nat) (x : Lt), d.lt[i]? = some x → x.kd = 3 ∧ x.fr = (i : Int) ∧ x.bal = b
theorem Ph3.step {j : Nat} (h : Ph3 n b p ch0 j d) (hj : j < n) (hB : isB b) (v : ByteArray) (x : Lt) (hx : x = ⟨2, 0, (j : Int), b, 0, v⟩) : Ph3 n b p ch0 (j + 1) (readD d x) := by
  subst hx
  have hin : j < d.sl.length := by rw [h.n0]; exact hj
  obtain ⟨s, hs⟩ : ∃ s, d.sl[j]? = some s := ⟨_, List.getElem?_eq_getElem hin⟩
  have hsl := slot_nat d j s hs
  have hsb := h.sl j s hs
  unfold readD
  rw [if_neg (show ¬ (2 : Int) = 0 by decide), if_pos rfl]
  unfold accD
  show Ph3 n b p ch0 (j + 1) (if isB b ∧ (slot d (j : Int)).pr ≤ b then _ else _)
  rw [hsl, if_pos ⟨hB, Int.le_of_eq hsb⟩]
  refine ⟨?_, h.pp, h.ch, fun i s' hs' => ?_, ?_, fun i y hy => ?_⟩
  · show (d.sl.set _ _).length = n
    rw [List.length_set]; exact h.n0
  · have hs' : (d.sl.set j _)[i]? = some s' := hs'
    by_cases hij : j = i
    · subst hij
      rw [List.getElem?_set_self hin] at hs'
      cases hs'; rfl
    · rw [List.getElem?_set_ne hij] at hs'
      exact h.sl i s' hs'
  · show (d.lt ++ [_]).length = j + 1
    rw [List.length_append, h.ll]; rfl
  · have hy : (d.lt ++ [_])[i]? = some y := hy
    by_cases hij : i < d.lt.length
    · rw [List.getElem?_append_left hij] at hy
      exact h.lt i y hy
    · by_cases he : i = d.lt.length
      · subst he
        rw [List.getElem?_append_right (Nat.le_refl _), Nat.sub_self] at hy
        have hy : some _ = some y := hy
        cases hy
        exact ⟨rfl, by rw [h.ll], rfl⟩
      · rw [List.getElem?_eq_none (by rw [List.length_append]; show d.lt.length + 1 ≤ i; omega)] at hy
        cases hy
-- what is accepted
structure Ph4 (n : Nat) (b : Int) (v : ByteArray) (ch0 : List ByteArray) (j : Nat) (d : D) : Prop where
  n0 : d.sl.length = n
  lt : d.lt = []
  pp : ∃ p, d.pp b = some p ∧ p.b = b ∧ p.v = v ∧ ((j ≤ n / 2 ∧ p.ph = 2 ∧ (∀ i, p.tk.testBit i = decide (i < j)) ∧ d.ch = ch0) ∨ (n / 2 < j ∧ p.ph = 3 ∧ d.ch = ch0 ++ [v]))
theorem Ph4.step {j : Nat} {v : ByteArray} (h : Ph4 n b v ch0 j d) (hj : j < n) (x : Lt) (h1 : x.kd = 3) (h2 : x.fr = (j : Int)) (h3 : x.bal = b) : Ph4 n b v ch0 (j + 1) (readD d x) := by
  obtain ⟨p, hp, hb, hv, hc⟩ := h.pp
  unfold readD
  rw [if_neg (by omega), if_neg (by omega)]
  unfold tellD
  rw [h3, hp]
  show Ph4 n b v ch0 (j + 1) (if x.kd = 1 then _ else _)
  rw [if_neg (by omega), h.n0]
  have hjn : x.fr.toNat = j := by omega
  rcases hc with ⟨q1, q2, q3, q4⟩ | ⟨q1, q2, q3⟩
  · have hcn : cnts n 2 p x.fr b p.tk := ⟨q2, hb.symm, by omega, by omega, by rw [hjn, q3]; exact decide_eq_false (Nat.lt_irrefl _)⟩
    unfold accP
    rw [if_pos hcn, hjn, enb_prefix _ (j + 1) n (bput_prefix _ j q3) (by omega)]
    by_cases he : n / 2 + 1 ≤ j + 1
    · rw [decide_eq_true he, if_pos rfl]
      refine ⟨h.n0, h.lt, _, upd_self _ _ _, hb, hv, .inr ⟨by omega, rfl, ?_⟩⟩
      show d.ch ++ (if true = true then _ else _) = _
      rw [if_pos rfl, q4]; show ch0 ++ [p.v] = _; rw [hv]
    · rw [decide_eq_false he, if_neg Bool.false_ne_true]
      refine ⟨h.n0, h.lt, _, upd_self _ _ _, hb, hv, .inl ⟨by omega, q2, fun i => bput_prefix _ j q3 i, ?_⟩⟩
      show d.ch ++ (if false = true then _ else _) = _
      rw [if_neg Bool.false_ne_true, List.append_nil]; exact q4
  · have hcn : ¬ cnts n 2 p x.fr b p.tk := fun k => by have := k.1; omega
    unfold accP
    rw [if_neg hcn]
    refine ⟨h.n0, h.lt, p, upd_self _ _ _, hb, hv, .inr ⟨by omega, q2, ?_⟩⟩
    show d.ch ++ (if false = true then _ else _) = _
    rw [if_neg Bool.false_ne_true, List.append_nil]; exact q3
/-- letters taken one by one, by a fact that each one carries on -/
theorem run_ind (P : Nat → D → Prop) (xs : List Lt) (hs : ∀ (j : Nat) (x : Lt) (d : D), xs[j]? = some x → P j d → P (j + 1) (readD d x)) : ∀ (m j : Nat) (d : D), j + m = xs.length → P j d → P xs.length (runL d (xs.drop j))
  | 0, j, d, h, hp => by
    have hj : j = xs.length := by omega
    subst hj
    rw [List.drop_length]; exact hp
  | m + 1, j, d, h, hp => by
    have hj : j < xs.length := by omega
    rw [List.drop_eq_getElem_cons hj]
    exact run_ind P xs hs m (j + 1) _ (by omega) (hs j _ d (List.getElem?_eq_getElem hj) hp)
theorem run_all (P : Nat → D → Prop) (xs : List Lt) (d : D) (hs : ∀ (j : Nat) (x : Lt) (d : D), xs[j]? = some x → P j d → P (j + 1) (readD d x)) (h0 : P 0 d) : P xs.length (runL d xs) := run_ind P xs hs xs.length 0 d (Nat.zero_add _) h0
theorem allTo_get (n : Nat) (x : Lt) (j : Nat) (y : Lt) (h : (allTo n x)[j]? = some y) : j < n ∧ y = { x with dst := (j : Int) } := by
  unfold allTo at h
  rw [List.getElem?_map] at h
  by_cases hj : j < n
  · rw [List.getElem?_range hj] at h
    exact ⟨hj, (Option.some.inj h).symm⟩
  · rw [List.getElem?_eq_none (by rw [List.length_range]; omega)] at h; cases h
theorem allTo_len (n : Nat) (x : Lt) : (allTo n x).length = n := by unfold allTo; rw [List.length_map, List.length_range]
/-- the letters of a state, each taken once -/
theorem takes_all (d : D) : takes d.lt.length d = runL { d with lt := [] } d.lt := by
  have h := takes_run d.lt { d with lt := [] }
  rw [show pre d.lt { d with lt := [] } = d from by unfold pre; simp only [List.append_nil]] at h
  exact h
theorem ends {V : Vs} (h : Inv n d V) (hn0 : 0 < n) (hlt : d.lt = []) (hbg : d.bg.length ≤ 1000) (v : ByteArray) (hpr : ∀ s, s ∈ d.sl → s.pr < 8 * ((d.bg.length : Int) + 1)) :
    (takes (4 * n) (beginD d 0 v)).lt = [] ∧ (takes (4 * n) (beginD d 0 v)).ch.length = d.ch.length + 1 := by
  obtain ⟨b, hb⟩ : ∃ b, nextB d 0 = b := ⟨_, rfl⟩
  have hbn : b = 8 * ((d.bg.length : Int) + 1) := by rw [← hb]; unfold nextB; omega
  have hB : isB b := ⟨by omega, by omega⟩
  have hbeg : beginD d 0 v = ⟨d.sl, upd d.pp b (some (fresh b v)), allTo n ⟨0, 0, 0, b, 0, e0⟩, d.bg ++ [v], d.ch, d.tk⟩ := by
    unfold beginD
    rw [if_neg (by omega), hb, hlt, h.n0]; rfl
  rw [hbeg]
  generalize hd1 : D.mk d.sl (upd d.pp b (some (fresh b v))) (allTo n ⟨0, 0, 0, b, 0, e0⟩) (d.bg ++ [v]) d.ch d.tk = d1
  rw [show 4 * n = n + (n + (n + n)) by omega]
  have a1 : d1.lt.length = n := by rw [← hd1]; exact allTo_len _ _
  have t1 := takes_all d1
  rw [a1] at t1
  rw [takes_add, t1]
  have p1 : Ph1 n b (fresh b v) d.ch n (runL { d1 with lt := [] } d1.lt) := by
    have := run_all (fun j d' => j ≤ n → Ph1 n b (fresh b v) d.ch j d') d1.lt { d1 with lt := [] } (fun j x d' hx hp hj => by
      have hx : d1.lt[j]? = some x := hx
      rw [← hd1] at hx
      obtain ⟨q1, q2⟩ := allTo_get n _ j x hx
      exact (hp (by omega)).step q1 hB x q2) (fun _ => by
      subst hd1
      exact ⟨h.n0, upd_self _ _ _, rfl, fun i s _ hs => by rw [hbn]; exact hpr s (List.mem_of_getElem? hs), fun i s hi _ => absurd hi (Nat.not_lt_zero _), rfl, fun i x hx => by cases hx⟩)
    rw [a1] at this
    exact this (Nat.le_refl _)
  generalize runL { d1 with lt := [] } d1.lt = d2 at *
  have a2 : d2.lt.length = n := p1.ll
  have t2 := takes_all d2
  rw [a2] at t2
  rw [takes_add, t2]
  have p2 : Ph2 n b d.ch n (runL { d2 with lt := [] } d2.lt) := by
    have := run_all (fun j d' => j ≤ n → Ph2 n b d.ch j d') d2.lt { d2 with lt := [] } (fun j x d' hx hp hj => by
      obtain ⟨q1, q2, q3, q4⟩ := p1.lt j x hx
      exact (hp (by omega)).step (by omega) x q1 q2 q3 q4) (fun _ => ⟨p1.n0, p1.ch, fun i s hs => p1.hi i s (by rw [← p1.n0]; exact (List.getElem?_eq_some_iff.1 hs).1) hs, fresh b v, p1.pp, rfl, rfl, .inl ⟨Nat.zero_le _, rfl, fun i => by rw [show (fresh b v).pr = 0 from rfl, Nat.zero_testBit]; exact (decide_eq_false (Nat.not_lt_zero _)).symm, rfl⟩⟩)
    rw [a2] at this
    exact this (Nat.le_refl _)
  generalize runL { d2 with lt := [] } d2.lt = d3 at *
  obtain ⟨p, hp, hpb, hpt, hc⟩ := p2.pp
  obtain ⟨_, hph, hl3⟩ : n / 2 < n ∧ p.ph = 2 ∧ d3.lt = allTo n ⟨2, 0, 0, b, 0, p.v⟩ := by
    rcases hc with ⟨q, _⟩ | q
    · omega
    · exact q
  have a3 : d3.lt.length = n := by rw [hl3]; exact allTo_len _ _
  have t3 := takes_all d3
  rw [a3] at t3
  rw [takes_add, t3]
  have p3 : Ph3 n b p d.ch n (runL { d3 with lt := [] } d3.lt) := by
    have := run_all (fun j d' => j ≤ n → Ph3 n b p d.ch j d') d3.lt { d3 with lt := [] } (fun j x d' hx hp' hj => by
      have hx : d3.lt[j]? = some x := hx
      rw [hl3] at hx
      obtain ⟨q1, q2⟩ := allTo_get n _ j x hx
      exact (hp' (by omega)).step q1 hB p.v x q2) (fun _ => ⟨p2.n0, hp, p2.ch, p2.sl, rfl, fun i x hx => by cases hx⟩)
    rw [a3] at this
    exact this (Nat.le_refl _)
  generalize runL { d3 with lt := [] } d3.lt = d4 at *
  have a4 : d4.lt.length = n := p3.ll
  have t4 := takes_all d4
  rw [a4] at t4
  rw [t4]
  have p4 : Ph4 n b p.v d.ch n (runL { d4 with lt := [] } d4.lt) := by
    have := run_all (fun j d' => j ≤ n → Ph4 n b p.v d.ch j d') d4.lt { d4 with lt := [] } (fun j x d' hx hp' hj => by
      obtain ⟨q1, q2, q3⟩ := p3.lt j x hx
      exact (hp' (by omega)).step (by omega) x q1 q2 q3) (fun _ => ⟨p3.n0, rfl, p, p3.pp, hpb, rfl, .inl ⟨Nat.zero_le _, hph, fun i => by rw [hpt, Nat.zero_testBit]; exact (decide_eq_false (Nat.not_lt_zero _)).symm, p3.ch⟩⟩)
    rw [a4] at this
    exact this (Nat.le_refl _)
  refine ⟨p4.lt, ?_⟩
  obtain ⟨p', _, _, _, hc'⟩ := p4.pp
  rcases hc' with ⟨q, _⟩ | ⟨_, _, q⟩
  · omega
  · rw [q, List.length_append]; rfl
end Go.Proofs.Ytnhnbobgfadhpaa.Dec
namespace Go.Proofs.Ytnhnbobgfadhpaa.Dec
set_option linter.unusedVariables false
variable {n : Nat} {d d' : D} {V V' : Vs}
def runS (d : D) (l : List St) : D := l.foldl doD d
theorem runS_snoc (d : D) (l : List St) (s : St) : runS d (l ++ [s]) = doD (runS d l) s := by unfold runS; rw [List.foldl_append]; rfl
theorem runS_append (d : D) (l m : List St) : runS d (l ++ m) = runS (runS d l) m := by unfold runS; rw [List.foldl_append]
/-- no ballot is as high as the next one's -/
structure Bnd (d : D) : Prop where
  sl : ∀ s, s ∈ d.sl → s.pr < 8 * ((d.bg.length : Int) + 1)
  lt : ∀ x, x ∈ d.lt → x.bal < 8 * ((d.bg.length : Int) + 1)
theorem Bnd.letters (h : Bnd d) (l : List Lt) (hl : ∀ x, x ∈ l → x ∈ d.lt) : Bnd { d with lt := l } := ⟨h.sl, fun x hx => h.lt x (hl x hx)⟩
theorem Bnd.begin (h : Bnd d) (who : Int) (v : ByteArray) (h1 : who < 8) : Bnd (beginD d who v) := by
  unfold beginD
  split
  · exact h
  · obtain ⟨b, hb⟩ : ∃ b, nextB d who = b := ⟨_, rfl⟩
    have hbn : b = 8 * ((d.bg.length : Int) + 1) + who := hb.symm
    rw [hb]
    have hl : ((d.bg ++ [v]).length : Int) = (d.bg.length : Int) + 1 := by rw [List.length_append]; rfl
    refine ⟨fun s hs => ?_, fun x hx => ?_⟩
    · have := h.sl s hs
      show s.pr < 8 * (((d.bg ++ [v]).length : Int) + 1)
      omega
    · show x.bal < 8 * (((d.bg ++ [v]).length : Int) + 1)
      rcases List.mem_append.1 hx with k | k
      · have := h.lt x k; omega
      · obtain ⟨i, _, rfl⟩ := allTo_mem k
        show b < _
        omega
theorem Bnd.prom (h : Bnd d) (x : Lt) (hx : x.bal < 8 * ((d.bg.length : Int) + 1)) : Bnd (promD d x) := by
  unfold promD
  split
  · refine ⟨fun s hs => ?_, fun y hy => ?_⟩
    · rcases List.mem_or_eq_of_mem_set hs with k | rfl
      · exact h.sl s k
      · exact hx
    · rcases List.mem_append.1 hy with k | k
      · exact h.lt y k
      · rw [List.mem_singleton.1 k]; exact hx
  · exact h
theorem Bnd.acc (h : Bnd d) (x : Lt) (hx : x.bal < 8 * ((d.bg.length : Int) + 1)) : Bnd (accD d x) := by
  unfold accD
  split
  · refine ⟨fun s hs => ?_, fun y hy => ?_⟩
    · rcases List.mem_or_eq_of_mem_set hs with k | rfl
      · exact h.sl s k
      · exact hx
    · rcases List.mem_append.1 hy with k | k
      · exact h.lt y k
      · rw [List.mem_singleton.1 k]; exact hx
  · exact h
theorem Bnd.tell (h : Bnd d) (x : Lt) (hx : x.bal < 8 * ((d.bg.length : Int) + 1)) : Bnd (tellD d x) := by
  unfold tellD
  cases d.pp x.bal with
  | none => exact h
  | some p =>
    show Bnd (if x.kd = 1 then _ else _)
    split
    · refine ⟨h.sl, fun y hy => ?_⟩
      rcases List.mem_append.1 hy with k | k
      · exact h.lt y k
      · split at k
        · obtain ⟨i, _, rfl⟩ := allTo_mem k
          exact hx
        · cases k
    · exact ⟨h.sl, h.lt⟩
theorem Bnd.step (h : Bnd d) (s : St) (h0 : 0 < d.sl.length) (h8 : d.sl.length ≤ 8) : Bnd (doD d s) := by
  unfold doD
  have hw := md_in s.who d.sl.length h0
  split
  · exact h.begin _ _ (by omega)
  · split
    · exact ⟨h.sl, h.lt⟩
    · split
      · cases hx : d.lt[(md s.n d.lt.length).toNat]? with
        | none => exact h
        | some x =>
          have hm : x ∈ d.lt := List.mem_of_getElem? hx
          have hE := h.letters (d.lt.eraseIdx (md s.n d.lt.length).toNat) (fun y hy => List.mem_of_mem_eraseIdx hy)
          show Bnd (if s.kd = 3 then _ else if s.kd = 1 then _ else _)
          split
          · exact h.letters _ (fun y hy => by
              rcases List.mem_append.1 hy with k | k
              · exact k
              · rw [List.mem_singleton.1 k]; exact hm)
          · split
            · unfold readD
              split
              · exact hE.prom x (h.lt x hm)
              · split
                · exact hE.acc x (h.lt x hm)
                · exact hE.tell x (h.lt x hm)
            · exact hE
      · exact h
/-- how a step lengthens the lists -/
structure Grows (d d' : D) : Prop where
  sl : d'.sl.length = d.sl.length
  bg : d.bg.length ≤ d'.bg.length ∧ d'.bg.length ≤ d.bg.length + 1
  lt : d'.lt.length ≤ d.lt.length + d.sl.length
  ch : d.ch.length ≤ d'.ch.length ∧ d'.ch.length ≤ d.ch.length + 1
theorem promD_grows (d : D) (x : Lt) : (promD d x).sl.length = d.sl.length ∧ (promD d x).bg = d.bg ∧ (promD d x).lt.length ≤ d.lt.length + 1 ∧ (promD d x).ch = d.ch := by
  unfold promD
  split
  · exact ⟨List.length_set, rfl, (by show (d.lt ++ [_]).length ≤ _; rw [List.length_append]; exact Nat.le_refl _), rfl⟩
  · exact ⟨rfl, rfl, Nat.le_succ _, rfl⟩
theorem accD_grows (d : D) (x : Lt) : (accD d x).sl.length = d.sl.length ∧ (accD d x).bg = d.bg ∧ (accD d x).lt.length ≤ d.lt.length + 1 ∧ (accD d x).ch = d.ch := by
  unfold accD
  split
  · exact ⟨List.length_set, rfl, (by show (d.lt ++ [_]).length ≤ _; rw [List.length_append]; exact Nat.le_refl _), rfl⟩
  · exact ⟨rfl, rfl, Nat.le_succ _, rfl⟩
theorem tellD_grows (d : D) (x : Lt) : (tellD d x).sl = d.sl ∧ (tellD d x).bg = d.bg ∧ (tellD d x).lt.length ≤ d.lt.length + d.sl.length ∧ d.ch.length ≤ (tellD d x).ch.length ∧ (tellD d x).ch.length ≤ d.ch.length + 1 := by
  unfold tellD
  cases d.pp x.bal with
  | none => exact ⟨rfl, rfl, Nat.le_add_right _ _, Nat.le_refl _, Nat.le_succ _⟩
  | some p =>
    show (if x.kd = 1 then _ else _ : D).sl = _ ∧ (if x.kd = 1 then _ else _ : D).bg = _ ∧ (if x.kd = 1 then _ else _ : D).lt.length ≤ _ ∧ _ ≤ (if x.kd = 1 then _ else _ : D).ch.length ∧ (if x.kd = 1 then _ else _ : D).ch.length ≤ _
    split
    · refine ⟨rfl, rfl, ?_, Nat.le_refl _, Nat.le_succ _⟩
      show (d.lt ++ _).length ≤ _
      rw [List.length_append]
      split
      · rw [allTo_len]; exact Nat.le_refl _
      · simp
    · refine ⟨rfl, rfl, Nat.le_add_right _ _, ?_, ?_⟩
      · show _ ≤ (d.ch ++ _).length
        rw [List.length_append]; omega
      · show (d.ch ++ _).length ≤ _
        rw [List.length_append]
        split <;> simp
theorem grows (d : D) (s : St) (h0 : 0 < d.sl.length) : Grows d (doD d s) := by
  have hself : Grows d d := ⟨rfl, ⟨Nat.le_refl _, Nat.le_succ _⟩, Nat.le_add_right _ _, Nat.le_refl _, Nat.le_succ _⟩
  unfold doD
  split
  · unfold beginD
    split
    · exact hself
    · refine ⟨rfl, ⟨?_, ?_⟩, ?_, Nat.le_refl _, Nat.le_succ _⟩
      · show _ ≤ (d.bg ++ [_]).length
        rw [List.length_append]; omega
      · show (d.bg ++ [_]).length ≤ _
        rw [List.length_append]; simp
      · show (d.lt ++ _).length ≤ _
        rw [List.length_append, allTo_len]; exact Nat.le_refl _
  · split
    · exact ⟨rfl, ⟨Nat.le_refl _, Nat.le_succ _⟩, Nat.le_add_right _ _, Nat.le_refl _, Nat.le_succ _⟩
    · split
      · cases hx : d.lt[(md s.n d.lt.length).toNat]? with
        | none => exact hself
        | some x =>
          have hlt : (md s.n d.lt.length).toNat < d.lt.length := (List.getElem?_eq_some_iff.1 hx).1
          have hel : (d.lt.eraseIdx (md s.n d.lt.length).toNat).length = d.lt.length - 1 := List.length_eraseIdx_of_lt hlt
          show Grows d (if s.kd = 3 then _ else if s.kd = 1 then _ else _)
          split
          · refine ⟨rfl, ⟨Nat.le_refl _, Nat.le_succ _⟩, ?_, Nat.le_refl _, Nat.le_succ _⟩
            show (d.lt ++ [x]).length ≤ _
            rw [List.length_append]
            show d.lt.length + 1 ≤ _
            omega
          · generalize hd1 : D.mk d.sl d.pp (d.lt.eraseIdx (md s.n d.lt.length).toNat) d.bg d.ch d.tk = d1
            have a1 : d1.sl = d.sl := by rw [← hd1]
            have a2 : d1.bg = d.bg := by rw [← hd1]
            have a3 : d1.lt.length = d.lt.length - 1 := by rw [← hd1]; exact hel
            have a4 : d1.ch = d.ch := by rw [← hd1]
            split
            · unfold readD
              split
              · obtain ⟨q1, q2, q3, q4⟩ := promD_grows d1 x
                exact ⟨by rw [q1, a1], by rw [q2, a2]; omega, by omega, by rw [q4, a4]; omega⟩
              · split
                · obtain ⟨q1, q2, q3, q4⟩ := accD_grows d1 x
                  exact ⟨by rw [q1, a1], by rw [q2, a2]; omega, by omega, by rw [q4, a4]; omega⟩
                · obtain ⟨q1, q2, q3, q4⟩ := tellD_grows d1 x
                  rw [a1] at q3
                  rw [a4] at q4
                  exact ⟨by rw [q1, a1], by rw [q2, a2]; omega, by omega, q4⟩
            · exact ⟨by rw [a1], by rw [a2]; omega, by omega, by rw [a4]; omega⟩
      · exact hself
/-- all that holds behind k steps -/
structure Reached (n k : Nat) (d : D) : Prop where
  inv : ∃ V, Inv n d V
  bnd : Bnd d
  bg : d.bg.length ≤ k
  lt : d.lt.length ≤ k * n
  ch : d.ch.length ≤ k
theorem reached_new (n : Nat) : Reached n 0 (newD n) := ⟨⟨_, Inv.new n⟩, ⟨fun s hs => by rw [List.eq_of_mem_replicate hs]; show (0 : Int) < 8 * (((0 : Nat) : Int) + 1); omega, fun x hx => by cases hx⟩, Nat.le_refl _, Nat.zero_le _, Nat.le_refl _⟩
theorem Reached.len {k : Nat} (h : Reached n k d) : d.sl.length = n := h.inv.elim fun V hV => hV.n0
theorem Reached.step {k : Nat} (h : Reached n k d) (h0 : 0 < n) (h8 : n ≤ 8) (s : St) : Reached n (k + 1) (doD d s) := by
  obtain ⟨V, hV⟩ := h.inv
  obtain ⟨V', hV', _⟩ := hV.step h0 h8 s
  have hl := h.len
  obtain ⟨q1, q2, q3, q4⟩ := grows d s (by omega)
  refine ⟨⟨V', hV'⟩, h.bnd.step s (by omega) (by omega), by have := h.bg; omega, ?_, by have := h.ch; omega⟩
  have := h.lt
  rw [Nat.add_mul]
  omega
theorem reached_run (h0 : 0 < n) (h8 : n ≤ 8) : ∀ (l : List St) (k : Nat) (d : D), Reached n k d → Reached n (k + l.length) (runS d l)
  | [], k, d, h => h
  | s :: l, k, d, h => by
    have := reached_run h0 h8 l (k + 1) (doD d s) (h.step h0 h8 s)
    rw [show k + (s :: l).length = k + 1 + l.length by rw [List.length_cons]; omega]
    exact this
/-- what each ballot's nodes and value may become -/
def TkLe (d d' : D) : Prop := ∀ b z, d.tk b = some z → ∃ z', d'.tk b = some z' ∧ z'.2 = z.2 ∧ ∀ i, z.1.testBit i = true → z'.1.testBit i = true
theorem TkLe.refl (d : D) : TkLe d d := fun b z h => ⟨z, h, rfl, fun _ k => k⟩
theorem TkLe.trans {d'' : D} (h : TkLe d d') (k : TkLe d' d'') : TkLe d d'' := fun b z hz => by
  obtain ⟨z', q1, q2, q3⟩ := h b z hz
  obtain ⟨z'', r1, r2, r3⟩ := k b z' q1
  exact ⟨z'', r1, r2.trans q2, fun i hi => r3 i (q3 i hi)⟩
theorem tk_step (h : Inv n d V) (h0 : 0 < n) (h8 : n ≤ 8) (s : St) : TkLe d (doD d s) := by
  obtain ⟨V', hV', hvs⟩ := h.step h0 h8 s
  -- the nodes only grow; the value is the ballot's
  have hb : ∀ b z, d.tk b = some z → ∃ z', (doD d s).tk b = some z' ∧ ∀ i, z.1.testBit i = true → z'.1.testBit i = true := fun b z hz => by
    have hself : ∀ d1 : D, d1.tk = d.tk → ∃ z', d1.tk b = some z' ∧ ∀ i, z.1.testBit i = true → z'.1.testBit i = true := fun d1 e => ⟨z, by rw [e]; exact hz, fun _ k => k⟩
    unfold doD
    split
    · unfold beginD; split <;> exact hself _ rfl
    · split
      · exact hself _ rfl
      · split
        · cases hx : d.lt[(md s.n d.lt.length).toNat]? with
          | none => exact hself _ rfl
          | some x =>
            show ∃ z', (if s.kd = 3 then _ else if s.kd = 1 then _ else _ : D).tk b = some z' ∧ _
            split
            · exact hself _ rfl
            · split
              · unfold readD
                split
                · unfold promD; split <;> exact hself _ rfl
                · split
                  · unfold accD
                    split
                    · by_cases hbx : b = x.bal
                      · subst hbx
                        refine ⟨_, upd_self _ _ _, fun i hi => bput_old ?_⟩
                        show (whoOf _ x.bal).testBit i = true
                        unfold whoOf
                        rw [show (D.mk d.sl d.pp (d.lt.eraseIdx (md s.n d.lt.length).toNat) d.bg d.ch d.tk).tk x.bal = some z from hz]
                        exact hi
                      · exact ⟨z, by show upd d.tk x.bal _ b = _; rw [upd_ne _ _ hbx]; exact hz, fun _ k => k⟩
                    · exact hself _ rfl
                  · unfold tellD
                    cases d.pp x.bal with
                    | none => exact hself _ rfl
                    | some p =>
                      show ∃ z', (if x.kd = 1 then _ else _ : D).tk b = some z' ∧ _
                      split <;> exact hself _ rfl
              · exact hself _ rfl
        · exact hself _ rfl
  intro b z hz
  obtain ⟨z', q1, q2⟩ := hb b z hz
  refine ⟨z', q1, ?_, q2⟩
  have e1 := hvs _ _ (h.tkV b z hz)
  have e2 := hV'.tkV b z' q1
  rw [e1] at e2
  exact (Option.some.inj e2).symm
theorem tk_run (h0 : 0 < n) (h8 : n ≤ 8) : ∀ (l : List St) (k : Nat) (d : D), Reached n k d → TkLe d (runS d l)
  | [], k, d, h => TkLe.refl d
  | s :: l, k, d, h => by
    obtain ⟨V, hV⟩ := h.inv
    exact (tk_step hV h0 h8 s).trans (tk_run h0 h8 l (k + 1) (doD d s) (h.step h0 h8 s))
theorem nodup_len {α : Type} [DecidableEq α] : ∀ (l m : List α), l.Nodup → (∀ x, x ∈ l → x ∈ m) → l.length ≤ m.length
  | [], m, _, _ => Nat.zero_le _
  | x :: l, m, h, hs => by
    have hx := hs x (List.mem_cons_self ..)
    have hn := List.nodup_cons.1 h
    have := nodup_len l (m.erase x) hn.2 (fun y hy => (List.mem_erase_of_ne (fun (e : y = x) => hn.1 (e ▸ hy))).2 (hs y (List.mem_cons_of_mem _ hy)))
    rw [List.length_erase_of_mem hx] at this
    have hp : 0 < m.length := List.length_pos_of_mem hx
    rw [List.length_cons]
    omega
def good (d : D) (k : Int) : Bool := match d.tk k with | some h => enb h.1 d.sl.length | none => false
theorem been_len (d : D) : ∀ ks : List Int, (beenOf d ks).length = (ks.filter (good d)).length
  | [] => rfl
  | k :: ks => by
    have ih := been_len d ks
    unfold beenOf at ih ⊢
    rw [List.filterMap_cons, List.filter_cons]
    unfold good
    cases ht : d.tk k with
    | none =>
      simp only [Bool.false_eq_true, if_false]
      exact ih
    | some z =>
      by_cases he : enb z.1 d.sl.length = true
      · simp only [he, if_true, List.length_cons]
        rw [ih]; rfl
      · rw [Bool.not_eq_true] at he
        simp only [he, Bool.false_eq_true, if_false]
        exact ih
/-- what has been chosen stays the one -/
theorem stays {k : Nat} (h0 : 0 < n) (h8 : n ≤ 8) (h : Reached n k d) (l : List St) {ks ks' : List Int} (hk : Keys d ks) (hk' : Keys (runS d l) ks') :
    (beenOf d ks).length ≤ (beenOf (runS d l) ks').length ∧ ∀ x y, x ∈ beenOf d ks → y ∈ beenOf (runS d l) ks' → y = x := by
  have hT := tk_run h0 h8 l k d h
  have hR := reached_run h0 h8 l k d h
  obtain ⟨V', hV'⟩ := hR.inv
  have hn := h.len
  have hn' := hR.len
  have up : ∀ b z, d.tk b = some z → enb z.1 d.sl.length = true → ∃ z', (runS d l).tk b = some z' ∧ z'.2 = z.2 ∧ enb z'.1 n = true := fun b z hz he => by
    obtain ⟨z', q1, q2, q3⟩ := hT b z hz
    rw [hn] at he
    exact ⟨z', q1, q2, enb_le (fun i _ hi => q3 i hi) he⟩
  refine ⟨?_, fun x y hx hy => ?_⟩
  · rw [been_len, been_len]
    refine nodup_len _ _ (hk.1.filter _) (fun b hb => ?_)
    obtain ⟨hb1, hb2⟩ := List.mem_filter.1 hb
    unfold good at hb2
    cases ht : d.tk b with
    | none => rw [ht] at hb2; cases hb2
    | some z =>
      rw [ht] at hb2
      obtain ⟨z', q1, _, q3⟩ := up b z ht hb2
      refine List.mem_filter.2 ⟨(hk'.2 b).2 (by rw [q1]; simp), ?_⟩
      unfold good
      rw [q1, hn']
      exact q3
  · obtain ⟨b, z, q1, q2, rfl, _⟩ := been_mem hx
    obtain ⟨b', z', r1, r2, rfl, _⟩ := been_mem hy
    obtain ⟨z1, s1, s2, s3⟩ := up b z q1 q2
    rw [hn'] at r2
    rw [← s2]
    exact hV'.one r1 r2 s1 s3
/-- while no letter is taken, and nothing else is done with letters but to lose them or have them twice -/
structure Quiet (d : D) : Prop where
  sl : ∀ s, s ∈ d.sl → s = sl0
  ch : d.ch = []
  tk : ∀ b, d.tk b = none
theorem Quiet.step (h : Quiet d) (s : St) (hk : s.kd ≠ 1) : Quiet (doD d s) := by
  unfold doD
  split
  · unfold beginD
    split
    · exact h
    · exact ⟨h.sl, h.ch, h.tk⟩
  · split
    · exact ⟨h.sl, h.ch, h.tk⟩
    · split
      · cases hx : d.lt[(md s.n d.lt.length).toNat]? with
        | none => exact h
        | some x =>
          show Quiet (if s.kd = 3 then _ else _)
          split <;> exact ⟨h.sl, h.ch, h.tk⟩
      · exact h
theorem quiet_new (n : Nat) : Quiet (newD n) := ⟨fun s hs => List.eq_of_mem_replicate hs, rfl, fun _ => rfl⟩
end Go.Proofs.Ytnhnbobgfadhpaa.Dec
namespace Go.Proofs.Ytnhnbobgfadhpaa.Mp
open Go Go.RowKit Go.MapKept
open Go.Maps (Keyed)
open Go.ChangeMaps (setBlock heap_setBlock_same heap_setBlock_other)
set_option linter.unusedVariables false
set_option linter.unusedSimpArgs false
abbrev Cont := Value → Option Value
open Classical in
/-- the content with one key's element otherwise -/
noncomputable def put (f : Cont) (k v : Value) : Cont := fun x => if x = k then some v else f x
open Classical in
noncomputable def drop (f : Cont) (k : Value) : Cont := fun x => if x = k then none else f x
theorem put_self (f : Cont) (k v : Value) : put f k v k = some v := if_pos rfl
theorem put_ne (f : Cont) {k x : Value} (v : Value) (h : x ≠ k) : put f k v x = f x := if_neg h
theorem drop_self (f : Cont) (k : Value) : drop f k k = none := if_pos rfl
theorem drop_ne (f : Cont) {k x : Value} (h : x ≠ k) : drop f k x = f x := if_neg h
/-- the entries es have just the content f -/
structure Ents (P : Program) (k : TypeId) (es : Array MapEntry) (clock : Nat) (f : Cont) : Prop where
  st : Stamped es clock
  ks : ∀ e, e ∈ es.toList → (∃ l, keyOf P k e.key = some l) ∧ f e.key = some e.val
  all : ∀ x v, f x = some v → ∃ e, e ∈ es.toList ∧ e.key = x
/-- block b is a map whose content is f -/
def IMap (w : World) (P : Program) (k : TypeId) (b : Nat) (f : Cont) : Prop := ∃ es clock, w.heap[b]? = some (.map es clock) ∧ Ents P k es clock f
variable {P : Program} {k t e ty : TypeId} {w w2 : World} {b : Nat} {f : Cont}
theorem IMap.made (w : World) (P : Program) (k : TypeId) : IMap (w.alloc (.map #[] 0)) P k w.heap.size (fun _ => none) :=
  ⟨#[], 0, (MapKept.heap_alloc w _).1, stamped_empty 0, fun e h => by simp at h, fun x v h => by cases h⟩
theorem IMap.lt (h : IMap w P k b f) : b < w.heap.size := by
  obtain ⟨es, clock, hb, _⟩ := h
  exact (Array.getElem?_eq_some_iff.1 hb).1
theorem IMap.block (h : IMap w P k b f) (e : w2.heap[b]? = w.heap[b]?) : IMap w2 P k b f := by
  obtain ⟨es, clock, hb, r⟩ := h
  exact ⟨es, clock, e.trans hb, r⟩
theorem IMap.below {n : Nat} (h : IMap w P k b f) (hB : Below n w w2) (hn : b < n) : IMap w2 P k b f := h.block (hB.block b hn)
theorem IMap.below' (h : IMap w P k b f) (hB : Below w.heap.size w w2) : IMap w2 P k b f := h.below hB h.lt
theorem IMap.set (h : IMap w P k b f) {p : Addr} (hp : b ≠ p.block) (v : Value) : IMap (w.setCell p v) P k b f := h.block (RowKit.Below.heap_setCell _ _ _ _ hp)
theorem IMap.set_cell (h : IMap w P k b f) {p : Addr} {v0 : Value} (hc : w.cell? p = some v0) (v : Value) : IMap (w.setCell p v) P k b f := h.set (fun hh => by
  obtain ⟨es, clock, hb, _⟩ := h
  rw [hh] at hb
  unfold World.cell? at hc
  rw [hb] at hc
  cases hc) v
theorem IMap.drew (h : IMap w P k b f) : IMap w.drew P k b f := h
theorem IMap.grown {row : Option Nat} (h : IMap w P k b f) (hg : w.grownBy w2 row) (hne : some b ≠ row) : IMap w2 P k b f := h.block (hg.block b h.lt hne)
theorem IMap.turned {c : Nat} (h : IMap w P k b f) (hg : w.mapTurned w2 c) (hne : b ≠ c) : IMap w2 P k b f := h.grown hg.grown (fun e => hne (Option.some.inj e))
/-- looked up -/
theorem IMap.look (h : IMap w P k b f) (c : Bool) (K : Keyed P k) (ht : P.underlying t = some (.map k e)) {z : Value} (hz : (zeroValue e).run P w = .ok z w) {key : Value} {kl : Lit} (hkey : keyOf P k key = some kl) :
    (Instr.lookup t (.map (some b)) key c).run P w = .ok (if c then .tuple #[(f key).getD z, .bool (f key).isSome] else (f key).getD z) w := by
  obtain ⟨es, clock, hb, st, ks, all⟩ := h
  rcases K.find w hkey es.toList (fun e he => (ks e he).1) with ⟨h1, h2⟩ | ⟨j, e0, h1, h2, h3⟩
  · have hf : f key = none := by
      cases hv : f key with
      | none => rfl
      | some v => obtain ⟨e, he, hek⟩ := all key v hv; exact absurd hek (h2 e he)
    rw [hf]
    simp [Instr.lookup, run_underlying ht, MapKept.run_getObj_map hb, K.check w _ hkey, h1, hz, Result.andThen]
  · have hf : f key = some e0.val := by rw [← h3]; exact (ks e0 (List.mem_of_getElem? h2)).2
    rw [hf]
    simp [Instr.lookup, run_underlying ht, MapKept.run_getObj_map hb, K.check w _ hkey, h1, Result.andThen]
/-- stored -/
theorem IMap.store (h : IMap w P k b f) (K : Keyed P k) (ht : P.underlying t = some (.map k e)) {key val : Value} {kl : Lit} (hkey : keyOf P k key = some kl) :
    ∃ w2, (Instr.mapUpdate t (.map (some b)) key val).run P w = .ok () w2 ∧ IMap w2 P k b (put f key val) ∧ w.mapTurned w2 b := by
  obtain ⟨es, clock, hb, st, ks, all⟩ := h
  rcases K.find w hkey es.toList (fun e he => (ks e he).1) with ⟨h1, h2⟩ | ⟨j, e0, h1, h2, h3⟩
  · refine ⟨_, ?_, ⟨es.push ⟨key, val, clock⟩, clock + 1, heap_setBlock_same hb _, stamped_push st h2, fun x hx => ?_, fun x v hv => ?_⟩, ⟨es, clock, _, _, hb, rfl⟩⟩
    · simp [Instr.mapUpdate, run_underlying ht, MapKept.run_getObj_map hb, K.check w false hkey, h1, MapKept.run_setObj_map _ hb, Result.andThen, setBlock]
    · simp only [Array.toList_push, List.mem_append, List.mem_singleton] at hx
      rcases hx with hx | rfl
      · exact ⟨(ks x hx).1, by rw [put_ne _ _ (h2 x hx)]; exact (ks x hx).2⟩
      · exact ⟨⟨_, hkey⟩, put_self _ _ _⟩
    · by_cases hxk : x = key
      · exact ⟨⟨key, val, clock⟩, by simp, hxk.symm⟩
      · rw [put_ne _ _ hxk] at hv
        obtain ⟨y, hy, hyk⟩ := all x v hv
        exact ⟨y, by simp [hy], hyk⟩
  · have hj : es[j]? = some e0 := by simpa using h2
    have hlist : (es.modify j (fun e' => { e' with key := key, val := val })).toList = es.toList.set j { e0 with key := key, val := val } := by rw [Array.toList_modify, Go.ChangeMaps.modify_eq_set _ _ _ _ h2]
    have hkeyf : ∀ e', es[j]? = some e' → ({ e' with key := key, val := val } : MapEntry).key = e'.key := fun e' he' => by rw [hj] at he'; cases he'; exact h3.symm
    have hpw := ((stamped_iff es clock).1 st).2.2
    have hjl : j < es.toList.length := (List.getElem?_eq_some_iff.1 h2).1
    refine ⟨_, ?_, ⟨es.modify j (fun e' => { e' with key := key, val := val }), clock, heap_setBlock_same hb _, stamped_modify st _ _ (fun _ _ => rfl) (fun e' _ he' => hkeyf e' he'), fun x hx => ?_, fun x v hv => ?_⟩, ⟨es, clock, _, _, hb, rfl⟩⟩
    · simp [Instr.mapUpdate, run_underlying ht, MapKept.run_getObj_map hb, K.check w false hkey, h1, hj, h3, K.stays w hkey, MapKept.run_setObj_map _ hb, Result.andThen, setBlock]
    · rw [hlist] at hx
      obtain ⟨i, hi, ex⟩ := List.getElem_of_mem hx
      rw [List.getElem_set] at ex
      by_cases hij : j = i
      · rw [if_pos hij] at ex
        subst ex
        exact ⟨⟨_, hkey⟩, put_self _ _ _⟩
      · rw [if_neg hij] at ex
        have hi' : i < es.toList.length := by simpa using hi
        have hxm : x ∈ es.toList := ex ▸ List.getElem_mem hi'
        have hne : x.key ≠ key := fun hh => by
          have ej : es.toList[j] = e0 := (List.getElem?_eq_some_iff.1 h2).2
          have ejk : es.toList[j].key = es.toList[i].key := (congrArg MapEntry.key ej).trans (h3.trans (hh.symm.trans (congrArg MapEntry.key ex).symm))
          rcases Nat.lt_or_gt_of_ne hij with q | q
          · exact List.pairwise_iff_getElem.1 hpw j i hjl hi' q ejk
          · exact List.pairwise_iff_getElem.1 hpw i j hi' hjl q ejk.symm
        exact ⟨(ks x hxm).1, by rw [put_ne _ _ hne]; exact (ks x hxm).2⟩
    · rw [hlist]
      by_cases hxk : x = key
      · exact ⟨{ e0 with key := key, val := val }, List.mem_iff_getElem.2 ⟨j, by simpa using hjl, by simp⟩, hxk.symm⟩
      · rw [put_ne _ _ hxk] at hv
        obtain ⟨y, hy, hyk⟩ := all x v hv
        obtain ⟨i, hi, ey⟩ := List.getElem_of_mem hy
        have hij : j ≠ i := fun hh => by
          subst hh
          have : es.toList[j] = e0 := (List.getElem?_eq_some_iff.1 h2).2
          rw [this] at ey
          exact hxk (by rw [← hyk, ← ey, h3])
        exact ⟨y, List.mem_iff_getElem.2 ⟨i, by simpa using hi, by rw [List.getElem_set_ne hij]; exact ey⟩, hyk⟩
/-- taken out -/
theorem IMap.del (h : IMap w P k b f) (K : Keyed P k) (ht : P.underlying t = some (.map k e)) {key : Value} {kl : Lit} (hkey : keyOf P k key = some kl) (ty : TypeId) :
    ∃ w2, (Builtin.delete_ #[t, k] ty #[.map (some b), key]).run P w = .ok (.tuple #[]) w2 ∧ IMap w2 P k b (drop f key) ∧ w.mapTurned w2 b := by
  obtain ⟨es, clock, hb, st, ks, all⟩ := h
  rcases K.find w hkey es.toList (fun e he => (ks e he).1) with ⟨h1, h2⟩ | ⟨j, e0, h1, h2, h3⟩
  · refine ⟨_, ?_, ⟨es, clock, heap_setBlock_same hb _, st, fun x hx => ⟨(ks x hx).1, by rw [drop_ne _ (h2 x hx)]; exact (ks x hx).2⟩, fun x v hv => ?_⟩, ⟨es, clock, _, _, hb, rfl⟩⟩
    · simp [Builtin.delete_, run_underlying ht, MapKept.run_getObj_map hb, K.check w _ hkey, h1, MapKept.run_setObj_map _ hb, Result.andThen, setBlock]
    · by_cases hxk : x = key
      · rw [hxk, drop_self] at hv; cases hv
      · rw [drop_ne _ hxk] at hv
        exact all x v hv
  · have hpw := ((stamped_iff es clock).1 st).2.2
    have hjl : j < es.toList.length := (List.getElem?_eq_some_iff.1 h2).1
    have hjs : j < es.size := by simpa using hjl
    have ej : es.toList[j] = e0 := (List.getElem?_eq_some_iff.1 h2).2
    have hsub : (es.eraseIdxIfInBounds j).toList = es.toList.eraseIdx j := by
      unfold Array.eraseIdxIfInBounds
      rw [dif_pos hjs]
      simp
    refine ⟨_, ?_, ⟨es.eraseIdxIfInBounds j, clock, heap_setBlock_same hb _, stamped_erase st j, fun x hx => ?_, fun x v hv => ?_⟩, ⟨es, clock, _, _, hb, rfl⟩⟩
    · simp [Builtin.delete_, run_underlying ht, MapKept.run_getObj_map hb, K.check w _ hkey, h1, MapKept.run_setObj_map _ hb, Result.andThen, setBlock]
    · rw [hsub] at hx
      obtain ⟨i, hij, hi⟩ := List.mem_eraseIdx_iff_getElem?.1 hx
      have hi' : i < es.toList.length := (List.getElem?_eq_some_iff.1 hi).1
      have ei : es.toList[i] = x := (List.getElem?_eq_some_iff.1 hi).2
      have hne : x.key ≠ key := fun hh => by
        have ejk : es.toList[j].key = es.toList[i].key := (congrArg MapEntry.key ej).trans (h3.trans (hh.symm.trans (congrArg MapEntry.key ei).symm))
        rcases Nat.lt_or_gt_of_ne hij with q | q
        · exact List.pairwise_iff_getElem.1 hpw i j hi' hjl q ejk.symm
        · exact List.pairwise_iff_getElem.1 hpw j i hjl hi' q ejk
      have hxm := List.mem_of_getElem? hi
      exact ⟨(ks x hxm).1, by rw [drop_ne _ hne]; exact (ks x hxm).2⟩
    · by_cases hxk : x = key
      · rw [hxk, drop_self] at hv; cases hv
      · rw [drop_ne _ hxk] at hv
        obtain ⟨y, hy, hyk⟩ := all x v hv
        obtain ⟨i, hi, ey⟩ := List.getElem_of_mem hy
        refine ⟨y, ?_, hyk⟩
        rw [hsub]
        refine List.mem_eraseIdx_iff_getElem?.2 ⟨i, fun hh => ?_, by rw [List.getElem?_eq_getElem hi, ey]⟩
        subst hh
        rw [ej] at ey
        exact hxk (by rw [← hyk, ← ey, h3])
/-- at the operation: a look-up -/
theorem wpList_look {ops : Array Oper} {rest : List Oper} {o : Oper} {a : Act} {Q : Exit → Act → World → Prop} (hg : o.guard = none) (m x : Operand) (t : TypeId) (c : Bool) (hop : o.op = Op.lookup t m x c)
    (k e : TypeId) (K : Keyed P k) (ht : P.underlying t = some (.map k e)) (z : Value) (hz : (zeroValue e).run P w = .ok z w) (b : Nat) (f : Cont) (hm : a.eval m = .map (some b)) (hM : IMap w P k b f) (key : Value) (kl : Lit) (hx : a.eval x = key) (hkey : keyOf P k key = some kl)
    (hK : wpList P ops Q rest (a.put o.dst (if c then .tuple #[(f key).getD z, .bool (f key).isSome] else (f key).getD z)) w) : wpList P ops Q (o :: rest) a w := by
  refine wpList_plain hg fun K' hK' => ?_
  have hrun := hM.look c K ht hz hkey
  unfold Oper.wp
  simp [execOp, hop, hm, hx, hrun, Result.andThen]
  exact hK' _ _ hK
/-- at the operation: a store -/
theorem wpList_store {ops : Array Oper} {rest : List Oper} {o : Oper} {a : Act} {Q : Exit → Act → World → Prop} (hg : o.guard = none) (m x v : Operand) (t : TypeId) (hop : o.op = Op.mapUpdate t m x v)
    (k e : TypeId) (K : Keyed P k) (ht : P.underlying t = some (.map k e)) (b : Nat) (f : Cont) (hm : a.eval m = .map (some b)) (hM : IMap w P k b f) (key val : Value) (kl : Lit) (hx : a.eval x = key) (hv : a.eval v = val) (hkey : keyOf P k key = some kl)
    (hK : ∀ w2, IMap w2 P k b (put f key val) → w.mapTurned w2 b → wpList P ops Q rest (a.put o.dst undef) w2) : wpList P ops Q (o :: rest) a w := by
  refine wpList_plain hg fun K' hK' => ?_
  obtain ⟨w2, hrun, r1, r2⟩ := hM.store (val := val) K ht hkey
  unfold Oper.wp
  simp [execOp, hop, hm, hx, hv, hrun, Result.andThen]
  exact hK' _ _ (hK w2 r1 r2)
end Go.Proofs.Ytnhnbobgfadhpaa.Mp
namespace Go.Proofs.Ytnhnbobgfadhpaa.Mem
open Go Go.Proofs Go.RowKit Go.Proofs.YtnhnbobgfadhpaaW.PrintWords
/-- a block: its number, its cells, its type -/
abbrev Blk := Nat × Array Value × TypeId
/-- the blocks l are new since w, each with its cells, no two the same; below them W is as w was -/
def Own (w W : World) (l : List Blk) : Prop :=
  Below w.heap.size w W ∧ (∀ (k : Nat) (b : Blk), l[k]? = some b → w.heap.size ≤ b.1 ∧ W.heap[b.1]? = some (.cells b.2.1 b.2.2 (0, 0))) ∧ ∀ (i j : Nat) (a b : Blk), l[i]? = some a → l[j]? = some b → i ≠ j → a.1 ≠ b.1
variable {w W W2 : World} {l : List Blk} {g : Nat} {cs : Array Value} {t : TypeId}
theorem Own.nil (w : World) : Own w w [] := ⟨Below.refl _ _, fun _ _ h => by simp at h, fun _ _ _ _ h => by simp at h⟩
theorem Own.of_below (h : Below w.heap.size w W) : Own w W [] := ⟨h, fun _ _ h => by simp at h, fun _ _ _ _ h => by simp at h⟩
theorem Own.below (h : Own w W l) : Below w.heap.size w W := h.1
theorem Own.blk (h : Own w W l) (k : Nat) (e : l[k]? = some (g, cs, t)) : W.heap[g]? = some (.cells cs t (0, 0)) := (h.2.1 k _ e).2
theorem Own.new_le (h : Own w W l) (k : Nat) (e : l[k]? = some (g, cs, t)) : w.heap.size ≤ g := (h.2.1 k _ e).1
theorem Own.ne (h : Own w W l) (i j : Nat) {a b : Blk} (ha : l[i]? = some a) (hb : l[j]? = some b) (hij : i ≠ j) : a.1 ≠ b.1 := h.2.2 i j a b ha hb hij
theorem Own.cell (h : Own w W l) (k : Nat) (e : l[k]? = some (g, cs, t)) (i : Nat) : W.cell? ⟨g, i, none⟩ = cs[i]? := blk_cell (h.blk k e) i
theorem Own.frozen (h : Own w W l) (k : Nat) (e : l[k]? = some (g, cs, t)) (i : Nat) : W.frozen? ⟨g, i, none⟩ = false := blk_frozen (h.blk k e) i
theorem Own.size (h : Own w W l) : w.heap.size ≤ W.heap.size := h.1.size
/-- a world below whose own heap nothing has turned -/
theorem Own.step (h : Own w W l) (k : Below W.heap.size W W2) : Own w W2 l :=
  ⟨below_step h.1 k, fun i b e => ⟨(h.2.1 i b e).1, blk_below (h.2.1 i b e).2 k⟩, h.2.2⟩
theorem Own.new (h : Own w W l) (hg : g = W.heap.size) (hb : W2.heap[g]? = some (.cells cs t (0, 0))) (k : Below W.heap.size W W2) : Own w W2 (l ++ [(g, cs, t)]) := by
  have h2 := h.step k
  refine ⟨h2.1, fun i b e => ?_, fun i j a b ea eb hij => ?_⟩
  · rcases Nat.lt_trichotomy i l.length with hi | hi | hi
    · rw [List.getElem?_append_left hi] at e
      exact h2.2.1 i b e
    · subst hi
      rw [List.getElem?_append_right (Nat.le_refl _), Nat.sub_self] at e
      have : b = (g, cs, t) := by simpa using e.symm
      subst this
      exact ⟨by rw [hg]; exact h.size, hb⟩
    · rw [List.getElem?_eq_none (by simp; omega)] at e
      cases e
  · have key : ∀ i (a : Blk), (l ++ [(g, cs, t)])[i]? = some a → (i < l.length ∧ l[i]? = some a) ∨ (i = l.length ∧ a = (g, cs, t)) := fun i a e => by
      rcases Nat.lt_trichotomy i l.length with hi | hi | hi
      · rw [List.getElem?_append_left hi] at e
        exact .inl ⟨hi, e⟩
      · subst hi
        rw [List.getElem?_append_right (Nat.le_refl _), Nat.sub_self] at e
        exact .inr ⟨rfl, by simpa using e.symm⟩
      · rw [List.getElem?_eq_none (by simp; omega)] at e
        cases e
    rcases key i a ea with ⟨h1, h1'⟩ | ⟨h1, rfl⟩ <;> rcases key j b eb with ⟨h2, h2'⟩ | ⟨h2, rfl⟩
    · exact h.2.2 i j a b h1' h2' hij
    · have := blk_lt (h.2.1 i a h1').2
      show a.1 ≠ g
      omega
    · have := blk_lt (h.2.1 j b h2').2
      show g ≠ b.1
      omega
    · omega
theorem Own.put {cs' : Array Value} (h : Own w W l) (k : Nat) (e : l[k]? = some (g, cs, t)) (i : Nat) (v : Value) (ec : cs.setIfInBounds i v = cs') : Own w (W.setCell ⟨g, i, none⟩ v) (l.set k (g, cs', t)) := by
  have hk : k < l.length := (List.getElem?_eq_some_iff.1 e).1
  refine ⟨below_set h.1 (h.new_le k e), fun j b eb => ?_, fun i' j' a b ea eb hij => ?_⟩
  · by_cases hj : k = j
    · subst hj
      rw [List.getElem?_set_self hk] at eb
      cases eb
      exact ⟨h.new_le k e, blk_put (h.blk k e) i v ec⟩
    · rw [List.getElem?_set_ne hj] at eb
      exact ⟨(h.2.1 j b eb).1, blk_far (h.2.1 j b eb).2 (show b.1 ≠ g from fun q => h.2.2 j k b _ eb e (fun q => hj q.symm) q) v⟩
  · have key : ∀ i (a : Blk), (l.set k (g, cs', t))[i]? = some a → ∃ a' : Blk, l[i]? = some a' ∧ a'.1 = a.1 := fun i a e' => by
      by_cases hj : k = i
      · subst hj
        rw [List.getElem?_set_self hk] at e'
        cases e'
        exact ⟨_, e, rfl⟩
      · rw [List.getElem?_set_ne hj] at e'
        exact ⟨a, e', rfl⟩
    obtain ⟨a', ha, ea'⟩ := key i' a ea
    obtain ⟨b', hb, eb'⟩ := key j' b eb
    rw [← ea', ← eb']
    exact h.2.2 i' j' a' b' ha hb hij
theorem setRow_far {W : World} {g g2 : Nat} {o : Obj} (h : W.heap[g]? = some o) (hne : g ≠ g2) (cs : Array Value) : (W.setRow g2 cs).heap[g]? = some o := (setRow_other W g2 g cs hne).trans h
theorem below_row {w W : World} {g : Nat} {cs : Array Value} (h : Below w.heap.size w W) (hg : w.heap.size ≤ g) : Below w.heap.size w (W.setRow g cs) :=
  h.trans ⟨rfl, rfl, rfl, by rw [size_setRow]; exact Nat.le_refl _, fun k hk => setRow_other W g k cs (by omega)⟩
/-- a whole block written -/
theorem Own.row (h : Own w W l) (k : Nat) (e : l[k]? = some (g, cs, t)) (cs' : Array Value) : Own w (W.setRow g cs') (l.set k (g, cs', t)) := by
  have hk : k < l.length := (List.getElem?_eq_some_iff.1 e).1
  refine ⟨below_row h.1 (h.new_le k e), fun j b eb => ?_, fun i' j' a b ea eb hij => ?_⟩
  · by_cases hj : k = j
    · subst hj
      rw [List.getElem?_set_self hk] at eb
      cases eb
      exact ⟨h.new_le k e, setRow_heap W g cs cs' t (0, 0) (h.blk k e)⟩
    · rw [List.getElem?_set_ne hj] at eb
      exact ⟨(h.2.1 j b eb).1, setRow_far (h.2.1 j b eb).2 (show b.1 ≠ g from fun q => h.2.2 j k b _ eb e (fun q => hj q.symm) q) cs'⟩
  · have key : ∀ i (a : Blk), (l.set k (g, cs', t))[i]? = some a → ∃ a' : Blk, l[i]? = some a' ∧ a'.1 = a.1 := fun i a e' => by
      by_cases hj : k = i
      · subst hj
        rw [List.getElem?_set_self hk] at e'
        cases e'
        exact ⟨_, e, rfl⟩
      · rw [List.getElem?_set_ne hj] at e'
        exact ⟨a, e', rfl⟩
    obtain ⟨a', ha, ea'⟩ := key i' a ea
    obtain ⟨b', hb, eb'⟩ := key j' b eb
    rw [← ea', ← eb']
    exact h.2.2 i' j' a' b' ha hb hij
theorem Own.drew (h : Own w W l) : Own w W.drew l := ⟨h.1.drew, h.2.1, h.2.2⟩
theorem Own.drewN (h : Own w W l) (n : Nat) : Own w (W.drewN n) l := ⟨pw_below_drewN h.1 n, h.2.1, h.2.2⟩
/-- an append, or a make, that has written one row that is none of the blocks -/
theorem Own.grown {row : Option Nat} (h : Own w W l) (hg : W.grownBy W2 row) (hr : ∀ k, row = some k → w.heap.size ≤ k) (hne : ∀ (i : Nat) (b : Blk), l[i]? = some b → some b.1 ≠ row) : Own w W2 l :=
  ⟨h.1.grown hg h.size hr, fun i b e => ⟨(h.2.1 i b e).1, blk_grown (h.2.1 i b e).2 hg (hne i b e)⟩, h.2.2⟩
/-- a store into a block that is none of them, and new -/
theorem Own.far (h : Own w W l) {p : Addr} (hp : w.heap.size ≤ p.block) (hne : ∀ (i : Nat) (b : Blk), l[i]? = some b → b.1 ≠ p.block) (v : Value) : Own w (W.setCell p v) l :=
  ⟨h.1.setCell hp v, fun i b e => ⟨(h.2.1 i b e).1, blk_far (h.2.1 i b e).2 (hne i b e) v⟩, h.2.2⟩
/-- a cell that was there before -/
theorem Own.old (h : Own w W l) {p : Addr} {v : Value} (hc : w.cell? p = some v) : W.cell? p = some v := (h.1.cell (World.block_lt_of_cell? w _ hc)).trans hc
/-- a region that draws, whose operations but the last ones read or call quietly: walked once, at a world of a new name -/
theorem region_still_tail {P : Program} {id : Nat} {Q : Exit → Act → World → Prop} {a : Act} {w : World} {ops : List Oper} (n : Nat) (hm : P.follows .mixedOrders = true) (hB : Region.lexTailB .any ops.toArray n = true)
    (h : ∀ W2, w.drew = W2 → wpStill P ops.toArray W2 (fun a2 => wpList P ops.toArray Q (ops.drop n) a2 W2) (ops.take n) a) : (Code.region id ops.toArray true).wp P Q a w :=
  wp_region_still_tail n hm hB (h _ rfl)
end Go.Proofs.Ytnhnbobgfadhpaa.Mem
namespace Go.Proofs.Ytnhnbobgfadhpaa.PDecreeStill
open Go.RowKit Go.Proofs.YtnhnbobgfadhpaaW.PrintWords Go.Proofs.YtnhnbobgfadhpaaW.PrintLast Go.Proofs.YtnhnbobgfadhpaaW.PrintMore
attribute [local go_sem] max2_int min2_int max_two min_two max_three min_three max_four min_four   -- for this text's walks alone
set_option linter.unusedVariables false
set_option linter.unusedSimpArgs false



def errW : Option Int → Value
  | none => .nilIface
  | some c => .iface 0 (.int .i64 c)
theorem errW_none : errW none = .nilIface := rfl
theorem errW_some (c : Int) : errW (some c) = .iface 0 (.int .i64 c) := rfl

-- the values' own types

end Go.Proofs.Ytnhnbobgfadhpaa.PDecreeStill
