/- This text joins parts of the proof: each part says in its own first lines what it states. It has no conditions beyond those. -/
import GoSem.Core.Program
import GoSem.Core.Code
import GoSem.Core.View
import GoSem.Dispatch
import Derived.WalkKit
import Derived.ChangeKeysEq
import Derived.Laws.StructEq
import Derived.Great.BuildSlice
import Derived.Laws.Slices
set_option linter.unusedVariables false
set_option linter.unusedSimpArgs false
/- This text holds the data of an evaluator of Go's operations over an abstract heap, in a form that Lean's kernel reckons fast, and lemmas on them. It states nothing of any program. -/
section
namespace Ev
open Go

/-- a positive number in binary, its last digit first -/
inductive Pos where
  | h : Pos
  | o : Pos → Pos
  | i : Pos → Pos

/-- an abstract value; lists of values are made of nil and cons -/
inductive AV where
  | nil | cons (a b : AV)
  | int (k : IntKind) (n : Nat)
  | bool (b : Bool)
  | str (l : List Nat)
  | nilp | ptr (b : Pos) (o : Nat)
  | nils | sl (b : Pos) (o l c z : Nat) (ex : Bool)
  | nilm | mp (b : Pos)
  | fn (f : Nat) (fst cap : AV) | nilf
  | ifc (t : Nat) (v : AV) | nili
  | agg (l : AV) | tup (l : AV)
  | yl (b : Pos)
  | undef

inductive Tr (α : Type) where
  | e : Tr α
  | n (v : α) (l r : Tr α) : Tr α
  | z (l r : Tr α) : Tr α

/-- a block: given up; cells; many single cells, all but some of which are d; cells that may not be written; a map (a list of pairs); an iterator over a map of one entry at most: the map, the steps made; a range over a function -/
inductive Blk where
  | dead
  | l (c : AV)
  | ro (c : AV)
  | t (d : AV) (n : Nat) (t : Tr AV)
  | m (es : AV) (clk : Nat)
  | it (m : Pos) (since n stamp stepped : Nat)
  | lp (ps : List Nat) (fr : Tr AV) (as_ bd : Code) (stt : Nat) (pend : Option Nat)

inductive Ex where
  | norm | ret | exit (id : Nat)

structure St where
  heap : Tr Blk
  next : Pos

inductive Res where
  | fail (n : Nat)
  | ok (e : Ex) (fr : Tr AV) (st : St)

/-- the result of a call -/
inductive Rv where
  | fail (n : Nat)
  | ok (v : AV) (st : St)

noncomputable section
section tr
variable {α : Type} {R : Type}
def Tr.getH : Tr α → (α → R) → R → R :=
  Tr.rec (motive := fun _ => (α → R) → R → R) (fun _ d => d) (fun v _ _ _ _ k _ => k v) (fun _ _ _ _ _ d => d)
def Tr.getO (ih : Tr α → (α → R) → R → R) : Tr α → (α → R) → R → R :=
  fun t => Tr.rec (motive := fun _ => (Tr α → (α → R) → R → R) → (α → R) → R → R) (fun _ _ d => d) (fun _ l _ _ _ ih => ih l) (fun l _ _ _ ih => ih l) t ih
def Tr.getI (ih : Tr α → (α → R) → R → R) : Tr α → (α → R) → R → R :=
  fun t => Tr.rec (motive := fun _ => (Tr α → (α → R) → R → R) → (α → R) → R → R) (fun _ _ d => d) (fun _ _ r _ _ ih => ih r) (fun _ r _ _ ih => ih r) t ih
def Tr.get : Pos → Tr α → (α → R) → R → R :=
  Pos.rec (motive := fun _ => Tr α → (α → R) → R → R) Tr.getH (fun _ => Tr.getO) (fun _ => Tr.getI)

def Tr.setH (x : α) : Tr α → (Tr α → R) → R :=
  fun t => Tr.rec (motive := fun _ => α → (Tr α → R) → R) (fun x k => k (.n x .e .e)) (fun _ l r _ _ x k => k (.n x l r)) (fun l r _ _ x k => k (.n x l r)) t x
def Tr.setO (ih : Tr α → (Tr α → R) → R) : Tr α → (Tr α → R) → R :=
  fun t => Tr.rec (motive := fun _ => (Tr α → (Tr α → R) → R) → (Tr α → R) → R) (fun ih k => ih .e fun l => k (.z l .e)) (fun v l r _ _ ih k => ih l fun l => k (.n v l r)) (fun l r _ _ ih k => ih l fun l => k (.z l r)) t ih
def Tr.setI (ih : Tr α → (Tr α → R) → R) : Tr α → (Tr α → R) → R :=
  fun t => Tr.rec (motive := fun _ => (Tr α → (Tr α → R) → R) → (Tr α → R) → R) (fun ih k => ih .e fun r => k (.z .e r)) (fun v l r _ _ ih k => ih r fun r => k (.n v l r)) (fun l r _ _ ih k => ih r fun r => k (.z l r)) t ih
def Tr.set (p : Pos) (x : α) : Tr α → (Tr α → R) → R :=
  Pos.rec (motive := fun _ => Tr α → (Tr α → R) → R) (Tr.setH x) (fun _ => Tr.setO) (fun _ => Tr.setI) p

/-- what stands at a place -/
def Tr.find (p : Pos) (t : Tr α) : Option α := Tr.get p t some none
/-- the tree with one place turned -/
def Tr.ins (p : Pos) (x : α) (t : Tr α) : Tr α := Tr.set p x t id

theorem Tr.get_eq (p : Pos) : ∀ (t : Tr α) (k : α → R) (d : R), Tr.get p t k d = (match Tr.find p t with | some v => k v | none => d) := by
  induction p with
  | h => intro t k d; cases t <;> rfl
  | o p ih => intro t k d; cases t with
    | e => rfl
    | n v l r => exact ih l k d
    | z l r => exact ih l k d
  | i p ih => intro t k d; cases t with
    | e => rfl
    | n v l r => exact ih r k d
    | z l r => exact ih r k d
theorem Tr.get_some {p : Pos} {t : Tr α} {v : α} (h : Tr.find p t = some v) (k : α → R) (d : R) : Tr.get p t k d = k v := by rw [Tr.get_eq, h]
theorem Tr.get_none {p : Pos} {t : Tr α} (h : Tr.find p t = none) (k : α → R) (d : R) : Tr.get p t k d = d := by rw [Tr.get_eq, h]
theorem Tr.get_cases (p : Pos) (t : Tr α) (k : α → R) (d : R) : (∃ v, Tr.find p t = some v ∧ Tr.get p t k d = k v) ∨ Tr.get p t k d = d := by
  rw [Tr.get_eq]
  cases Tr.find p t with
  | some v => exact .inl ⟨v, rfl, rfl⟩
  | none => exact .inr rfl

theorem Tr.set_eq (p : Pos) (x : α) : ∀ {R : Type} (t : Tr α) (k : Tr α → R), Tr.set p x t k = k (Tr.ins p x t) := by
  induction p with
  | h => intro R t k; cases t <;> rfl
  | o p ih =>
    intro R t k
    cases t with
    | e => exact (ih .e _).trans (congrArg k (ih .e (fun l => (.z l .e : Tr α))).symm)
    | n v l r => exact (ih l _).trans (congrArg k (ih l (fun l => (.n v l r : Tr α))).symm)
    | z l r => exact (ih l _).trans (congrArg k (ih l (fun l => (.z l r : Tr α))).symm)
  | i p ih =>
    intro R t k
    cases t with
    | e => exact (ih .e _).trans (congrArg k (ih .e (fun r => (.z .e r : Tr α))).symm)
    | n v l r => exact (ih r _).trans (congrArg k (ih r (fun r => (.n v l r : Tr α))).symm)
    | z l r => exact (ih r _).trans (congrArg k (ih r (fun r => (.z l r : Tr α))).symm)
theorem Tr.find_e (p : Pos) : Tr.find p (.e : Tr α) = none := by cases p <;> rfl
theorem Tr.ins_o_e (p : Pos) (x : α) : Tr.ins (.o p) x .e = .z (Tr.ins p x .e) .e := Tr.set_eq p x .e _
theorem Tr.ins_o_n (p : Pos) (x v : α) (l r : Tr α) : Tr.ins (.o p) x (.n v l r) = .n v (Tr.ins p x l) r := Tr.set_eq p x l _
theorem Tr.ins_o_z (p : Pos) (x : α) (l r : Tr α) : Tr.ins (.o p) x (.z l r) = .z (Tr.ins p x l) r := Tr.set_eq p x l _
theorem Tr.ins_i_e (p : Pos) (x : α) : Tr.ins (.i p) x .e = .z .e (Tr.ins p x .e) := Tr.set_eq p x .e _
theorem Tr.ins_i_n (p : Pos) (x v : α) (l r : Tr α) : Tr.ins (.i p) x (.n v l r) = .n v l (Tr.ins p x r) := Tr.set_eq p x r _
theorem Tr.ins_i_z (p : Pos) (x : α) (l r : Tr α) : Tr.ins (.i p) x (.z l r) = .z l (Tr.ins p x r) := Tr.set_eq p x r _
theorem Tr.find_ins_same (p : Pos) (x : α) : ∀ t : Tr α, Tr.find p (Tr.ins p x t) = some x := by
  induction p with
  | h => intro t; cases t <;> rfl
  | o p ih => intro t; cases t with
    | e => rw [Tr.ins_o_e]; exact ih .e
    | n v l r => rw [Tr.ins_o_n]; exact ih l
    | z l r => rw [Tr.ins_o_z]; exact ih l
  | i p ih => intro t; cases t with
    | e => rw [Tr.ins_i_e]; exact ih .e
    | n v l r => rw [Tr.ins_i_n]; exact ih r
    | z l r => rw [Tr.ins_i_z]; exact ih r
theorem Tr.find_ins_ne (x : α) (p : Pos) : ∀ (q : Pos) (t : Tr α), q ≠ p → Tr.find q (Tr.ins p x t) = Tr.find q t := by
  induction p with
  | h => intro q t h; cases q with
    | h => exact absurd rfl h
    | o q => cases t <;> first | rfl | exact Tr.find_e q
    | i q => cases t <;> first | rfl | exact Tr.find_e q
  | o p ih =>
    intro q t h
    cases t with
    | e => rw [Tr.ins_o_e]; cases q with
      | h => rfl
      | o q => exact (ih q .e (fun e => h (congrArg Pos.o e))).trans (Tr.find_e q)
      | i q => exact Tr.find_e q
    | n v l r => rw [Tr.ins_o_n]; cases q with
      | h => rfl
      | o q => exact ih q l (fun e => h (congrArg Pos.o e))
      | i q => rfl
    | z l r => rw [Tr.ins_o_z]; cases q with
      | h => rfl
      | o q => exact ih q l (fun e => h (congrArg Pos.o e))
      | i q => rfl
  | i p ih =>
    intro q t h
    cases t with
    | e => rw [Tr.ins_i_e]; cases q with
      | h => rfl
      | i q => exact (ih q .e (fun e => h (congrArg Pos.i e))).trans (Tr.find_e q)
      | o q => exact Tr.find_e q
    | n v l r => rw [Tr.ins_i_n]; cases q with
      | h => rfl
      | i q => exact ih q r (fun e => h (congrArg Pos.i e))
      | o q => rfl
    | z l r => rw [Tr.ins_i_z]; cases q with
      | h => rfl
      | i q => exact ih q r (fun e => h (congrArg Pos.i e))
      | o q => rfl
end tr

def Pos.inc : Pos → Pos := Pos.rec (motive := fun _ => Pos) (.o .h) (fun q _ => .i q) (fun _ ih => .o ih)
def Pos.num : Pos → Nat := Pos.rec (motive := fun _ => Nat) 1 (fun _ n => 2 * n) (fun _ n => 2 * n + 1)
/-- the next number, handed on in full -/
def Pos.succ {R : Type} : Pos → (Pos → R) → R :=
  Pos.rec (motive := fun _ => (Pos → R) → R) (fun k => k (.o .h)) (fun q _ k => k (.i q)) (fun _ ih k => ih fun q => k (.o q))
theorem Pos.succ_eq {R : Type} (p : Pos) : ∀ k : Pos → R, Pos.succ p k = k p.inc := by
  induction p with
  | h => intro k; rfl
  | o q _ => intro k; rfl
  | i q ih => intro k; exact ih _
theorem Pos.num_inc (p : Pos) : p.inc.num = p.num + 1 := by
  induction p with
  | h => rfl
  | o q _ => rfl
  | i q ih => show 2 * q.inc.num = 2 * q.num + 1 + 1; omega
theorem Pos.num_pos (p : Pos) : 0 < p.num := by
  induction p with
  | h => exact Nat.one_pos
  | o q ih => show 0 < 2 * q.num; omega
  | i q ih => show 0 < 2 * q.num + 1; omega
theorem Pos.num_inj : ∀ {p q : Pos}, p.num = q.num → p = q := by
  intro p
  induction p with
  | h => intro q e; cases q with
    | h => rfl
    | o q => have e' : 1 = 2 * q.num := e; omega
    | i q => have := q.num_pos; have e' : 1 = 2 * q.num + 1 := e; omega
  | o p ih => intro q e; cases q with
    | h => have e' : 2 * p.num = 1 := e; omega
    | o q => have e' : 2 * p.num = 2 * q.num := e; exact congrArg Pos.o (ih (by omega))
    | i q => have e' : 2 * p.num = 2 * q.num + 1 := e; omega
  | i p ih => intro q e; cases q with
    | h => have := p.num_pos; have e' : 2 * p.num + 1 = 1 := e; omega
    | o q => have e' : 2 * p.num + 1 = 2 * q.num := e; omega
    | i q => have e' : 2 * p.num + 1 = 2 * q.num + 1 := e; exact congrArg Pos.i (ih (by omega))
/-- the place of a number from nought on -/
def pos : Nat → Pos := Nat.rec (motive := fun _ => Pos) .h (fun _ ih => ih.inc)
theorem num_pos (n : Nat) : (pos n).num = n + 1 := by
  induction n with
  | zero => rfl
  | succ n ih => show (pos n).inc.num = _; rw [Pos.num_inc, ih]
theorem pos_inj {m n : Nat} (h : pos m = pos n) : m = n := by
  have := congrArg Pos.num h
  rw [num_pos, num_pos] at this
  omega

/-- a number handed on in full -/
def frc {R : Type} (n : Nat) (k : Nat → R) : R := Nat.rec (motive := fun _ => R) (k 0) (fun m _ => k (Nat.succ m)) n
theorem frc_eq {R : Type} (n : Nat) (k : Nat → R) : frc n k = k n := by cases n <;> rfl

section proj
variable {R : Type}
def onInt : AV → (IntKind → Nat → R) → R → R :=
  AV.rec (motive := fun _ => (IntKind → Nat → R) → R → R) (fun _ d => d) (fun _ _ _ _ _ d => d) (fun x0 x1 k0 _ => k0 x0 x1) (fun _ _ d => d) (fun _ _ d => d) (fun _ d => d) (fun _ _ _ d => d) (fun _ d => d) (fun _ _ _ _ _ _ _ d => d) (fun _ d => d) (fun _ _ d => d) (fun _ _ _ _ _ _ d => d) (fun _ d => d) (fun _ _ _ _ d => d) (fun _ d => d) (fun _ _ _ d => d) (fun _ _ _ d => d) (fun _ _ d => d) (fun _ d => d)
theorem onInt_cases (v : AV) (k0 : IntKind → Nat → R) (d : R) : (∃ x0 x1, v = .int x0 x1 ∧ onInt v k0 d = k0 x0 x1) ∨ (onInt v k0 d = d) := by
  cases v <;> first | exact (.inl ⟨_, _, rfl, rfl⟩) | exact (.inr rfl)
def onBool : AV → (Bool → R) → R → R :=
  AV.rec (motive := fun _ => (Bool → R) → R → R) (fun _ d => d) (fun _ _ _ _ _ d => d) (fun _ _ _ d => d) (fun x0 k0 _ => k0 x0) (fun _ _ d => d) (fun _ d => d) (fun _ _ _ d => d) (fun _ d => d) (fun _ _ _ _ _ _ _ d => d) (fun _ d => d) (fun _ _ d => d) (fun _ _ _ _ _ _ d => d) (fun _ d => d) (fun _ _ _ _ d => d) (fun _ d => d) (fun _ _ _ d => d) (fun _ _ _ d => d) (fun _ _ d => d) (fun _ d => d)
theorem onBool_cases (v : AV) (k0 : Bool → R) (d : R) : (∃ x0, v = .bool x0 ∧ onBool v k0 d = k0 x0) ∨ (onBool v k0 d = d) := by
  cases v <;> first | exact (.inl ⟨_, rfl, rfl⟩) | exact (.inr rfl)
def onPtr : AV → (Pos → Nat → R) → R → R :=
  AV.rec (motive := fun _ => (Pos → Nat → R) → R → R) (fun _ d => d) (fun _ _ _ _ _ d => d) (fun _ _ _ d => d) (fun _ _ d => d) (fun _ _ d => d) (fun _ d => d) (fun x0 x1 k0 _ => k0 x0 x1) (fun _ d => d) (fun _ _ _ _ _ _ _ d => d) (fun _ d => d) (fun _ _ d => d) (fun _ _ _ _ _ _ d => d) (fun _ d => d) (fun _ _ _ _ d => d) (fun _ d => d) (fun _ _ _ d => d) (fun _ _ _ d => d) (fun _ _ d => d) (fun _ d => d)
theorem onPtr_cases (v : AV) (k0 : Pos → Nat → R) (d : R) : (∃ x0 x1, v = .ptr x0 x1 ∧ onPtr v k0 d = k0 x0 x1) ∨ (onPtr v k0 d = d) := by
  cases v <;> first | exact (.inl ⟨_, _, rfl, rfl⟩) | exact (.inr rfl)
def onNptr : AV → (R) → (Pos → Nat → R) → R → R :=
  AV.rec (motive := fun _ => (R) → (Pos → Nat → R) → R → R) (fun _ _ d => d) (fun _ _ _ _ _ _ d => d) (fun _ _ _ _ d => d) (fun _ _ _ d => d) (fun _ _ _ d => d) (fun k0 _ _ => k0) (fun x0 x1 _ k1 _ => k1 x0 x1) (fun _ _ d => d) (fun _ _ _ _ _ _ _ _ d => d) (fun _ _ d => d) (fun _ _ _ d => d) (fun _ _ _ _ _ _ _ d => d) (fun _ _ d => d) (fun _ _ _ _ _ d => d) (fun _ _ d => d) (fun _ _ _ _ d => d) (fun _ _ _ _ d => d) (fun _ _ _ d => d) (fun _ _ d => d)
theorem onNptr_cases (v : AV) (k0 : R) (k1 : Pos → Nat → R) (d : R) : (v = .nilp ∧ onNptr v k0 k1 d = k0) ∨ (∃ x0 x1, v = .ptr x0 x1 ∧ onNptr v k0 k1 d = k1 x0 x1) ∨ (onNptr v k0 k1 d = d) := by
  cases v <;> first | exact (.inl ⟨rfl, rfl⟩) | exact (.inr (.inl ⟨_, _, rfl, rfl⟩)) | exact (.inr (.inr rfl))
def onCons : AV → (AV → AV → R) → R → R :=
  AV.rec (motive := fun _ => (AV → AV → R) → R → R) (fun _ d => d) (fun x0 x1 _ _ k0 _ => k0 x0 x1) (fun _ _ _ d => d) (fun _ _ d => d) (fun _ _ d => d) (fun _ d => d) (fun _ _ _ d => d) (fun _ d => d) (fun _ _ _ _ _ _ _ d => d) (fun _ d => d) (fun _ _ d => d) (fun _ _ _ _ _ _ d => d) (fun _ d => d) (fun _ _ _ _ d => d) (fun _ d => d) (fun _ _ _ d => d) (fun _ _ _ d => d) (fun _ _ d => d) (fun _ d => d)
theorem onCons_cases (v : AV) (k0 : AV → AV → R) (d : R) : (∃ x0 x1, v = .cons x0 x1 ∧ onCons v k0 d = k0 x0 x1) ∨ (onCons v k0 d = d) := by
  cases v <;> first | exact (.inl ⟨_, _, rfl, rfl⟩) | exact (.inr rfl)
def onList : AV → (R) → (AV → AV → R) → R → R :=
  AV.rec (motive := fun _ => (R) → (AV → AV → R) → R → R) (fun k0 _ _ => k0) (fun x0 x1 _ _ _ k1 _ => k1 x0 x1) (fun _ _ _ _ d => d) (fun _ _ _ d => d) (fun _ _ _ d => d) (fun _ _ d => d) (fun _ _ _ _ d => d) (fun _ _ d => d) (fun _ _ _ _ _ _ _ _ d => d) (fun _ _ d => d) (fun _ _ _ d => d) (fun _ _ _ _ _ _ _ d => d) (fun _ _ d => d) (fun _ _ _ _ _ d => d) (fun _ _ d => d) (fun _ _ _ _ d => d) (fun _ _ _ _ d => d) (fun _ _ _ d => d) (fun _ _ d => d)
theorem onList_cases (v : AV) (k0 : R) (k1 : AV → AV → R) (d : R) : (v = .nil ∧ onList v k0 k1 d = k0) ∨ (∃ x0 x1, v = .cons x0 x1 ∧ onList v k0 k1 d = k1 x0 x1) ∨ (onList v k0 k1 d = d) := by
  cases v <;> first | exact (.inl ⟨rfl, rfl⟩) | exact (.inr (.inl ⟨_, _, rfl, rfl⟩)) | exact (.inr (.inr rfl))
def onAgg : AV → (AV → R) → R → R :=
  AV.rec (motive := fun _ => (AV → R) → R → R) (fun _ d => d) (fun _ _ _ _ _ d => d) (fun _ _ _ d => d) (fun _ _ d => d) (fun _ _ d => d) (fun _ d => d) (fun _ _ _ d => d) (fun _ d => d) (fun _ _ _ _ _ _ _ d => d) (fun _ d => d) (fun _ _ d => d) (fun _ _ _ _ _ _ d => d) (fun _ d => d) (fun _ _ _ _ d => d) (fun _ d => d) (fun x0 _ k0 _ => k0 x0) (fun _ _ _ d => d) (fun _ _ d => d) (fun _ d => d)
theorem onAgg_cases (v : AV) (k0 : AV → R) (d : R) : (∃ x0, v = .agg x0 ∧ onAgg v k0 d = k0 x0) ∨ (onAgg v k0 d = d) := by
  cases v <;> first | exact (.inl ⟨_, rfl, rfl⟩) | exact (.inr rfl)
def onTup : AV → (AV → R) → R → R :=
  AV.rec (motive := fun _ => (AV → R) → R → R) (fun _ d => d) (fun _ _ _ _ _ d => d) (fun _ _ _ d => d) (fun _ _ d => d) (fun _ _ d => d) (fun _ d => d) (fun _ _ _ d => d) (fun _ d => d) (fun _ _ _ _ _ _ _ d => d) (fun _ d => d) (fun _ _ d => d) (fun _ _ _ _ _ _ d => d) (fun _ d => d) (fun _ _ _ _ d => d) (fun _ d => d) (fun _ _ _ d => d) (fun x0 _ k0 _ => k0 x0) (fun _ _ d => d) (fun _ d => d)
theorem onTup_cases (v : AV) (k0 : AV → R) (d : R) : (∃ x0, v = .tup x0 ∧ onTup v k0 d = k0 x0) ∨ (onTup v k0 d = d) := by
  cases v <;> first | exact (.inl ⟨_, rfl, rfl⟩) | exact (.inr rfl)
def onFn : AV → (Nat → AV → AV → R) → R → R :=
  AV.rec (motive := fun _ => (Nat → AV → AV → R) → R → R) (fun _ d => d) (fun _ _ _ _ _ d => d) (fun _ _ _ d => d) (fun _ _ d => d) (fun _ _ d => d) (fun _ d => d) (fun _ _ _ d => d) (fun _ d => d) (fun _ _ _ _ _ _ _ d => d) (fun _ d => d) (fun _ _ d => d) (fun x0 x1 x2 _ _ k0 _ => k0 x0 x1 x2) (fun _ d => d) (fun _ _ _ _ d => d) (fun _ d => d) (fun _ _ _ d => d) (fun _ _ _ d => d) (fun _ _ d => d) (fun _ d => d)
theorem onFn_cases (v : AV) (k0 : Nat → AV → AV → R) (d : R) : (∃ x0 x1 x2, v = .fn x0 x1 x2 ∧ onFn v k0 d = k0 x0 x1 x2) ∨ (onFn v k0 d = d) := by
  cases v <;> first | exact (.inl ⟨_, _, _, rfl, rfl⟩) | exact (.inr rfl)
def onNilf : AV → (R) → R → R :=
  AV.rec (motive := fun _ => (R) → R → R) (fun _ d => d) (fun _ _ _ _ _ d => d) (fun _ _ _ d => d) (fun _ _ d => d) (fun _ _ d => d) (fun _ d => d) (fun _ _ _ d => d) (fun _ d => d) (fun _ _ _ _ _ _ _ d => d) (fun _ d => d) (fun _ _ d => d) (fun _ _ _ _ _ _ d => d) (fun k0 _ => k0) (fun _ _ _ _ d => d) (fun _ d => d) (fun _ _ _ d => d) (fun _ _ _ d => d) (fun _ _ d => d) (fun _ d => d)
theorem onNilf_cases (v : AV) (k0 : R) (d : R) : (v = .nilf ∧ onNilf v k0 d = k0) ∨ (onNilf v k0 d = d) := by
  cases v <;> first | exact (.inl ⟨rfl, rfl⟩) | exact (.inr rfl)
def onYl : AV → (Pos → R) → R → R :=
  AV.rec (motive := fun _ => (Pos → R) → R → R) (fun _ d => d) (fun _ _ _ _ _ d => d) (fun _ _ _ d => d) (fun _ _ d => d) (fun _ _ d => d) (fun _ d => d) (fun _ _ _ d => d) (fun _ d => d) (fun _ _ _ _ _ _ _ d => d) (fun _ d => d) (fun _ _ d => d) (fun _ _ _ _ _ _ d => d) (fun _ d => d) (fun _ _ _ _ d => d) (fun _ d => d) (fun _ _ _ d => d) (fun _ _ _ d => d) (fun x0 k0 _ => k0 x0) (fun _ d => d)
theorem onYl_cases (v : AV) (k0 : Pos → R) (d : R) : (∃ x0, v = .yl x0 ∧ onYl v k0 d = k0 x0) ∨ (onYl v k0 d = d) := by
  cases v <;> first | exact (.inl ⟨_, rfl, rfl⟩) | exact (.inr rfl)
def onStr : AV → (List Nat → R) → R → R :=
  AV.rec (motive := fun _ => (List Nat → R) → R → R) (fun _ d => d) (fun _ _ _ _ _ d => d) (fun _ _ _ d => d) (fun _ _ d => d) (fun x0 k0 _ => k0 x0) (fun _ d => d) (fun _ _ _ d => d) (fun _ d => d) (fun _ _ _ _ _ _ _ d => d) (fun _ d => d) (fun _ _ d => d) (fun _ _ _ _ _ _ d => d) (fun _ d => d) (fun _ _ _ _ d => d) (fun _ d => d) (fun _ _ _ d => d) (fun _ _ _ d => d) (fun _ _ d => d) (fun _ d => d)
theorem onStr_cases (v : AV) (k0 : List Nat → R) (d : R) : (∃ x0, v = .str x0 ∧ onStr v k0 d = k0 x0) ∨ (onStr v k0 d = d) := by
  cases v <;> first | exact (.inl ⟨_, rfl, rfl⟩) | exact (.inr rfl)
def onIfc : AV → (Nat → AV → R) → R → R :=
  AV.rec (motive := fun _ => (Nat → AV → R) → R → R) (fun _ d => d) (fun _ _ _ _ _ d => d) (fun _ _ _ d => d) (fun _ _ d => d) (fun _ _ d => d) (fun _ d => d) (fun _ _ _ d => d) (fun _ d => d) (fun _ _ _ _ _ _ _ d => d) (fun _ d => d) (fun _ _ d => d) (fun _ _ _ _ _ _ d => d) (fun _ d => d) (fun x0 x1 _ k0 _ => k0 x0 x1) (fun _ d => d) (fun _ _ _ d => d) (fun _ _ _ d => d) (fun _ _ d => d) (fun _ d => d)
theorem onIfc_cases (v : AV) (k0 : Nat → AV → R) (d : R) : (∃ x0 x1, v = .ifc x0 x1 ∧ onIfc v k0 d = k0 x0 x1) ∨ (onIfc v k0 d = d) := by
  cases v <;> first | exact (.inl ⟨_, _, rfl, rfl⟩) | exact (.inr rfl)
def onMp : AV → (R) → (Pos → R) → R → R :=
  AV.rec (motive := fun _ => (R) → (Pos → R) → R → R) (fun _ _ d => d) (fun _ _ _ _ _ _ d => d) (fun _ _ _ _ d => d) (fun _ _ _ d => d) (fun _ _ _ d => d) (fun _ _ d => d) (fun _ _ _ _ d => d) (fun _ _ d => d) (fun _ _ _ _ _ _ _ _ d => d) (fun k0 _ _ => k0) (fun x0 _ k1 _ => k1 x0) (fun _ _ _ _ _ _ _ d => d) (fun _ _ d => d) (fun _ _ _ _ _ d => d) (fun _ _ d => d) (fun _ _ _ _ d => d) (fun _ _ _ _ d => d) (fun _ _ _ d => d) (fun _ _ d => d)
theorem onMp_cases (v : AV) (k0 : R) (k1 : Pos → R) (d : R) : (v = .nilm ∧ onMp v k0 k1 d = k0) ∨ (∃ x0, v = .mp x0 ∧ onMp v k0 k1 d = k1 x0) ∨ (onMp v k0 k1 d = d) := by
  cases v <;> first | exact (.inl ⟨rfl, rfl⟩) | exact (.inr (.inl ⟨_, rfl, rfl⟩)) | exact (.inr (.inr rfl))
def onSl : AV → (R) → (Pos → Nat → Nat → Nat → Nat → Bool → R) → R → R :=
  AV.rec (motive := fun _ => (R) → (Pos → Nat → Nat → Nat → Nat → Bool → R) → R → R) (fun _ _ d => d) (fun _ _ _ _ _ _ d => d) (fun _ _ _ _ d => d) (fun _ _ _ d => d) (fun _ _ _ d => d) (fun _ _ d => d) (fun _ _ _ _ d => d) (fun k0 _ _ => k0) (fun x0 x1 x2 x3 x4 x5 _ k1 _ => k1 x0 x1 x2 x3 x4 x5) (fun _ _ d => d) (fun _ _ _ d => d) (fun _ _ _ _ _ _ _ d => d) (fun _ _ d => d) (fun _ _ _ _ _ d => d) (fun _ _ d => d) (fun _ _ _ _ d => d) (fun _ _ _ _ d => d) (fun _ _ _ d => d) (fun _ _ d => d)
theorem onSl_cases (v : AV) (k0 : R) (k1 : Pos → Nat → Nat → Nat → Nat → Bool → R) (d : R) : (v = .nils ∧ onSl v k0 k1 d = k0) ∨ (∃ x0 x1 x2 x3 x4 x5, v = .sl x0 x1 x2 x3 x4 x5 ∧ onSl v k0 k1 d = k1 x0 x1 x2 x3 x4 x5) ∨ (onSl v k0 k1 d = d) := by
  cases v <;> first | exact (.inl ⟨rfl, rfl⟩) | exact (.inr (.inl ⟨_, _, _, _, _, _, rfl, rfl⟩)) | exact (.inr (.inr rfl))
/-- the cells of a value: those of an aggregate, or the value alone -/
def cellsK : AV → (AV → R) → R → R :=
  AV.rec (motive := fun _ => (AV → R) → R → R) (fun _ d => d) (fun _ _ _ _ _ d => d) (fun x0 x1 k _ => k (.cons (.int x0 x1) .nil)) (fun x0 k _ => k (.cons (.bool x0) .nil)) (fun x0 k _ => k (.cons (.str x0) .nil)) (fun k _ => k (.cons (.nilp) .nil)) (fun x0 x1 k _ => k (.cons (.ptr x0 x1) .nil)) (fun k _ => k (.cons (.nils) .nil)) (fun x0 x1 x2 x3 x4 x5 k _ => k (.cons (.sl x0 x1 x2 x3 x4 x5) .nil)) (fun k _ => k (.cons (.nilm) .nil)) (fun x0 k _ => k (.cons (.mp x0) .nil)) (fun x0 x1 x2 _ _ k _ => k (.cons (.fn x0 x1 x2) .nil)) (fun k _ => k (.cons (.nilf) .nil)) (fun x0 x1 _ k _ => k (.cons (.ifc x0 x1) .nil)) (fun k _ => k (.cons (.nili) .nil)) (fun x0 _ k _ => k x0) (fun _ _ _ d => d) (fun x0 k _ => k (.cons (.yl x0) .nil)) (fun _ d => d)
/-- may the value stand in one cell? -/
def oneK : AV → R → R → R :=
  AV.rec (motive := fun _ => R → R → R) (fun _ e => e) (fun _ _ _ _ _ e => e) (fun _ _ t _ => t) (fun _ t _ => t) (fun _ t _ => t) (fun t _ => t) (fun _ _ t _ => t) (fun t _ => t) (fun _ _ _ _ _ _ t _ => t) (fun t _ => t) (fun _ t _ => t) (fun _ _ _ _ _ t _ => t) (fun t _ => t) (fun _ _ _ t _ => t) (fun t _ => t) (fun _ _ _ e => e) (fun _ _ _ e => e) (fun _ t _ => t) (fun _ e => e)
end proj


end
end Ev
end
/- This text defines an evaluator of Go's operations, regions, statements and calls over an abstract heap, in a form that Lean's kernel reckons fast. -/
section
namespace Ev
open Go
noncomputable section

/-! lists made of nil and cons -/
section lists
variable {R : Type}
def nthK : Nat → AV → (AV → R) → R → R :=
  Nat.rec (motive := fun _ => AV → (AV → R) → R → R) (fun l k d => onCons l (fun a _ => k a) d) (fun _ ih l k d => onCons l (fun _ b => ih b k d) d)
def setK (v : AV) : Nat → AV → (AV → R) → R → R :=
  Nat.rec (motive := fun _ => AV → (AV → R) → R → R) (fun l k d => onCons l (fun _ b => k (.cons v b)) d) (fun _ ih l k d => onCons l (fun a b => ih b (fun b => k (.cons a b)) d) d)
def dropK : Nat → AV → (AV → R) → R → R :=
  Nat.rec (motive := fun _ => AV → (AV → R) → R → R) (fun l k _ => k l) (fun _ ih l k d => onCons l (fun _ b => ih b k d) d)
def takeK : Nat → AV → (AV → R) → R → R :=
  Nat.rec (motive := fun _ => AV → (AV → R) → R → R) (fun _ k _ => k .nil) (fun _ ih l k d => onCons l (fun a b => ih b (fun b => k (.cons a b)) d) d)
/-- the first list ahead of the second one -/
def appK (a b : AV) : (AV → R) → R → R :=
  AV.rec (motive := fun _ => (AV → R) → R → R) (fun k _ => k b) (fun x _ _ ih k d => ih (fun l => k (.cons x l)) d)
   (fun _ _ _ d => d) (fun _ _ d => d) (fun _ _ d => d) (fun _ d => d) (fun _ _ _ d => d) (fun _ d => d) (fun _ _ _ _ _ _ _ d => d) (fun _ d => d) (fun _ _ d => d) (fun _ _ _ _ _ _ d => d) (fun _ d => d) (fun _ _ _ _ d => d) (fun _ d => d) (fun _ _ _ d => d) (fun _ _ _ d => d) (fun _ _ d => d) (fun _ d => d) a
/-- the first cells of a list replaced -/
def overK (vs : AV) : AV → (AV → R) → R → R :=
  AV.rec (motive := fun _ => AV → (AV → R) → R → R) (fun l k _ => k l) (fun a _ _ ih l k d => onCons l (fun _ b => ih b (fun b => k (.cons a b)) d) d)
   (fun _ _ _ _ d => d) (fun _ _ _ d => d) (fun _ _ _ d => d) (fun _ _ d => d) (fun _ _ _ _ d => d) (fun _ _ d => d) (fun _ _ _ _ _ _ _ _ d => d) (fun _ _ d => d) (fun _ _ _ d => d) (fun _ _ _ _ _ _ _ d => d) (fun _ _ d => d) (fun _ _ _ _ _ d => d) (fun _ _ d => d) (fun _ _ _ _ d => d) (fun _ _ _ _ d => d) (fun _ _ _ d => d) (fun _ _ d => d) vs
/-- the cells from a place on replaced -/
def overAtK (vs : AV) : Nat → AV → (AV → R) → R → R :=
  Nat.rec (motive := fun _ => AV → (AV → R) → R → R) (overK vs) (fun _ ih l k d => onCons l (fun a b => ih b (fun b => k (.cons a b)) d) d)
/-- so many copies of a list -/
def repK (z : AV) : Nat → (AV → R) → R → R :=
  Nat.rec (motive := fun _ => (AV → R) → R → R) (fun k _ => k .nil) (fun _ ih k d => ih (fun l => appK z l k d) d)
/-- has the list this many members? -/
def lenIs : Nat → AV → R → R → R :=
  Nat.rec (motive := fun _ => AV → R → R → R) (fun l t e => onList l t (fun _ _ => e) e) (fun _ ih l t e => onCons l (fun _ b => ih b t e) e)
/-- strings -/
def sdrop : Nat → List Nat → (List Nat → R) → R → R :=
  Nat.rec (motive := fun _ => List Nat → (List Nat → R) → R → R) (fun l k _ => k l) (fun _ ih l k d => List.rec (motive := fun _ => R) d (fun _ b _ => ih b k d) l)
def stake : Nat → List Nat → (List Nat → R) → R → R :=
  Nat.rec (motive := fun _ => List Nat → (List Nat → R) → R → R) (fun _ k _ => k []) (fun _ ih l k d => List.rec (motive := fun _ => R) d (fun a b _ => ih b (fun b => k (a :: b)) d) l)
def snth : Nat → List Nat → (Nat → R) → R → R :=
  Nat.rec (motive := fun _ => List Nat → (Nat → R) → R → R) (fun l k d => List.rec (motive := fun _ => R) d (fun a _ _ => k a) l) (fun _ ih l k d => List.rec (motive := fun _ => R) d (fun _ b _ => ih b k d) l)
def sapp (b : List Nat) : List Nat → (List Nat → R) → R :=
  List.rec (motive := fun _ => (List Nat → R) → R) (fun k => k b) (fun a _ ih k => ih fun l => k (a :: l))
def slen : List Nat → Nat := List.rec (motive := fun _ => Nat) 0 (fun _ _ n => Nat.succ n)
def ifB : Bool → R → R → R := Bool.rec (motive := fun _ => R → R → R) (fun _ e => e) (fun t _ => t)
def seq : List Nat → List Nat → R → R → R :=
  List.rec (motive := fun _ => List Nat → R → R → R) (fun l t e => List.rec (motive := fun _ => R) t (fun _ _ _ => e) l) (fun a _ ih l t e => List.rec (motive := fun _ => R) e (fun b l _ => ifB (Nat.beq a b) (ih l t e) e) l)
/-- a string as a list of byte cells -/
def scells : List Nat → (AV → R) → R :=
  List.rec (motive := fun _ => (AV → R) → R) (fun k => k .nil) (fun a _ ih k => ih fun l => k (.cons (.int .u8 a) l))
/-- a list of byte cells as a string -/
def cellsS : AV → (List Nat → R) → R → R :=
  AV.rec (motive := fun _ => (List Nat → R) → R → R) (fun k _ => k []) (fun x _ _ ih k d => onInt x (fun kd n => IntKind.rec (motive := fun _ => R) d d d d (ih (fun l => k (n :: l)) d) d d d kd) d)
   (fun _ _ _ d => d) (fun _ _ d => d) (fun _ _ d => d) (fun _ d => d) (fun _ _ _ d => d) (fun _ d => d) (fun _ _ _ _ _ _ _ d => d) (fun _ d => d) (fun _ _ d => d) (fun _ _ _ _ _ _ d => d) (fun _ d => d) (fun _ _ _ _ d => d) (fun _ d => d) (fun _ _ _ d => d) (fun _ _ _ d => d) (fun _ _ d => d) (fun _ d => d)
end lists

/-! constants -/
def residue (k : IntKind) (n : Int) : Nat := Int.toNat (n % (2 ^ k.bits : Int))
def ofInt (k : IntKind) (n : Int) : AV := if k.wrap (residue k n : Int) = n ∧ residue k n < 2 ^ k.bits then .int k (residue k n) else .undef
/-- may the value stand in one cell? -/
def one1 : Value → Bool
  | .agg _ => false
  | .tuple _ => false
  | _ => true
mutual
def ofV : Value → AV
  | .bool b => .bool b
  | .int k n => ofInt k n
  | .string s => .str (s.data.toList.map UInt8.toNat)
  | .pointer none => .nilp
  | .slice none 0 0 => .nils
  | .map none => .nilm
  | .nilFunc => .nilf
  | .nilIface => .nili
  | .agg ⟨l⟩ => if l.all one1 then .agg (ofVs l) else .undef
  | .tuple ⟨l⟩ => .tup (ofVs l)
  | _ => .undef
def ofVs : List Value → AV
  | [] => .nil
  | v :: l => .cons (ofV v) (ofVs l)
end

/-! types: closed terms, each reckoned once -/
/-- a list as a tree, by its places -/
def tabOf {α : Type} (l : List α) : Tr α := List.rec (motive := fun _ => Nat → Tr α → Tr α) (fun _ t => t) (fun f _ ih n t => Tr.set (pos n) f t fun t => ih (Nat.succ n) t) l 0 .e
def tyTab (P : Program) : Tr TypeInfo := tabOf P.types.toList
def inf (P : Program) (t : TypeId) : Option TypeInfo := Tr.find (pos t) (tyTab P)
def und (P : Program) (t : TypeId) : Option TypeDesc :=
  match inf P t with
  | some i => match i.desc with
    | .named _ u => match inf P u with | some j => some j.desc | none => none
    | d => some d
  | none => none
inductive Lk where
  | one | many (n : Nat) | bad
def lk (P : Program) (t : TypeId) : Lk :=
  match und P t, inf P t with
  | some (.struct _), some i => .many i.size
  | some (.array _ _), some i => .many i.size
  | some _, some i => if i.size = 1 then .one else .bad
  | _, _ => .bad
inductive Ik where | arr (len size : Nat) | sl (size : Nat) | str | bad
/-- arrays, slices, strings -/
def ik (P : Program) (t : TypeId) : Ik :=
  match und P t with
  | some (.array n e) => match inf P e with | some i => .arr n i.size | none => .bad
  | some (.slice e) => match inf P e with | some i => .sl i.size | none => .bad
  | some .string => .str
  | _ => .bad
def zeroOf (P : Program) (t : TypeId) : AV :=
  match inf P t with
  | some i => match i.zero with | some v => ofV v | none => .undef
  | none => .undef
def zeroDef (P : Program) (t : TypeId) : Bool := match inf P t with | some i => i.zero.isSome | none => false
/-- the type of the elements of an array, a slice -/
def elemTy (P : Program) (t : TypeId) : TypeId :=
  match und P t with
  | some (.array _ e) => e
  | some (.slice e) => e
  | _ => t
def bytesPer (P : Program) (t : TypeId) : Nat :=
  match inf P t with | some i => i.bytes | none => 2 ^ 60
inductive Ck where | int (k : IntKind) | str | bad
def ck (P : Program) (t : TypeId) : Ck :=
  match und P t with
  | some (.int k) => .int k
  | some .string => .str
  | _ => .bad
/-- the source's type is known, too -/
def ckS (P : Program) (s d : TypeId) : Ck := match und P s with | some _ => ck P d | none => .bad
def isSlT (P : Program) (t : TypeId) : Bool := match und P t with | some (.slice _) => true | _ => false
def isStrT (P : Program) (t : TypeId) : Bool := match und P t with | some .string => true | _ => false
/-- a slice of bytes -/
def isBytes (P : Program) (t : TypeId) : Bool :=
  match und P t with
  | some (.slice e) => match und P e with | some (.int .u8) => true | _ => false
  | _ => false
inductive Fk where | at_ (off size : Nat) (agg : Bool) | bad
def fk (P : Program) (t : TypeId) (f : Nat) : Fk :=
  match und P t with
  | some (.struct fs) =>
    match fs[f]? with
    | some f => match inf P f.type, und P f.type with
      | some i, some (.struct _) => .at_ f.offset i.size true
      | some i, some (.array _ _) => .at_ f.offset i.size true
      | some i, some _ => .at_ f.offset i.size false
      | _, _ => .bad
    | none => .bad
  | _ => .bad
/-- where part i of a value of an aggregate type stands -/
def place (P : Program) (t : TypeId) (i : Nat) : Option (Nat × Nat) :=
  match und P t with
  | some (.struct fs) => match fs[i]? with
    | some f => match inf P f.type with | some j => if j.size = 0 then none else some (f.offset, j.size) | none => none
    | none => none
  | some (.array _ e) => match inf P e with | some j => if j.size = 0 then none else some (i * j.size, j.size) | none => none
  | some (.slice e) => match inf P e with | some j => if j.size = 0 then none else some (i * j.size, j.size) | none => none
  | _ => none
/-- are the parts' types known? -/
def partsOk (P : Program) (t : TypeId) : Bool :=
  match und P t with
  | some (.struct fs) => fs.toList.all fun f => (inf P f.type).isSome
  | some (.array _ e) => (inf P e).isSome
  | _ => false
/-- the kinds of plain cells -/
inductive Kd where | bool | int (k : IntKind) | str
/-- the kinds of the cells of fields that are laid one behind the other, with no gap -/
def fieldKinds (g : TypeId → Option (List Kd)) (P : Program) : Nat → List Field → Option (List Kd)
  | _, [] => some []
  | n, f :: l =>
    if f.offset == n && f.name != "_" then
      match g f.type, inf P f.type with
      | some ks, some i => if ks.length == i.size then (match fieldKinds g P (n + i.size) l with | some r => some (ks ++ r) | none => none) else none
      | _, _ => none
    else none
/-- the kinds of the cells of a type whose values are plain cells all through -/
def flatKinds (P : Program) : Nat → TypeId → Option (List Kd)
  | 0, _ => none
  | d + 1, t => match und P t with
    | some .bool => some [.bool]
    | some (.int k) => some [.int k]
    | some .string => some [.str]
    | some (.array n e) => (match flatKinds P d e, inf P e with
      | some ks, some i => if ks.length == i.size then some (List.replicate n ks).flatten else none
      | _, _ => none)
    | some (.struct fs) => if P.stoodInHeld t then none else fieldKinds (flatKinds P d) P 0 fs.toList
    | _ => none
def aggKinds (P : Program) (t : TypeId) : Option (List Kd) :=
  if P.eqGuardType P.depth t then none else match und P t with
    | some (.array _ _) => flatKinds P 8 t
    | some (.struct _) => flatKinds P 8 t
    | _ => none
inductive Mk where | int | str | bad
/-- the kind of a map's keys -/
def mk (P : Program) (t : TypeId) : Mk :=
  match und P t with
  | some (.map k _) => match und P k with | some (.int _) => .int | some .string => .str | _ => .bad
  | _ => .bad
def mapElem (P : Program) (t : TypeId) : TypeId :=
  match und P t with | some (.map _ e) => e | _ => t

variable {R : Type}
def lkOn : Lk → R → (Nat → R) → R → R := Lk.rec (motive := fun _ => R → (Nat → R) → R → R) (fun a _ _ => a) (fun n _ k _ => k n) (fun _ _ d => d)
def ikOn : Ik → (Nat → Nat → R) → (Nat → R) → R → R → R := Ik.rec (motive := fun _ => (Nat → Nat → R) → (Nat → R) → R → R → R) (fun a b k _ _ _ => k a b) (fun n _ k _ _ => k n) (fun _ _ s _ => s) (fun _ _ _ d => d)
def fkOn : Fk → (Nat → Nat → Bool → R) → R → R := Fk.rec (motive := fun _ => (Nat → Nat → Bool → R) → R → R) (fun a b c k _ => k a b c) (fun _ d => d)
def ckOn : Ck → (IntKind → R) → R → R → R := Ck.rec (motive := fun _ => (IntKind → R) → R → R → R) (fun a k _ _ => k a) (fun _ s _ => s) (fun _ _ d => d)
def mkOn : Mk → R → R → R → R := Mk.rec (motive := fun _ => R → R → R → R) (fun a _ _ => a) (fun _ s _ => s) (fun _ _ d => d)
/-- the kind of keys, in full -/
def mkGo (m : Mk) (k : Mk → R) (d : R) : R := mkOn m (k .int) (k .str) d
def pairOn : Option (Nat × Nat) → (Nat → Nat → R) → R → R := Option.rec (motive := fun _ => (Nat → Nat → R) → R → R) (fun _ d => d) (fun p k _ => Prod.rec (motive := fun _ => R) k p)

/-- how many blocks of package-level variables there are -/
def gN : Nat := 3
def opnd : Operand → Tr AV → (AV → R) → R :=
  Operand.rec (motive := fun _ => Tr AV → (AV → R) → R) (fun t fr k => Tr.get (pos t) fr k (k .undef)) (fun v _ k => k (ofV v)) (fun g _ k => ifB (Nat.blt g gN) (k (.ptr (pos g) 0)) (k .undef)) (fun f _ k => k (.fn f .nil .nil))

abbrev K := AV → St → Res
abbrev OpF := Tr AV → St → K → Res

def onSt : St → (Tr Blk → Pos → R) → R := fun s k => St.rec (motive := fun _ => R) k s
/-- cells to read -/
def onCells : Blk → (AV → R) → R → R :=
  Blk.rec (motive := fun _ => (AV → R) → R → R) (fun _ d => d) (fun c k _ => k c) (fun c k _ => k c) (fun _ _ _ _ d => d) (fun _ _ _ d => d) (fun _ _ _ _ _ _ d => d) (fun _ _ _ _ _ _ _ d => d)
/-- cells to write -/
def onOwn : Blk → (AV → R) → R → R :=
  Blk.rec (motive := fun _ => (AV → R) → R → R) (fun _ d => d) (fun c k _ => k c) (fun _ _ d => d) (fun _ _ _ _ d => d) (fun _ _ _ d => d) (fun _ _ _ _ _ _ d => d) (fun _ _ _ _ _ _ _ d => d)
def onMap : Blk → (AV → Nat → R) → R → R :=
  Blk.rec (motive := fun _ => (AV → Nat → R) → R → R) (fun _ d => d) (fun _ _ d => d) (fun _ _ d => d) (fun _ _ _ _ d => d) (fun c n k _ => k c n) (fun _ _ _ _ _ _ d => d) (fun _ _ _ _ _ _ _ d => d)
/-- a run of cells out of a tree -/
def rangeT (dv : AV) (t : Tr AV) : Nat → Nat → (AV → R) → R :=
  Nat.rec (motive := fun _ => Nat → (AV → R) → R) (fun _ k => k .nil) (fun _ ih o k => Tr.get (pos o) t (fun v => frc (Nat.succ o) fun o => ih o fun l => k (.cons v l)) (frc (Nat.succ o) fun o => ih o fun l => k (.cons dv l)))
/-- a run of cells into a tree -/
def overT : AV → Nat → Tr AV → (Tr AV → R) → R → R :=
  AV.rec (motive := fun _ => Nat → Tr AV → (Tr AV → R) → R → R) (fun _ t k _ => k t) (fun a _ _ ih o t k d => Tr.set (pos o) a t fun t => frc (Nat.succ o) fun o => ih o t k d)
   (fun _ _ _ _ _ d => d) (fun _ _ _ _ d => d) (fun _ _ _ _ d => d) (fun _ _ _ d => d) (fun _ _ _ _ _ d => d) (fun _ _ _ d => d) (fun _ _ _ _ _ _ _ _ _ d => d) (fun _ _ _ d => d) (fun _ _ _ _ d => d) (fun _ _ _ _ _ _ _ _ d => d) (fun _ _ _ d => d) (fun _ _ _ _ _ _ d => d) (fun _ _ _ d => d) (fun _ _ _ _ _ d => d) (fun _ _ _ _ _ d => d) (fun _ _ _ _ d => d) (fun _ _ _ d => d)
def llen : AV → (Nat → R) → R → R :=
  AV.rec (motive := fun _ => (Nat → R) → R → R) (fun k _ => k 0) (fun _ _ _ ih k d => ih (fun n => k (Nat.succ n)) d)
   (fun _ _ _ d => d) (fun _ _ d => d) (fun _ _ d => d) (fun _ d => d) (fun _ _ _ d => d) (fun _ d => d) (fun _ _ _ _ _ _ _ d => d) (fun _ d => d) (fun _ _ d => d) (fun _ _ _ _ _ _ d => d) (fun _ d => d) (fun _ _ _ _ d => d) (fun _ d => d) (fun _ _ _ d => d) (fun _ _ _ d => d) (fun _ _ d => d) (fun _ d => d)
/-- one cell of a block -/
def blkGet (o : Nat) : Blk → (AV → R) → R → R :=
  fun b k d => Blk.rec (motive := fun _ => R) d (fun c => nthK o c k d) (fun c => nthK o c k d) (fun dv n t => ifB (Nat.blt o n) (Tr.get (pos o) t k (k dv)) d) (fun _ _ => d) (fun _ _ _ _ _ => d) (fun _ _ _ _ _ _ => d) b
/-- n cells of a block -/
def blkRange (o n : Nat) : Blk → (AV → R) → R → R :=
  fun b k d => Blk.rec (motive := fun _ => R) d (fun c => dropK o c (fun c => takeK n c k d) d) (fun c => dropK o c (fun c => takeK n c k d) d) (fun dv m t => ifB (Nat.ble (Nat.add o n) m) (rangeT dv t n o k) d) (fun _ _ => d) (fun _ _ _ _ _ => d) (fun _ _ _ _ _ _ => d) b
/-- one cell of a block turned -/
def blkSet (o : Nat) (v : AV) : Blk → (Blk → R) → R → R :=
  fun b k d => Blk.rec (motive := fun _ => R) d (fun c => setK v o c (fun c => k (.l c)) d) (fun _ => d) (fun dv n t => ifB (Nat.blt o n) (Tr.set (pos o) v t fun t => k (.t dv n t)) d) (fun _ _ => d) (fun _ _ _ _ _ => d) (fun _ _ _ _ _ _ => d) b
/-- the first o cells of a list, then others -/
def preK (vs : AV) : Nat → AV → (AV → R) → R → R :=
  Nat.rec (motive := fun _ => AV → (AV → R) → R → R) (fun _ k _ => k vs) (fun _ ih l k d => onCons l (fun a b => ih b (fun b => k (.cons a b)) d) d)
/-- a run of cells of a block turned, some of which were not known -/
def blkExt (o : Nat) (vs : AV) : Blk → (Blk → R) → R → R :=
  fun b k d => Blk.rec (motive := fun _ => R) d (fun c => preK vs o c (fun c => k (.l c)) d) (fun _ => d) (fun _ _ _ => d) (fun _ _ => d) (fun _ _ _ _ _ => d) (fun _ _ _ _ _ _ => d) b
/-- a run of cells of a block turned -/
def blkOver (o : Nat) (vs : AV) : Blk → (Blk → R) → R → R :=
  fun b k d => Blk.rec (motive := fun _ => R) d (fun c => overAtK vs o c (fun c => k (.l c)) d) (fun _ => d) (fun dv n t => llen vs (fun m => ifB (Nat.ble (Nat.add o m) n) (overT vs o t (fun t => k (.t dv n t)) d) d) d) (fun _ _ => d) (fun _ _ _ _ _ => d) (fun _ _ _ _ _ _ => d) b
def isOwn : Blk → R → R → R := fun b t e => Blk.rec (motive := fun _ => R) e (fun _ => t) (fun _ => e) (fun _ _ _ => t) (fun _ _ => e) (fun _ _ _ _ _ => e) (fun _ _ _ _ _ _ => e) b
/-- the block at a place -/
def atB (b : Pos) (st : St) (k : Blk → R) (d : R) : R := onSt st fun heap _ => Tr.get b heap k d
def mapAt (b : Pos) (st : St) (k : AV → Nat → R) (d : R) : R := onSt st fun heap _ => Tr.get b heap (fun blk => onMap blk k d) d
def putBlk (b : Pos) (x : Blk) (st : St) (k : St → R) : R := onSt st fun heap nx => Tr.set b x heap fun heap => k ⟨heap, nx⟩
def newBlk (blk : Blk) (st : St) (k : Pos → St → R) : R :=
  onSt st fun heap nx => Tr.set nx blk heap fun heap => Pos.succ nx fun nx' => k nx ⟨heap, nx'⟩

def bad (n : Nat) : Res := .fail n

/-- a value of a type in the cells of a list from a place on -/
def partK (l : Lk) (o : Nat) (c : AV) (k : AV → R) (d : R) : R :=
  lkOn l (nthK o c k d) (fun n => dropK o c (fun c => takeK n c (fun l => k (.agg l)) d) d) d
def loadK (P : Program) (t : TypeId) (b : Pos) (o : Nat) (st : St) (k : AV → R) (d : R) : R :=
  atB b st (fun c => lkOn (lk P t) (blkGet o c k d) (fun n => blkRange o n c (fun l => k (.agg l)) d) d) d
def storeK (P : Program) (t : TypeId) (b : Pos) (o : Nat) (v : AV) (st : St) (k : St → R) (d : R) : R :=
  atB b st (fun c => lkOn (lk P t) (oneK v (blkSet o v c (fun c => putBlk b c st k) d) d)
    (fun n => onAgg v (fun vs => lenIs n vs (blkOver o vs c (fun c => putBlk b c st k) d) d) d) d) d

def kmod : IntKind → Nat := IntKind.rec (motive := fun _ => Nat) 256 65536 4294967296 18446744073709551616 256 65536 4294967296 18446744073709551616
/-- what is added before a comparison -/
def kflip : IntKind → Nat := IntKind.rec (motive := fun _ => Nat) 128 32768 2147483648 9223372036854775808 0 0 0 0
/-- the numbers below are their own values -/
def khalf : IntKind → Nat := IntKind.rec (motive := fun _ => Nat) 128 32768 2147483648 9223372036854775808 256 65536 4294967296 18446744073709551616
def kint (k : IntKind) (n : Nat) (c : AV → R) : R := frc n fun n => c (.int k n)
def nonneg (k : IntKind) (a : Nat) : Bool := Nat.blt a (khalf k)
def ltK (k : IntKind) (a b : Nat) : Bool := Nat.blt (Nat.mod (Nat.add a (kflip k)) (kmod k)) (Nat.mod (Nat.add b (kflip k)) (kmod k))
def cmpT (b : Bool) (c : AV → R) : R := ifB b (c (.bool true)) (c (.bool false))
def cmpF (b : Bool) (c : AV → R) : R := ifB b (c (.bool false)) (c (.bool true))
def kindIs (a b : IntKind) (t e : R) : R :=
  ifB (Nat.beq (IntKind.rec (motive := fun _ => Nat) 0 1 2 3 4 5 6 7 a) (IntKind.rec (motive := fun _ => Nat) 0 1 2 3 4 5 6 7 b)) t e
abbrev BinF := IntKind → Nat → Nat → (AV → Res) → Res
def iAdd : BinF := fun k a b c => kint k (Nat.mod (Nat.add a b) (kmod k)) c
def iSub : BinF := fun k a b c => kint k (Nat.mod (Nat.sub (Nat.add a (kmod k)) b) (kmod k)) c
def iMul : BinF := fun k a b c => kint k (Nat.mod (Nat.mul a b) (kmod k)) c
def iQuo : BinF := fun k a b c => ifB (nonneg k a) (ifB (nonneg k b) (ifB (Nat.beq b 0) (bad 20) (kint k (Nat.div a b) c)) (bad 21)) (bad 22)
def iRem : BinF := fun k a b c => ifB (nonneg k a) (ifB (nonneg k b) (ifB (Nat.beq b 0) (bad 23) (kint k (Nat.mod a b) c)) (bad 24)) (bad 25)
def iAnd : BinF := fun k a b c => kint k (Nat.land a b) c
def iOr : BinF := fun k a b c => kint k (Nat.lor a b) c
def iXor : BinF := fun k a b c => kint k (Nat.xor a b) c
def iAndNot : BinF := fun k a b c => kint k (Nat.land a (Nat.sub (Nat.sub (kmod k) 1) b)) c
def iBad : BinF := fun _ _ _ _ => bad 26
def iEql : BinF := fun _ a b c => cmpT (Nat.beq a b) c
def iNeq : BinF := fun _ a b c => cmpF (Nat.beq a b) c
def iLss : BinF := fun k a b c => cmpT (ltK k a b) c
def iLeq : BinF := fun k a b c => cmpF (ltK k b a) c
def iGtr : BinF := fun k a b c => cmpT (ltK k b a) c
def iGeq : BinF := fun k a b c => cmpF (ltK k a b) c
def binInt : BinOp → BinF :=
  BinOp.rec (motive := fun _ => BinF) iAdd iSub iMul iQuo iRem iAnd iOr iXor iBad iBad iAndNot iEql iNeq iLss iLeq iGtr iGeq
/-- a shift by a number of bits; the second kind is the count's -/
abbrev ShF := IntKind → IntKind → Nat → Nat → (AV → Res) → Res → Res
def shBad : ShF := fun _ _ _ _ _ d => d
def shShl : ShF := fun k j a b c _ => ifB (nonneg j b) (ifB (Nat.blt b 65) (kint k (Nat.mod (Nat.shiftLeft a b) (kmod k)) c) (bad 27)) (bad 28)
def shShr : ShF := fun k j a b c _ => ifB (nonneg k a) (ifB (nonneg j b) (ifB (Nat.blt b 65) (kint k (Nat.shiftRight a b) c) (bad 29)) (bad 30)) (bad 31)
def shOf : BinOp → ShF :=
  BinOp.rec (motive := fun _ => ShF) shBad shBad shBad shBad shBad shBad shBad shBad shShl shShr shBad shBad shBad shBad shBad shBad shBad
/-- == and != -/
def eqOf : BinOp → ((AV → Res) → Res → (Bool → Res)) :=
  BinOp.rec (motive := fun _ => (AV → Res) → Res → (Bool → Res)) (fun _ d _ => d) (fun _ d _ => d) (fun _ d _ => d) (fun _ d _ => d) (fun _ d _ => d) (fun _ d _ => d) (fun _ d _ => d) (fun _ d _ => d) (fun _ d _ => d) (fun _ d _ => d) (fun _ d _ => d)
    (fun c _ b => cmpT b c) (fun c _ b => cmpF b c) (fun _ d _ => d) (fun _ d _ => d) (fun _ d _ => d) (fun _ d _ => d)
def addOf : BinOp → R → R → R :=
  BinOp.rec (motive := fun _ => R → R → R) (fun t _ => t) (fun _ d => d) (fun _ d => d) (fun _ d => d) (fun _ d => d) (fun _ d => d) (fun _ d => d) (fun _ d => d) (fun _ d => d) (fun _ d => d) (fun _ d => d) (fun _ d => d) (fun _ d => d) (fun _ d => d) (fun _ d => d) (fun _ d => d) (fun _ d => d)
def kdOn : Kd → R → (IntKind → R) → R → R := Kd.rec (motive := fun _ => R → (IntKind → R) → R → R) (fun a _ _ => a) (fun k _ f _ => f k) (fun _ _ s => s)
def cellK (kd : Kd) (a b : AV) (k : Bool → R) (d : R) : R :=
  kdOn kd (onBool a (fun x => onBool b (fun y => k (ifB x y (ifB y false true))) d) d)
   (fun kk => onInt a (fun ka x => onInt b (fun kb y => kindIs kk ka (kindIs kk kb (k (Nat.beq x y)) d) d) d) d)
   (onStr a (fun x => onStr b (fun y => seq x y (k true) (k false)) d) d)
/-- are two lists of plain cells the same? -/
def listEq : List Kd → AV → AV → (Bool → R) → R → R :=
  List.rec (motive := fun _ => AV → AV → (Bool → R) → R → R) (fun a b k d => onList a (onList b (k true) (fun _ _ => d) d) (fun _ _ => d) d)
   (fun kd _ ih a b k d => onCons a (fun x a => onCons b (fun y b => cellK kd x y (fun t => ih a b (fun u => k (ifB t u false)) d) d) d) d)
def kindsOn : Option (List Kd) → (List Kd → R) → R → R := Option.rec (motive := fun _ => (List Kd → R) → R → R) (fun _ d => d) (fun l k _ => k l)
def isPtrT (P : Program) (t : TypeId) : Bool := match und P t with | some (.pointer _) => true | _ => false
def isBoolT (P : Program) (t : TypeId) : Bool := match und P t with | some .bool => true | _ => false
/-- == on all but integers -/
def eqK (P : Program) (t : TypeId) (a b : AV) (k : Bool → Res) (d : Res) : Res :=
  onNptr a (ifB (isPtrT P t) (onNptr b (k true) (fun _ _ => k false) d) d) (fun _ _ => ifB (isPtrT P t) (onNptr b (k false) (fun _ _ => d) d) d)
   (onSl a (ifB (isSlT P t) (onSl b (k true) (fun _ _ _ _ _ _ => k false) d) d) (fun _ _ _ _ _ _ => ifB (isSlT P t) (onSl b (k false) (fun _ _ _ _ _ _ => d) d) d)
    (onBool a (fun x => ifB (isBoolT P t) (onBool b (fun y => k (ifB x y (ifB y false true))) d) d)
     (onAgg a (fun x => onAgg b (fun y => kindsOn (aggKinds P t) (fun ks => listEq ks x y k d) d) d) d)))
def opBin (op : BinOp) (t : TypeId) (x y : Operand) (P : Program) : OpF := fun fr st k =>
  opnd x fr fun a => opnd y fr fun b =>
   onInt a (fun ka a => onInt b (fun kb b => shOf op ka kb a b (fun v => k v st) (kindIs ka kb (binInt op ka a b fun v => k v st) (bad 32))) (bad 33))
    (onStr a (fun x => onStr b (fun y => addOf op (ifB (Nat.ble (Nat.add (slen x) (slen y)) 1099511627776) (sapp y x fun l => k (.str l) st) (bad 19)) (eqOf op (fun v => k v st) (bad 34) (seq x y true false))) (bad 35))
     (eqK P t a b (eqOf op (fun v => k v st) (bad 36)) (bad 37)))

def opMove (x : Operand) : OpF := fun fr st k => opnd x fr fun v => k v st
def opPick (c a b : Operand) : OpF := fun fr st k => opnd c fr fun v => onBool v (fun t => ifB t (opnd a fr fun v => k v st) (opnd b fr fun v => k v st)) (bad 38)
def opNil (x : Operand) : OpF := fun fr st k => opnd x fr fun v => onPtr v (fun b o => k (.ptr b o) st) (bad 39)
def opAlloc (t : TypeId) (P : Program) : OpF := fun _ st k => cellsK (zeroOf P t) (fun c => newBlk (.l c) st fun b st => k (.ptr b 0) st) (bad 40)
def opBox (x : Operand) : OpF := fun fr st k => opnd x fr fun v => cellsK v (fun c => newBlk (.l c) st fun b st => k (.ptr b 0) st) (bad 41)
def opLoad (t : TypeId) (a : Operand) (P : Program) : OpF := fun fr st k =>
  opnd a fr fun v => onPtr v (fun b o => loadK P t b o st (fun v => k v st) (bad 42)) (bad 43)
def opStore (t : TypeId) (a x : Operand) (P : Program) : OpF := fun fr st k =>
  opnd a fr fun v => onPtr v (fun b o => opnd x fr fun v => storeK P t b o v st (fun st => k .undef st) (bad 44)) (bad 45)
def opNot (x : Operand) : OpF := fun fr st k => opnd x fr fun v => onBool v (fun b => cmpF b fun v => k v st) (bad 46)
def opCom (x : Operand) : OpF := fun fr st k => opnd x fr fun v => onInt v (fun kd n => kint kd (Nat.sub (Nat.sub (kmod kd) 1) n) fun v => k v st) (bad 47)
def opNeg (x : Operand) : OpF := fun fr st k => opnd x fr fun v => onInt v (fun kd n => kint kd (Nat.mod (Nat.sub (kmod kd) n) (kmod kd)) fun v => k v st) (bad 48)
def opUn : UnOp → Operand → OpF := UnOp.rec (motive := fun _ => Operand → OpF) opNeg opCom opNot (fun _ _ _ _ => bad 49)
def opConv (s d : TypeId) (x : Operand) (P : Program) : OpF := fun fr st k =>
  opnd x fr fun v => ckOn (ckS P s d)
    (fun kd => onInt v (fun ks n => ifB (nonneg ks n) (kint kd (Nat.mod n (kmod kd)) fun v => k v st) (ifB (Nat.ble (kmod kd) (kmod ks)) (kint kd (Nat.mod n (kmod kd)) fun v => k v st) (bad 50))) (bad 50))
    (onStr v (fun l => k (.str l) st) (ifB (isBytes P s) (onSl v (k (.str []) st) (fun b o l _ _ _ => ifB (Nat.beq l 0) (k (.str []) st) (atB b st (fun c => blkRange o l c (fun c => cellsS c (fun l => k (.str l) st) (bad 51)) (bad 52)) (bad 54))) (bad 55)) (bad 56)))
    (ifB (isBytes P d) (ifB (isStrT P s) (onStr v (fun l => scells l fun c => frc (slen l) fun n => newBlk (.ro c) st fun b st => k (.sl b 0 n n 1 false) st) (bad 57)) (bad 59)) (bad 58))
def opIxAddr (t : TypeId) (x ix : Operand) (P : Program) : OpF := fun fr st k =>
  opnd x fr fun v => opnd ix fr fun i => onInt i (fun kd i => ifB (nonneg kd i)
    (ikOn (ik P t) (fun len size => onPtr v (fun b o => ifB (Nat.blt i len) (frc (Nat.add o (Nat.mul i size)) fun o => k (.ptr b o) st) (bad 60)) (bad 61))
      (fun size => onSl v (bad 62) (fun b o l _ _ _ => ifB (Nat.blt i l) (frc (Nat.add o (Nat.mul i size)) fun o => k (.ptr b o) st) (bad 63)) (bad 64)) (bad 65) (bad 66)) (bad 67)) (bad 68)
def opIndex (t : TypeId) (x ix : Operand) (P : Program) : OpF := fun fr st k =>
  opnd x fr fun v => opnd ix fr fun i => onInt i (fun kd i => ifB (nonneg kd i)
    (ikOn (ik P t) (fun len size => onAgg v (fun c => ifB (Nat.blt i len) (partK (lk P (elemTy P t)) (Nat.mul i size) c (fun v => k v st) (bad 70)) (bad 71)) (bad 72))
      (fun _ => bad 73) (onStr v (fun l => snth i l (fun b => k (.int .u8 b) st) (bad 74)) (bad 75)) (bad 76)) (bad 77)) (bad 78)
def opFieldAddr (t : TypeId) (x : Operand) (f : Nat) (P : Program) : OpF := fun fr st k =>
  opnd x fr fun v => onPtr v (fun b o => fkOn (fk P t f) (fun off size _ => ifB (Nat.beq size 0) (bad 80) (frc (Nat.add o off) fun o => k (.ptr b o) st)) (bad 81)) (bad 82)
def opField (t : TypeId) (x : Operand) (f : Nat) (P : Program) : OpF := fun fr st k =>
  opnd x fr fun v => onAgg v (fun c => fkOn (fk P t f) (fun off size agg => ifB agg (dropK off c (fun c => takeK size c (fun l => k (.agg l) st) (bad 83)) (bad 84)) (nthK off c (fun v => k v st) (bad 85))) (bad 86)) (bad 87)
def opExtract (x : Operand) (i : Nat) : OpF := fun fr st k => opnd x fr fun v => onTup v (fun l => nthK i l (fun v => k v st) (bad 88)) (bad 89)
/-- parts of an aggregate written one after the other -/
def parts (P : Program) (t : TypeId) (fr : Tr AV) : List (Nat × Operand) → AV → (AV → Res) → Res :=
  List.rec (motive := fun _ => AV → (AV → Res) → Res) (fun c k => k c)
   (fun p _ ih c k => Prod.rec (motive := fun _ => Res) (fun i x => opnd x fr fun v => cellsK v (fun vs => pairOn (place P t i) (fun off size => lenIs size vs (overAtK vs off c (fun c => ih c k) (bad 90)) (bad 91)) (bad 92)) (bad 93)) p)
def opBuild (t : TypeId) (ps : Array (Nat × Operand)) (P : Program) : OpF := fun fr st k =>
  ifB (partsOk P t) (onAgg (zeroOf P t) (fun z => parts P t fr ps.toList z fun c => k (.agg c) st) (bad 94)) (bad 93)
def opBuildSlice (t : TypeId) (len : Nat) (ps : Array (Nat × Operand)) (P : Program) : OpF := fun fr st k =>
  ikOn (ik P t) (fun _ _ => bad 95) (fun size => ifB (Nat.ble (Nat.mul len size) 16777216) (ifB (Nat.beq (Nat.mul len size) 0) (List.rec (motive := fun _ => Res) (newBlk (.l .nil) st fun b st => k (.sl b 0 len len size true) st) (fun _ _ _ => bad 79) ps.toList) (cellsK (zeroOf P (elemTy P t)) (fun z => lenIs size z (repK z len (fun c => parts P t fr ps.toList c fun c => newBlk (.l c) st fun b st => k (.sl b 0 len len size true) st) (bad 96)) (bad 97)) (bad 98))) (bad 99)) (bad 100) (bad 101)
/-- a number that is not negative -/
def natK (x : Operand) (fr : Tr AV) (k : Nat → Res) (d : Res) : Res := opnd x fr fun v => onInt v (fun kd n => ifB (nonneg kd n) (k n) d) d
def optK (x : Option Operand) (fr : Tr AV) (n : Res) (k : Nat → Res) (d : Res) : Res := Option.rec (motive := fun _ => Res) n (fun x => natK x fr k d) x
def opMakeSlice (t : TypeId) (l c : Operand) (P : Program) : OpF := fun fr st k =>
  natK l fr (fun l => natK c fr (fun c => ikOn (ik P t) (fun _ _ => bad 102) (fun size => ifB (Nat.ble l c) (ifB (Nat.ble (Nat.mul (bytesPer P (elemTy P t)) c) 281474976710656) (ifB (Nat.ble c 281474976710656)
    (cellsK (zeroOf P (elemTy P t)) (fun z => lenIs size z (ifB (Nat.ble (Nat.mul c size) 64) (repK z c (fun cs => newBlk (.l cs) st fun b st => k (.sl b 0 l c size true) st) (bad 103)) (onCons z (fun dv r => onList r (newBlk (.t dv c .e) st fun b st => k (.sl b 0 l c size true) st) (fun _ _ => repK z c (fun cs => newBlk (.l cs) st fun b st => k (.sl b 0 l c size true) st) (bad 103)) (bad 113)) (bad 114))) (bad 104)) (bad 105)) (bad 106)) (bad 107)) (bad 108)) (bad 109) (bad 110)) (bad 111)) (bad 112)
/-- the bounds of a slice expression: m the capacity or what is known of it, l the length -/
def boundsK (l c : Nat) (lo hi mx : Option Operand) (fr : Tr AV) (k : Nat → Nat → Nat → Bool → Res) : Res :=
  optK mx fr (optK hi fr (optK lo fr (k 0 l c false) (fun lo => ifB (Nat.ble lo l) (k lo l c false) (bad 120)) (bad 121))
      (fun h => ifB (Nat.ble h c) (optK lo fr (k 0 h c false) (fun lo => ifB (Nat.ble lo h) (k lo h c false) (bad 122)) (bad 123)) (bad 124)) (bad 125))
    (fun m => ifB (Nat.ble m c) (optK hi fr (bad 126) (fun h => ifB (Nat.ble h m) (optK lo fr (k 0 h m true) (fun lo => ifB (Nat.ble lo h) (k lo h m true) (bad 127)) (bad 128)) (bad 129)) (bad 130)) (bad 131)) (bad 132)
def opSlice (t : TypeId) (x : Operand) (lo hi mx : Option Operand) (P : Program) : OpF := fun fr st k =>
  opnd x fr fun v => ikOn (ik P t)
    (fun n size => onPtr v (fun b o => atB b st (fun blk => blkGet (Nat.sub (Nat.add o (Nat.mul n size)) 1) blk (fun _ => boundsK n n lo hi mx fr fun l h m _ => frc (Nat.add o (Nat.mul l size)) fun o => frc (Nat.sub h l) fun len => frc (Nat.sub m l) fun c => k (.sl b o len c size true) st) (bad 115)) (bad 116)) (bad 133))
    (fun size => onSl v (boundsK 0 0 lo hi mx fr fun _ _ _ _ => k .nils st)
      (fun b o len c z ex => ifB (Nat.beq z size) (boundsK len c lo hi mx fr fun l h m e => frc (Nat.add o (Nat.mul l size)) fun o => frc (Nat.sub h l) fun len => frc (Nat.sub m l) fun c => k (.sl b o len c size (ifB e true ex)) st) (bad 134)) (bad 135))
    (onStr v (fun s => Option.rec (motive := fun _ => Res) (frc (slen s) fun n => boundsK n n lo hi mx fr fun l h _ _ => stake h s (fun s => sdrop l s (fun s => k (.str s) st) (bad 136)) (bad 137)) (fun _ => bad 138) mx) (bad 139))
    (bad 140)
/-- the values of a list of operands -/
def opnds : List Operand → Tr AV → (AV → R) → R :=
  List.rec (motive := fun _ => Tr AV → (AV → R) → R) (fun _ k => k .nil) (fun x _ ih fr k => opnd x fr fun v => ih fr fun l => k (.cons v l))

def opMakeFunc (f : Fn) (fst cap : Array Operand) : OpF := fun fr st k =>
  Fn.rec (motive := fun _ => Res) (fun f => opnds fst.toList fr fun a => opnds cap.toList fr fun c => k (.fn f a c) st)
    (fun _ => bad 141) (fun _ _ => bad 142) (fun _ _ _ _ => bad 143) (fun _ => bad 144) f

/-! builtin functions -/
abbrev BiF := Program → Array TypeId → AV → St → K → Res
def biBad : BiF := fun _ _ _ _ _ => bad 150
def arg2 (as_ : AV) (k : AV → AV → R) (d : R) : R := onCons as_ (fun a l => onCons l (fun b l => onList l (k a b) (fun _ _ => d) d) d) d
def ty0 (ts : Array TypeId) : TypeId := ts[0]?.getD 4294967295
def ty1 (ts : Array TypeId) : TypeId := ts[1]?.getD 4294967295
/-- a type's nought has as many cells as the type -/
def zeroOk (P : Program) (e : TypeId) : Bool := match inf P e with | some i => (match i.zero with | some z => Nat.beq z.cells.toList.length i.size | none => false) | none => false
def appOk (P : Program) (ts : Array TypeId) : Bool := Nat.beq ts.toList.length 2 && (isSlT P (ty1 ts) || isStrT P (ty1 ts)) && zeroOk P (elemTy P (ty0 ts))
/-- a length as a whole number -/
def lenV (n : Nat) (c : AV → Res) : Res := ifB (Nat.blt n 9223372036854775808) (kint .i64 n c) (bad 149)
def arg1 (as_ : AV) (k : AV → R) (d : R) : R := onCons as_ (fun a l => onList l (k a) (fun _ _ => d) d) d
def biLen : BiF := fun P ts as_ st k => arg1 as_ (fun x => ikOn (ik P (ty0 ts)) (fun n _ => lenV n fun v => k v st) (fun _ => onSl x (k (.int .i64 0) st) (fun _ _ l _ _ _ => lenV l fun v => k v st) (bad 151)) (onStr x (fun l => lenV (slen l) fun v => k v st) (bad 152)) (bad 153)) (bad 154)
def biCap : BiF := fun P ts as_ st k => arg1 as_ (fun x => ikOn (ik P (ty0 ts)) (fun _ _ => bad 155) (fun _ => onSl x (k (.int .i64 0) st) (fun _ _ _ c _ ex => ifB ex (lenV c fun v => k v st) (bad 156)) (bad 157)) (bad 158) (bad 159)) (bad 160)
def biMax : BiF := fun _ _ as_ st k => arg2 as_ (fun a b => onInt a (fun ka x => onInt b (fun kb y => kindIs ka kb (ifB (ltK ka x y) (k (.int ka y) st) (k (.int ka x) st)) (bad 161)) (bad 162)) (bad 163)) (bad 164)
def biMin : BiF := fun _ _ as_ st k => arg2 as_ (fun a b => onInt a (fun ka x => onInt b (fun kb y => kindIs ka kb (ifB (ltK ka y x) (k (.int ka y) st) (k (.int ka x) st)) (bad 165)) (bad 166)) (bad 167)) (bad 168)
/-- the first n elements of a slice or string -/
def firstK (n size : Nat) (x : AV) (st : St) (k : AV → Res) (d : Res) : Res :=
  ifB (Nat.beq n 0) (k .nil) (onSl x d (fun b o _ _ _ _ => atB b st (fun c => blkRange o (Nat.mul n size) c k d) d) (onStr x (fun l => ifB (Nat.beq size 1) (stake n l (fun l => scells l k) d) d) d))
def lenK (x : AV) (k : Nat → Res) (d : Res) : Res := onSl x (k 0) (fun _ _ l _ _ _ => k l) (onStr x (fun l => frc (slen l) k) d)
def lenS (x : AV) (k : Nat → Res) (d : Res) : Res := onSl x (k 0) (fun _ _ l _ _ _ => k l) d
/-- a slice with n new elements behind it; by: the bytes of an element -/
def appendK (by_ size : Nat) (s new : AV) (n : Nat) (st : St) (k : K) : Res :=
  onSl s (ifB (Nat.beq n 0) (k .nils st) (ifB (Nat.ble (Nat.mul n (Nat.succ by_)) 140737488355328) (newBlk (.l new) st fun b st => k (.sl b 0 n n size false) st) (bad 169)))
   (fun b o l c z ex => ifB (Nat.beq z size) (frc (Nat.add l n) fun need => ifB (Nat.ble need c)
      (ifB (Nat.beq n 0) (k (.sl b o need c z ex) st) (frc (Nat.add o (Nat.mul l size)) fun p => atB b st (fun cs => blkOver p new cs (fun cs => putBlk b cs st fun st => k (.sl b o need c z ex) st) (bad 170)) (bad 171)))
      (ifB (Nat.ble (Nat.mul need (Nat.succ by_)) 140737488355328) (firstK l size (.sl b o l c z ex) st (fun old => appK old new (fun cs => ifB ex (newBlk (.l cs) st fun b st => k (.sl b 0 need need size false) st)
          (atB b st (fun x => isOwn x (putBlk b .dead st fun st => newBlk (.l cs) st fun b st => k (.sl b 0 need need size false) st) (bad 174)) (bad 172))) (bad 174)) (bad 175)) (bad 168))) (bad 173))
   (bad 176)
def biAppend : BiF := fun P ts as_ st k => arg2 as_ (fun s x => ikOn (ik P (ty0 ts)) (fun _ _ => bad 177)
   (fun size => ifB (appOk P ts) (lenK x (fun n => firstK n size x st (fun new => appendK (bytesPer P (elemTy P (ty0 ts))) size s new n st k) (bad 184)) (bad 185)) (bad 178)) (bad 188) (bad 189)) (bad 190)
def biCopy : BiF := fun P ts as_ st k => arg2 as_ (fun d x => ikOn (ik P (ty0 ts)) (fun _ _ => bad 191)
   (fun size => lenS d (fun ld => lenK x (fun lx => frc (ifB (Nat.ble lx ld) lx ld) fun n => ifB (Nat.beq n 0) (k (.int .i64 0) st)
      (firstK n size x st (fun new => onSl d (bad 192) (fun b o _ _ z _ => atB b st (fun cs => blkOver o new cs (fun cs => putBlk b cs st fun st => lenV n fun v => k v st) (ifB (Nat.beq z size) (blkExt o new cs (fun cs => putBlk b cs st fun st => lenV n fun v => k v st) (bad 193)) (bad 193))) (bad 194)) (bad 195)) (bad 196))) (bad 197)) (bad 198))
   (bad 199) (bad 200)) (bad 201)
def biClear : BiF := fun P ts as_ st k => arg1 as_ (fun x => ikOn (ik P (ty0 ts)) (fun _ _ => bad 202)
   (fun size => onSl x (k (.tup .nil) st) (fun b o l _ _ _ => ifB (Nat.beq l 0) (k (.tup .nil) st) (cellsK (zeroOf P (elemTy P (ty0 ts))) (fun z => lenIs size z (repK z l (fun new => atB b st (fun cs => blkOver o new cs (fun cs => putBlk b cs st fun st => k (.tup .nil) st) (bad 203)) (bad 204)) (bad 205)) (bad 206)) (bad 207))) (bad 208))
   (bad 209) (bad 210)) (bad 211)

/-! maps with integers or strings as keys -/
def keyEq (m : Mk) (a b : AV) (t e d : Res) : Res :=
  mkOn m (onInt a (fun ka x => onInt b (fun kb y => kindIs ka kb (ifB (Nat.beq x y) t e) d) d) d) (onStr a (fun x => onStr b (fun y => seq x y t e) d) d) d
/-- an entry: its stamp, its key, its value -/
def entryK (e : AV) (k : AV → AV → AV → R) (d : R) : R := onCons e (fun n r => onCons r (fun a v => k n a v) d) d
def mapFind (m : Mk) (key : AV) : AV → (AV → Res) → Res → Res → Res :=
  AV.rec (motive := fun _ => (AV → Res) → Res → Res → Res) (fun _ n _ => n) (fun e _ _ ih k n d => entryK e (fun _ a v => keyEq m key a (k v) (ih k n d) d) d)
   (fun _ _ _ _ d => d) (fun _ _ _ d => d) (fun _ _ _ d => d) (fun _ _ d => d) (fun _ _ _ _ d => d) (fun _ _ d => d) (fun _ _ _ _ _ _ _ _ d => d) (fun _ _ d => d) (fun _ _ _ d => d) (fun _ _ _ _ _ _ _ d => d) (fun _ _ d => d) (fun _ _ _ _ _ d => d) (fun _ _ d => d) (fun _ _ _ _ d => d) (fun _ _ _ _ d => d) (fun _ _ _ d => d) (fun _ _ d => d)
/-- the entry of a key turned; kn: there is none -/
def mapPut (m : Mk) (key val : AV) : AV → (AV → Res) → Res → Res → Res :=
  AV.rec (motive := fun _ => (AV → Res) → Res → Res → Res) (fun _ n _ => n) (fun e l _ ih k n d => entryK e (fun b a _ => keyEq m key a (k (.cons (.cons b (.cons key val)) l)) (ih (fun l => k (.cons e l)) n d) d) d)
   (fun _ _ _ _ d => d) (fun _ _ _ d => d) (fun _ _ _ d => d) (fun _ _ d => d) (fun _ _ _ _ d => d) (fun _ _ d => d) (fun _ _ _ _ _ _ _ _ d => d) (fun _ _ d => d) (fun _ _ _ d => d) (fun _ _ _ _ _ _ _ d => d) (fun _ _ d => d) (fun _ _ _ _ _ d => d) (fun _ _ d => d) (fun _ _ _ _ d => d) (fun _ _ _ _ d => d) (fun _ _ _ d => d) (fun _ _ d => d)
/-- the entry of a key struck; kn: there is none -/
def mapDel (m : Mk) (key : AV) : AV → (AV → Res) → Res → Res → Res :=
  AV.rec (motive := fun _ => (AV → Res) → Res → Res → Res) (fun _ n _ => n) (fun e l _ ih k n d => entryK e (fun _ a _ => keyEq m key a (k l) (ih (fun l => k (.cons e l)) n d) d) d)
   (fun _ _ _ _ d => d) (fun _ _ _ d => d) (fun _ _ _ d => d) (fun _ _ d => d) (fun _ _ _ _ d => d) (fun _ _ d => d) (fun _ _ _ _ _ _ _ _ d => d) (fun _ _ d => d) (fun _ _ _ d => d) (fun _ _ _ _ _ _ _ d => d) (fun _ _ d => d) (fun _ _ _ _ _ d => d) (fun _ _ d => d) (fun _ _ _ _ d => d) (fun _ _ _ _ d => d) (fun _ _ _ d => d) (fun _ _ d => d)
def opMakeMap (r : Option Operand) : OpF := fun _ st k => Option.rec (motive := fun _ => Res) (newBlk (.m .nil 0) st fun b st => k (.mp b) st) (fun _ => bad 220) r
def opLookup (t : TypeId) (x ix : Operand) (ok : Bool) (P : Program) : OpF := fun fr st k =>
  opnd x fr fun m => opnd ix fr fun key => mkGo (mk P t) (fun kk => onMp m (bad 221) (fun b => mapAt b st (fun es _ => mapFind kk key es
     (fun v => ifB ok (k (.tup (.cons v (.cons (.bool true) .nil))) st) (k v st))
     (ifB (zeroDef P (mapElem P t)) (ifB ok (k (.tup (.cons (zeroOf P (mapElem P t)) (.cons (.bool false) .nil))) st) (k (zeroOf P (mapElem P t)) st)) (bad 337)) (bad 222)) (bad 223)) (bad 224)) (bad 334)
def opMapUpdate (t : TypeId) (m key x : Operand) (P : Program) : OpF := fun fr st k =>
  opnd m fr fun m => opnd key fr fun key => opnd x fr fun v => mkGo (mk P t) (fun kk => onMp m (bad 225) (fun b => mapAt b st (fun es n => mapPut kk key v es (fun es => putBlk b (.m es n) st fun st => k .undef st)
     (appK es (.cons (.cons (.int .u64 n) (.cons key v)) .nil) (fun es => frc (Nat.succ n) fun n => putBlk b (.m es n) st fun st => k .undef st) (bad 229)) (bad 226)) (bad 227)) (bad 228)) (bad 335)
/-- a map of at most one entry is ranged over -/
def onIt : Blk → (Pos → Nat → Nat → Nat → Nat → R) → R → R :=
  Blk.rec (motive := fun _ => (Pos → Nat → Nat → Nat → Nat → R) → R → R) (fun _ d => d) (fun _ _ d => d) (fun _ _ d => d) (fun _ _ _ _ d => d) (fun _ _ _ d => d) (fun m s n b c k _ => k m s n b c) (fun _ _ _ _ _ _ _ d => d)
def opRange (t : TypeId) (x : Operand) (P : Program) : OpF := fun fr st k =>
  opnd x fr fun v => mkGo (mk P t) (fun _ => onMp v (bad 212) (fun b => mapAt b st (fun _ n => newBlk (.it b n 0 0 0) st fun b st => k (.ptr b 0) st) (bad 216)) (bad 217)) (bad 218)
def opNext (x : Operand) (str : Bool) : OpF := fun fr st k =>
  ifB str (bad 300) (opnd x fr fun v => onPtr v (fun i o => ifB (Nat.beq o 0) (atB i st (fun blk => onIt blk (fun m since n stamp stepped => mapAt m st (fun es clk =>
     onList es (k (.tup (.cons (.bool false) .nil)) st)
      (fun e r => onList r (entryK e (fun b a v => onInt b (fun _ b => ifB (Nat.beq n 0) (ifB (Nat.blt b since) (putBlk i (.it m since 1 b clk) st fun st => k (.tup (.cons (.bool true) (.cons a (.cons v .nil)))) st) (bad 301))
           (ifB (Nat.beq b stamp) (ifB (Nat.blt b stepped) (k (.tup (.cons (.bool false) .nil)) st) (bad 302)) (bad 320))) (bad 321)) (bad 322)) (fun _ _ => bad 323) (bad 324)) (bad 325)) (bad 303)) (bad 304)) (bad 305)) (bad 306)) (bad 307))
def opEntry (x : Operand) : OpF := fun fr st k =>
  opnd x fr fun v => onPtr v (fun i o => ifB (Nat.beq o 0) (atB i st (fun blk => onIt blk (fun m _ n stamp stepped => ifB (Nat.beq n 1)
     (mapAt m st (fun es clk => ifB (Nat.beq clk stepped) (onCons es (fun e _ => entryK e (fun b a v => onInt b (fun _ b => ifB (Nat.beq b stamp) (k (.tup (.cons a (.cons v .nil))) st) (bad 326)) (bad 327)) (bad 308)) (bad 309)) (bad 328)) (bad 310)) (bad 311)) (bad 312)) (bad 313)) (bad 314)) (bad 315)
def biDelete : BiF := fun P ts as_ st k => arg2 as_ (fun m key => mkGo (mk P (ty0 ts)) (fun kk => onMp m (bad 318) (fun b => mapAt b st (fun es n => mapDel kk key es (fun es => putBlk b (.m es n) st fun st => k (.tup .nil) st) (k (.tup .nil) st) (bad 316)) (bad 317)) (bad 319)) (bad 336)) (bad 329)

abbrev CallH := AV → AV → St → Rv
def onRv : Rv → (AV → St → Res) → Res := Rv.rec (motive := fun _ => (AV → St → Res) → Res) (fun n _ => .fail n) (fun v st k => k v st)
def callVal (x : Operand) (as_ : Array Operand) (call : CallH) : OpF := fun fr st k =>
  opnd x fr fun f => onFn f (fun f fst cap => opnds as_.toList fr fun l => appK l cap (fun l => appK fst l (fun l => onRv (call (.fn f .nil .nil) l st) k) (bad 230)) (bad 231)) (onYl f (fun b => opnds as_.toList fr fun l => onRv (call (.yl b) l st) k) (bad 232))
def biOf : Builtin → BiF :=
  Builtin.rec (motive := fun _ => BiF) biAppend biCap biClear biBad biBad biCopy biDelete biBad biLen biBad biMax biMin biBad biBad biBad biBad biBad biBad biBad biBad biBad biBad biBad biBad biBad biBad
def callBi (b : Builtin) (ts : Array TypeId) (as_ : Array Operand) (P : Program) : OpF := fun fr st k => opnds as_.toList fr fun l => biOf b P ts l st k
def opCall (c : Call) (P : Program) (call : CallH) : OpF :=
  Call.rec (motive := fun _ => OpF) (fun callee as_ ts => Callee.rec (motive := fun _ => OpF) (fun f => callVal f as_ call) (fun _ _ _ _ _ => bad 233) (fun b => callBi b ts as_ P) callee) c

abbrev OpG := Program → CallH → OpF
def gBad : OpG := fun _ _ _ _ _ => bad 240
def gMove (x : Operand) : OpG := fun _ _ => opMove x
def gPick (a b c : Operand) : OpG := fun _ _ => opPick a b c
def gAlloc (t : TypeId) : OpG := fun P _ => opAlloc t P
def gBox (_ : TypeId) (x : Operand) : OpG := fun _ _ => opBox x
def gBuild (t : TypeId) (ps : Array (Nat × Operand)) : OpG := fun P _ => opBuild t ps P
def gBuildSlice (t : TypeId) (n : Nat) (ps : Array (Nat × Operand)) : OpG := fun P _ => opBuildSlice t n ps P
def gLoad (t : TypeId) (a : Operand) : OpG := fun P _ => opLoad t a P
def gStore (t : TypeId) (a x : Operand) : OpG := fun P _ => opStore t a x P
def gNil (x : Operand) : OpG := fun _ _ => opNil x
def gBin (op : BinOp) (t : TypeId) (x y : Operand) (_ : TypeId) : OpG := fun P _ => opBin op t x y P
def gUn (op : UnOp) (_ : TypeId) (x : Operand) : OpG := fun _ _ => opUn op x
def gConv (s d : TypeId) (x : Operand) : OpG := fun P _ => opConv s d x P
def gMakeFunc (f : Fn) (a b : Array Operand) : OpG := fun _ _ => opMakeFunc f a b
def gMakeMap (_ : TypeId) (r : Option Operand) : OpG := fun _ _ => opMakeMap r
def gMakeSlice (t : TypeId) (l c : Operand) : OpG := fun P _ => opMakeSlice t l c P
def gSlice (t : TypeId) (x : Operand) (a b c : Option Operand) : OpG := fun P _ => opSlice t x a b c P
def gFieldAddr (t : TypeId) (x : Operand) (f : Nat) : OpG := fun P _ => opFieldAddr t x f P
def gField (t : TypeId) (x : Operand) (f : Nat) : OpG := fun P _ => opField t x f P
def gIxAddr (t : TypeId) (x i : Operand) : OpG := fun P _ => opIxAddr t x i P
def gIndex (t : TypeId) (x i : Operand) : OpG := fun P _ => opIndex t x i P
def gLookup (t : TypeId) (x i : Operand) (ok : Bool) : OpG := fun P _ => opLookup t x i ok P
def gMapUpdate (t : TypeId) (m k x : Operand) : OpG := fun P _ => opMapUpdate t m k x P
def gRange (t : TypeId) (x : Operand) : OpG := fun P _ => opRange t x P
def gNext (x : Operand) (s : Bool) : OpG := fun _ _ => opNext x s
def gEntry (x : Operand) : OpG := fun _ _ => opEntry x
def gExtract (x : Operand) (i : Nat) : OpG := fun _ _ => opExtract x i
def gCall (c : Call) : OpG := fun P call => opCall c P call
def opStep : Op → OpG :=
  Op.rec (motive := fun _ => OpG) gMove gMove gPick gAlloc gBox gBuild gBuildSlice gMapUpdate gLoad gStore (fun _ => gBad) (fun _ => gBad) gNil gBin gUn gConv
    (fun _ _ => gBad) (fun _ _ => gBad) gMakeFunc gMakeMap (fun _ _ => gBad) gMakeSlice gSlice gFieldAddr gField gIxAddr gIndex gLookup gMapUpdate
    (fun _ _ _ => gBad) (fun _ _ _ _ => gBad) gRange gNext gEntry (fun _ _ _ _ => gBad) gExtract gCall
    (fun _ => gBad) (fun _ => gBad) (fun _ => gBad) (fun _ _ => gBad) (fun _ _ _ => gBad) (fun _ _ => gBad)
end
end Ev
end
/- This text defines the evaluator's regions, statements and calls. -/
section
namespace Ev
open Go
noncomputable section
variable {R : Type}

def posEq : Pos → Pos → R → R → R :=
  Pos.rec (motive := fun _ => Pos → R → R → R) (fun q t e => Pos.rec (motive := fun _ => R) t (fun _ _ => e) (fun _ _ => e) q)
    (fun _ ih q t e => Pos.rec (motive := fun _ => R) e (fun q _ => ih q t e) (fun _ _ => e) q) (fun _ ih q t e => Pos.rec (motive := fun _ => R) e (fun _ _ => e) (fun q _ => ih q t e) q)
def boolEq (a b : Bool) (t e : R) : R := ifB a (ifB b t e) (ifB b e t)
/-- equality of values, as far as it is decided -/
def avEq : AV → AV → R → R → R :=
  AV.rec (motive := fun _ => AV → R → R → R)
    (fun b t e => onList b t (fun _ _ => e) e)
    (fun _ _ ia il b t e => onCons b (fun x y => ia x (il y t e) e) e)
    (fun k n b t e => onInt b (fun j m => kindIs k j (ifB (Nat.beq n m) t e) e) e)
    (fun x b t e => onBool b (fun y => boolEq x y t e) e)
    (fun x b t e => onStr b (fun y => seq x y t e) e)
    (fun b t e => onNptr b t (fun _ _ => e) e)
    (fun p o b t e => onPtr b (fun q m => posEq p q (ifB (Nat.beq o m) t e) e) e)
    (fun b t e => onSl b t (fun _ _ _ _ _ _ => e) e)
    (fun p o l c z x b t e => onSl b e (fun q o' l' c' z' y => posEq p q (ifB (Nat.beq o o') (ifB (Nat.beq l l') (ifB (Nat.beq c c') (ifB (Nat.beq z z') (boolEq x y t e) e) e) e) e) e) e)
    (fun b t e => onMp b t (fun _ => e) e)
    (fun p b t e => onMp b e (fun q => posEq p q t e) e)
    (fun f _ _ ia ic b t e => onFn b (fun g x y => ifB (Nat.beq f g) (ia x (ic y t e) e) e) e)
    (fun b t e => onNilf b t e)
    (fun _ _ _ _ _ e => e) (fun _ _ e => e)
    (fun _ ih b t e => onAgg b (fun y => ih y t e) e)
    (fun _ ih b t e => onTup b (fun y => ih y t e) e)
    (fun p b t e => onYl b (fun q => posEq p q t e) e)
    (fun _ _ e => e)
def blkEq (a b : Blk) (t e : R) : R := onOwn a (fun x => onOwn b (fun y => avEq x y t e) e) (onMap a (fun x n => onMap b (fun y m => ifB (Nat.beq n m) (avEq x y t e) e) e) e)

/-- what an operation does to the heap: nothing, and it doesn't look; it looks; it makes a block; all else -/
inductive Cls where | pure | read | alloc | eff
def clsConv (P : Program) (s d : TypeId) : Cls := match ck P d with | .int _ => .pure | .str => if isBytes P s then .read else .pure | .bad => .alloc
def clsCall (c : Call) : Cls := match c.callee with | .builtin .len => .pure | .builtin .cap => .pure | .builtin .max => .pure | .builtin .min => .pure | _ => .eff
def cls (P : Program) : Op → Cls
  | .move _ | .assign _ | .pick .. | .build .. | .nilCheck _ | .binOp .. | .unOp .. | .makeFunc .. | .fieldAddr .. | .field .. | .indexAddr .. | .index .. | .extract .. => .pure
  | .load .. | .lookup .. | .slice .. => .read
  | .convert s d _ => clsConv P s d
  | .alloc _ | .box .. | .buildSlice .. | .makeMap .. | .makeSlice .. => .alloc
  | .call c => clsCall c
  | _ => .eff

/-- the record of a region whose order is open -/
inductive Log where
  | nil
  | eff (j : Nat) (st : St) (l : Log)
  | qt (j : Nat) (o : Op) (fr : Tr AV) (v : AV) (l : Log)
  | al (j : Nat) (b : Pos) (l : Log)
/-- a value and a state as a result -/
def reify : AV → St → Res := fun v st => .ok .norm (.n v .e .e) st
def onReif (r : Res) (k : AV → St → Res) : Res :=
  Res.rec (motive := fun _ => Res) (fun n => .fail n) (fun _ t st => Tr.rec (motive := fun _ => Res) (.fail 292) (fun v _ _ _ _ => k v st) (fun _ _ _ _ => .fail 293) t) r

abbrev FrK := Tr AV → St → Res
def setDst : Option Nat → AV → Tr AV → (Tr AV → Res) → Res :=
  Option.rec (motive := fun _ => AV → Tr AV → (Tr AV → Res) → Res) (fun _ fr k => k fr) (fun d v fr k => Tr.set (pos d) v fr k)
def putK (dst : Option Nat) (fr : Tr AV) (k : FrK) : AV → St → Res := fun v st => setDst dst v fr fun fr => k fr st

/-- the temporary of the operation that a guard names -/
def guardTmp (all : Array Oper) (j : Nat) : Option Nat := (all[j]?).bind (·.dst)
/-- is the operation wanted? -/
def guardK (all : Array Oper) (g : Option (Nat × Bool)) (fr : Tr AV) (yes no : Res) : Res :=
  Option.rec (motive := fun _ => Res) yes (fun p => Prod.rec (motive := fun _ => Res) (fun j want => Option.rec (motive := fun _ => Res) (bad 250) (fun d => Tr.get (pos d) fr (fun v => onBool v (fun b => boolEq b want yes no) (onTup v (fun _ => no) (bad 251))) (bad 252)) (guardTmp all j)) p) g

abbrev OperG := Array Oper → Program → CallH → Tr AV → St → FrK → Res
def operStep : Oper → OperG :=
  Oper.rec (motive := fun _ => OperG) fun dst op _ _ _ guard all P call fr st k =>
    guardK all guard fr (opStep op P call fr st (putK dst fr k)) (setDst dst (.tup .nil) fr fun fr => k fr st)
def opsNil : OperG := fun _ _ _ fr st k => k fr st
def opsCons (o : Oper) (_ : List Oper) (ih : OperG) : OperG := fun all P call fr st k => operStep o all P call fr st (ih all P call · · k)
def opsGo : List Oper → OperG := List.rec (motive := fun _ => OperG) opsNil opsCons

/-! regions whose order is open -/
def bit (m j : Nat) (t e : R) : R := ifB (Nat.beq (Nat.land (Nat.shiftRight m j) 1) 1) t e
/-- what an operation would yield in another state -/
def again (o : Op) (P : Program) (call : CallH) (fr : Tr AV) (st : St) (v : AV) (t : Res) : Res := opStep o P call fr st fun w _ => avEq v w t (bad 253)
/-- behind an effect: what was done before and need not stand before it is as it was -/
def logEff (m : Nat) (P : Program) (call : CallH) (st0 st1 : St) (k : Res) : Log → Res :=
  Log.rec (motive := fun _ => Res) k (fun j _ _ ih => bit m j ih (bad 254))
    (fun j o fr v _ ih => bit m j ih (again o P call fr st1 v ih))
    (fun j b _ ih => bit m j ih (onSt st0 fun h0 _ => onSt st1 fun h1 _ => Tr.get b h0 (fun x => Tr.get b h1 (fun y => blkEq x y ih (bad 255)) (bad 256)) (bad 257)))
/-- behind a look: it would have seen the same ahead of the effects that need not stand before it -/
def logRead (m : Nat) (o : Op) (P : Program) (call : CallH) (fr : Tr AV) (v : AV) (k : Res) : Log → Res :=
  Log.rec (motive := fun _ => Res) k (fun j st _ ih => bit m j ih (again o P call fr st v ih)) (fun _ _ _ _ _ ih => ih) (fun _ _ _ ih => ih)
def clsOn : Cls → R → R → R → R → R := Cls.rec (motive := fun _ => R → R → R → R → R) (fun a _ _ _ => a) (fun _ b _ _ => b) (fun _ _ c _ => c) (fun _ _ _ d => d)

abbrev DrawG := List Nat → Nat → Log → Array Oper → Program → CallH → Tr AV → St → FrK → Res
def drawOne (dst : Option Nat) (op : Op) (m i : Nat) (log : Log) (P : Program) (call : CallH) (fr : Tr AV) (st : St) (k : Log → FrK) : Res :=
  clsOn (cls P op)
    (onSt st fun _ n => onReif (opStep op P call fr ⟨.e, n⟩ reify) fun v _ => setDst dst v fr fun fr => k log fr st)
    (onReif (opStep op P call fr st reify) fun v _ => logRead m op P call fr v (setDst dst v fr fun fr1 => k (.qt i op fr v log) fr1 st) log)
    (onSt st fun h n => onReif (opStep op P call fr ⟨.e, n⟩ reify) fun v st1 => onSt st1 fun h1 n1 => Pos.succ n fun n2 => posEq n2 n1 (Tr.get n h1 (fun blk => Tr.set n blk h fun h => setDst dst v fr fun fr => k (.al i n log) fr ⟨h, n1⟩) (bad 291)) (bad 294))
    (onReif (opStep op P call fr st reify) fun v st1 => logEff m P call st st1 (setDst dst v fr fun fr => k (.eff i st log) fr st1) log)
def drawOper : Oper → Nat → Nat → Log → Array Oper → Program → CallH → Tr AV → St → (Log → FrK) → Res :=
  Oper.rec (motive := fun _ => Nat → Nat → Log → Array Oper → Program → CallH → Tr AV → St → (Log → FrK) → Res) fun dst op _ _ _ guard m i log all P call fr st k =>
    guardK all guard fr (drawOne dst op m i log P call fr st k) (setDst dst (.tup .nil) fr fun fr => k log fr st)
def drawNil : DrawG := fun _ _ _ _ _ _ fr st k => k fr st
def drawCons (o : Oper) (_ : List Oper) (ih : DrawG) : DrawG := fun ms i log all P call fr st k =>
  List.rec (motive := fun _ => Res) (bad 258) (fun m ms _ => drawOper o m i log all P call fr st fun log fr st => ih ms (Nat.succ i) log all P call fr st k) ms
def drawGo : List Oper → DrawG := List.rec (motive := fun _ => DrawG) drawNil drawCons

/-- the set of the operations that stand before each, as bits -/
def maskOf (acc : List Nat) (es : List Edge) : Nat := es.foldl (fun s e => if Region.binds .any e then s ||| (2 ^ e.on ||| acc.getD e.on 0) else s) 0
def masksGo : List Oper → List Nat → List Nat
  | [], acc => acc
  | o :: l, acc => masksGo l (acc ++ [maskOf acc o.after.toList])
def masks (ops : List Oper) : List Nat := masksGo ops []
/-- the temporaries that an operation names -/
def namesOf (all : Array Oper) (o : Oper) : List Nat :=
  o.dst.toList ++ (o.op.operands.toList.filterMap fun | .tmp t => some t | _ => none) ++ (match o.guard with | some (j, _) => ((all[j]?).bind (·.dst)).toList | none => [])
/-- is the order open only where it does not matter to temporaries? -/
def pairOk (all : Array Oper) (ms : List Nat) (i j : Nat) (x y : Oper) : Bool :=
  Nat.testBit (ms.getD j 0) i || ((x.dst.all fun d => !(namesOf all y).contains d) && (y.dst.all fun d => !(namesOf all x).contains d))
def drawOk (ops : Array Oper) : Bool :=
  let l := ops.toList.zipIdx
  let ms := masks ops.toList
  (l.all fun (o, i) => o.after.toList.all fun e => !Region.binds .any e || decide (e.on < i)) &&
  l.all fun (y, j) => l.all fun (x, i) => decide (j ≤ i) || pairOk ops ms i j x y

def onRes : Res → (Ex → Tr AV → St → Res) → Res := Res.rec (motive := fun _ => (Ex → Tr AV → St → Res) → Res) (fun n _ => .fail n) (fun e fr st k => k e fr st)
def exOn : Ex → R → R → (Nat → R) → R := Ex.rec (motive := fun _ => R → R → (Nat → R) → R) (fun a _ _ => a) (fun _ b _ => b) (fun n _ _ k => k n)

abbrev CodeF := Tr AV → St → Res
abbrev CodeG := Program → CallH → CodeF
def cSkip : CodeG := fun _ _ fr st => .ok .norm fr st
def cNorm : Tr AV → St → Res := fun fr st => .ok .norm fr st
def cRegion : Nat → Array Oper → Bool → CodeG := fun _ ops draw P call fr st =>
  ifB draw (ifB (drawOk ops) (drawGo ops.toList (masks ops.toList) 0 .nil ops P call fr st cNorm) (bad 260)) (opsGo ops.toList ops P call fr st cNorm)
def cSeq2 : CodeG → Program → CallH → Ex → CodeF := fun b P call e fr st => exOn e (b P call fr st) (.ok .ret fr st) (fun j => .ok (.exit j) fr st)
def cSeq : CodeG → CodeG → CodeG := fun a b P call fr st => onRes (a P call fr st) (cSeq2 b P call)
def cCond : Operand → CodeG → CodeG → CodeG := fun c a b P call fr st => opnd c fr fun v => onBool v (fun t => ifB t a b P call fr st) (bad 261)
def cBlock2 : Nat → Ex → CodeF := fun id e fr st => exOn e (.ok .norm fr st) (.ok .ret fr st) (fun j => ifB (Nat.beq j id) (.ok .norm fr st) (.ok (.exit j) fr st))
def cBlock : Nat → CodeG → CodeG := fun id body P call fr st => onRes (body P call fr st) (cBlock2 id)
/-- rounds of a loop -/
def loopN : Nat → CodeF → CodeF :=
  Nat.rec (motive := fun _ => CodeF → CodeF) (fun _ _ _ => bad 259) (fun _ ih body fr st => onRes (body fr st) fun e fr st => exOn e (ih body fr st) (.ok .ret fr st) (fun j => .ok (.exit j) fr st))
def cLoop : CodeG → CodeG := fun body P call => loopN 1000000 (body P call)
def cExit : Nat → CodeG := fun id _ _ fr st => .ok (.exit id) fr st
def cRet : CodeG := fun _ _ fr st => .ok .ret fr st
def onLp : Blk → (List Nat → Tr AV → Code → Code → Nat → Option Nat → R) → R → R :=
  Blk.rec (motive := fun _ => (List Nat → Tr AV → Code → Code → Nat → Option Nat → R) → R → R) (fun _ d => d) (fun _ _ d => d) (fun _ _ d => d) (fun _ _ _ _ d => d) (fun _ _ _ d => d) (fun _ _ _ _ _ _ d => d) (fun a b c e f g k _ => k a b c e f g)
def lpAt (b : Pos) (st : St) (k : List Nat → Tr AV → Code → Code → Nat → Option Nat → R) (d : R) : R := onSt st fun h _ => Tr.get b h (fun blk => onLp blk k d) d
/-- a way out as a number: 0 by return, n + 1 by the exit n -/
def exNum : Ex → Option Nat := Ex.rec (motive := fun _ => Option Nat) none (some 0) (fun n => some (Nat.succ n))
def numEx : Option Nat → Ex := Option.rec (motive := fun _ => Ex) .norm (fun n => Nat.rec (motive := fun _ => Ex) .ret (fun n _ => .exit n) n)
def cRange : Operand → Array Tmp → Code → Code → CodeG := fun f ps as_ bd _ call fr st =>
  opnd f fr fun g => newBlk (.lp ps.toList fr as_ bd 0 none) st fun b st =>
   onFn g (fun f fst cap => appK (.cons (.yl b) .nil) cap (fun l => appK fst l (fun l => Rv.rec (motive := fun _ => Res) (fun n => .fail n) (fun _ st => lpAt b st (fun ps lf as_ bd stt pend => ifB (Nat.beq stt 1) (bad 263) (putBlk b (.lp ps lf as_ bd 3 pend) st fun st => .ok (numEx pend) fr st)) (bad 264)) (call (.fn f .nil .nil) l st)) (bad 265)) (bad 266)) (bad 267)
def cBad : CodeG := fun _ _ _ _ => bad 262
def codeF : Code → CodeG :=
  Code.rec (motive := fun _ => CodeG)
    cSkip cRegion (fun _ _ a b => cSeq a b) (fun c _ _ a b => cCond c a b) (fun id _ body => cBlock id body) (fun _ body => cLoop body)
    (fun f ps as_ bd _ _ => cRange f ps as_ bd) cExit (fun _ _ => cBad) (fun _ => cSkip) (fun _ => cBad) cRet (fun _ => cBad)

/-- a round: the loop's temporaries, yield's arguments -/
def putArgs : List Nat → AV → Tr AV → (Tr AV → Rv) → Rv :=
  List.rec (motive := fun _ => AV → Tr AV → (Tr AV → Rv) → Rv) (fun as_ fr k => onList as_ (k fr) (fun _ _ => .fail 268) (.fail 268)) (fun t _ ih as_ fr k => onCons as_ (fun a l => Tr.set (pos t) a fr fun fr => ih l fr k) (.fail 269))
def resRv3 : Res → (Ex → Tr AV → St → Rv) → Rv := Res.rec (motive := fun _ => (Ex → Tr AV → St → Rv) → Rv) (fun n _ => .fail n) (fun e fr st k => k e fr st)
def round (P : Program) (call : CallH) (b : Pos) (args : AV) (st : St) : Rv :=
  lpAt b st (fun ps lf as_ bd stt _ => ifB (Nat.beq stt 0) (putArgs ps args lf fun fr => resRv3 (codeF as_ P call fr st) fun e fr st => exOn e
     (lpAt b st (fun ps lf as_ bd' stt pend => ifB (Nat.beq stt 0) (putBlk b (.lp ps lf as_ bd' 1 pend) st fun st => resRv3 (codeF bd P call fr st) fun e _ st => lpAt b st (fun ps lf as_ bd _ _ => exOn e
        (putBlk b (.lp ps lf as_ bd 0 none) st fun st => .ok (.bool true) st) (putBlk b (.lp ps lf as_ bd 2 (some 0)) st fun st => .ok (.bool false) st) (fun j => putBlk b (.lp ps lf as_ bd 2 (some (Nat.succ j))) st fun st => .ok (.bool false) st)) (.fail 286)) (.fail 280)) (.fail 281)) (.fail 282) (fun _ => .fail 283)) (.fail 284)) (.fail 285)
/-- is there no range over a function? -/
def noRF : Code → Bool
  | .seq a b => noRF a && noRF b
  | .cond _ a b => noRF a && noRF b
  | .block _ a => noRF a
  | .loop a => noRF a
  | .rangeFunc .. => false
  | _ => true
/-- are all temporaries that are written below a number? -/
def dstsOk (n : Nat) : Code → Bool
  | .region _ ops _ => ops.toList.all fun o => o.dst.all fun d => Nat.blt d n
  | .seq a b => dstsOk n a && dstsOk n b
  | .cond _ a b => dstsOk n a && dstsOk n b
  | .block _ a => dstsOk n a
  | .loop a => dstsOk n a
  | .rangeFunc _ ps a b => (ps.toList.all fun t => Nat.blt t n) && dstsOk n a && dstsOk n b && noRF a && noRF b
  | .skip | .exit _ | .ret | .label _ | .scope _ | .goto _ | .refuse _ => true

abbrev SumF := AV → St → Rv
/-- a function: its body's temporaries, its results -/
def fnTab (P : Program) : Tr Func := tabOf P.funcs.toList
def getFn (P : Program) (f : Nat) (k : Func → Rv) (d : Rv) : Rv := Tr.get (pos f) (fnTab P) k d
def fnOk (fn : Func) (c : Code) : Bool := dstsOk fn.ntmps c && Nat.ble fn.params.size fn.ntmps && (fn.name != "runtime.NumGoroutine")
/-- the arguments into their temporaries; how many there are -/
def argsK : AV → Nat → Tr AV → (Nat → Tr AV → Rv) → Rv :=
  AV.rec (motive := fun _ => Nat → Tr AV → (Nat → Tr AV → Rv) → Rv) (fun n fr k => k n fr) (fun a _ _ ih n fr k => Tr.set (pos n) a fr fun fr => ih (Nat.succ n) fr k)
   (fun _ _ _ _ _ => .fail 270) (fun _ _ _ _ => .fail 270) (fun _ _ _ _ => .fail 270) (fun _ _ _ => .fail 270) (fun _ _ _ _ _ => .fail 270) (fun _ _ _ => .fail 270) (fun _ _ _ _ _ _ _ _ _ => .fail 270) (fun _ _ _ => .fail 270) (fun _ _ _ _ => .fail 270) (fun _ _ _ _ _ _ _ _ => .fail 270) (fun _ _ _ => .fail 270) (fun _ _ _ _ _ _ => .fail 270) (fun _ _ _ => .fail 270) (fun _ _ _ _ _ => .fail 270) (fun _ _ _ _ _ => .fail 270) (fun _ _ _ _ => .fail 270) (fun _ _ _ => .fail 270)
def resultVar (P : Program) (fr : Tr AV) (st : St) : ResultVar → (AV → Rv) → Rv :=
  ResultVar.rec (motive := fun _ => (AV → Rv) → Rv) (fun t k => Tr.get (pos t) fr k (k .undef))
    (fun a t k => Tr.get (pos a) fr (fun v => onPtr v (fun b o => loadK P t b o st k (.fail 271)) (.fail 272)) (.fail 273))
def resultVars (P : Program) (fr : Tr AV) (st : St) : List ResultVar → (AV → Rv) → Rv :=
  List.rec (motive := fun _ => (AV → Rv) → Rv) (fun k => k .nil) (fun r _ ih k => resultVar P fr st r fun v => ih fun l => k (.cons v l))
/-- one result stands for itself -/
def shut (l : AV) (k : AV → Rv) : Rv := onCons l (fun a b => onCons b (fun _ _ => k (.tup l)) (k a)) (k (.tup l))
def resRv : Res → (Tr AV → St → Rv) → Rv := Res.rec (motive := fun _ => (Tr AV → St → Rv) → Rv) (fun n _ => .fail n) (fun e fr st k => exOn e (k fr st) (k fr st) (fun _ => .fail 274))
def callBody (P : Program) (call : CallH) (as_ : AV) (st : St) : Func → Rv :=
  Func.rec (motive := fun _ => Rv) fun name origin targs params rt nfree ntmps results body nr ours file el ln met tn =>
    Option.rec (motive := fun _ => Rv) (.fail 275) (fun c => ifB (fnOk ⟨name, origin, targs, params, rt, nfree, ntmps, results, body, nr, ours, file, el, ln, met, tn⟩ c)
      (argsK as_ 0 .e fun n fr => ifB (Nat.ble n ntmps) (resRv (codeF c P call fr st) fun fr st => resultVars P fr st results.toList fun l => shut l fun v => .ok v st) (.fail 276)) (.fail 277)) body
/-- a call; within it calls are made by 'call' -/
def callStep (P : Program) (S : Nat → Option SumF) (call : CallH) : CallH := fun g as_ st =>
  onFn g (fun f _ _ => Option.rec (motive := fun _ => Rv) (getFn P f (callBody P call as_ st) (.fail 278)) (fun s => s as_ st) (S f)) (onYl g (fun b => round P call b as_ st) (.fail 279))
/-- calls, so many deep at most -/
def callN (P : Program) (S : Nat → Option SumF) : Nat → CallH :=
  Nat.rec (motive := fun _ => CallH) (fun _ _ _ => .fail 0) (fun _ ih => callStep P S ih)
end
end Ev
end
/- This text says how the evaluator's values, frames and blocks stand to those of the model, and proves what follows of that alone. -/
section
namespace Ev
open Go

/-- where a block stands: the model's block, the first cell, how many cells the block has -/
abbrev Phi := Pos → Option (Nat × Nat × Nat)

/-- what an abstract value stands for; 0: a value, 1: a list of values, 2: a list of cells -/
inductive VR (φ : Phi) : Nat → AV → List Value → Prop
  | int (k : IntKind) (n : Nat) : n < kmod k → VR φ 0 (.int k n) [.int k (k.wrap n)]
  | bool (b : Bool) : VR φ 0 (.bool b) [.bool b]
  | str (l : List Nat) (s : ByteArray) : s.data.toList.map UInt8.toNat = l → VR φ 0 (.str l) [.string s]
  | nilp : VR φ 0 .nilp [.pointer none]
  | ptr (b : Pos) (o B s N : Nat) : φ b = some (B, s, N) → VR φ 0 (.ptr b o) [.pointer (some ⟨B, s + o, none⟩)]
  | nils : VR φ 0 .nils [.slice none 0 0]
  | sl (b : Pos) (o l c z : Nat) (ex : Bool) (B s N a C : Nat) : φ b = some (B, s, N) → l ≤ c → c ≤ C → (ex = true → C = c) → (C = 0 ∨ a = s + o) → a + C * z ≤ N →
      VR φ 0 (.sl b o l c z ex) [.slice (some ⟨B, a, none⟩) l C]
  | nilm : VR φ 0 .nilm [.map none]
  | mp (b : Pos) (B N : Nat) : φ b = some (B, 0, N) → VR φ 0 (.mp b) [.map (some B)]
  | fn (f : Nat) (a c : AV) (xs ys : List Value) : VR φ 1 a xs → VR φ 1 c ys → VR φ 0 (.fn f a c) [.func (.func f) ⟨xs⟩ ⟨ys⟩]
  | nilf : VR φ 0 .nilf [.nilFunc]
  | ifc (t : Nat) (v : AV) (x : Value) : VR φ 0 v [x] → VR φ 0 (.ifc t v) [.iface t x]
  | nili : VR φ 0 .nili [.nilIface]
  | agg (l : AV) (cs : List Value) : VR φ 2 l cs → VR φ 0 (.agg l) [.agg ⟨cs⟩]
  | tup (l : AV) (vs : List Value) : VR φ 1 l vs → VR φ 0 (.tup l) [.tuple ⟨vs⟩]
  | yl (b : Pos) (B N : Nat) : φ b = some (B, 0, N) → VR φ 0 (.yl b) [.func (.yield B) #[] #[]]
  | undef (x : Value) : VR φ 0 .undef [x]
  | nil1 : VR φ 1 .nil []
  | cons1 (a l : AV) (x : Value) (xs : List Value) : VR φ 0 a [x] → VR φ 1 l xs → VR φ 1 (.cons a l) (x :: xs)
  | nil2 : VR φ 2 .nil []
  | cons2 (a l : AV) (x : Value) (xs : List Value) : VR φ 0 a [x] → x.oneCell' = true → VR φ 2 l xs → VR φ 2 (.cons a l) (x :: xs)

/-- more blocks are known -/
def Ext (φ φ' : Phi) : Prop := ∀ b x, φ b = some x → φ' b = some x
theorem Ext.refl (φ : Phi) : Ext φ φ := fun _ _ h => h
theorem Ext.trans {φ φ' φ'' : Phi} (h : Ext φ φ') (h' : Ext φ' φ'') : Ext φ φ'' := fun b x e => h' b x (h b x e)

theorem VR.mono {φ φ' : Phi} (he : Ext φ φ') {c : Nat} {v : AV} {xs : List Value} (h : VR φ c v xs) : VR φ' c v xs := by
  induction h with
  | int k n h => exact .int k n h
  | bool b => exact .bool b
  | str l s h => exact .str l s h
  | nilp => exact .nilp
  | ptr b o B s N h => exact .ptr b o B s N (he _ _ h)
  | nils => exact .nils
  | sl b o l c z ex B s N a C h h1 h2 h3 h4 h5 => exact .sl b o l c z ex B s N a C (he _ _ h) h1 h2 h3 h4 h5
  | nilm => exact .nilm
  | mp b B N h => exact .mp b B N (he _ _ h)
  | fn f a c xs ys _ _ i1 i2 => exact .fn f a c xs ys i1 i2
  | nilf => exact .nilf
  | ifc t v x _ ih => exact .ifc t v x ih
  | nili => exact .nili
  | agg l cs _ ih => exact .agg l cs ih
  | tup l vs _ ih => exact .tup l vs ih
  | yl b B N h => exact .yl b B N (he _ _ h)
  | undef x => exact .undef x
  | nil1 => exact .nil1
  | cons1 a l x xs _ _ i1 i2 => exact .cons1 a l x xs i1 i2
  | nil2 => exact .nil2
  | cons2 a l x xs _ h _ i1 i2 => exact .cons2 a l x xs i1 h i2

theorem ble_t {i n : Nat} (h : i ≤ n) : Nat.ble i n = true := Nat.ble_eq ▸ h
theorem ble_f {i n : Nat} (h : ¬ i ≤ n) : Nat.ble i n = false := by
  cases e : Nat.ble i n
  · rfl
  · exact absurd (Nat.le_of_ble_eq_true e) h
theorem blt_t {i n : Nat} (h : i < n) : Nat.blt i n = true := ble_t h
theorem blt_f {i n : Nat} (h : ¬ i < n) : Nat.blt i n = false := ble_f h
theorem ifB_cases {R : Type} (b : Bool) (t e : R) : (b = true ∧ ifB b t e = t) ∨ (b = false ∧ ifB b t e = e) := by cases b <;> simp [ifB]

/-! lists: what the reckoning functions come to -/
section lists
/-- member i of a list -/
noncomputable def lget (i : Nat) (l : AV) : Option AV := nthK i l some none
theorem nthK_cases {R : Type} (k : AV → R) (d : R) : ∀ (i : Nat) (l : AV), (∃ v, lget i l = some v ∧ nthK i l k d = k v) ∨ nthK i l k d = d
  | 0, l => by
    rcases onCons_cases l (fun a _ => k a) d with ⟨a, b, rfl, h⟩ | h
    · exact .inl ⟨a, rfl, h⟩
    · exact .inr h
  | i + 1, l => by
    rcases onCons_cases l (fun _ b => nthK i b k d) d with ⟨a, b, rfl, h⟩ | h
    · rcases nthK_cases k d i b with ⟨v, h1, h2⟩ | h2
      · exact .inl ⟨v, h1, h2⟩
      · exact .inr h2
    · exact .inr h
theorem lget_zero_cons (a b : AV) : lget 0 (.cons a b) = some a := rfl
theorem lget_succ_cons (i : Nat) (a b : AV) : lget (i + 1) (.cons a b) = lget i b := rfl
theorem lget_nil (i : Nat) : lget i .nil = none := by cases i <;> rfl

theorem dropK_cases {R : Type} (k : AV → R) (d : R) : ∀ (n : Nat) (l : AV), (∃ l', (∀ i, lget i l' = lget (n + i) l) ∧ dropK n l k d = k l') ∨ dropK n l k d = d
  | 0, l => .inl ⟨l, fun i => by rw [Nat.zero_add], rfl⟩
  | n + 1, l => by
    rcases onCons_cases l (fun _ b => dropK n b k d) d with ⟨a, b, rfl, h⟩ | h
    · rcases dropK_cases k d n b with ⟨l', h1, h2⟩ | h2
      · exact .inl ⟨l', fun i => by rw [h1 i, show n + 1 + i = (n + i) + 1 by omega]; rfl, h.trans h2⟩
      · exact .inr (h.trans h2)
    · exact .inr h

/-- the list has just n members, member i of which is f i -/
inductive Runs (f : Nat → Option AV) : Nat → Nat → AV → Prop
  | nil (o : Nat) : Runs f o 0 .nil
  | cons (o n : Nat) (a l : AV) : f o = some a → Runs f (o + 1) n l → Runs f o (n + 1) (.cons a l)

theorem takeK_cases {R : Type} (f : Nat → Option AV) : ∀ (n o : Nat) (l : AV) (k : AV → R) (d : R), (∀ i, i < n → lget i l = f (o + i) ∨ lget i l = none) →
    (∃ l', Runs f o n l' ∧ takeK n l k d = k l') ∨ takeK n l k d = d
  | 0, o, l, k, d, _ => .inl ⟨.nil, .nil o, rfl⟩
  | n + 1, o, l, k, d, hf => by
    rcases onCons_cases l (fun a b => takeK n b (fun b => k (.cons a b)) d) d with ⟨a, b, rfl, h⟩ | h
    · have h0 := hf 0 (by omega)
      rw [lget_zero_cons] at h0
      have h0' : f o = some a := by rcases h0 with h0 | h0
                                    · exact h0.symm
                                    · cases h0
      rcases takeK_cases f n (o + 1) b (fun b => k (.cons a b)) d (fun i hi => by
          have := hf (i + 1) (by omega)
          rw [lget_succ_cons] at this
          rwa [show o + 1 + i = o + (i + 1) by omega]) with ⟨l', h1, h2⟩ | h2
      · exact .inl ⟨.cons a l', .cons o n a l' h0' h1, h.trans h2⟩
      · exact .inr (h.trans h2)
    · exact .inr h

theorem lenIs_cases {R : Type} (t e : R) : ∀ (n : Nat) (l : AV), (∃ f, Runs f 0 n l) ∨ lenIs n l t e = e := by
  intro n
  induction n with
  | zero =>
    intro l
    rcases onList_cases l t (fun _ _ => e) e with ⟨rfl, h⟩ | ⟨a, b, rfl, h⟩ | h
    · exact .inl ⟨fun _ => none, .nil 0⟩
    · exact .inr h
    · exact .inr h
  | succ n ih =>
    intro l
    rcases onCons_cases l (fun _ b => lenIs n b t e) e with ⟨a, b, rfl, h⟩ | h
    · rcases ih b with ⟨f, hf⟩ | h2
      · refine .inl ⟨fun i => match i with | 0 => some a | i + 1 => f i, .cons 0 n a b rfl ?_⟩
        have key : ∀ (o m : Nat) (l : AV), Runs f o m l → Runs (fun i => match i with | 0 => some a | i + 1 => f i) (o + 1) m l := by
          intro o m l hr
          induction hr with
          | nil o => exact .nil _
          | cons o m x l hx _ ih => exact .cons _ _ _ _ hx ih
        exact key 0 n b hf
      · exact .inr (h.trans h2)
    · exact .inr h
end lists
end Ev
namespace Ev
open Go

/-! ### lists -/
/-- how many members a list has -/
noncomputable def len : AV → Nat := AV.rec (motive := fun _ => Nat) 0 (fun _ _ _ n => n + 1) (fun _ _ => 0) (fun _ => 0) (fun _ => 0) 0 (fun _ _ => 0) 0 (fun _ _ _ _ _ _ => 0) 0 (fun _ => 0) (fun _ _ _ _ _ => 0) 0 (fun _ _ _ => 0) 0 (fun _ _ => 0) (fun _ _ => 0) (fun _ => 0) 0
theorem len_cons (a b : AV) : len (.cons a b) = len b + 1 := rfl
theorem len_nil : len .nil = 0 := rfl
/-- is it a list? -/
inductive IsL : AV → Prop
  | nil : IsL .nil
  | cons (a b : AV) : IsL b → IsL (.cons a b)
theorem lget_none {l : AV} (h : IsL l) {i : Nat} (hi : len l ≤ i) : lget i l = none := by
  induction h generalizing i with
  | nil => exact lget_nil i
  | cons a b _ ih =>
    rw [len_cons] at hi
    obtain ⟨j, rfl⟩ : ∃ j, i = j + 1 := ⟨i - 1, by omega⟩
    exact ih (by omega)
theorem lget_lt {l : AV} {i : Nat} {v : AV} (h : lget i l = some v) : i < len l := by
  induction i generalizing l with
  | zero =>
    rcases onCons_cases l (fun a _ => some a) none with ⟨a, b, rfl, _⟩ | e
    · rw [len_cons]; omega
    · rw [show lget 0 l = none from e] at h; cases h
  | succ i ih =>
    rcases onCons_cases l (fun _ b => nthK i b some none) none with ⟨a, b, rfl, _⟩ | e
    · rw [len_cons]; have := ih (l := b) h; omega
    · rw [show lget (i + 1) l = none from e] at h; cases h
theorem lget_some {l : AV} (h : IsL l) {i : Nat} (hi : i < len l) : ∃ v, lget i l = some v := by
  induction h generalizing i with
  | nil => rw [len_nil] at hi; omega
  | cons a b _ ih =>
    rw [len_cons] at hi
    cases i with
    | zero => exact ⟨a, rfl⟩
    | succ j => exact ih (by omega)
theorem Runs.isL {f : Nat → Option AV} {o n : Nat} {l : AV} (h : Runs f o n l) : IsL l ∧ len l = n ∧ ∀ i, i < n → lget i l = f (o + i) := by
  induction h with
  | nil o => exact ⟨.nil, rfl, fun i hi => by omega⟩
  | cons o n a l h _ ih =>
    refine ⟨.cons _ _ ih.1, by rw [len_cons, ih.2.1], fun i hi => ?_⟩
    cases i with
    | zero => exact h.symm
    | succ j => rw [lget_succ_cons, ih.2.2 j (by omega), show o + 1 + j = o + (j + 1) by omega]
theorem IsL.runs {l : AV} (h : IsL l) : Runs (fun i => lget i l) 0 (len l) l := by
  have key : ∀ l : AV, IsL l → ∀ (f : Nat → Option AV) (o : Nat), (∀ i, i < len l → lget i l = f (o + i)) → Runs f o (len l) l := by
    intro l h
    induction h with
    | nil => intro f o _; exact .nil o
    | cons a b _ ih =>
      intro f o hf
      refine .cons o _ a b ?_ (ih f (o + 1) fun i hi => ?_)
      · exact (hf 0 (by rw [len_cons]; omega)).symm
      · rw [show o + 1 + i = o + (i + 1) by omega, ← hf (i + 1) (by rw [len_cons]; omega)]; rfl
  exact key l h _ 0 fun i _ => by rw [Nat.zero_add]
theorem Runs.congr {f g : Nat → Option AV} {o n : Nat} {l : AV} (h : Runs f o n l) (he : ∀ i, o ≤ i → i < o + n → f i = g i) : Runs g o n l := by
  induction h with
  | nil o => exact .nil o
  | cons o n a l h _ ih => exact .cons o n a l ((he o (by omega) (by omega)).symm.trans h) (ih fun i h1 h2 => he i (by omega) (by omega))
theorem lenIs_eq {R : Type} (t e : R) : ∀ (n : Nat) (l : AV), (IsL l ∧ len l = n ∧ lenIs n l t e = t) ∨ lenIs n l t e = e
  | 0, l => by
    rcases onList_cases l t (fun _ _ => e) e with ⟨rfl, h⟩ | ⟨a, b, rfl, h⟩ | h
    · exact .inl ⟨.nil, rfl, h⟩
    · exact .inr h
    · exact .inr h
  | n + 1, l => by
    rcases onCons_cases l (fun _ b => lenIs n b t e) e with ⟨a, b, rfl, h⟩ | h
    · rcases lenIs_eq t e n b with ⟨h1, h2, h3⟩ | h2
      · exact .inl ⟨.cons _ _ h1, by rw [len_cons, h2], h.trans h3⟩
      · exact .inr (h.trans h2)
    · exact .inr h
theorem setK_cases {R : Type} (v : AV) : ∀ (i : Nat) (l : AV) (k : AV → R) (d : R), (∃ l', (∃ u, lget i l = some u) ∧ (∀ j, lget j l' = if j = i then some v else lget j l) ∧ setK v i l k d = k l') ∨ setK v i l k d = d
  | 0, l, k, d => by
    rcases onCons_cases l (fun _ b => k (.cons v b)) d with ⟨a, b, rfl, h⟩ | h
    · refine .inl ⟨.cons v b, ⟨a, rfl⟩, fun j => ?_, h⟩
      cases j with
      | zero => rfl
      | succ j => rw [if_neg (by omega)]; rfl
    · exact .inr h
  | i + 1, l, k, d => by
    rcases onCons_cases l (fun a b => setK v i b (fun b => k (.cons a b)) d) d with ⟨a, b, rfl, h⟩ | h
    · rcases setK_cases v i b (fun b => k (.cons a b)) d with ⟨l', h1, h2, h3⟩ | h2
      · refine .inl ⟨.cons a l', h1, fun j => ?_, h.trans h3⟩
        cases j with
        | zero => rw [if_neg (by omega)]; rfl
        | succ j =>
          rw [lget_succ_cons, h2 j, lget_succ_cons]
          by_cases e : j = i
          · rw [if_pos e, if_pos (by omega)]
          · rw [if_neg e, if_neg (by omega)]
      · exact .inr (h.trans h2)
    · exact .inr h
theorem overK_cases {R : Type} (vs : AV) : ∀ (l : AV) (k : AV → R) (d : R), (∃ l', (IsL vs ∧ len l' = len l ∧ (IsL l → IsL l')) ∧ (∀ i, i < len vs → ∃ u, lget i l = some u) ∧ (∀ j, lget j l' = if j < len vs then lget j vs else lget j l) ∧ overK vs l k d = k l') ∨ overK vs l k d = d := by
  induction vs with
  | nil => intro l k d; exact .inl ⟨l, ⟨.nil, rfl, id⟩, fun i hi => absurd hi (by rw [len_nil]; omega), fun j => by rw [len_nil, if_neg (by omega)], rfl⟩
  | cons a vs _ ih =>
    intro l k d
    rcases onCons_cases l (fun _ b => overK vs b (fun b => k (.cons a b)) d) d with ⟨x, b, rfl, h⟩ | h
    · rcases ih b (fun b => k (.cons a b)) d with ⟨l', h0, h1, h2, h3⟩ | h2
      · refine .inl ⟨.cons a l', ⟨.cons _ _ h0.1, by rw [len_cons, len_cons, h0.2.1], fun q => by cases q with | cons _ _ q => exact .cons _ _ (h0.2.2 q)⟩, fun i hi => ?_, fun j => ?_, h.trans h3⟩
        · cases i with
          | zero => exact ⟨x, rfl⟩
          | succ i => exact h1 i (by rw [len_cons] at hi; omega)
        · cases j with
          | zero => rw [if_pos (by rw [len_cons]; omega)]; rfl
          | succ j =>
            rw [lget_succ_cons, h2 j, lget_succ_cons, lget_succ_cons, len_cons]
            by_cases e : j < len vs
            · rw [if_pos e, if_pos (by omega)]
            · rw [if_neg e, if_neg (by omega)]
      · exact .inr (h.trans h2)
    · exact .inr h
  | _ => intros; exact .inr rfl
theorem overAtK_cases {R : Type} (vs : AV) : ∀ (o : Nat) (l : AV) (k : AV → R) (d : R), (∃ l', (IsL vs ∧ len l' = len l ∧ (IsL l → IsL l')) ∧ (∀ i, i < len vs → ∃ u, lget (o + i) l = some u) ∧ (∀ j, lget j l' = if o ≤ j ∧ j < o + len vs then lget (j - o) vs else lget j l) ∧ overAtK vs o l k d = k l') ∨ overAtK vs o l k d = d
  | 0, l, k, d => by
    rcases overK_cases vs l k d with ⟨l', h0, h1, h2, h3⟩ | h
    · refine .inl ⟨l', h0, fun i hi => by rw [Nat.zero_add]; exact h1 i hi, fun j => ?_, h3⟩
      rw [h2 j, Nat.sub_zero]
      by_cases e : j < len vs
      · rw [if_pos e, if_pos (by omega)]
      · rw [if_neg e, if_neg (by omega)]
    · exact .inr h
  | o + 1, l, k, d => by
    rcases onCons_cases l (fun a b => overAtK vs o b (fun b => k (.cons a b)) d) d with ⟨a, b, rfl, h⟩ | h
    · rcases overAtK_cases vs o b (fun b => k (.cons a b)) d with ⟨l', h0, h1, h2, h3⟩ | h2
      · refine .inl ⟨.cons a l', ⟨h0.1, by rw [len_cons, len_cons, h0.2.1], fun q => by cases q with | cons _ _ q => exact .cons _ _ (h0.2.2 q)⟩, fun i hi => by rw [show o + 1 + i = (o + i) + 1 by omega]; exact h1 i hi, fun j => ?_, h.trans h3⟩
        cases j with
        | zero => rw [if_neg (by omega)]; rfl
        | succ j =>
          rw [lget_succ_cons, h2 j, lget_succ_cons, show j + 1 - (o + 1) = j - o by omega]
          by_cases e : o ≤ j ∧ j < o + len vs
          · rw [if_pos e, if_pos (by omega)]
          · rw [if_neg e, if_neg (by omega)]
      · exact .inr (h.trans h2)
    · exact .inr h
theorem llen_cases {R : Type} (vs : AV) : ∀ (k : Nat → R) (d : R), (IsL vs ∧ llen vs k d = k (len vs)) ∨ llen vs k d = d := by
  induction vs with
  | nil => intro k d; exact .inl ⟨.nil, rfl⟩
  | cons a b _ ih =>
    intro k d
    rcases ih (fun n => k (Nat.succ n)) d with ⟨h1, h2⟩ | h
    · exact .inl ⟨.cons _ _ h1, h2⟩
    · exact .inr h
  | _ => intros; exact .inr rfl
theorem appK_cases {R : Type} (b : AV) (hb : IsL b) (a : AV) : ∀ (k : AV → R) (d : R), (∃ l, IsL a ∧ IsL l ∧ len l = len a + len b ∧ (∀ j, lget j l = if j < len a then lget j a else lget (j - len a) b) ∧ appK a b k d = k l) ∨ appK a b k d = d := by
  induction a with
  | nil => intro k d; exact .inl ⟨b, .nil, hb, by rw [len_nil, Nat.zero_add], fun j => by rw [len_nil, if_neg (by omega), Nat.sub_zero], rfl⟩
  | cons x a _ ih =>
    intro k d
    rcases ih (fun l => k (.cons x l)) d with ⟨l, h0, h1, h2, h3, h4⟩ | h
    · refine .inl ⟨.cons x l, .cons _ _ h0, .cons _ _ h1, by rw [len_cons, h2, len_cons]; omega, fun j => ?_, h4⟩
      cases j with
      | zero => rw [if_pos (by rw [len_cons]; omega)]; rfl
      | succ j =>
        rw [lget_succ_cons, h3 j, lget_succ_cons, len_cons]
        by_cases e : j < len a
        · rw [if_pos e, if_pos (by omega)]
        · rw [if_neg e, if_neg (by omega), show j + 1 - (len a + 1) = j - len a by omega]
    · exact .inr h
  | _ => intros; exact .inr rfl

/-! ### blocks -/
/-- cell i of a block, for reading -/
noncomputable def bget (i : Nat) (b : Blk) : Option AV := blkGet i b some none
/-- may the block be written? -/
def bown : Blk → Bool
  | .l _ => true
  | .t _ _ _ => true
  | _ => false
def bdead : Blk → Bool
  | .dead => true
  | _ => false
theorem bget_l (i : Nat) (c : AV) : bget i (.l c) = lget i c := rfl
theorem bget_ro (i : Nat) (c : AV) : bget i (.ro c) = lget i c := rfl
theorem bget_t (i : Nat) (d : AV) (n : Nat) (t : Tr AV) : bget i (.t d n t) = if i < n then some ((Tr.find (pos i) t).getD d) else none := by
  show ifB (Nat.blt i n) (Tr.get (pos i) t some (some d)) none = _
  by_cases h : i < n
  · rw [if_pos h, blt_t h]
    show Tr.get (pos i) t some (some d) = _
    rw [Tr.get_eq]
    cases Tr.find (pos i) t <;> rfl
  · rw [if_neg h, blt_f h]
    rfl
theorem blkGet_cases {R : Type} (o : Nat) (b : Blk) (k : AV → R) (d : R) : (∃ v, bget o b = some v ∧ blkGet o b k d = k v) ∨ blkGet o b k d = d := by
  cases b with
  | l c => exact nthK_cases k d o c
  | ro c => exact nthK_cases k d o c
  | t dv n t =>
    rw [bget_t]
    show (∃ v, _ ∧ ifB (Nat.blt o n) (Tr.get (pos o) t k (k dv)) d = k v) ∨ ifB (Nat.blt o n) (Tr.get (pos o) t k (k dv)) d = d
    by_cases h : o < n
    · rw [blt_t h, if_pos h]
      refine .inl ⟨_, rfl, ?_⟩
      show Tr.get (pos o) t k (k dv) = _
      rw [Tr.get_eq]
      cases Tr.find (pos o) t <;> rfl
    · rw [blt_f h]
      exact .inr rfl
  | _ => exact .inr rfl
theorem rangeT_eq {R : Type} (dv : AV) (t : Tr AV) (m : Nat) : ∀ (n o : Nat) (k : AV → R), o + n ≤ m → ∃ l, Runs (fun i => bget i (.t dv m t)) o n l ∧ rangeT dv t n o k = k l
  | 0, o, k, _ => ⟨.nil, .nil o, rfl⟩
  | n + 1, o, k, h => by
    have e : rangeT dv t (n + 1) o k = rangeT dv t n (o + 1) (fun l => k (.cons ((Tr.find (pos o) t).getD dv) l)) := by
      show Tr.get (pos o) t (fun v => frc (Nat.succ o) fun o => rangeT dv t n o fun l => k (.cons v l)) (frc (Nat.succ o) fun o => rangeT dv t n o fun l => k (.cons dv l)) = _
      rw [Tr.get_eq]
      cases Tr.find (pos o) t with
      | some v => exact frc_eq _ _
      | none => exact frc_eq _ _
    obtain ⟨l, h1, h2⟩ := rangeT_eq dv t m n (o + 1) (fun l => k (.cons ((Tr.find (pos o) t).getD dv) l)) (by omega)
    exact ⟨.cons _ l, .cons o n _ l (by rw [bget_t, if_pos (by omega)]) h1, e.trans h2⟩
theorem blkRange_cases {R : Type} (o n : Nat) (b : Blk) (k : AV → R) (d : R) : (∃ l, Runs (fun i => bget i b) o n l ∧ blkRange o n b k d = k l) ∨ blkRange o n b k d = d := by
  have key : ∀ c : AV, (∃ l, Runs (fun i => lget i c) o n l ∧ dropK o c (fun c => takeK n c k d) d = k l) ∨ dropK o c (fun c => takeK n c k d) d = d := by
    intro c
    rcases dropK_cases (fun c => takeK n c k d) d o c with ⟨l', h1, h2⟩ | h
    · rcases takeK_cases (fun i => lget i c) n o l' k d (fun i _ => .inl (h1 i)) with ⟨l, h3, h4⟩ | h4
      · exact .inl ⟨l, h3, h2.trans h4⟩
      · exact .inr (h2.trans h4)
    · exact .inr h
  cases b with
  | l c => exact key c
  | ro c => exact key c
  | t dv m t =>
    show (∃ l, _ ∧ ifB (Nat.ble (Nat.add o n) m) (rangeT dv t n o k) d = k l) ∨ ifB (Nat.ble (Nat.add o n) m) (rangeT dv t n o k) d = d
    by_cases h : o + n ≤ m
    · rw [show Nat.ble (Nat.add o n) m = true from ble_t h]
      exact .inl (rangeT_eq dv t m n o k h)
    · rw [show Nat.ble (Nat.add o n) m = false from ble_f h]
      exact .inr rfl
  | _ => exact .inr rfl
theorem blkSet_cases {R : Type} (o : Nat) (v : AV) (b : Blk) (k : Blk → R) (d : R) : (∃ b', bown b = true ∧ bown b' = true ∧ (∃ u, bget o b = some u) ∧ (∀ j, bget j b' = if j = o then some v else bget j b) ∧ blkSet o v b k d = k b') ∨ blkSet o v b k d = d := by
  cases b with
  | l c =>
    rcases setK_cases v o c (fun c => k (.l c)) d with ⟨l', h1, h2, h3⟩ | h
    · exact .inl ⟨.l l', rfl, rfl, h1, h2, h3⟩
    · exact .inr h
  | t dv n t =>
    show (∃ b', _ ∧ _ ∧ _ ∧ _ ∧ ifB (Nat.blt o n) (Tr.set (pos o) v t fun t => k (.t dv n t)) d = k b') ∨ ifB (Nat.blt o n) (Tr.set (pos o) v t fun t => k (.t dv n t)) d = d
    by_cases h : o < n
    · rw [blt_t h]
      refine .inl ⟨.t dv n (Tr.ins (pos o) v t), rfl, rfl, ⟨_, by rw [bget_t, if_pos h]⟩, fun j => ?_, Tr.set_eq _ _ _ _⟩
      rw [bget_t, bget_t]
      by_cases e : j = o
      · subst e; rw [if_pos h, if_pos rfl, Tr.find_ins_same]; rfl
      · rw [if_neg e, Tr.find_ins_ne _ _ _ _ (fun x => e (pos_inj x))]
    · rw [blt_f h]
      exact .inr rfl
  | _ => exact .inr rfl
theorem overT_eq {R : Type} (vs : AV) (hvs : IsL vs) : ∀ (o : Nat) (t : Tr AV) (k : Tr AV → R) (d : R), ∃ t', (∀ j, Tr.find (pos j) t' = if o ≤ j ∧ j < o + len vs then lget (j - o) vs else Tr.find (pos j) t) ∧ overT vs o t k d = k t' := by
  induction hvs with
  | nil => intro o t k d; exact ⟨t, fun j => by rw [len_nil, if_neg (by omega)], rfl⟩
  | cons a b _ ih =>
    intro o t k d
    obtain ⟨t', h1, h2⟩ := ih (o + 1) (Tr.ins (pos o) a t) k d
    refine ⟨t', fun j => ?_, ?_⟩
    · rw [h1 j, len_cons]
      by_cases e : o + 1 ≤ j ∧ j < o + 1 + len b
      · rw [if_pos e, if_pos (by omega)]
        obtain ⟨i, rfl⟩ : ∃ i, j = o + 1 + i := ⟨j - (o + 1), by omega⟩
        rw [show o + 1 + i - (o + 1) = i by omega, show o + 1 + i - o = i + 1 by omega]; rfl
      · rw [if_neg e]
        by_cases e2 : j = o
        · subst e2; rw [Tr.find_ins_same, if_pos (by omega), Nat.sub_self]; rfl
        · rw [Tr.find_ins_ne _ _ _ _ (fun x => e2 (pos_inj x)), if_neg (by omega)]
    · show Tr.set (pos o) a t (fun t => frc (Nat.succ o) fun o => overT b o t k d) = _
      rw [Tr.set_eq, frc_eq]; exact h2
theorem blkOver_cases {R : Type} (o : Nat) (vs : AV) (b : Blk) (k : Blk → R) (d : R) : (∃ b', bown b = true ∧ bown b' = true ∧ IsL vs ∧ (∀ i, i < len vs → ∃ u, bget (o + i) b = some u) ∧ (∀ j, bget j b' = if o ≤ j ∧ j < o + len vs then lget (j - o) vs else bget j b) ∧ blkOver o vs b k d = k b') ∨ blkOver o vs b k d = d := by
  cases b with
  | l c =>
    rcases overAtK_cases vs o c (fun c => k (.l c)) d with ⟨l', h1, h2, h3, h4⟩ | h
    · exact .inl ⟨.l l', rfl, rfl, h1.1, h2, h3, h4⟩
    · exact .inr h
  | t dv n t =>
    show (∃ b', _ ∧ _ ∧ _ ∧ _ ∧ _ ∧ llen vs (fun m => ifB (Nat.ble (Nat.add o m) n) (overT vs o t (fun t => k (.t dv n t)) d) d) d = k b') ∨ llen vs (fun m => ifB (Nat.ble (Nat.add o m) n) (overT vs o t (fun t => k (.t dv n t)) d) d) d = d
    rcases llen_cases vs (fun m => ifB (Nat.ble (Nat.add o m) n) (overT vs o t (fun t => k (.t dv n t)) d) d) d with ⟨hl, h⟩ | h
    · rw [h]
      by_cases e : o + len vs ≤ n
      · rw [show Nat.ble (Nat.add o (len vs)) n = true from ble_t e]
        obtain ⟨t', h1, h2⟩ := overT_eq vs hl o t (fun t => k (.t dv n t)) d
        refine .inl ⟨.t dv n t', rfl, rfl, hl, fun i hi => ⟨_, by rw [bget_t, if_pos (by omega)]⟩, fun j => ?_, h2⟩
        rw [bget_t, bget_t, h1 j]
        by_cases e2 : o ≤ j ∧ j < o + len vs
        · rw [if_pos e2, if_pos e2, if_pos (by omega)]
          obtain ⟨v, hv⟩ := lget_some hl (i := j - o) (by omega)
          rw [hv]; rfl
        · rw [if_neg e2, if_neg e2]
      · rw [show Nat.ble (Nat.add o (len vs)) n = false from ble_f e]
        exact .inr rfl
    · exact .inr h
  | _ => exact .inr rfl
theorem preK_cases {R : Type} (vs : AV) : ∀ (o : Nat) (l : AV) (k : AV → R) (d : R), (∃ l', (∀ j v, lget j l' = some v → (o ≤ j ∧ lget (j - o) vs = some v) ∨ (j < o ∧ lget j l = some v)) ∧ preK vs o l k d = k l') ∨ preK vs o l k d = d
  | 0, l, k, d => .inl ⟨vs, fun j v h => .inl ⟨by omega, h⟩, rfl⟩
  | o + 1, l, k, d => by
    show (∃ l', _ ∧ onCons l (fun a b => preK vs o b (fun b => k (.cons a b)) d) d = k l') ∨ onCons l (fun a b => preK vs o b (fun b => k (.cons a b)) d) d = d
    rcases onCons_cases l (fun a b => preK vs o b (fun b => k (.cons a b)) d) d with ⟨a, b, rfl, h⟩ | h
    · rcases preK_cases vs o b (fun b => k (.cons a b)) d with ⟨l', h1, h2⟩ | h2
      · refine .inl ⟨.cons a l', fun j v hj => ?_, h.trans h2⟩
        cases j with
        | zero => exact .inr ⟨by omega, hj⟩
        | succ j =>
          rw [lget_succ_cons] at hj
          rcases h1 j v hj with ⟨q1, q2⟩ | ⟨q1, q2⟩
          · exact .inl ⟨by omega, by rw [show j + 1 - (o + 1) = j - o by omega]; exact q2⟩
          · exact .inr ⟨by omega, by rw [lget_succ_cons]; exact q2⟩
      · exact .inr (h.trans h2)
    · exact .inr h
theorem blkExt_cases {R : Type} (o : Nat) (vs : AV) (b : Blk) (k : Blk → R) (d : R) : (∃ b', bown b = true ∧ bown b' = true ∧ (∀ j v, bget j b' = some v → (o ≤ j ∧ lget (j - o) vs = some v) ∨ (j < o ∧ bget j b = some v)) ∧ blkExt o vs b k d = k b') ∨ blkExt o vs b k d = d := by
  cases b with
  | l c =>
    rcases preK_cases vs o c (fun c => k (.l c)) d with ⟨l', h1, h2⟩ | h
    · exact .inl ⟨.l l', rfl, rfl, h1, h2⟩
    · exact .inr h
  | _ => exact .inr rfl
end Ev
end
/- This text says what it means that an abstract state stands for a world of the model, and that a step leads from one to the next; it proves how new blocks, writes and draws lead on. -/
section
namespace Ev
open Go

/-- a frame -/
def FR (φ : Phi) (fr : Tr AV) (tmps : Array Value) : Prop := ∀ t v, Tr.find (pos t) fr = some v → ∃ x, tmps[t]? = some x ∧ VR φ 0 v [x]
theorem FR.mono {φ φ' : Phi} (he : Ext φ φ') {fr : Tr AV} {tmps : Array Value} (h : FR φ fr tmps) : FR φ' fr tmps :=
  fun t v e => let ⟨x, h1, h2⟩ := h t v e; ⟨x, h1, h2.mono he⟩

/-- the cells of a block of the model's -/
def CellsR (φ : Phi) (f : Nat → Option AV) (own : Bool) (B s N : Nat) (w : World) : Prop :=
  ∃ cs e fz, w.heap[B]? = some (.cells cs e fz) ∧ cs.size = N ∧ (own = true → ∀ o, ¬ (fz.1 ≤ o ∧ o < fz.2)) ∧
    ∀ i v, f i = some v → ∃ x, cs[s + i]? = some x ∧ VR φ 0 v [x] ∧ x.oneCell' = true
/-- the entries of a map: stamps, keys, values -/
inductive ER (φ : Phi) : AV → List MapEntry → Prop
  | nil : ER φ .nil []
  | cons (n : Nat) (a v l : AV) (e : MapEntry) (es : List MapEntry) : e.born = n → VR φ 0 a [e.key] → VR φ 0 v [e.val] → ER φ l es → ER φ (.cons (.cons (.int .u64 n) (.cons a v)) l) (e :: es)
theorem ER.mono {φ φ' : Phi} (he : Ext φ φ') {l : AV} {es : List MapEntry} (h : ER φ l es) : ER φ' l es := by
  induction h with
  | nil => exact .nil
  | cons n a v l e es h1 h2 h3 _ ih => exact .cons n a v l e es h1 (h2.mono he) (h3.mono he) ih
/-- a loop's state as a number -/
def sttOf : LoopState → Nat
  | .ready => 0
  | .busy => 1
  | .done => 2
  | .exhausted => 3
/-- a pending jump as a number -/
def pendOf : Option Nat → Option Code
  | none => none
  | some 0 => some .ret
  | some (n + 1) => some (.exit n)

/-- what a block stands for -/
def BR (φ : Phi) (w : World) (B s N : Nat) : Blk → Prop
  | .dead => True
  | .l c => CellsR φ (fun i => bget i (.l c)) true B s N w
  | .ro c => CellsR φ (fun i => bget i (.ro c)) false B s N w
  | .t d n t => CellsR φ (fun i => bget i (.t d n t)) true B s N w
  | .m es clk => s = 0 ∧ ∃ ents, w.heap[B]? = some (.map ents clk) ∧ ER φ es ents.toList
  | .it m since n stamp stepped => s = 0 ∧ ∃ Bm Nm seen last, φ m = some (Bm, 0, Nm) ∧ w.heap[B]? = some (.mapIter (some Bm) since seen last) ∧
      ((n = 0 ∧ seen = #[]) ∨ (n = 1 ∧ seen = #[stamp] ∧ last = stepped))
  | .lp ps fr as_ bd stt pend => s = 0 ∧ ∃ l : Loop, w.heap[B]? = some (.loop l) ∧ l.params = ps.toArray ∧ l.assign = as_ ∧ l.body = bd ∧ sttOf l.state = stt ∧ l.pending = pendOf pend ∧
      FR φ fr l.tmps ∧ dstsOk l.tmps.size as_ = true ∧ dstsOk l.tmps.size bd = true ∧ (∀ t ∈ ps, t < l.tmps.size) ∧ noRF as_ = true ∧ noRF bd = true

theorem BR.mono {φ φ' : Phi} (he : Ext φ φ') {w w' : World} {B s N : Nat} {k : Blk} (hw : w'.heap[B]? = w.heap[B]?) (h : BR φ w B s N k) : BR φ' w' B s N k := by
  have key : ∀ (f : Nat → Option AV) (own : Bool), CellsR φ f own B s N w → CellsR φ' f own B s N w' := by
    intro f own h
    obtain ⟨cs, e, fz, h1, h2, h3, h4⟩ := h
    exact ⟨cs, e, fz, hw.trans h1, h2, h3, fun i v hv => let ⟨x, a, b, c⟩ := h4 i v hv; ⟨x, a, b.mono he, c⟩⟩
  cases k with
  | dead => trivial
  | l c => exact key _ _ h
  | ro c => exact key _ _ h
  | t d n t => exact key _ _ h
  | m es clk => obtain ⟨h0, ents, h1, h2⟩ := h; exact ⟨h0, ents, hw.trans h1, h2.mono he⟩
  | it m since n stamp stepped => obtain ⟨h0, Bm, Nm, seen, last, h1, h2, h3⟩ := h; exact ⟨h0, Bm, Nm, seen, last, he _ _ h1, hw.trans h2, h3⟩
  | lp ps fr a b stt pend => obtain ⟨h0, l, h1, h2, h3, h4, h5, h6, h7, h8⟩ := h; exact ⟨h0, l, hw.trans h1, h2, h3, h4, h5, h6, h7.mono he, h8⟩

/-- a block that a step may turn -/
def wr : Blk → Bool
  | .dead => false
  | .ro _ => false
  | _ => true
theorem wr_of_own {k : Blk} (h : bown k = true) : wr k = true := by cases k <;> first | rfl | (cases h)
theorem wr_live {k : Blk} (h : wr k = true) : k ≠ .dead := by intro e; subst e; cases h

/-- an abstract state stands for a world -/
structure SR (φ : Phi) (st : St) (w : World) : Prop where
  blk : ∀ b k B s N, Tr.find b st.heap = some k → φ b = some (B, s, N) → BR φ w B s N k
  inj : ∀ b b' k k' B s N s' N', Tr.find b st.heap = some k → wr k = true → Tr.find b' st.heap = some k' → k' ≠ .dead → φ b = some (B, s, N) → φ b' = some (B, s', N') → b = b'
  rng : ∀ b B s N, φ b = some (B, s, N) → B < w.heap.size
  glob : ∀ g, g < gN → ∃ N, φ (pos g) = some (g, 0, N)
  dom : ∀ b k, Tr.find b st.heap = some k → b.num < st.next.num

/-- no number from lo on below hi is taken -/
def Fresh (φ : Phi) (lo hi : Pos) : Prop := ∀ b : Pos, lo.num ≤ b.num → b.num < hi.num → φ b = none

/-- from one state and world to the next -/
structure Moved (φ : Phi) (st : St) (w : World) (φ' : Phi) (st' : St) (w' : World) : Prop where
  ext : Ext φ φ'
  only : ∀ b : Pos, φ b = none → φ' b ≠ none → st.next.num ≤ b.num ∧ b.num < st'.next.num
  sr : SR φ' st' w'
  mono : st.next.num ≤ st'.next.num
  size : w.heap.size ≤ w'.heap.size
  os : w'.os = w.os
  tape : w'.tape = w.tape
  output : w'.output = w.output
  frame : ∀ B, B < w.heap.size → (∀ b k s N, Tr.find b st.heap = some k → wr k = true → φ b ≠ some (B, s, N)) → w'.heap[B]? = w.heap[B]?
  img : ∀ b k B s N, Tr.find b st'.heap = some k → k ≠ .dead → φ' b = some (B, s, N) → B < w.heap.size →
    ∃ b0 k0 s0 N0, Tr.find b0 st.heap = some k0 ∧ k0 ≠ .dead ∧ φ b0 = some (B, s0, N0) ∧ (wr k = true → wr k0 = true)

theorem Moved.refl {φ : Phi} {st : St} {w : World} (h : SR φ st w) : Moved φ st w φ st w :=
  ⟨.refl φ, fun _ h1 h2 => absurd h1 h2, h, Nat.le_refl _, Nat.le_refl _, rfl, rfl, rfl, fun _ _ _ => rfl, fun b k _ s N h1 h2 h3 _ => ⟨b, k, s, N, h1, h2, h3, id⟩⟩

theorem Moved.trans {φ φ1 φ2 : Phi} {st st1 st2 : St} {w w1 w2 : World} (h : Moved φ st w φ1 st1 w1) (h' : Moved φ1 st1 w1 φ2 st2 w2) : Moved φ st w φ2 st2 w2 := by
  refine ⟨h.ext.trans h'.ext, fun b h1 h2 => ?_, h'.sr, Nat.le_trans h.mono h'.mono, Nat.le_trans h.size h'.size, h'.os.trans h.os, h'.tape.trans h.tape, h'.output.trans h.output, fun B hB hn => ?_, fun b k B s N h1 h2 h3 hB => ?_⟩
  · by_cases e : φ1 b = none
    · have := h'.only b e h2; have := h.mono; omega
    · have := h.only b h1 e; have := h'.mono; omega
  · have e1 := h.frame B hB hn
    refine (h'.frame B (Nat.lt_of_lt_of_le hB h.size) fun b k s N hf hk hφ => ?_).trans e1
    obtain ⟨b0, k0, s0, N0, g1, g2, g3, g4⟩ := h.img b k B s N hf (wr_live hk) hφ hB
    exact hn b0 k0 s0 N0 g1 (g4 hk) g3
  · obtain ⟨b1, k1, s1, N1, g1, g2, g3, g4⟩ := h'.img b k B s N h1 h2 h3 (Nat.lt_of_lt_of_le hB h.size)
    obtain ⟨b0, k0, s0, N0, e1, e2, e3, e4⟩ := h.img b1 k1 B s1 N1 g1 g2 g3 hB
    exact ⟨b0, k0, s0, N0, e1, e2, e3, fun hk => e4 (g4 hk)⟩

/-- a world that differs in the count of draws alone -/
theorem SR.drawn {φ : Phi} {st : St} {w : World} (h : SR φ st w) (w' : World) (hh : w'.heap = w.heap) : SR φ st w' :=
  ⟨fun b k B s N h1 h2 => (h.blk b k B s N h1 h2).mono (.refl φ) (by rw [hh]), h.inj, fun b B s N h1 => by rw [hh]; exact h.rng b B s N h1, h.glob, h.dom⟩
theorem Moved.drawn {φ : Phi} {st : St} {w w' : World} (h : SR φ st w) (hh : w'.heap = w.heap) (h1 : w'.os = w.os) (h2 : w'.tape = w.tape) (h3 : w'.output = w.output) : Moved φ st w φ st w' :=
  ⟨.refl φ, fun _ h1 h2 => absurd h1 h2, h.drawn w' hh, Nat.le_refl _, by rw [hh]; exact Nat.le_refl _, h1, h2, h3, fun _ _ _ => by rw [hh], fun b k _ s N h1 h2 h3 _ => ⟨b, k, s, N, h1, h2, h3, id⟩⟩

/-- one more block -/
noncomputable def upd (φ : Phi) (b : Pos) (x : Nat × Nat × Nat) : Phi := fun b' => if b'.num = b.num then some x else φ b'
theorem upd_same (φ : Phi) (b : Pos) (x : Nat × Nat × Nat) : upd φ b x b = some x := if_pos rfl
theorem upd_ne (φ : Phi) (x : Nat × Nat × Nat) {b b' : Pos} (h : b' ≠ b) : upd φ b x b' = φ b' := if_neg fun e => h (Pos.num_inj e)
theorem Ext.upd {φ : Phi} {b : Pos} (x : Nat × Nat × Nat) (h : φ b = none) : Ext φ (upd φ b x) := fun b' y e => by
  by_cases hb : b' = b
  · subst hb; rw [h] at e; cases e
  · rw [upd_ne φ x hb]; exact e

/-- the state with a new block -/
noncomputable def stNew (k : Blk) (st : St) : St := ⟨Tr.ins st.next k st.heap, st.next.inc⟩
theorem newBlk_eq {R : Type} (k : Blk) (st : St) (c : Pos → St → R) : newBlk k st c = c st.next (stNew k st) := by
  cases st with
  | mk heap nx => show Tr.set nx k heap (fun heap => Pos.succ nx fun nx' => c nx ⟨heap, nx'⟩) = _; rw [Tr.set_eq, Pos.succ_eq]; rfl
/-- the state with a block turned -/
noncomputable def stPut (b : Pos) (k : Blk) (st : St) : St := ⟨Tr.ins b k st.heap, st.next⟩
theorem putBlk_eq {R : Type} (b : Pos) (k : Blk) (st : St) (c : St → R) : putBlk b k st c = c (stPut b k st) := by
  cases st with
  | mk heap nx => show Tr.set b k heap (fun heap => c ⟨heap, nx⟩) = _; rw [Tr.set_eq]; rfl
theorem atB_cases {R : Type} (b : Pos) (st : St) (k : Blk → R) (d : R) : (∃ x, Tr.find b st.heap = some x ∧ atB b st k d = k x) ∨ atB b st k d = d := by
  cases st with
  | mk heap nx => exact Tr.get_cases b heap k d

/-- a block is made -/
theorem Moved.alloc {φ : Phi} {st : St} {w w' : World} (h : SR φ st w) (hf : φ st.next = none) (o : Obj) (k : Blk) (N : Nat) (hh : w'.heap = w.heap.push o) (h1 : w'.os = w.os) (h2 : w'.tape = w.tape) (h3 : w'.output = w.output)
    (hk : BR (upd φ st.next (w.heap.size, 0, N)) w' w.heap.size 0 N k) : Moved φ st w (upd φ st.next (w.heap.size, 0, N)) (stNew k st) w' := by
  have hext : Ext φ (upd φ st.next (w.heap.size, 0, N)) := .upd _ hf
  have old : ∀ B, B < w.heap.size → w'.heap[B]? = w.heap[B]? := fun B hB => by rw [hh, Array.getElem?_push, if_neg (by omega)]
  have hsize : w'.heap.size = w.heap.size + 1 := by rw [hh, Array.size_push]
  have hphi : ∀ b B s N', upd φ st.next (w.heap.size, 0, N) b = some (B, s, N') → (b = st.next ∧ B = w.heap.size) ∨ (b ≠ st.next ∧ φ b = some (B, s, N') ∧ B < w.heap.size) := by
    intro b B s N' e
    by_cases hb : b = st.next
    · subst hb; rw [upd_same] at e; cases e; exact .inl ⟨rfl, rfl⟩
    · rw [upd_ne _ _ hb] at e; exact .inr ⟨hb, e, h.rng _ _ _ _ e⟩
  have hfind : ∀ b x, Tr.find b (stNew k st).heap = some x → (b = st.next ∧ x = k) ∨ (b ≠ st.next ∧ Tr.find b st.heap = some x) := by
    intro b x e
    by_cases hb : b = st.next
    · subst hb; rw [show (stNew k st).heap = Tr.ins st.next k st.heap from rfl, Tr.find_ins_same] at e; cases e; exact .inl ⟨rfl, rfl⟩
    · rw [show (stNew k st).heap = Tr.ins st.next k st.heap from rfl, Tr.find_ins_ne _ _ _ _ hb] at e; exact .inr ⟨hb, e⟩
  refine ⟨hext, fun b e1 e2 => ?_, ⟨fun b x B s N' e1 e2 => ?_, fun b b' x x' B s N1 s' N2 e1 e2 e3 e4 e5 e6 => ?_, fun b B s N' e => ?_, fun g hg => ?_, fun b x e => ?_⟩, ?_, by omega, h1, h2, h3, fun B hB _ => old B hB, fun b x B s N' e1 e2 e3 hB => ?_⟩
  · have hb : b = st.next := by
      refine Classical.byContradiction fun hb => e2 ?_
      rw [upd_ne _ _ hb]; exact e1
    subst hb
    show _ ∧ _ < st.next.inc.num
    rw [Pos.num_inc]; omega
  · rcases hphi _ _ _ _ e2 with ⟨hb, hB⟩ | ⟨hb, e2', hB⟩
    · subst hb
      rcases hfind _ _ e1 with ⟨_, rfl⟩ | ⟨hb, _⟩
      · rw [upd_same] at e2; cases e2; exact hk
      · exact absurd rfl hb
    · rcases hfind _ _ e1 with ⟨hb', _⟩ | ⟨_, e1'⟩
      · exact absurd hb' hb
      · exact (h.blk b x B s N' e1' e2').mono hext (old B hB)
  · rcases hphi _ _ _ _ e5 with ⟨hb, hB⟩ | ⟨hb, e5', hB⟩ <;> rcases hphi _ _ _ _ e6 with ⟨hb', hB'⟩ | ⟨hb', e6', hB'⟩
    · rw [hb, hb']
    · omega
    · omega
    · rcases hfind _ _ e1 with ⟨q, _⟩ | ⟨_, e1'⟩
      · exact absurd q hb
      · rcases hfind _ _ e3 with ⟨q, _⟩ | ⟨_, e3'⟩
        · exact absurd q hb'
        · exact h.inj b b' x x' B s N1 s' N2 e1' e2 e3' e4 e5' e6'
  · rcases hphi _ _ _ _ e with ⟨_, hB⟩ | ⟨_, _, hB⟩ <;> omega
  · obtain ⟨M, hM⟩ := h.glob g hg
    exact ⟨M, hext _ _ hM⟩
  · show _ < st.next.inc.num
    rw [Pos.num_inc]
    rcases hfind _ _ e with ⟨rfl, _⟩ | ⟨_, e'⟩
    · omega
    · have := h.dom _ _ e'; omega
  · show _ ≤ st.next.inc.num
    rw [Pos.num_inc]; omega
  · rcases hphi _ _ _ _ e3 with ⟨_, hB'⟩ | ⟨hb, e3', _⟩
    · omega
    · rcases hfind _ _ e1 with ⟨q, _⟩ | ⟨_, e1'⟩
      · exact absurd q hb
      · exact ⟨b, x, s, N', e1', e2, e3', id⟩

/-- a block is turned -/
theorem Moved.write {φ : Phi} {st : St} {w w' : World} (h : SR φ st w) {b : Pos} {k k' : Blk} {B s N : Nat} (hb : Tr.find b st.heap = some k) (hk : wr k = true) (hφ : φ b = some (B, s, N))
    (hother : ∀ C, C ≠ B → w'.heap[C]? = w.heap[C]?) (hsize : w'.heap.size = w.heap.size) (h1 : w'.os = w.os) (h2 : w'.tape = w.tape) (h3 : w'.output = w.output) (hk' : BR φ w' B s N k') :
    Moved φ st w φ (stPut b k' st) w' := by
  have hfind : ∀ c x, Tr.find c (stPut b k' st).heap = some x → (c = b ∧ x = k') ∨ (c ≠ b ∧ Tr.find c st.heap = some x) := by
    intro c x e
    by_cases hc : c = b
    · subst hc; rw [show (stPut c k' st).heap = Tr.ins c k' st.heap from rfl, Tr.find_ins_same] at e; cases e; exact .inl ⟨rfl, rfl⟩
    · rw [show (stPut b k' st).heap = Tr.ins b k' st.heap from rfl, Tr.find_ins_ne _ _ _ _ hc] at e; exact .inr ⟨hc, e⟩
  refine ⟨.refl φ, fun _ h1 h2 => absurd h1 h2, ⟨fun c x C s' N' e1 e2 => ?_, fun c c' x x' C s1 N1 s2 N2 e1 e2 e3 e4 e5 e6 => ?_, fun c C s' N' e => ?_, h.glob, fun c x e => ?_⟩, Nat.le_refl _, by omega, h1, h2, h3, fun C hC hn => ?_, fun c x C s' N' e1 e2 e3 hC => ?_⟩
  · rcases hfind _ _ e1 with ⟨rfl, rfl⟩ | ⟨hc, e1'⟩
    · rw [hφ] at e2; cases e2; exact hk'
    · by_cases hx : x = .dead
      · subst hx; trivial
      · refine (h.blk c x C s' N' e1' e2).mono (.refl φ) (hother C fun e => ?_)
        subst e
        exact hc (h.inj b c k x C s N s' N' hb hk e1' hx hφ e2).symm
  · have live : ∀ c x, Tr.find c (stPut b k' st).heap = some x → x ≠ .dead → ∃ y, Tr.find c st.heap = some y ∧ y ≠ .dead ∧ (c ≠ b → y = x) := by
      intro c x e hx
      rcases hfind _ _ e with ⟨rfl, rfl⟩ | ⟨hc, e'⟩
      · exact ⟨k, hb, wr_live hk, fun q => absurd rfl q⟩
      · exact ⟨x, e', hx, fun _ => rfl⟩
    obtain ⟨y, f1, f2, f3⟩ := live c x e1 (wr_live e2)
    obtain ⟨y', f1', f2', f3'⟩ := live c' x' e3 e4
    by_cases hc : c = b
    · subst hc
      rw [hb] at f1; cases f1
      exact h.inj _ _ _ _ _ _ _ _ _ hb hk f1' f2' e5 e6
    · have := f3 hc; subst this
      exact h.inj _ _ _ _ _ _ _ _ _ f1 e2 f1' f2' e5 e6
  · rw [hsize]; exact h.rng c C s' N' e
  · rcases hfind _ _ e with ⟨rfl, _⟩ | ⟨_, e'⟩
    · exact h.dom _ _ hb
    · exact h.dom _ _ e'
  · exact hother C fun e => by subst e; exact hn b k s N hb hk hφ
  · rcases hfind _ _ e1 with ⟨rfl, rfl⟩ | ⟨hc, e1'⟩
    · exact ⟨c, k, s', N', hb, wr_live hk, e3, fun _ => hk⟩
    · exact ⟨c, x, s', N', e1', e2, e3, id⟩
end Ev
end
/- This text proves that the evaluator's operands, whole numbers and constants stand for those of the model. -/
section
namespace Ev
open Go

/-- what an operand comes to -/
noncomputable def eo (fr : Tr AV) : Operand → AV
  | .tmp t => (Tr.find (pos t) fr).getD .undef
  | .const v => ofV v
  | .global g => if g < gN then .ptr (pos g) 0 else .undef
  | .func f => .fn f .nil .nil
theorem opnd_eq {R : Type} (x : Operand) (fr : Tr AV) (k : AV → R) : opnd x fr k = k (eo fr x) := by
  cases x with
  | tmp t =>
    show Tr.get (pos t) fr k (k .undef) = k ((Tr.find (pos t) fr).getD .undef)
    rw [Tr.get_eq]
    cases Tr.find (pos t) fr <;> rfl
  | const v => rfl
  | global g =>
    show ifB (Nat.blt g gN) (k (.ptr (pos g) 0)) (k .undef) = k (if g < gN then _ else _)
    by_cases h : g < gN
    · rw [blt_t h, if_pos h]; rfl
    · rw [blt_f h, if_neg h]; rfl
  | func f => rfl

mutual
theorem ofV_sound (φ : Phi) : ∀ v : Value, VR φ 0 (ofV v) [v]
  | .bool b => by rw [ofV]; exact .bool b
  | .int k n => by
    rw [ofV, ofInt]
    split
    · next h =>
      have e := VR.int (φ := φ) k (residue k n) (by have := h.2; cases k <;> exact this)
      rwa [h.1] at e
    · exact .undef _
  | .float k b => by simp only [ofV]; exact .undef _
  | .complex k a b => by simp only [ofV]; exact .undef _
  | .string s => by rw [ofV]; exact .str _ s rfl
  | .pointer none => by rw [ofV]; exact .nilp
  | .pointer (some a) => by simp only [ofV]; exact .undef _
  | .slice none 0 0 => by rw [ofV]; exact .nils
  | .slice none 0 (n + 1) => by simp only [ofV]; exact .undef _
  | .slice none (m + 1) n => by simp only [ofV]; exact .undef _
  | .slice (some a) m n => by simp only [ofV]; exact .undef _
  | .map none => by rw [ofV]; exact .nilm
  | .map (some r) => by simp only [ofV]; exact .undef _
  | .chan r => by simp only [ofV]; exact .undef _
  | .func f a b => by simp only [ofV]; exact .undef _
  | .nilFunc => by rw [ofV]; exact .nilf
  | .iface t v => by simp only [ofV]; exact .undef _
  | .nilIface => by rw [ofV]; exact .nili
  | .agg ⟨l⟩ => by
    rw [ofV]
    split
    · next h => exact .agg _ l (ofVs_sound2 φ l h)
    · exact .undef _
  | .tuple ⟨l⟩ => by rw [ofV]; exact .tup _ l (ofVs_sound1 φ l)
theorem ofVs_sound1 (φ : Phi) : ∀ l : List Value, VR φ 1 (ofVs l) l
  | [] => by rw [ofVs]; exact .nil1
  | v :: l => by rw [ofVs]; exact .cons1 _ _ v l (ofV_sound φ v) (ofVs_sound1 φ l)
theorem ofVs_sound2 (φ : Phi) : ∀ l : List Value, l.all one1 = true → VR φ 2 (ofVs l) l
  | [], _ => by rw [ofVs]; exact .nil2
  | v :: l, h => by
    rw [ofVs]
    rw [List.all_cons, Bool.and_eq_true] at h
    exact .cons2 _ _ v l (ofV_sound φ v) (by have := h.1; cases v <;> first | rfl | exact this) (ofVs_sound2 φ l h.2)
end

theorem eo_sound {φ : Phi} {fr : Tr AV} {a : Act} (hf : FR φ fr a.tmps) (hg : ∀ g, g < gN → ∃ N, φ (pos g) = some (g, 0, N)) (x : Operand) : VR φ 0 (eo fr x) [a.eval x] := by
  cases x with
  | tmp t =>
    show VR φ 0 ((Tr.find (pos t) fr).getD .undef) [a.tmps.getD t undef]
    cases h : Tr.find (pos t) fr with
    | none => exact .undef _
    | some v =>
      obtain ⟨x, h1, h2⟩ := hf t v h
      rw [Array.getD_eq_getD_getElem?, h1]
      exact h2
  | const v => exact ofV_sound φ v
  | global g =>
    show VR φ 0 (if g < gN then _ else _) _
    by_cases h : g < gN
    · rw [if_pos h]
      obtain ⟨N, hN⟩ := hg g h
      have := VR.ptr (φ := φ) (pos g) 0 g 0 N hN
      exact this
    · rw [if_neg h]; exact .undef _
  | func f => exact .fn f _ _ [] [] .nil1 .nil1

/-! ### whole numbers -/
theorem kmod_eq (k : IntKind) : kmod k = 2 ^ k.bits := by cases k <;> rfl
theorem kmod_int (k : IntKind) : (kmod k : Int) = (2 ^ k.bits : Int) := by cases k <;> rfl
theorem kmod_pos (k : IntKind) : 0 < kmod k := by cases k <;> decide
theorem wrap_emod (k : IntKind) (x : Int) : (k.wrap x) % (kmod k : Int) = x % (kmod k : Int) := by
  cases k <;> simp only [IntKind.wrap, IntKind.bits, IntKind.signed, Bool.true_and, Bool.false_and, decide_eq_true_eq, Bool.false_eq_true, if_false, ge_iff_le, kmod] <;> (try split) <;> omega
theorem wrap_congr (k : IntKind) {x y : Int} (h : x % (kmod k : Int) = y % (kmod k : Int)) : k.wrap x = k.wrap y := by
  rw [kmod_int] at h
  simp only [IntKind.wrap, h]
theorem wrap_low (k : IntKind) {n : Nat} (h : n < khalf k) : k.wrap (n : Int) = n := by
  cases k <;> simp only [IntKind.wrap, IntKind.bits, IntKind.signed, Bool.true_and, Bool.false_and, decide_eq_true_eq, Bool.false_eq_true, if_false, ge_iff_le, khalf] at * <;> (try split) <;> omega
theorem khalf_le (k : IntKind) : khalf k ≤ kmod k := by cases k <;> decide
theorem wrap_neg (k : IntKind) {n : Nat} (h : khalf k ≤ n) (h' : n < kmod k) : k.wrap (n : Int) < 0 := by
  cases k <;> simp only [IntKind.wrap, IntKind.bits, IntKind.signed, Bool.true_and, Bool.false_and, decide_eq_true_eq, Bool.false_eq_true, if_false, ge_iff_le, khalf, kmod] at * <;> (try split) <;> omega
theorem nonneg_t {k : IntKind} {n : Nat} (h : nonneg k n = true) : k.wrap (n : Int) = n := wrap_low k (Nat.le_of_ble_eq_true h)
theorem ltK_iff (k : IntKind) {a b : Nat} (ha : a < kmod k) (hb : b < kmod k) : ltK k a b = true ↔ k.wrap (a : Int) < k.wrap (b : Int) := by
  have e : ltK k a b = true ↔ (a + kflip k) % kmod k < (b + kflip k) % kmod k := ⟨fun h => Nat.le_of_ble_eq_true h, fun h => blt_t h⟩
  rw [e]
  cases k <;> simp only [IntKind.wrap, IntKind.bits, IntKind.signed, Bool.true_and, Bool.false_and, decide_eq_true_eq, Bool.false_eq_true, if_false, ge_iff_le, kmod, kflip] at * <;> (try split) <;> (try split) <;> omega
theorem wrap_inj (k : IntKind) {a b : Nat} (ha : a < kmod k) (hb : b < kmod k) (h : k.wrap (a : Int) = k.wrap (b : Int)) : a = b := by
  have h1 := wrap_emod k a
  have h2 := wrap_emod k b
  rw [h] at h1
  have e1 : (a : Int) % (kmod k : Int) = (b : Int) % (kmod k : Int) := h1.symm.trans h2
  rw [Int.emod_eq_of_lt (by omega) (by omega), Int.emod_eq_of_lt (by omega) (by omega)] at e1
  omega
end Ev
end
/- This text proves that the evaluator's tables of types are the program's, and that its loads and stores stand for the model's. -/
section
namespace Ev
open Go

theorem tabOf_find {α : Type} (l : List α) (i : Nat) : Tr.find (pos i) (tabOf l) = l[i]? := by
  have key : ∀ (l : List α) (n : Nat) (t : Tr α), Tr.find (pos i) (List.rec (motive := fun _ => Nat → Tr α → Tr α) (fun _ t => t) (fun f _ ih n t => Tr.set (pos n) f t fun t => ih (Nat.succ n) t) l n t) =
      if n ≤ i ∧ i < n + l.length then l[i - n]? else Tr.find (pos i) t := by
    intro l
    induction l with
    | nil => intro n t; rw [if_neg (by simp)]
    | cons a l ih =>
      intro n t
      show Tr.find (pos i) (Tr.set (pos n) a t fun t => List.rec (motive := fun _ => Nat → Tr α → Tr α) (fun _ t => t) (fun f _ ih n t => Tr.set (pos n) f t fun t => ih (Nat.succ n) t) l (Nat.succ n) t) = _
      rw [Tr.set_eq, ih]
      by_cases e : i = n
      · subst e
        rw [if_neg (by omega), Tr.find_ins_same, if_pos (by simp), Nat.sub_self]
        rfl
      · rw [Tr.find_ins_ne _ _ _ _ (fun x => e (pos_inj x))]
        by_cases h : n + 1 ≤ i ∧ i < n + 1 + l.length
        · rw [if_pos h, if_pos (by simp; omega), show i - n = (i - (n + 1)) + 1 by omega]
          rfl
        · rw [if_neg h, if_neg (by simp; omega)]
  rw [show tabOf l = List.rec (motive := fun _ => Nat → Tr α → Tr α) (fun _ t => t) (fun f _ ih n t => Tr.set (pos n) f t fun t => ih (Nat.succ n) t) l 0 .e from rfl, key l 0 .e, Tr.find_e]
  by_cases h : i < l.length
  · rw [if_pos (by omega), Nat.sub_zero]
  · rw [if_neg (by omega), List.getElem?_eq_none (by omega)]

theorem inf_sound {P : Program} {t : TypeId} {i : TypeInfo} (h : inf P t = some i) : P.info? t = some i := by
  have e : P.types[t]? = some i := by
    have := tabOf_find P.types.toList t
    rw [show Tr.find (pos t) (tabOf P.types.toList) = inf P t from rfl, h] at this
    rw [← Array.getElem?_toList]; exact this.symm
  have hs : t < P.types.size := by
    rcases Nat.lt_or_ge t P.types.size with h | h
    · exact h
    · rw [Array.getElem?_eq_none h] at e; cases e
  show P.toTables.info? t = some i
  unfold Tables.info?
  rw [if_pos hs]; exact e
theorem und_sound {P : Program} {t : TypeId} {d : TypeDesc} (h : und P t = some d) : P.underlying t = some d := by
  unfold und at h
  cases e : inf P t with
  | none => rw [e] at h; cases h
  | some i =>
    rw [e] at h
    have e' := inf_sound e
    unfold Program.underlying
    rw [e']
    cases i with
    | mk desc str size bytes hp al fa zero cmp ms =>
      cases desc with
      | named n u =>
        simp only at h ⊢
        cases e2 : inf P u with
        | none => rw [e2] at h; cases h
        | some j =>
          rw [e2] at h
          rw [inf_sound e2]
          exact h
      | _ => exact h

/-! ### kinds of types -/
theorem lk_one {P : Program} {t : TypeId} (h : lk P t = .one) : ∃ d i, P.underlying t = some d ∧ P.info? t = some i ∧ i.size = 1 ∧ (∀ fs, d ≠ .struct fs) ∧ (∀ n e, d ≠ .array n e) := by
  unfold lk at h
  cases e : und P t with
  | none => rw [e] at h; cases h
  | some d =>
    cases e2 : inf P t with
    | none => rw [e, e2] at h; cases d <;> cases h
    | some i =>
      rw [e, e2] at h
      cases d with
      | struct fs => cases h
      | array n e => cases h
      | _ =>
        simp only at h
        by_cases hs : i.size = 1
        · exact ⟨_, i, und_sound e, inf_sound e2, hs, by intro fs; simp, by intro n e; simp⟩
        · rw [if_neg hs] at h; cases h
theorem lk_many {P : Program} {t : TypeId} {n : Nat} (h : lk P t = .many n) : ∃ d i, P.underlying t = some d ∧ P.info? t = some i ∧ i.size = n ∧ ((∃ fs, d = .struct fs) ∨ (∃ m e, d = .array m e)) := by
  unfold lk at h
  cases e : und P t with
  | none => rw [e] at h; cases h
  | some d =>
    cases e2 : inf P t with
    | none => rw [e, e2] at h; cases d <;> cases h
    | some i =>
      rw [e, e2] at h
      cases d with
      | struct fs => cases h; exact ⟨_, i, und_sound e, inf_sound e2, rfl, .inl ⟨fs, rfl⟩⟩
      | array m e' => cases h; exact ⟨_, i, und_sound e, inf_sound e2, rfl, .inr ⟨m, e', rfl⟩⟩
      | _ =>
        simp only at h
        by_cases hs : i.size = 1
        · rw [if_pos hs] at h; cases h
        · rw [if_neg hs] at h; cases h
theorem lkOn_cases {R : Type} (l : Lk) (a : R) (k : Nat → R) (d : R) : (l = .one ∧ lkOn l a k d = a) ∨ (∃ n, l = .many n ∧ lkOn l a k d = k n) ∨ lkOn l a k d = d := by
  cases l with
  | one => exact .inl ⟨rfl, rfl⟩
  | many n => exact .inr (.inl ⟨n, rfl, rfl⟩)
  | bad => exact .inr (.inr rfl)

theorem run_isAgg_false {P : Program} {t : TypeId} {d : TypeDesc} (h : P.underlying t = some d) (h1 : ∀ fs, d ≠ .struct fs) (h2 : ∀ n e, d ≠ .array n e) (w : World) : (isAgg t).run P w = .ok false w := by
  unfold isAgg
  rw [Sem.run_bind, run_underlying h]
  cases d <;> first | rfl | (exact absurd rfl (h1 _)) | (exact absurd rfl (h2 _ _))
theorem run_isAgg_true {P : Program} {t : TypeId} {d : TypeDesc} (h : P.underlying t = some d) (h1 : (∃ fs, d = .struct fs) ∨ (∃ m e, d = .array m e)) (w : World) : (isAgg t).run P w = .ok true w := by
  unfold isAgg
  rw [Sem.run_bind, run_underlying h]
  rcases h1 with ⟨fs, rfl⟩ | ⟨m, e, rfl⟩ <;> rfl
theorem run_sizeOf' {P : Program} {t : TypeId} {i : TypeInfo} (h : P.info? t = some i) (w : World) : (Go.sizeOf t).run P w = .ok i.size w := by
  unfold Go.sizeOf typeInfo
  simp [h]

/-- the cells of a block, read -/
theorem cells_of {φ : Phi} {st : St} {w : World} (h : SR φ st w) {b : Pos} {k : Blk} {B s N : Nat} (hb : Tr.find b st.heap = some k) (hφ : φ b = some (B, s, N)) {i : Nat} {v : AV} (hv : bget i k = some v) :
    ∃ x, w.cell? ⟨B, s + i, none⟩ = some x ∧ VR φ 0 v [x] ∧ x.oneCell' = true := by
  have key : ∀ own, CellsR φ (fun i => bget i k) own B s N w → ∃ x, w.cell? ⟨B, s + i, none⟩ = some x ∧ VR φ 0 v [x] ∧ x.oneCell' = true := by
    intro own hc
    obtain ⟨cs, e, fz, h1, h2, h3, h4⟩ := hc
    obtain ⟨x, g1, g2, g3⟩ := h4 i v hv
    exact ⟨x, by simp [World.cell?, h1, g1], g2, g3⟩
  have hr := h.blk b k B s N hb hφ
  cases k with
  | l c => exact key _ hr
  | ro c => exact key _ hr
  | t d n t => exact key _ hr
  | dead => cases hv
  | m es n => cases hv
  | it _ _ _ _ _ => cases hv
  | lp _ _ _ _ _ _ => cases hv

/-- a run of cells, read -/
theorem run_of {φ : Phi} {st : St} {w : World} (h : SR φ st w) {b : Pos} {k : Blk} {B s N : Nat} (hb : Tr.find b st.heap = some k) (hφ : φ b = some (B, s, N)) {o n : Nat} {l : AV} (hl : Runs (fun i => bget i k) o n l) :
    ∃ cs : List Value, cs.length = n ∧ (∀ j x, cs[j]? = some x → w.cell? ⟨B, s + o + j, none⟩ = some x) ∧ VR φ 2 l cs := by
  induction hl with
  | nil o => exact ⟨[], rfl, fun j x e => by simp at e, .nil2⟩
  | cons o n a l ha _ ih =>
    obtain ⟨x, h1, h2, h3⟩ := cells_of h hb hφ ha
    obtain ⟨cs, g1, g2, g3⟩ := ih
    refine ⟨x :: cs, by simp [g1], fun j y e => ?_, .cons2 a l x cs h2 h3 g3⟩
    cases j with
    | zero => simp at e; subst e; exact h1
    | succ j => simp at e; have := g2 j y e; rwa [show s + (o + 1) + j = s + o + (j + 1) by omega] at this

theorem add_none (B o n : Nat) : (⟨B, o, none⟩ : Addr).add n = ⟨B, o + n, none⟩ := by unfold Addr.add; split <;> simp_all

/-- a load -/
theorem loadK_sound {φ : Phi} {st : St} {w : World} (P : Program) (h : SR φ st w) {R : Type} {t : TypeId} {b : Pos} {o B s N : Nat} {k : AV → R} {d : R} (hφ : φ b = some (B, s, N)) :
    (∃ v x, loadK P t b o st k d = k v ∧ (loadVar t ⟨B, s + o, none⟩).run P w = .ok x w ∧ VR φ 0 v [x]) ∨ loadK P t b o st k d = d := by
  unfold loadK
  rcases atB_cases b st (fun c => lkOn (lk P t) (blkGet o c k d) (fun n => blkRange o n c (fun l => k (.agg l)) d) d) d with ⟨blk, hb, he⟩ | he
  · rw [he]
    rcases lkOn_cases (lk P t) (blkGet o blk k d) (fun n => blkRange o n blk (fun l => k (.agg l)) d) d with ⟨hl, he⟩ | ⟨n, hl, he⟩ | he
    · rw [he]
      rcases blkGet_cases o blk k d with ⟨v, hv, he⟩ | he
      · obtain ⟨x, h1, h2, h3⟩ := cells_of h hb hφ hv
        obtain ⟨dd, i, g1, g2, g3, g4, g5⟩ := lk_one hl
        refine .inl ⟨v, x, he, ?_, h2⟩
        unfold loadVar
        rw [Sem.run_bind, run_isAgg_false g1 g4 g5]
        show (load ⟨B, s + o, none⟩).run P w = _
        rw [run_load, h1]
      · exact .inr he
    · rw [he]
      rcases blkRange_cases o n blk (fun l => k (.agg l)) d with ⟨l, hr, he⟩ | he
      · obtain ⟨cs, h1, h2, h3⟩ := run_of h hb hφ hr
        obtain ⟨dd, i, g1, g2, g3, g4⟩ := lk_many hl
        refine .inl ⟨.agg l, .agg ⟨cs⟩, he, ?_, .agg l cs h3⟩
        unfold loadVar
        rw [Sem.run_bind, run_isAgg_true g1 g4]
        have hl := run_loadCells_list (P := P) w ⟨B, s + o, none⟩ cs fun j v e => by rw [add_none]; exact h2 j v e
        simp only [Result.andThen_ok, if_true, Sem.run_bind, run_sizeOf' g2, g3, ← h1, hl, Sem.run_pure]
      · exact .inr he
    · exact .inr he
  · exact .inr he
end Ev
namespace Ev
open Go

/-- cells written: the block and all else -/
theorem setCells_spec (B : Nat) : ∀ (vs : List Value) (o : Nat) (w : World) (cs : Array Value) (e : TypeId) (fz : Nat × Nat), w.heap[B]? = some (.cells cs e fz) → o + vs.length ≤ cs.size →
    ∃ cs', (w.setCells B o vs).heap[B]? = some (.cells cs' e fz) ∧ cs'.size = cs.size ∧ (∀ j, cs'[j]? = if o ≤ j ∧ j < o + vs.length then vs[j - o]? else cs[j]?) ∧
      (∀ C, C ≠ B → (w.setCells B o vs).heap[C]? = w.heap[C]?) ∧ (w.setCells B o vs).heap.size = w.heap.size ∧ (w.setCells B o vs).os = w.os ∧ (w.setCells B o vs).tape = w.tape ∧ (w.setCells B o vs).output = w.output
  | [], o, w, cs, e, fz, h, _ => ⟨cs, h, rfl, fun j => by rw [if_neg (by simp)], fun _ _ => rfl, rfl, rfl, rfl, rfl⟩
  | v :: vs, o, w, cs, e, fz, h, hl => by
    have hl' : o + vs.length + 1 ≤ cs.size := by simpa [Nat.add_assoc] using hl
    have h1 : (w.setCell ⟨B, o, none⟩ v).heap[B]? = some (.cells (cs.setIfInBounds o v) e fz) := by
      simp [World.setCell, Array.getElem?_modify, h]
    obtain ⟨cs', g1, g2, g3, g4, g5, g6, g7, g8⟩ := setCells_spec B vs (o + 1) (w.setCell ⟨B, o, none⟩ v) (cs.setIfInBounds o v) e fz h1 (by rw [Array.size_setIfInBounds]; omega)
    refine ⟨cs', g1, by rw [g2, Array.size_setIfInBounds], fun j => ?_, fun C hC => (g4 C hC).trans ?_, g5.trans ?_, g6, g7, g8⟩
    · rw [g3 j, Array.getElem?_setIfInBounds]
      by_cases e1 : j = o
      · subst e1
        rw [if_neg (by omega), if_pos rfl, if_pos (by omega), if_pos (by simp)]
        simp
      · by_cases e2 : o + 1 ≤ j ∧ j < o + 1 + vs.length
        · rw [if_pos e2, if_pos (by simp; omega), show j - o = (j - (o + 1)) + 1 by omega]
          simp
        · rw [if_neg e2, if_neg (fun q => e1 q.symm), if_neg (by simp; omega)]
    · simp only [World.setCell, Array.getElem?_modify]
      rw [if_neg (fun q => hC q.symm)]
    · simp [World.setCell]

theorem VR.get2 {φ : Phi} {c : Nat} {l : AV} {cs : List Value} (h : VR φ c l cs) (hc : c = 2) : IsL l ∧ len l = cs.length ∧ ∀ i v, lget i l = some v → ∃ x, cs[i]? = some x ∧ VR φ 0 v [x] ∧ x.oneCell' = true := by
  induction h with
  | nil2 => exact ⟨.nil, rfl, fun i v e => by rw [lget_nil] at e; cases e⟩
  | cons2 a l x xs h1 h2 _ _ ih =>
    obtain ⟨g1, g2, g3⟩ := ih hc
    refine ⟨.cons _ _ g1, by rw [len_cons, g2]; rfl, fun i v e => ?_⟩
    cases i with
    | zero => rw [lget_zero_cons] at e; cases e; exact ⟨x, rfl, h1, h2⟩
    | succ i => rw [lget_succ_cons] at e; exact g3 i v e
  | _ => cases hc
theorem VR.get1 {φ : Phi} {c : Nat} {l : AV} {cs : List Value} (h : VR φ c l cs) (hc : c = 1) : IsL l ∧ len l = cs.length ∧ ∀ i v, lget i l = some v → ∃ x, cs[i]? = some x ∧ VR φ 0 v [x] := by
  induction h with
  | nil1 => exact ⟨.nil, rfl, fun i v e => by rw [lget_nil] at e; cases e⟩
  | cons1 a l x xs h1 _ _ ih =>
    obtain ⟨g1, g2, g3⟩ := ih hc
    refine ⟨.cons _ _ g1, by rw [len_cons, g2]; rfl, fun i v e => ?_⟩
    cases i with
    | zero => rw [lget_zero_cons] at e; cases e; exact ⟨x, rfl, h1⟩
    | succ i => rw [lget_succ_cons] at e; exact g3 i v e
  | _ => cases hc
theorem BR_own {φ : Phi} {w : World} {B s N : Nat} {k : Blk} (hk : bown k = true) : BR φ w B s N k ↔ CellsR φ (fun i => bget i k) true B s N w := by
  cases k <;> first | exact Iff.rfl | (cases hk)

/-- cells of a block written -/
theorem over_sound {φ : Phi} {st : St} {w : World} (P : Program) (h : SR φ st w) {b : Pos} {k k' : Blk} {B s N o : Nat} (hb : Tr.find b st.heap = some k) (hφ : φ b = some (B, s, N)) (ho : bown k = true) (ho' : bown k' = true)
    {vs : AV} {cs : List Value} (hvs : VR φ 2 vs cs) (hin : ∀ i, i < cs.length → ∃ u, bget (o + i) k = some u)
    (hk' : ∀ j, bget j k' = if o ≤ j ∧ j < o + cs.length then lget (j - o) vs else bget j k) :
    (storeCells ⟨B, s + o, none⟩ cs).run P w = .ok () (w.setCells B (s + o) cs) ∧ Moved φ st w φ (stPut b k' st) (w.setCells B (s + o) cs) := by
  obtain ⟨hL, hlen', hget⟩ := hvs.get2 rfl
  obtain ⟨ds, e, fz, h1, h2, h3, h4⟩ := (BR_own ho).1 (h.blk b k B s N hb hφ)
  have h3 := h3 rfl
  have hsome : ∀ i, i < cs.length → ∃ x, ds[s + (o + i)]? = some x := fun i hi => by
    obtain ⟨u, hu⟩ := hin i hi
    obtain ⟨x, hx, _⟩ := h4 _ _ hu
    exact ⟨x, hx⟩
  by_cases hz : cs.length = 0
  · have hcs : cs = [] := List.eq_nil_of_length_eq_zero hz
    subst hcs
    refine ⟨rfl, Moved.write h hb (wr_of_own ho) hφ (fun _ _ => rfl) rfl rfl rfl rfl ((BR_own ho').2 ⟨ds, e, fz, h1, h2, fun _ => h3, fun i v hv => ?_⟩)⟩
    have hv : bget i k' = some v := hv
    rw [hk' i, if_neg (by simp)] at hv
    exact h4 i v hv
  · have hlen : s + o + cs.length ≤ ds.size := by
      obtain ⟨x, hx⟩ := hsome (cs.length - 1) (by omega)
      have := (Array.getElem?_eq_some_iff.1 hx).1
      omega
    have hone : ∀ v ∈ cs, v.oneCell' = true := fun v hv => by
      obtain ⟨i, hi⟩ := List.getElem?_of_mem hv
      have hi' := (List.getElem?_eq_some_iff.1 hi).1
      obtain ⟨u, hu⟩ := lget_some hL (i := i) (by omega)
      obtain ⟨x, g1, _, g3⟩ := hget i u hu
      rw [hi] at g1; cases g1; exact g3
    have hrun := run_storeCells_cells (P := P) B (s + o) cs 0 w (fun j hj => by
        obtain ⟨x, hx⟩ := hsome j hj
        simp [World.cell?, h1, Nat.add_assoc, hx]) (fun j hj => by
        have := h3 (s + o + 0 + j)
        simp only [World.frozen?, h1, Bool.and_eq_false_iff, decide_eq_false_iff_not]
        by_cases q : fz.1 ≤ s + o + 0 + j
        · exact .inr fun q' => this ⟨q, q'⟩
        · exact .inl q) hone
    obtain ⟨cs', g1, g2, g3, g4, g5, g6, g7, g8⟩ := setCells_spec B cs (s + o) w ds e fz h1 hlen
    refine ⟨by simpa using hrun, Moved.write h hb (wr_of_own ho) hφ g4 g5 g6 g7 g8 ((BR_own ho').2 ⟨cs', e, fz, g1, by omega, fun _ => h3, fun i v hv => ?_⟩)⟩
    have hv : bget i k' = some v := hv
    rw [hk' i] at hv
    rw [g3 (s + i)]
    by_cases q : o ≤ i ∧ i < o + cs.length
    · rw [if_pos q] at hv
      rw [if_pos (by omega), show s + i - (s + o) = i - o by omega]
      exact hget _ _ hv
    · rw [if_neg q] at hv
      rw [if_neg (by omega)]
      exact h4 i v hv

/-- cells of a block written, some of which were not known -/
theorem ext_sound {φ : Phi} {st : St} {w : World} (P : Program) (h : SR φ st w) {b : Pos} {k k' : Blk} {B s N o : Nat} (hb : Tr.find b st.heap = some k) (hφ : φ b = some (B, s, N)) (ho : bown k = true) (ho' : bown k' = true)
    {vs : AV} {cs : List Value} (hvs : VR φ 2 vs cs) (hin : s + o + cs.length ≤ N)
    (hk' : ∀ j v, bget j k' = some v → (o ≤ j ∧ lget (j - o) vs = some v) ∨ (j < o ∧ bget j k = some v)) :
    (storeCells ⟨B, s + o, none⟩ cs).run P w = .ok () (w.setCells B (s + o) cs) ∧ Moved φ st w φ (stPut b k' st) (w.setCells B (s + o) cs) := by
  obtain ⟨hL, hlen', hget⟩ := hvs.get2 rfl
  obtain ⟨ds, e, fz, h1, h2, h3, h4⟩ := (BR_own ho).1 (h.blk b k B s N hb hφ)
  have h3 := h3 rfl
  have hsome : ∀ i, i < cs.length → ∃ x, ds[s + (o + i)]? = some x := fun i hi => by
    exact ⟨ds[s + (o + i)]'(by omega), Array.getElem?_eq_getElem _⟩
  by_cases hz : cs.length = 0
  · have hcs : cs = [] := List.eq_nil_of_length_eq_zero hz
    subst hcs
    refine ⟨rfl, Moved.write h hb (wr_of_own ho) hφ (fun _ _ => rfl) rfl rfl rfl rfl ((BR_own ho').2 ⟨ds, e, fz, h1, h2, fun _ => h3, fun i v hv => ?_⟩)⟩
    have hv : bget i k' = some v := hv
    rcases hk' i v hv with ⟨_, q⟩ | ⟨_, q⟩
    · obtain ⟨_, e1, _⟩ := hget _ _ q
      simp at e1
    · exact h4 i v q
  · have hlen : s + o + cs.length ≤ ds.size := by omega
    have hone : ∀ v ∈ cs, v.oneCell' = true := fun v hv => by
      obtain ⟨i, hi⟩ := List.getElem?_of_mem hv
      have hi' := (List.getElem?_eq_some_iff.1 hi).1
      obtain ⟨u, hu⟩ := lget_some hL (i := i) (by omega)
      obtain ⟨x, g1, _, g3⟩ := hget i u hu
      rw [hi] at g1; cases g1; exact g3
    have hrun := run_storeCells_cells (P := P) B (s + o) cs 0 w (fun j hj => by
        obtain ⟨x, hx⟩ := hsome j hj
        simp [World.cell?, h1, Nat.add_assoc, hx]) (fun j hj => by
        have := h3 (s + o + 0 + j)
        simp only [World.frozen?, h1, Bool.and_eq_false_iff, decide_eq_false_iff_not]
        by_cases q : fz.1 ≤ s + o + 0 + j
        · exact .inr fun q' => this ⟨q, q'⟩
        · exact .inl q) hone
    obtain ⟨cs', g1, g2, g3, g4, g5, g6, g7, g8⟩ := setCells_spec B cs (s + o) w ds e fz h1 hlen
    refine ⟨by simpa using hrun, Moved.write h hb (wr_of_own ho) hφ g4 g5 g6 g7 g8 ((BR_own ho').2 ⟨cs', e, fz, g1, by omega, fun _ => h3, fun i v hv => ?_⟩)⟩
    have hv : bget i k' = some v := hv
    rw [g3 (s + i)]
    rcases hk' i v hv with ⟨q1, q⟩ | ⟨q1, q⟩
    · obtain ⟨x, e1, e2, e3⟩ := hget _ _ q
      have := (List.getElem?_eq_some_iff.1 e1).1
      rw [if_pos (by omega), show s + i - (s + o) = i - o by omega]
      exact ⟨x, e1, e2, e3⟩
    · rw [if_neg (by omega)]
      exact h4 i v q

theorem oneK_cases {R : Type} (v : AV) (t e : R) : ((∀ φ x, VR φ 0 v [x] → VR φ 2 (.cons v .nil) [x]) ∧ oneK v t e = t) ∨ oneK v t e = e := by
  cases v <;> first
    | exact .inr rfl
    | (refine .inl ⟨fun φ x h => .cons2 _ _ _ _ h ?_ .nil2, rfl⟩; cases h; rfl)

/-- a store -/
theorem storeK_sound {φ : Phi} {st : St} {w : World} (P : Program) (h : SR φ st w) {R : Type} {t : TypeId} {b : Pos} {o B s N : Nat} {v : AV} {x : Value} {k : St → R} {d : R} (hφ : φ b = some (B, s, N)) (hv : VR φ 0 v [x]) :
    (∃ st' w', storeK P t b o v st k d = k st' ∧ (storeVar t ⟨B, s + o, none⟩ x).run P w = .ok () w' ∧ Moved φ st w φ st' w' ∧ st'.next = st.next) ∨ storeK P t b o v st k d = d := by
  unfold storeK
  rcases atB_cases b st (fun c => lkOn (lk P t) (oneK v (blkSet o v c (fun c => putBlk b c st k) d) d)
    (fun n => onAgg v (fun vs => lenIs n vs (blkOver o vs c (fun c => putBlk b c st k) d) d) d) d) d with ⟨blk, hb, he⟩ | he
  · rw [he]
    rcases lkOn_cases (lk P t) (oneK v (blkSet o v blk (fun c => putBlk b c st k) d) d) (fun n => onAgg v (fun vs => lenIs n vs (blkOver o vs blk (fun c => putBlk b c st k) d) d) d) d with ⟨hl, he⟩ | ⟨n, hl, he⟩ | he
    · rw [he]
      rcases oneK_cases v (blkSet o v blk (fun c => putBlk b c st k) d) d with ⟨h1, he⟩ | he
      · rw [he]
        rcases blkSet_cases o v blk (fun c => putBlk b c st k) d with ⟨b', e1, e2, e3, e4, he⟩ | he
        · rw [he, putBlk_eq]
          have hc := h1 φ x hv
          obtain ⟨g1, g2⟩ := over_sound (o := o) P h hb hφ e1 e2 hc (fun i hi => by
            have : i = 0 := by simpa using hi
            subst this; exact e3) (fun j => by
            rw [e4 j]
            by_cases q : j = o
            · subst q; rw [if_pos rfl, if_pos (by simp), Nat.sub_self]; rfl
            · rw [if_neg q, if_neg (by simp; omega)])
          obtain ⟨dd, i, f1, f2, f3, f4, f5⟩ := lk_one hl
          refine .inl ⟨_, _, rfl, ?_, g2, rfl⟩
          have hcells : x.cells = #[x] := by
            have : x.oneCell' = true := by cases hc; assumption
            cases x <;> first | rfl | (cases this)
          unfold storeVar
          simp only [Sem.run_bind, run_sizeOf' f2, Result.andThen_ok, hcells, f3]
          simpa using g1
        · exact .inr he
      · exact .inr he
    · rw [he]
      rcases onAgg_cases v (fun vs => lenIs n vs (blkOver o vs blk (fun c => putBlk b c st k) d) d) d with ⟨l, rfl, he⟩ | he
      · rw [he]
        rcases lenIs_eq (blkOver o l blk (fun c => putBlk b c st k) d) d n l with ⟨hL, hn, he⟩ | he
        · rw [he]
          rcases blkOver_cases o l blk (fun c => putBlk b c st k) d with ⟨b', e1, e2, e3, e4, e5, he⟩ | he
          · rw [he, putBlk_eq]
            cases hv with
            | agg _ cs hc =>
              have hlen := (hc.get2 rfl).2.1
              obtain ⟨g1, g2⟩ := over_sound (o := o) P h hb hφ e1 e2 hc (fun i hi => e4 i (by omega)) (fun j => by rw [e5 j, hlen])
              obtain ⟨dd, i, f1, f2, f3, f4⟩ := lk_many hl
              refine .inl ⟨_, _, rfl, ?_, g2, rfl⟩
              unfold storeVar
              simp only [Sem.run_bind, run_sizeOf' f2, Result.andThen_ok, Value.cells, f3]
              simpa [show cs.length = n by omega] using g1
          · exact .inr he
        · exact .inr he
      · exact .inr he
    · exact .inr he
  · exact .inr he
end Ev
end
/- This text proves that the evaluator's simpler operations stand for the model's. -/
section
namespace Ev
open Go

/-- what an operation of the model's comes to: a value, or nothing; and the evaluator's state stands for the world behind it -/
def OkV (r : Result Next) (φ : Phi) (st : St) (w : World) (v : AV) (st' : St) : Prop :=
  ∃ x w' φ', (r = .ok (.value x) w' ∨ (r = .ok .skip w' ∧ x = Go.undef)) ∧ VR φ' 0 v [x] ∧ Moved φ st w φ' st' w'
theorem OkV.same {r : Result Next} {φ : Phi} {st : St} {w : World} {v : AV} {x : Value} (sr : SR φ st w) (hr : r = .ok (.value x) w) (hv : VR φ 0 v [x]) : OkV r φ st w v st :=
  ⟨x, w, φ, .inl hr, hv, .refl sr⟩
/-- it leaves the state as it is -/
def Quiet (P : Program) (op : Op) : Prop := cls P op = .pure ∨ cls P op = .read
theorem not_quiet {P : Program} {op : Op} (h : cls P op = .alloc ∨ cls P op = .eff) {α : Prop} (q : Quiet P op) : α := by
  rcases h with h | h <;> rcases q with q | q <;> rw [h] at q <;> cases q
/-- the claim about an operation -/
def Sound (P : Program) (o : Oper) (ρ : Operand → Value) (φ : Phi) (st : St) (w : World) (k : AV → St → Res) (r : Res) : Prop :=
  ∃ v st', k v st' = r ∧ (Quiet P o.op → st' = st) ∧ (Fresh φ st.next st'.next → OkV ((execOp ρ o).run P w) φ st w v st')
def NF (r : Res) : Prop := ∀ n, r ≠ .fail n
theorem NF.no {r x : Res} {n : Nat} {α : Prop} (hr : NF r) (h : x = r) (e : x = .fail n) : α := absurd (h.symm.trans e) (hr n)

section ops
variable {P : Program} {o : Oper} {ρ : Operand → Value} {φ : Phi} {st : St} {w : World} {fr : Tr AV} {k : AV → St → Res} {r : Res}

theorem Sound.same {v : AV} {x : Value} (sr : SR φ st w) (h : k v st = r) (hr : (execOp ρ o).run P w = .ok (.value x) w) (hv : VR φ 0 v [x]) : Sound P o ρ φ st w k r :=
  ⟨v, st, h, fun _ => rfl, fun _ => .same sr hr hv⟩

theorem opMove_ok {x : Operand} (h : opMove x fr st k = r) (sr : SR φ st w) (ho : o.op = .move x ∨ o.op = .assign x) (hx : VR φ 0 (eo fr x) [ρ x]) : Sound P o ρ φ st w k r := by
  unfold opMove at h
  rw [opnd_eq] at h
  refine .same sr h ?_ hx
  rcases ho with ho | ho <;> simp [execOp, ho]

theorem opPick_ok {c a b : Operand} (h : opPick c a b fr st k = r) (hr : NF r) (sr : SR φ st w) (ho : o.op = .pick c a b) (hc : VR φ 0 (eo fr c) [ρ c]) (ha : VR φ 0 (eo fr a) [ρ a]) (hb : VR φ 0 (eo fr b) [ρ b]) : Sound P o ρ φ st w k r := by
  unfold opPick at h
  rw [opnd_eq] at h
  rcases onBool_cases (eo fr c) (fun t => ifB t (opnd a fr fun v => k v st) (opnd b fr fun v => k v st)) (bad 38) with ⟨t, hv, he⟩ | he
  · rw [he] at h
    rw [hv] at hc
    generalize hρ : ρ c = x at hc
    cases hc
    cases t
    · rw [show ifB false (opnd a fr fun v => k v st) (opnd b fr fun v => k v st) = opnd b fr fun v => k v st from rfl, opnd_eq] at h
      exact .same sr h (by simp [execOp, ho, asBool, hρ]) hb
    · rw [show ifB true (opnd a fr fun v => k v st) (opnd b fr fun v => k v st) = opnd a fr fun v => k v st from rfl, opnd_eq] at h
      exact .same sr h (by simp [execOp, ho, asBool, hρ]) ha
  · exact hr.no h he

theorem opNil_ok {x : Operand} (h : opNil x fr st k = r) (hr : NF r) (sr : SR φ st w) (ho : o.op = .nilCheck x) (hx : VR φ 0 (eo fr x) [ρ x]) : Sound P o ρ φ st w k r := by
  unfold opNil at h
  rw [opnd_eq] at h
  rcases onPtr_cases (eo fr x) (fun b o => k (.ptr b o) st) (bad 39) with ⟨b, i, hv, he⟩ | he
  · rw [he] at h
    rw [hv] at hx
    generalize hρ : ρ x = y at hx
    cases hx with
    | ptr _ _ B s N hb => exact .same sr h (by simp [execOp, ho, hρ]) (.ptr b i B s N hb)
  · exact hr.no h he

theorem opLoad_ok {t : TypeId} {x : Operand} (h : opLoad t x P fr st k = r) (hr : NF r) (sr : SR φ st w) (ho : o.op = .load t x) (hx : VR φ 0 (eo fr x) [ρ x]) : Sound P o ρ φ st w k r := by
  unfold opLoad at h
  rw [opnd_eq] at h
  rcases onPtr_cases (eo fr x) (fun b o => loadK P t b o st (fun v => k v st) (bad 42)) (bad 43) with ⟨b, i, hv, he⟩ | he
  · rw [he] at h
    rw [hv] at hx
    generalize hρ : ρ x = y at hx
    cases hx with
    | ptr _ _ B s N hb =>
      rcases loadK_sound P sr (t := t) (o := i) (k := fun v => k v st) (d := bad 42) hb with ⟨v, y, e1, e2, e3⟩ | e
      · rw [e1] at h
        exact .same sr h (by simp [execOp, ho, hρ, Instr.loadAt, Instr.sureAddr, e2]) e3
      · exact hr.no h e
  · exact hr.no h he

theorem opStore_ok {t : TypeId} {x y : Operand} (h : opStore t x y P fr st k = r) (hr : NF r) (sr : SR φ st w) (ho : o.op = .store t x y) (hx : VR φ 0 (eo fr x) [ρ x]) (hy : VR φ 0 (eo fr y) [ρ y]) : Sound P o ρ φ st w k r := by
  unfold opStore at h
  rw [opnd_eq] at h
  rcases onPtr_cases (eo fr x) (fun b o => opnd y fr fun v => storeK P t b o v st (fun st => k .undef st) (bad 44)) (bad 45) with ⟨b, i, hv, he⟩ | he
  · rw [he, opnd_eq] at h
    rw [hv] at hx
    generalize hρ : ρ x = u at hx
    cases hx with
    | ptr _ _ B s N hb =>
      rcases storeK_sound P sr (t := t) (o := i) (k := fun st => k .undef st) (d := bad 44) hb hy with ⟨st', w', e1, e2, e3, _⟩ | e
      · rw [e1] at h
        exact ⟨.undef, st', h, not_quiet (by rw [ho]; exact .inr rfl), fun _ => ⟨Go.undef, w', φ, .inr ⟨by simp [execOp, ho, hρ, Instr.storeAt, Instr.sureAddr, e2], rfl⟩, .undef _, e3⟩⟩
      · exact hr.no h e
  · exact hr.no h he

/-- the cells of a value -/
theorem cellsK_cases {R : Type} (v : AV) (c : AV → R) (d : R) : (∃ l, (∀ φ x, VR φ 0 v [x] → VR φ 2 l x.cells.toList) ∧ cellsK v c d = c l) ∨ cellsK v c d = d := by
  cases v <;> first
    | exact .inr rfl
    | (refine .inl ⟨_, fun φ x h => ?_, rfl⟩
       first
        | (cases h; assumption)
        | (have e : x.cells.toList = [x] := by cases h; rfl
           rw [e]
           exact .cons2 _ _ _ _ h (by cases h; rfl) .nil2))

theorem wr_l (c : AV) : wr (.l c) = true := rfl
/-- a block of cells is made -/
theorem alloc_cells (sr : SR φ st w) (hf : φ st.next = none) {l : AV} {cs : Array Value} (e : TypeId) {fz : Nat × Nat} (hfz : fz.2 ≤ fz.1) {w' : World} (hh : w'.heap = w.heap.push (.cells cs e fz)) (h1 : w'.os = w.os) (h2 : w'.tape = w.tape) (h3 : w'.output = w.output)
    {n : Nat} (hl : VR φ 2 l (cs.toList.take n)) :
    Moved φ st w (upd φ st.next (w.heap.size, 0, cs.size)) (stNew (.l l) st) w' := by
  refine Moved.alloc sr hf _ _ _ hh h1 h2 h3 ((BR_own rfl).2 ⟨cs, e, fz, by rw [hh]; simp, rfl, fun _ o q => by omega, fun i v hv => ?_⟩)
  have hv : lget i l = some v := hv
  obtain ⟨x, g1, g2, g3⟩ := (hl.get2 rfl).2.2 i v hv
  refine ⟨x, ?_, g2.mono (.upd _ hf), g3⟩
  rw [Nat.zero_add, ← Array.getElem?_toList]
  rw [List.getElem?_take] at g1
  split at g1
  · exact g1
  · cases g1
/-- a block of cells that are only read -/
theorem alloc_ro (sr : SR φ st w) (hf : φ st.next = none) {l : AV} {cs : Array Value} (e : TypeId) {fz : Nat × Nat} {w' : World} (hh : w'.heap = w.heap.push (.cells cs e fz)) (h1 : w'.os = w.os) (h2 : w'.tape = w.tape) (h3 : w'.output = w.output)
    {n : Nat} (hl : VR φ 2 l (cs.toList.take n)) :
    Moved φ st w (upd φ st.next (w.heap.size, 0, cs.size)) (stNew (.ro l) st) w' := by
  refine Moved.alloc sr hf _ _ _ hh h1 h2 h3 ⟨cs, e, fz, by rw [hh]; simp, rfl, fun q => Bool.noConfusion q, fun i v hv => ?_⟩
  have hv : lget i l = some v := hv
  obtain ⟨x, g1, g2, g3⟩ := (hl.get2 rfl).2.2 i v hv
  refine ⟨x, ?_, g2.mono (.upd _ hf), g3⟩
  rw [Nat.zero_add, ← Array.getElem?_toList]
  rw [List.getElem?_take] at g1
  split at g1
  · exact g1
  · cases g1
theorem fresh_next {k : Blk} (hf : Fresh φ st.next (stNew k st).next) : φ st.next = none := hf st.next (Nat.le_refl _) (by show _ < st.next.inc.num; rw [Pos.num_inc]; omega)
theorem ptr_new (B N : Nat) : VR (upd φ st.next (B, 0, N)) 0 (.ptr st.next 0) [.pointer (some ⟨B, 0, none⟩)] := by
  have := VR.ptr (φ := upd φ st.next (B, 0, N)) st.next 0 B 0 N (upd_same _ _ _)
  exact this

theorem zeroOf_sound (φ : Phi) {t : TypeId} {v : AV} (h : zeroOf P t = v) (hv : v ≠ .undef) : ∃ i z, P.info? t = some i ∧ i.zero = some z ∧ VR φ 0 v [z] := by
  unfold zeroOf at h
  cases e : inf P t with
  | none => rw [e] at h; exact absurd h.symm hv
  | some i =>
    rw [e] at h
    cases e2 : i.zero with
    | none => simp only [e2] at h; exact absurd h.symm hv
    | some z =>
      simp only [e2] at h
      exact ⟨i, z, inf_sound e, e2, h ▸ ofV_sound φ z⟩
theorem run_zeroValue' {t : TypeId} {i : TypeInfo} {z : Value} (h : P.info? t = some i) (hz : i.zero = some z) (w : World) : (zeroValue t).run P w = .ok z w := by
  unfold zeroValue typeInfo
  simp [h, hz]

theorem opAlloc_ok {t : TypeId} (h : opAlloc t P fr st k = r) (hr : NF r) (sr : SR φ st w) (ho : o.op = .alloc t) : Sound P o ρ φ st w k r := by
  unfold opAlloc at h
  rcases cellsK_cases (zeroOf P t) (fun c => newBlk (.l c) st fun b st => k (.ptr b 0) st) (bad 40) with ⟨l, hl, he⟩ | he
  · rw [he, newBlk_eq] at h
    refine ⟨.ptr st.next 0, _, h, not_quiet (by rw [ho]; exact .inl rfl), fun hf => ?_⟩
    have hu : zeroOf P t ≠ .undef := fun e => by
      rw [e] at he
      have he' : bad 40 = newBlk (.l l) st fun b st => k (.ptr b 0) st := he
      rw [newBlk_eq, h] at he'
      exact hr 40 he'.symm
    obtain ⟨i, z, g1, g2, g3⟩ := zeroOf_sound φ rfl hu
    have hn := fresh_next hf
    refine ⟨_, _, _, .inl ?_, ptr_new w.heap.size z.cells.size, alloc_cells sr hn (l := l) (cs := z.cells) t (fz := (0, 0)) (Nat.le_refl _) (w' := { w with heap := w.heap.push (.cells z.cells t) }) rfl rfl rfl rfl (n := z.cells.size) (by rw [List.take_of_length_le (by simp)]; exact hl φ z g3)⟩
    simp [execOp, ho, Instr.alloc, run_zeroValue' g1 g2, newVar, newRow]
  · exact hr.no h he
theorem opBox_ok {t : TypeId} {x : Operand} (h : opBox x fr st k = r) (hr : NF r) (sr : SR φ st w) (ho : o.op = .box t x) (hx : VR φ 0 (eo fr x) [ρ x]) : Sound P o ρ φ st w k r := by
  unfold opBox at h
  rw [opnd_eq] at h
  rcases cellsK_cases (eo fr x) (fun c => newBlk (.l c) st fun b st => k (.ptr b 0) st) (bad 41) with ⟨l, hl, he⟩ | he
  · rw [he, newBlk_eq] at h
    refine ⟨.ptr st.next 0, _, h, not_quiet (by rw [ho]; exact .inl rfl), fun hf => ?_⟩
    have hn := fresh_next hf
    refine ⟨_, _, _, .inl ?_, ptr_new w.heap.size (ρ x).cells.size, alloc_cells sr hn (l := l) (cs := (ρ x).cells) t (fz := (0, 0)) (Nat.le_refl _) (w' := { w with heap := w.heap.push (.cells (ρ x).cells t) }) rfl rfl rfl rfl (n := (ρ x).cells.size) (by rw [List.take_of_length_le (by simp)]; exact hl φ _ hx)⟩
    simp [execOp, ho, Instr.box, newVar, newRow]
  · exact hr.no h he
end ops
end Ev
end
/- This text proves that the evaluator's field, index and integer operations stand for the model's. -/
section
namespace Ev
open Go
section ops
variable {P : Program} {o : Oper} {ρ : Operand → Value} {φ : Phi} {st : St} {w : World} {fr : Tr AV} {k : AV → St → Res} {r : Res}

theorem fk_at {P : Program} {t f off size : Nat} {agg : Bool} (h : fk P t f = .at_ off size agg) : ∃ fs fld i d, P.underlying t = some (.struct fs) ∧ fs[f]? = some fld ∧ P.info? fld.type = some i ∧ P.underlying fld.type = some d ∧ fld.offset = off ∧ i.size = size ∧
    ((agg = true ∧ ((∃ gs, d = .struct gs) ∨ (∃ m e, d = .array m e))) ∨ (agg = false ∧ (∀ gs, d ≠ .struct gs) ∧ (∀ n e, d ≠ .array n e))) := by
  unfold fk at h
  cases e : und P t with
  | none => rw [e] at h; cases h
  | some d =>
    rw [e] at h
    cases d with
    | struct fs =>
      simp only at h
      cases e2 : fs[f]? with
      | none => rw [e2] at h; cases h
      | some fld =>
        rw [e2] at h
        simp only at h
        cases e3 : inf P fld.type with
        | none => rw [e3] at h; cases h
        | some i =>
          cases e4 : und P fld.type with
          | none => rw [e3, e4] at h; cases h
          | some d =>
            rw [e3, e4] at h
            refine ⟨fs, fld, i, d, und_sound e, e2, inf_sound e3, und_sound e4, ?_⟩
            cases d <;> cases h <;> first
              | exact ⟨rfl, rfl, .inl ⟨rfl, .inl ⟨_, rfl⟩⟩⟩
              | exact ⟨rfl, rfl, .inl ⟨rfl, .inr ⟨_, _, rfl⟩⟩⟩
              | exact ⟨rfl, rfl, .inr ⟨rfl, by intro gs; simp, by intro n e; simp⟩⟩
    | _ => cases h
theorem fkOn_cases {R : Type} (f : Fk) (k : Nat → Nat → Bool → R) (d : R) : (∃ a b c, f = .at_ a b c ∧ fkOn f k d = k a b c) ∨ fkOn f k d = d := by
  cases f with
  | at_ a b c => exact .inl ⟨a, b, c, rfl, rfl⟩
  | bad => exact .inr rfl

theorem opFieldAddr_ok {t : TypeId} {x : Operand} {f : Nat} (h : opFieldAddr t x f P fr st k = r) (hr : NF r) (sr : SR φ st w) (ho : o.op = .fieldAddr t x f) (hx : VR φ 0 (eo fr x) [ρ x]) : Sound P o ρ φ st w k r := by
  unfold opFieldAddr at h
  rw [opnd_eq] at h
  rcases onPtr_cases (eo fr x) (fun b o => fkOn (fk P t f) (fun off size _ => ifB (Nat.beq size 0) (bad 80) (frc (Nat.add o off) fun o => k (.ptr b o) st)) (bad 81)) (bad 82) with ⟨b, i, hv, he⟩ | he
  · rw [he] at h
    rw [hv] at hx
    generalize hρ : ρ x = u at hx
    cases hx with
    | ptr _ _ B s N hb =>
      rcases fkOn_cases (fk P t f) (fun off size _ => ifB (Nat.beq size 0) (bad 80) (frc (Nat.add i off) fun o => k (.ptr b o) st)) (bad 81) with ⟨off, size, agg, hf, he⟩ | he
      · rw [he] at h
        rcases ifB_cases (Nat.beq size 0) (bad 80) (frc (Nat.add i off) fun o => k (.ptr b o) st) with ⟨_, he⟩ | ⟨hz, he⟩
        · exact hr.no h he
        · rw [he, frc_eq] at h
          obtain ⟨fs, fld, j, d, g1, g2, g3, g4, g5, g6, _⟩ := fk_at hf
          have hz' : ¬ j.size = 0 := fun e => by rw [← g6, e] at hz; cases hz
          refine .same sr h ?_ (.ptr b (i + off) B s N hb)
          simp [execOp, ho, Instr.fieldAt, run_underlying g1, g2, hρ, Instr.sureAddr, fieldPlace, run_sizeOf' g3, hz', add_none, g5, Nat.add_assoc]
      · exact hr.no h he
  · exact hr.no h he

theorem VR.drop2 {φ : Phi} {l l' : AV} {cs : List Value} (h : VR φ 2 l cs) {o n : Nat} (hr : Runs (fun i => lget i l) o n l') : o + n ≤ cs.length ∧ VR φ 2 l' ((cs.drop o).take n) ∨ n = 0 ∧ l' = .nil := by
  obtain ⟨h1, h2, h3⟩ := h.get2 rfl
  induction hr with
  | nil o => exact .inr ⟨rfl, rfl⟩
  | cons o n a l' ha hr ih =>
    left
    obtain ⟨x, g1, g2, g3⟩ := h3 o a ha
    have ho := (List.getElem?_eq_some_iff.1 g1).1
    have hd : cs.drop o = x :: cs.drop (o + 1) := by
      rw [List.drop_eq_getElem_cons ho]
      congr 1
      exact (List.getElem?_eq_some_iff.1 g1).2
    rcases ih with ⟨g4, g5⟩ | ⟨g4, g5⟩
    · refine ⟨by omega, ?_⟩
      rw [hd, List.take_succ_cons]
      exact .cons2 a l' x _ g2 g3 g5
    · subst g4; subst g5
      refine ⟨by omega, ?_⟩
      rw [hd, List.take_succ_cons, List.take_zero]
      exact .cons2 a .nil x _ g2 g3 .nil2

/-- a part of an aggregate -/
theorem part_many {t : TypeId} {d : TypeDesc} {i : TypeInfo} (h1 : P.underlying t = some d) (h2 : (∃ gs, d = .struct gs) ∨ (∃ m e, d = .array m e)) (h3 : P.info? t = some i) (cs : Array Value) (off : Nat) (w : World) :
    (part t cs off).run P w = .ok (.agg (cs.extract off (off + i.size))) w := by
  unfold part
  simp [run_isAgg_true h1 h2, run_sizeOf' h3]
theorem part_one {t : TypeId} {d : TypeDesc} (h1 : P.underlying t = some d) (h2 : ∀ gs, d ≠ .struct gs) (h3 : ∀ n e, d ≠ .array n e) {cs : Array Value} {off : Nat} {x : Value} (hx : cs[off]? = some x) (w : World) :
    (part t cs off).run P w = .ok x w := by
  unfold part
  simp [run_isAgg_false h1 h2 h3, hx]
theorem extract_list (cs : List Value) (o n : Nat) : (⟨cs⟩ : Array Value).extract o (o + n) = ⟨(cs.drop o).take n⟩ := by
  apply Array.ext'
  simp [List.extract_eq_take_drop]

theorem dropTake_cases {R : Type} (o n : Nat) (c : AV) (k : AV → R) (d e : R) : (∃ l, Runs (fun i => lget i c) o n l ∧ dropK o c (fun c => takeK n c k d) e = k l) ∨ dropK o c (fun c => takeK n c k d) e = d ∨ dropK o c (fun c => takeK n c k d) e = e := by
  rcases dropK_cases (fun c => takeK n c k d) e o c with ⟨l', h1, h2⟩ | h
  · rcases takeK_cases (fun i => lget i c) n o l' k d (fun i _ => .inl (h1 i)) with ⟨l, h3, h4⟩ | h4
    · exact .inl ⟨l, h3, h2.trans h4⟩
    · exact .inr (.inl (h2.trans h4))
  · exact .inr (.inr h)

/-- some cells of an aggregate as an aggregate -/
theorem agg_part {φ : Phi} {l l' : AV} {cs : List Value} (h : VR φ 2 l cs) {o n : Nat} (hr : Runs (fun i => lget i l) o n l') : VR φ 0 (.agg l') [.agg ((⟨cs⟩ : Array Value).extract o (o + n))] := by
  rw [extract_list]
  rcases h.drop2 hr with ⟨_, h⟩ | ⟨rfl, rfl⟩
  · exact .agg _ _ h
  · exact .agg _ _ (by rw [List.take_zero]; exact .nil2)

theorem opField_ok {t : TypeId} {x : Operand} {f : Nat} (h : opField t x f P fr st k = r) (hr : NF r) (sr : SR φ st w) (ho : o.op = .field t x f) (hx : VR φ 0 (eo fr x) [ρ x]) : Sound P o ρ φ st w k r := by
  unfold opField at h
  rw [opnd_eq] at h
  rcases onAgg_cases (eo fr x) (fun c => fkOn (fk P t f) (fun off size agg => ifB agg (dropK off c (fun c => takeK size c (fun l => k (.agg l) st) (bad 83)) (bad 84)) (nthK off c (fun v => k v st) (bad 85))) (bad 86)) (bad 87) with ⟨c, hv, he⟩ | he
  · rw [he] at h
    rw [hv] at hx
    generalize hρ : ρ x = u at hx
    cases hx with
    | agg _ cs hc =>
      rcases fkOn_cases (fk P t f) (fun off size agg => ifB agg (dropK off c (fun c => takeK size c (fun l => k (.agg l) st) (bad 83)) (bad 84)) (nthK off c (fun v => k v st) (bad 85))) (bad 86) with ⟨off, size, agg, hf, he⟩ | he
      · rw [he] at h
        obtain ⟨fs, fld, j, d, g1, g2, g3, g4, g5, g6, g7⟩ := fk_at hf
        rcases g7 with ⟨rfl, g7⟩ | ⟨rfl, g7, g8⟩
        · have h : dropK off c (fun c => takeK size c (fun l => k (.agg l) st) (bad 83)) (bad 84) = r := h
          rcases dropTake_cases off size c (fun l => k (.agg l) st) (bad 83) (bad 84) with ⟨l, hl, he⟩ | he | he
          · rw [he] at h
            refine .same sr h ?_ (agg_part hc hl)
            simp [execOp, ho, Instr.field, run_underlying g1, g2, hρ, asAgg, part_many g4 g7 g3, g5, g6]
          · exact hr.no h he
          · exact hr.no h he
        · have h : nthK off c (fun v => k v st) (bad 85) = r := h
          rcases nthK_cases (fun v => k v st) (bad 85) off c with ⟨v, hv, he⟩ | he
          · rw [he] at h
            obtain ⟨y, e1, e2, e3⟩ := (hc.get2 rfl).2.2 off v hv
            refine .same sr h ?_ e2
            have := part_one (P := P) g4 g7 g8 (cs := ⟨cs⟩) (off := fld.offset) (x := y) (by rw [g5, ← Array.getElem?_toList]; exact e1) w
            simp [execOp, ho, Instr.field, run_underlying g1, g2, hρ, asAgg, this]
          · exact hr.no h he
      · exact hr.no h he
  · exact hr.no h he

theorem opExtract_ok {x : Operand} {i : Nat} (h : opExtract x i fr st k = r) (hr : NF r) (sr : SR φ st w) (ho : o.op = .extract x i) (hx : VR φ 0 (eo fr x) [ρ x]) : Sound P o ρ φ st w k r := by
  unfold opExtract at h
  rw [opnd_eq] at h
  rcases onTup_cases (eo fr x) (fun l => nthK i l (fun v => k v st) (bad 88)) (bad 89) with ⟨c, hv, he⟩ | he
  · rw [he] at h
    rw [hv] at hx
    generalize hρ : ρ x = u at hx
    cases hx with
    | tup _ vs hc =>
      rcases nthK_cases (fun v => k v st) (bad 88) i c with ⟨v, hv, he⟩ | he
      · rw [he] at h
        obtain ⟨y, e1, e2⟩ := (hc.get1 rfl).2.2 i v hv
        refine .same sr h ?_ e2
        simp [execOp, ho, Instr.extract, hρ, e1]
      · exact hr.no h he
  · exact hr.no h he

theorem ik_arr {P : Program} {t n size : Nat} (h : ik P t = .arr n size) : ∃ e i, P.underlying t = some (.array n e) ∧ P.info? e = some i ∧ i.size = size ∧ elemTy P t = e := by
  unfold ik at h
  unfold elemTy
  cases e : und P t with
  | none => rw [e] at h; cases h
  | some d =>
    rw [e] at h
    cases d with
    | array m el =>
      simp only at h
      cases e2 : inf P el with
      | none => rw [e2] at h; cases h
      | some i => rw [e2] at h; cases h; exact ⟨el, i, und_sound e, inf_sound e2, rfl, rfl⟩
    | slice el => simp only at h; cases e2 : inf P el <;> rw [e2] at h <;> cases h
    | string => cases h
    | _ => cases h
theorem ik_sl {P : Program} {t size : Nat} (h : ik P t = .sl size) : ∃ e i, P.underlying t = some (.slice e) ∧ P.info? e = some i ∧ i.size = size ∧ elemTy P t = e := by
  unfold ik at h
  unfold elemTy
  cases e : und P t with
  | none => rw [e] at h; cases h
  | some d =>
    rw [e] at h
    cases d with
    | slice el =>
      simp only at h
      cases e2 : inf P el with
      | none => rw [e2] at h; cases h
      | some i => rw [e2] at h; cases h; exact ⟨el, i, und_sound e, inf_sound e2, rfl, rfl⟩
    | array m el => simp only at h; cases e2 : inf P el <;> rw [e2] at h <;> cases h
    | string => cases h
    | _ => cases h
theorem ik_str {P : Program} {t : Nat} (h : ik P t = .str) : P.underlying t = some .string := by
  unfold ik at h
  cases e : und P t with
  | none => rw [e] at h; cases h
  | some d =>
    rw [e] at h
    cases d with
    | string => exact und_sound e
    | slice el => simp only at h; cases e2 : inf P el <;> rw [e2] at h <;> cases h
    | array m el => simp only at h; cases e2 : inf P el <;> rw [e2] at h <;> cases h
    | _ => cases h
theorem ikOn_cases {R : Type} (i : Ik) (a : Nat → Nat → R) (b : Nat → R) (c d : R) : (∃ n s, i = .arr n s ∧ ikOn i a b c d = a n s) ∨ (∃ s, i = .sl s ∧ ikOn i a b c d = b s) ∨ (i = .str ∧ ikOn i a b c d = c) ∨ ikOn i a b c d = d := by
  cases i with
  | arr n s => exact .inl ⟨n, s, rfl, rfl⟩
  | sl s => exact .inr (.inl ⟨s, rfl, rfl⟩)
  | str => exact .inr (.inr (.inl ⟨rfl, rfl⟩))
  | bad => exact .inr (.inr (.inr rfl))

theorem opIxAddr_ok {t : TypeId} {x ix : Operand} (h : opIxAddr t x ix P fr st k = r) (hr : NF r) (sr : SR φ st w) (ho : o.op = .indexAddr t x ix) (hx : VR φ 0 (eo fr x) [ρ x]) (hix : VR φ 0 (eo fr ix) [ρ ix]) : Sound P o ρ φ st w k r := by
  unfold opIxAddr at h
  rw [opnd_eq, opnd_eq] at h
  generalize eo fr x = vx at *
  generalize eo fr ix = vi at *
  rcases onInt_cases vi _ (bad 68) with ⟨kd, i, rfl, he⟩ | he
  rotate_left
  · exact hr.no h he
  rw [he] at h
  generalize hρi : ρ ix = ui at hix
  cases hix with
  | int _ _ hi =>
  rcases ifB_cases (nonneg kd i) _ (bad 67) with ⟨hn, he⟩ | ⟨_, he⟩
  rotate_left
  · exact hr.no h he
  rw [he] at h
  have hw : kd.wrap (i : Int) = i := nonneg_t hn
  rcases ikOn_cases (ik P t) _ _ (bad 65) (bad 66) with ⟨n, size, hk, he⟩ | ⟨size, hk, he⟩ | ⟨_, he⟩ | he
  · rw [he] at h
    rcases onPtr_cases vx _ (bad 61) with ⟨b, o', rfl, he⟩ | he
    · rw [he] at h
      generalize hρ : ρ x = u at hx
      cases hx with
      | ptr _ _ B s N hb =>
      rcases ifB_cases (Nat.blt i n) _ (bad 60) with ⟨hlt, he⟩ | ⟨_, he⟩
      · rw [he, frc_eq] at h
        have hlt : i < n := Nat.le_of_ble_eq_true hlt
        obtain ⟨e, j, g1, g2, g3, _⟩ := ik_arr hk
        refine .same sr h ?_ (.ptr b (o' + i * size) B s N hb)
        have hin : (0 : Int) ≤ (i : Int) ∧ (i : Int) < (n : Int) := ⟨by omega, by omega⟩
        simp [execOp, ho, Instr.indexAt, hρi, asIntOf, hw, run_underlying g1, hρ, Instr.sureAddr, hin, run_sizeOf' g2, g3, add_none, Nat.add_assoc, hlt]
      · exact hr.no h he
    · exact hr.no h he
  · rw [he] at h
    rcases onSl_cases vx (bad 62) _ (bad 64) with ⟨rfl, he⟩ | ⟨b, o', l, c, z, ex, rfl, he⟩ | he
    · exact hr.no h he
    · rw [he] at h
      generalize hρ : ρ x = u at hx
      cases hx with
      | sl _ _ _ _ _ _ B s N a C hb h1 h2 h3 h4 h5 =>
      rcases ifB_cases (Nat.blt i l) _ (bad 63) with ⟨hlt, he⟩ | ⟨_, he⟩
      · rw [he, frc_eq] at h
        have hlt : i < l := Nat.le_of_ble_eq_true hlt
        obtain ⟨e, j, g1, g2, g3, _⟩ := ik_sl hk
        have ha : a = s + o' := by
          rcases h4 with h4 | h4
          · omega
          · exact h4
        subst ha
        refine .same sr h ?_ (.ptr b (o' + i * size) B s N hb)
        have hin : (0 : Int) ≤ (i : Int) ∧ (i : Int) < (l : Int) := ⟨by omega, by omega⟩
        simp [execOp, ho, Instr.indexAt, hρi, asIntOf, hw, run_underlying g1, hρ, hin, run_sizeOf' g2, g3, add_none, Nat.add_assoc, hlt]
      · exact hr.no h he
    · exact hr.no h he
  · exact hr.no h he
  · exact hr.no h he
end ops
end Ev
end
/- This text proves that the evaluator's indexing, arithmetic, comparisons and conversions stand for the model's. -/
section
namespace Ev
open Go

theorem u8_val (u : UInt8) : IntKind.u8.wrap ((u.toNat : Nat) : Int) = u.toNat := wrap_low .u8 (by have := u.toNat_lt; show _ < 256; omega)
theorem VR.byte {φ : Phi} (u : UInt8) : VR φ 0 (.int .u8 u.toNat) [.int .u8 u.toNat] := by
  have := VR.int (φ := φ) .u8 u.toNat (by have := u.toNat_lt; show _ < 256; omega)
  rwa [u8_val] at this
theorem VR.nat {φ : Phi} {k : IntKind} {n : Nat} (h : n < khalf k) : VR φ 0 (.int k n) [.int k n] := by
  have := VR.int (φ := φ) k n (Nat.lt_of_lt_of_le h (khalf_le k))
  rwa [wrap_low k h] at this

theorem snth_cases {R : Type} (k : Nat → R) (d : R) : ∀ (i : Nat) (l : List Nat), (∃ b, l[i]? = some b ∧ snth i l k d = k b) ∨ snth i l k d = d
  | 0, [] => .inr rfl
  | 0, a :: l => .inl ⟨a, rfl, rfl⟩
  | i + 1, [] => .inr rfl
  | i + 1, a :: l => by
    rcases snth_cases k d i l with ⟨b, h1, h2⟩ | h
    · exact .inl ⟨b, by simpa using h1, h2⟩
    · exact .inr h
theorem byte_at {s : ByteArray} {i : Nat} {u : UInt8} (h : s.data.toList[i]? = some u) : s[i]? = some u := by
  obtain ⟨h1, h2⟩ := List.getElem?_eq_some_iff.1 h
  have hs : i < s.size := by simpa using h1
  rw [getElem?_pos s i hs]
  congr 1

section ops
variable {P : Program} {o : Oper} {ρ : Operand → Value} {φ : Phi} {st : St} {w : World} {fr : Tr AV} {k : AV → St → Res} {r : Res}

theorem partK_sound {R : Type} {t off : Nat} {c : AV} {cs : List Value} (hc : VR φ 2 c cs) (kk : AV → R) (d : R) :
    (∃ v x, partK (lk P t) off c kk d = kk v ∧ (part t ⟨cs⟩ off).run P w = .ok x w ∧ VR φ 0 v [x]) ∨ partK (lk P t) off c kk d = d := by
  unfold partK
  rcases lkOn_cases (lk P t) (nthK off c kk d) (fun n => dropK off c (fun c => takeK n c (fun l => kk (.agg l)) d) d) d with ⟨hl, he⟩ | ⟨n, hl, he⟩ | he
  · rw [he]
    rcases nthK_cases kk d off c with ⟨v, hv, he⟩ | he
    · obtain ⟨y, e1, e2, e3⟩ := (hc.get2 rfl).2.2 off v hv
      obtain ⟨dd, i, g1, g2, g3, g4, g5⟩ := lk_one hl
      exact .inl ⟨v, y, he, part_one g1 g4 g5 (by rw [← Array.getElem?_toList]; exact e1) w, e2⟩
    · exact .inr he
  · rw [he]
    obtain ⟨dd, i, g1, g2, g3, g4⟩ := lk_many hl
    rcases dropTake_cases off n c (fun l => kk (.agg l)) d d with ⟨l, h1, he⟩ | he | he
    · refine .inl ⟨.agg l, _, he, ?_, agg_part hc h1⟩
      rw [part_many g1 g4 g2, g3]
    · exact .inr he
    · exact .inr he
  · exact .inr he

theorem opIndex_ok {t : TypeId} {x ix : Operand} (h : opIndex t x ix P fr st k = r) (hr : NF r) (sr : SR φ st w) (ho : o.op = .index t x ix) (hx : VR φ 0 (eo fr x) [ρ x]) (hix : VR φ 0 (eo fr ix) [ρ ix]) : Sound P o ρ φ st w k r := by
  unfold opIndex at h
  rw [opnd_eq, opnd_eq] at h
  generalize eo fr x = vx at *
  generalize eo fr ix = vi at *
  rcases onInt_cases vi _ (bad 78) with ⟨kd, i, rfl, he⟩ | he
  rotate_left
  · exact hr.no h he
  rw [he] at h
  generalize hρi : ρ ix = ui at hix
  cases hix with
  | int _ _ hi =>
  rcases ifB_cases (nonneg kd i) _ (bad 77) with ⟨hn, he⟩ | ⟨_, he⟩
  rotate_left
  · exact hr.no h he
  rw [he] at h
  have hw : kd.wrap (i : Int) = i := nonneg_t hn
  rcases ikOn_cases (ik P t) _ (fun _ => bad 73) _ (bad 76) with ⟨n, size, hk, he⟩ | ⟨size, hk, he⟩ | ⟨hk, he⟩ | he
  · rw [he] at h
    rcases onAgg_cases vx _ (bad 72) with ⟨c, rfl, he⟩ | he
    · rw [he] at h
      generalize hρ : ρ x = u at hx
      cases hx with
      | agg _ cs hc =>
      rcases ifB_cases (Nat.blt i n) _ (bad 71) with ⟨hlt, he⟩ | ⟨_, he⟩
      · rw [he] at h
        have hlt : i < n := Nat.le_of_ble_eq_true hlt
        obtain ⟨e, j, g1, g2, g3, g4⟩ := ik_arr hk
        rw [g4] at h
        rcases partK_sound (P := P) (w := w) (t := e) (off := Nat.mul i size) hc (fun v => k v st) (bad 70) with ⟨v, y, e1, e2, e3⟩ | he
        · rw [e1] at h
          refine .same sr h ?_ e3
          have hin : (0 : Int) ≤ (i : Int) ∧ (i : Int) < (n : Int) := ⟨by omega, by omega⟩
          have e2 : Sem.run P (part e ⟨cs⟩ (i * size)) w = .ok y w := e2
          simp [execOp, ho, Instr.index, hρi, asIntOf, hw, run_underlying g1, hρ, hin, run_sizeOf' g2, g3, hlt, e2]
        · exact hr.no h he
      · exact hr.no h he
    · exact hr.no h he
  · exact hr.no h he
  · rw [he] at h
    rcases onStr_cases vx _ (bad 75) with ⟨l, rfl, he⟩ | he
    · rw [he] at h
      generalize hρ : ρ x = u at hx
      cases hx with
      | str _ s hs =>
      rcases snth_cases (fun b => k (.int .u8 b) st) (bad 74) i l with ⟨b, hb, he⟩ | he
      · rw [he] at h
        rw [← hs, List.getElem?_map] at hb
        obtain ⟨u8, h1, rfl⟩ := Option.map_eq_some_iff.1 hb
        refine .same sr h ?_ (.byte u8)
        have h2 := byte_at h1
        simp [execOp, ho, Instr.index, hρi, asIntOf, hw, run_underlying (ik_str hk), hρ, h2]
      · exact hr.no h he
    · exact hr.no h he
  · exact hr.no h he

/-! ### arithmetic -/
theorem cmpT_eq {R : Type} (b : Bool) (c : AV → R) : cmpT b c = c (.bool b) := by cases b <;> rfl
theorem cmpF_eq {R : Type} (b : Bool) (c : AV → R) : cmpF b c = c (.bool !b) := by cases b <;> rfl
theorem kint_eq {R : Type} (k : IntKind) (n : Nat) (c : AV → R) : kint k n c = c (.int k n) := frc_eq n _
theorem VR.wrap {φ : Phi} (k : IntKind) (n : Nat) (hn : n < kmod k) {x : Int} (h : x % (kmod k : Int) = (n : Int) % (kmod k : Int)) : VR φ 0 (.int k n) [.int k (k.wrap x)] := by
  rw [wrap_congr k h]; exact .int k n hn
theorem mod_lt' (k : IntKind) (n : Nat) : Nat.mod n (kmod k) < kmod k := Nat.mod_lt _ (kmod_pos k)

theorem opNot_ok {ty : TypeId} {x : Operand} (h : opNot x fr st k = r) (hr : NF r) (sr : SR φ st w) (ho : o.op = .unOp .not ty x) (hx : VR φ 0 (eo fr x) [ρ x]) : Sound P o ρ φ st w k r := by
  unfold opNot at h
  rw [opnd_eq] at h
  generalize eo fr x = vx at *
  rcases onBool_cases vx (fun b => cmpF b fun v => k v st) (bad 46) with ⟨b, rfl, he⟩ | he
  · rw [he, cmpF_eq] at h
    generalize hρ : ρ x = u at hx
    cases hx
    exact .same sr h (by simp [execOp, ho, Op.unary, hρ]) (.bool _)
  · exact hr.no h he
theorem kmax_eq (k : IntKind) : (if k.signed then (-1 : Int) else k.max) % (kmod k : Int) = ((kmod k - 1 : Nat) : Int) := by cases k <;> decide
theorem bv_ofInt {k : IntKind} {n : Nat} {x : Int} (h : x % (kmod k : Int) = n) : (BitVec.ofInt k.bits x).toNat = n := by
  rw [BitVec.toNat_ofInt, show ((2 ^ k.bits : Nat) : Int) = (kmod k : Int) by rw [kmod_eq], h]
  exact Int.toNat_natCast n
theorem wrap_nat_emod (k : IntKind) {n : Nat} (hn : n < kmod k) : (k.wrap (n : Int)) % (kmod k : Int) = n := by
  rw [wrap_emod, Int.emod_eq_of_lt (by omega) (by omega)]
theorem xor_ones {b n : Nat} (h : n < 2 ^ b) : (2 ^ b - 1) ^^^ n = 2 ^ b - 1 - n := by
  have e : BitVec.allOnes b ^^^ BitVec.ofNat b n = ~~~ BitVec.ofNat b n := by
    ext i hi
    simp
  have e := congrArg BitVec.toNat e
  rw [BitVec.toNat_xor, BitVec.toNat_allOnes, BitVec.toNat_not, BitVec.toNat_ofNat, Nat.mod_eq_of_lt h] at e
  exact e
theorem opCom_ok {ty : TypeId} {x : Operand} (h : opCom x fr st k = r) (hr : NF r) (sr : SR φ st w) (ho : o.op = .unOp .xor ty x) (hx : VR φ 0 (eo fr x) [ρ x]) : Sound P o ρ φ st w k r := by
  unfold opCom at h
  rw [opnd_eq] at h
  generalize eo fr x = vx at *
  rcases onInt_cases vx (fun kd n => kint kd (Nat.sub (Nat.sub (kmod kd) 1) n) fun v => k v st) (bad 47) with ⟨kd, n, rfl, he⟩ | he
  · rw [he, kint_eq] at h
    generalize hρ : ρ x = u at hx
    cases hx with
    | int _ _ hn =>
    have hp := kmod_pos kd
    have hlt : kmod kd - 1 - n < kmod kd := by omega
    refine .same sr h (x := .int kd (kd.wrap ((kmod kd - 1 - n : Nat) : Int))) ?_ (.int kd _ hlt)
    have e1 := bv_ofInt (k := kd) (n := kmod kd - 1) (kmax_eq kd)
    have e2 := bv_ofInt (k := kd) (wrap_nat_emod kd hn)
    have e3 : (kmod kd - 1) ^^^ n = kmod kd - 1 - n := by rw [kmod_eq] at *; exact xor_ones hn
    simp [execOp, ho, Op.unary, hρ, Op.intBits, e1, e2, e3, -BitVec.toNat_ofInt]
  · exact hr.no h he
theorem opNeg_ok {ty : TypeId} {x : Operand} (h : opNeg x fr st k = r) (hr : NF r) (sr : SR φ st w) (ho : o.op = .unOp .neg ty x) (hx : VR φ 0 (eo fr x) [ρ x]) : Sound P o ρ φ st w k r := by
  unfold opNeg at h
  rw [opnd_eq] at h
  generalize eo fr x = vx at *
  rcases onInt_cases vx (fun kd n => kint kd (Nat.mod (Nat.sub (kmod kd) n) (kmod kd)) fun v => k v st) (bad 48) with ⟨kd, n, rfl, he⟩ | he
  · rw [he, kint_eq] at h
    generalize hρ : ρ x = u at hx
    cases hx with
    | int _ _ hn =>
    refine .same sr h (x := .int kd (kd.wrap (0 - kd.wrap (n : Int)))) (by simp [execOp, ho, Op.unary, hρ, Op.intArith]) (.wrap kd _ (mod_lt' kd _) ?_)
    have e := wrap_nat_emod kd hn
    have e2 : ((Nat.mod (Nat.sub (kmod kd) n) (kmod kd) : Nat) : Int) = ((kmod kd : Int) - n) % (kmod kd : Int) := by
      show (((kmod kd - n) % kmod kd : Nat) : Int) = _
      rw [Int.natCast_emod, Int.natCast_sub (by omega)]
    rw [e2, Int.emod_emod, Int.sub_emod, e, Int.sub_emod (kmod kd : Int), Int.emod_self, Int.emod_eq_of_lt (a := (n : Int)) (by omega) (by omega), Int.zero_emod]
  · exact hr.no h he
end ops
end Ev
end
/- This text proves that the evaluator's operations on two operands stand for the model's. -/
section
namespace Ev
open Go
section ops
variable {P : Program} {o : Oper} {ρ : Operand → Value} {φ : Phi} {st : St} {w : World} {fr : Tr AV} {k : AV → St → Res} {r : Res}

theorem cast_mod (k : IntKind) (n : Nat) : ((Nat.mod n (kmod k) : Nat) : Int) = (n : Int) % (kmod k : Int) := by
  show ((n % kmod k : Nat) : Int) = _
  rw [Int.natCast_emod]
theorem VR.arith {φ : Phi} (k : IntKind) {n : Nat} {x : Int} (h : x % (kmod k : Int) = (n : Int) % (kmod k : Int)) : VR φ 0 (.int k (Nat.mod n (kmod k))) [.int k (k.wrap x)] :=
  .wrap k _ (mod_lt' k n) (by rw [cast_mod, Int.emod_emod]; exact h)
theorem VR.bits {φ : Phi} (k : IntKind) {n : Nat} (h : n < kmod k) : VR φ 0 (.int k n) [.int k (k.wrap (n : Int))] := .int k n h
theorem beq_f {a b : Nat} (q : ¬ a = b) : Nat.beq a b = false := by
  cases e : Nat.beq a b
  · rfl
  · exact absurd (Nat.eq_of_beq_eq_true e) q
theorem land_lt {k : IntKind} {a b : Nat} (ha : a < kmod k) : Nat.land a b < kmod k := by exact Nat.lt_of_le_of_lt Nat.and_le_left ha
theorem div_low {k : IntKind} {a b : Nat} (ha : a < khalf k) : Nat.div a b < khalf k := Nat.lt_of_le_of_lt (Nat.div_le_self a b) ha

theorem binInt_sound {op : BinOp} {kd : IntKind} {a b : Nat} {c : AV → Res} (h : binInt op kd a b c = r) (hr : NF r) (ha : a < kmod kd) (hb : b < kmod kd) (t : TypeId) (φ : Phi) (w : World) :
    ∃ v x, c v = r ∧ (Go.binOp op t (.int kd (kd.wrap (a : Int))) (.int kd (kd.wrap (b : Int)))).run P w = .ok x w ∧ VR φ 0 v [x] := by
  have ea := wrap_nat_emod kd ha
  have eb := wrap_nat_emod kd hb
  have ba := bv_ofInt (k := kd) ea
  have bb := bv_ofInt (k := kd) eb
  cases op with
  | add =>
    have h : kint kd (Nat.mod (Nat.add a b) (kmod kd)) c = r := h
    rw [kint_eq] at h
    refine ⟨_, _, h, by simp [Go.binOp, Op.intArith]; rfl, .arith kd ?_⟩
    rw [Int.add_emod, ea, eb, show ((Nat.add a b : Nat) : Int) = (a : Int) + b from by show ((a + b : Nat) : Int) = _; omega]
  | sub =>
    have h : kint kd (Nat.mod (Nat.sub (Nat.add a (kmod kd)) b) (kmod kd)) c = r := h
    rw [kint_eq] at h
    refine ⟨_, _, h, by simp [Go.binOp, Op.intArith]; rfl, .arith kd ?_⟩
    rw [Int.sub_emod, ea, eb, show ((Nat.sub (Nat.add a (kmod kd)) b : Nat) : Int) = ((a : Int) - b) + (kmod kd : Int) from by show ((a + kmod kd - b : Nat) : Int) = _; omega, Int.add_emod_right]
  | mul =>
    have h : kint kd (Nat.mod (Nat.mul a b) (kmod kd)) c = r := h
    rw [kint_eq] at h
    refine ⟨_, _, h, by simp [Go.binOp, Op.intArith]; rfl, .arith kd ?_⟩
    rw [Int.mul_emod, ea, eb, show ((Nat.mul a b : Nat) : Int) = (a : Int) * b from by show ((a * b : Nat) : Int) = _; exact Int.natCast_mul a b]
  | quo =>
    have h : ifB (nonneg kd a) (ifB (nonneg kd b) (ifB (Nat.beq b 0) (bad 20) (kint kd (Nat.div a b) c)) (bad 21)) (bad 22) = r := h
    rcases ifB_cases (nonneg kd a) (ifB (nonneg kd b) (ifB (Nat.beq b 0) (bad 20) (kint kd (Nat.div a b) c)) (bad 21)) (bad 22) with ⟨hna, he⟩ | ⟨_, he⟩
    rotate_left
    · exact hr.no h he
    rw [he] at h
    rcases ifB_cases (nonneg kd b) (ifB (Nat.beq b 0) (bad 20) (kint kd (Nat.div a b) c)) (bad 21) with ⟨hnb, he⟩ | ⟨_, he⟩
    rotate_left
    · exact hr.no h he
    rw [he] at h
    rcases ifB_cases (Nat.beq b 0) (bad 20) (kint kd (Nat.div a b) c) with ⟨_, he⟩ | ⟨hz, he⟩
    · exact hr.no h he
    rw [he, kint_eq] at h
    have hz' : ¬ b = 0 := fun e => by rw [e] at hz; cases hz
    have hd := div_low (b := b) (Nat.le_of_ble_eq_true hna : a < khalf kd)
    refine ⟨_, .int kd (Nat.div a b : Nat), h, ?_, .nat hd⟩
    have e1 : ¬ ((b : Int) = 0) := by omega
    have e2 : Int.tdiv (a : Int) b = ((Nat.div a b : Nat) : Int) := (Int.ofNat_tdiv a b).symm
    simp [Go.binOp, Op.intDiv, nonneg_t hna, nonneg_t hnb, hz', e2, wrap_low kd hd]
  | rem =>
    have h : ifB (nonneg kd a) (ifB (nonneg kd b) (ifB (Nat.beq b 0) (bad 23) (kint kd (Nat.mod a b) c)) (bad 24)) (bad 25) = r := h
    rcases ifB_cases (nonneg kd a) (ifB (nonneg kd b) (ifB (Nat.beq b 0) (bad 23) (kint kd (Nat.mod a b) c)) (bad 24)) (bad 25) with ⟨hna, he⟩ | ⟨_, he⟩
    rotate_left
    · exact hr.no h he
    rw [he] at h
    rcases ifB_cases (nonneg kd b) (ifB (Nat.beq b 0) (bad 23) (kint kd (Nat.mod a b) c)) (bad 24) with ⟨hnb, he⟩ | ⟨_, he⟩
    rotate_left
    · exact hr.no h he
    rw [he] at h
    rcases ifB_cases (Nat.beq b 0) (bad 23) (kint kd (Nat.mod a b) c) with ⟨_, he⟩ | ⟨hz, he⟩
    · exact hr.no h he
    rw [he, kint_eq] at h
    have hz' : ¬ b = 0 := fun e => by rw [e] at hz; cases hz
    have hd : Nat.mod a b < khalf kd := Nat.lt_of_le_of_lt (Nat.mod_le a b) (Nat.le_of_ble_eq_true hna)
    refine ⟨_, .int kd (Nat.mod a b : Nat), h, ?_, .nat hd⟩
    have e2 : Int.tmod (a : Int) b = ((Nat.mod a b : Nat) : Int) := (Int.ofNat_tmod a b).symm
    simp [Go.binOp, Op.intDiv, nonneg_t hna, nonneg_t hnb, hz', e2]
  | and =>
    have h : kint kd (Nat.land a b) c = r := h
    rw [kint_eq] at h
    exact ⟨_, .int kd (kd.wrap ((Nat.land a b : Nat) : Int)), h, by simp [Go.binOp, Op.intBits, ba, bb, -BitVec.toNat_ofInt], .bits kd (land_lt ha)⟩
  | or =>
    have h : kint kd (Nat.lor a b) c = r := h
    rw [kint_eq] at h
    exact ⟨_, .int kd (kd.wrap ((Nat.lor a b : Nat) : Int)), h, by simp [Go.binOp, Op.intBits, ba, bb, -BitVec.toNat_ofInt], .bits kd (by rw [kmod_eq] at *; exact Nat.or_lt_two_pow ha hb)⟩
  | xor =>
    have h : kint kd (Nat.xor a b) c = r := h
    rw [kint_eq] at h
    exact ⟨_, .int kd (kd.wrap ((Nat.xor a b : Nat) : Int)), h, by simp [Go.binOp, Op.intBits, ba, bb, -BitVec.toNat_ofInt], .bits kd (by rw [kmod_eq] at *; exact Nat.xor_lt_two_pow ha hb)⟩
  | shl => exact hr.no h rfl
  | shr => exact hr.no h rfl
  | andNot =>
    have h : kint kd (Nat.land a (Nat.sub (Nat.sub (kmod kd) 1) b)) c = r := h
    rw [kint_eq] at h
    refine ⟨_, _, h, ?_, .bits kd (land_lt ha)⟩
    have e : (~~~ BitVec.ofInt kd.bits (kd.wrap (b : Int))).toNat = Nat.sub (Nat.sub (kmod kd) 1) b := by rw [BitVec.toNat_not, bb, kmod_eq]; rfl
    simp only [Go.binOp, Op.intBits]
    rw [BitVec.toNat_and, e, ba, if_neg (fun q => q rfl)]
    rfl
  | eql =>
    have h : cmpT (Nat.beq a b) c = r := h
    rw [cmpT_eq] at h
    refine ⟨_, .bool (Nat.beq a b), h, ?_, .bool _⟩
    have e : (kd.wrap (a : Int) == kd.wrap (b : Int)) = Nat.beq a b := by
      by_cases q : a = b
      · subst q; simp
      · rw [beq_f q, beq_eq_false_iff_ne]; exact fun e => q (wrap_inj kd ha hb e)
    simp [Go.binOp, Op.intCmp, e]
  | neq =>
    have h : cmpF (Nat.beq a b) c = r := h
    rw [cmpF_eq] at h
    refine ⟨_, .bool (!(Nat.beq a b)), h, ?_, .bool _⟩
    have e : (kd.wrap (a : Int) == kd.wrap (b : Int)) = Nat.beq a b := by
      by_cases q : a = b
      · subst q; simp
      · rw [beq_f q, beq_eq_false_iff_ne]; exact fun e => q (wrap_inj kd ha hb e)
    simp [Go.binOp, Op.intCmp, bne, e]
  | lss =>
    have h : cmpT (ltK kd a b) c = r := h
    rw [cmpT_eq] at h
    refine ⟨_, .bool (ltK kd a b), h, ?_, .bool _⟩
    have e : decide (kd.wrap (a : Int) < kd.wrap (b : Int)) = ltK kd a b := by rw [Bool.eq_iff_iff, decide_eq_true_iff]; exact (ltK_iff kd ha hb).symm
    simp [Go.binOp, Op.intCmp, e]
  | leq =>
    have h : cmpF (ltK kd b a) c = r := h
    rw [cmpF_eq] at h
    refine ⟨_, .bool (!(ltK kd b a)), h, ?_, .bool _⟩
    have e : decide (kd.wrap (a : Int) ≤ kd.wrap (b : Int)) = !(ltK kd b a) := by
      have := ltK_iff kd hb ha
      cases q : ltK kd b a
      · rw [q] at this; simp at this; simpa using this
      · rw [q] at this; simp at this; simpa using this
    simp [Go.binOp, Op.intCmp, e]
  | gtr =>
    have h : cmpT (ltK kd b a) c = r := h
    rw [cmpT_eq] at h
    refine ⟨_, .bool (ltK kd b a), h, ?_, .bool _⟩
    have e : decide (kd.wrap (b : Int) < kd.wrap (a : Int)) = ltK kd b a := by rw [Bool.eq_iff_iff, decide_eq_true_iff]; exact (ltK_iff kd hb ha).symm
    simp [Go.binOp, Op.intCmp, e]
  | geq =>
    have h : cmpF (ltK kd a b) c = r := h
    rw [cmpF_eq] at h
    refine ⟨_, .bool (!(ltK kd a b)), h, ?_, .bool _⟩
    have e : decide (kd.wrap (b : Int) ≤ kd.wrap (a : Int)) = !(ltK kd a b) := by
      have := ltK_iff kd ha hb
      cases q : ltK kd a b
      · rw [q] at this; simp at this; simpa using this
      · rw [q] at this; simp at this; simpa using this
    simp [Go.binOp, Op.intCmp, e]
end ops
end Ev
end
/- This text proves that the evaluator's shifts, string operations and comparisons stand for the model's. -/
section
namespace Ev
open Go
section ops
variable {P : Program} {o : Oper} {ρ : Operand → Value} {φ : Phi} {st : St} {w : World} {fr : Tr AV} {k : AV → St → Res} {r : Res}

theorem kbits_le (k : IntKind) : k.bits ≤ 64 := by cases k <;> decide
theorem shl_emod (k : IntKind) (x : Int) (a b : Nat) (h : x % (kmod k : Int) = a) : (x * 2 ^ (min b k.bits)) % (kmod k : Int) = ((a * 2 ^ b : Nat) : Int) % (kmod k : Int) := by
  by_cases hb : b ≤ k.bits
  · have q : ((a : Nat) : Int) % (kmod k : Int) = a := by rw [← h]; exact Int.emod_emod _ _
    rw [Nat.min_eq_left hb, Int.mul_emod x, Int.natCast_mul, Int.natCast_pow, Int.mul_emod (a : Int), h, q]
    rfl
  · rw [Nat.min_eq_right (by omega)]
    have e1 : x * 2 ^ k.bits = x * (kmod k : Int) := by rw [kmod_int]
    have e2 : ((a * 2 ^ b : Nat) : Int) = ((a * 2 ^ (b - k.bits) : Nat) : Int) * (kmod k : Int) := by
      rw [kmod_eq, ← Int.natCast_mul, Nat.mul_assoc, ← Nat.pow_add, show b - k.bits + k.bits = b by omega]
    rw [e1, e2, Int.mul_emod_left, Int.mul_emod_left]
theorem shr_low {k : IntKind} {a b : Nat} (ha : a < khalf k) : ((a : Int)).fdiv (2 ^ (min b k.bits)) = ((Nat.shiftRight a b : Nat) : Int) := by
  have hs : Nat.shiftRight a b = a / 2 ^ b := Nat.shiftRight_eq_div_pow a b
  rw [hs]
  have hlt : a < 2 ^ k.bits := by rw [← kmod_eq]; exact Nat.lt_of_lt_of_le ha (khalf_le k)
  have key : ∀ n : Nat, ((a : Int)).fdiv (2 ^ n) = ((a / 2 ^ n : Nat) : Int) := fun n => by
    have e : (2 : Int) ^ n = ((2 ^ n : Nat) : Int) := by rw [Int.natCast_pow]; rfl
    rw [e, Int.fdiv_eq_ediv_of_nonneg _ (Int.natCast_nonneg _), Int.natCast_ediv]
  rw [key]
  by_cases hb : b ≤ k.bits
  · rw [Nat.min_eq_left hb]
  · rw [Nat.min_eq_right (by omega), Nat.div_eq_of_lt hlt, Nat.div_eq_of_lt (Nat.lt_of_lt_of_le hlt (Nat.pow_le_pow_right (by decide) (by omega)))]

theorem shOf_sound {op : BinOp} {kd j : IntKind} {a b : Nat} {c : AV → Res} {d : Res} (h : shOf op kd j a b c d = r) (hr : NF r) (ha : a < kmod kd) (t : TypeId) (φ : Phi) (w : World) :
    (∃ v x, c v = r ∧ (Go.binOp op t (.int kd (kd.wrap (a : Int))) (.int j (j.wrap (b : Int)))).run P w = .ok x w ∧ VR φ 0 v [x]) ∨ (d = r ∧ op ≠ .shl ∧ op ≠ .shr) := by
  have ea := wrap_nat_emod kd ha
  cases op with
  | shl =>
    left
    have h : ifB (nonneg j b) (ifB (Nat.blt b 65) (kint kd (Nat.mod (Nat.shiftLeft a b) (kmod kd)) c) (bad 27)) (bad 28) = r := h
    rcases ifB_cases (nonneg j b) (ifB (Nat.blt b 65) (kint kd (Nat.mod (Nat.shiftLeft a b) (kmod kd)) c) (bad 27)) (bad 28) with ⟨hn, he⟩ | ⟨_, he⟩
    rotate_left
    · exact hr.no h he
    rw [he] at h
    rcases ifB_cases (Nat.blt b 65) (kint kd (Nat.mod (Nat.shiftLeft a b) (kmod kd)) c) (bad 27) with ⟨_, he⟩ | ⟨_, he⟩
    rotate_left
    · exact hr.no h he
    rw [he, kint_eq] at h
    have hs : Nat.shiftLeft a b = a * 2 ^ b := Nat.shiftLeft_eq a b
    rw [hs] at h
    have hneg : ¬ ((b : Int) < 0) := by omega
    exact ⟨_, .int kd (kd.wrap (kd.wrap (a : Int) * 2 ^ (min b kd.bits))), h, by simp [Go.binOp, Op.shift, nonneg_t hn, hneg], .arith kd (shl_emod kd _ a b ea)⟩
  | shr =>
    left
    have h : ifB (nonneg kd a) (ifB (nonneg j b) (ifB (Nat.blt b 65) (kint kd (Nat.shiftRight a b) c) (bad 29)) (bad 30)) (bad 31) = r := h
    rcases ifB_cases (nonneg kd a) (ifB (nonneg j b) (ifB (Nat.blt b 65) (kint kd (Nat.shiftRight a b) c) (bad 29)) (bad 30)) (bad 31) with ⟨hna, he⟩ | ⟨_, he⟩
    rotate_left
    · exact hr.no h he
    rw [he] at h
    rcases ifB_cases (nonneg j b) (ifB (Nat.blt b 65) (kint kd (Nat.shiftRight a b) c) (bad 29)) (bad 30) with ⟨hn, he⟩ | ⟨_, he⟩
    rotate_left
    · exact hr.no h he
    rw [he] at h
    rcases ifB_cases (Nat.blt b 65) (kint kd (Nat.shiftRight a b) c) (bad 29) with ⟨_, he⟩ | ⟨_, he⟩
    rotate_left
    · exact hr.no h he
    rw [he, kint_eq] at h
    have hla : a < khalf kd := Nat.le_of_ble_eq_true hna
    have hd : Nat.shiftRight a b < khalf kd := by
      have : Nat.shiftRight a b = a / 2 ^ b := Nat.shiftRight_eq_div_pow a b
      rw [this]; exact Nat.lt_of_le_of_lt (Nat.div_le_self _ _) hla
    have hneg : ¬ ((b : Int) < 0) := by omega
    have e := shr_low (b := b) hla
    exact ⟨_, .int kd (Nat.shiftRight a b : Nat), h, by simp [Go.binOp, Op.shift, nonneg_t hna, nonneg_t hn, hneg, e], .nat hd⟩
  | _ => exact .inr ⟨h, by simp, by simp⟩

theorem kindIs_cases {R : Type} (a b : IntKind) (t e : R) : (a = b ∧ kindIs a b t e = t) ∨ kindIs a b t e = e := by
  cases a <;> cases b <;> first | exact .inl ⟨rfl, rfl⟩ | exact .inr rfl

/-! strings -/
theorem sapp_eq {R : Type} (b : List Nat) : ∀ (a : List Nat) (k : List Nat → R), sapp b a k = k (a ++ b)
  | [], _ => rfl
  | x :: a, k => sapp_eq b a fun l => k (x :: l)
theorem slen_eq : ∀ l : List Nat, slen l = l.length
  | [] => rfl
  | _ :: l => by show Nat.succ (slen l) = _; rw [slen_eq l]; rfl
theorem seq_eq {R : Type} (t e : R) : ∀ a b : List Nat, seq a b t e = if a = b then t else e
  | [], [] => by rw [if_pos rfl]; rfl
  | [], _ :: _ => by rw [if_neg (by simp)]; rfl
  | _ :: _, [] => by rw [if_neg (by simp)]; rfl
  | x :: a, y :: b => by
    show ifB (Nat.beq x y) (seq a b t e) e = _
    by_cases q : x = y
    · subst q
      rw [show Nat.beq x x = true from Nat.beq_refl x]
      show seq a b t e = _
      rw [seq_eq t e a b]
      by_cases p : a = b
      · rw [if_pos p, if_pos (by rw [p])]
      · rw [if_neg p, if_neg (by simp [p])]
    · rw [beq_f q, if_neg (by simp [q])]; rfl
theorem toNat_inj {a b : List UInt8} (h : a.map UInt8.toNat = b.map UInt8.toNat) : a = b := by
  induction a generalizing b with
  | nil => cases b with
    | nil => rfl
    | cons y b => simp at h
  | cons x a ih => cases b with
    | nil => simp at h
    | cons y b =>
      simp only [List.map_cons, List.cons.injEq] at h
      rw [ih h.2, UInt8.toNat_inj.1 h.1]
theorem str_eq {s t : ByteArray} : (s.toList == t.toList) = decide (s.data.toList.map UInt8.toNat = t.data.toList.map UInt8.toNat) := by
  rw [ByteArray.toList_eq, ByteArray.toList_eq]
  by_cases h : s.data.toList = t.data.toList
  · rw [h]; simp
  · rw [decide_eq_false fun e => h (toNat_inj e)]
    simpa using h

theorem eqOf_cases (op : BinOp) (c : AV → Res) (d : Res) (b : Bool) : (op = .eql ∧ eqOf op c d b = c (.bool b)) ∨ (op = .neq ∧ eqOf op c d b = c (.bool !b)) ∨ eqOf op c d b = d := by
  cases op <;> first
    | exact .inl ⟨rfl, cmpT_eq b c⟩
    | exact .inr (.inl ⟨rfl, cmpF_eq b c⟩)
    | exact .inr (.inr rfl)

/-- the comparisons that the model makes by 'equal' -/
def Eqs (x y : Value) : Prop := ∀ t, Go.binOp .eql t x y = (do pure (.bool (← Op.equal t x y))) ∧ Go.binOp .neq t x y = (do pure (.bool (!(← Op.equal t x y))))

theorem run_eqGuard_plain (op : BinOp) (t : TypeId) (p q : Operand) {x y : Value} (h1 : x ≠ .nilIface) (h2 : ∀ cs, x ≠ .agg cs) (w : World) : (eqGuard op t p q x y).run P w = .ok () w := by
  unfold eqGuard
  cases op <;> cases x <;> first
    | rfl
    | (exact absurd rfl h1)
    | (exact absurd rfl (h2 _))
    | (cases y <;> rfl)
theorem eqs_plain {x y : Value} (h : (∃ a, x = .pointer a ∧ ∃ b, y = .pointer b) ∨ (∃ a l c, x = .slice a l c) ∨ (∃ b, x = .bool b) ∨ (∃ cs, x = .agg cs)) : Eqs x y := by
  intro t
  rcases h with ⟨a, rfl, b, rfl⟩ | ⟨a, l, c, rfl⟩ | ⟨b, rfl⟩ | ⟨cs, rfl⟩
  · exact ⟨rfl, rfl⟩
  · cases y <;> exact ⟨rfl, rfl⟩
  · cases y <;> exact ⟨rfl, rfl⟩
  · cases y <;> exact ⟨rfl, rfl⟩

/-- a cell of a kind -/
inductive KM : Kd → Value → Prop
  | bool (b : Bool) : KM .bool (.bool b)
  | int (k : IntKind) (n : Int) : KM (.int k) (.int k n)
  | str (s : ByteArray) : KM .str (.string s)
inductive CM : List Kd → List Value → Prop
  | nil : CM [] []
  | cons (k : Kd) (ks : List Kd) (v : Value) (vs : List Value) : KM k v → CM ks vs → CM (k :: ks) (v :: vs)
theorem CM.length {ks : List Kd} {cs : List Value} (h : CM ks cs) : cs.length = ks.length := by
  induction h with
  | nil => rfl
  | cons _ _ _ _ _ _ ih => simp [ih]
theorem CM.split : ∀ {a b : List Kd} {cs : List Value}, CM (a ++ b) cs → CM a (cs.take a.length) ∧ CM b (cs.drop a.length)
  | [], b, cs, h => ⟨by rw [List.length_nil, List.take_zero]; exact .nil, by simpa using h⟩
  | k :: a, b, cs, h => by
    cases h with
    | cons _ _ v vs h1 h2 =>
    obtain ⟨q1, q2⟩ := CM.split h2
    exact ⟨by rw [List.length_cons, List.take_succ_cons]; exact .cons _ _ _ _ h1 q1, by rw [List.length_cons, List.drop_succ_cons]; exact q2⟩

theorem ba_beq (s t : ByteArray) : (s == t) = decide (s = t) := by
  show (s.data == t.data) = _
  by_cases h : s = t
  · subst h; simp
  · rw [decide_eq_false h]
    have : s.data ≠ t.data := fun q => h (by cases s; cases t; simp at q; rw [q])
    simp [this]
theorem bytes_inj : ∀ {x y : List UInt8}, x.map UInt8.toNat = y.map UInt8.toNat → x = y
  | [], [], _ => rfl
  | [], _ :: _, h => by cases h
  | _ :: _, [], h => by cases h
  | a :: x, b :: y, h => by
    simp only [List.map_cons, List.cons.injEq] at h
    rw [bytes_inj h.2, UInt8.toNat_inj.1 h.1]
theorem str_inj {s t : ByteArray} (h : s.data.toList.map UInt8.toNat = t.data.toList.map UInt8.toNat) : s = t := by
  have h3 := bytes_inj h
  cases s; cases t
  simp only [ByteArray.mk.injEq]
  exact Array.toList_inj.1 h3

theorem kdOn_eq {R : Type} (kd : Kd) (a : R) (f : IntKind → R) (s : R) : kdOn kd a f s = match kd with | .bool => a | .int k => f k | .str => s := by cases kd <;> rfl
open Classical in
theorem cellK_cases {R : Type} {kd : Kd} {a b : AV} {x y : Value} (ha : VR φ 0 a [x]) (hb : VR φ 0 b [y]) (kk : Bool → R) (d : R) :
    (∃ t, cellK kd a b kk d = kk t ∧ KM kd x ∧ KM kd y ∧ t = decide (x = y)) ∨ cellK kd a b kk d = d := by
  unfold cellK
  rw [kdOn_eq]
  cases kd with
  | bool =>
    rcases onBool_cases a (fun x => onBool b (fun y => kk (ifB x y (ifB y false true))) d) d with ⟨u, rfl, he⟩ | he
    rotate_left
    · exact .inr he
    simp only [he]
    rcases onBool_cases b (fun y => kk (ifB u y (ifB y false true))) d with ⟨v, rfl, he⟩ | he
    rotate_left
    · exact .inr he
    cases ha; cases hb
    exact .inl ⟨_, he, .bool _, .bool _, by cases u <;> cases v <;> simp [ifB]⟩
  | str =>
    rcases onStr_cases a (fun x => onStr b (fun y => seq x y (kk true) (kk false)) d) d with ⟨u, rfl, he⟩ | he
    rotate_left
    · exact .inr he
    simp only [he]
    rcases onStr_cases b (fun y => seq u y (kk true) (kk false)) d with ⟨v, rfl, he⟩ | he
    rotate_left
    · exact .inr he
    cases ha with
    | str _ s hs => cases hb with
      | str _ s' hs' =>
      rw [he, seq_eq]
      by_cases hq : u = v
      · rw [if_pos hq]
        have : s = s' := str_inj (hs.trans (hq.trans hs'.symm))
        subst this
        exact .inl ⟨true, rfl, .str _, .str _, by simp⟩
      · rw [if_neg hq]
        have : s ≠ s' := fun q => by subst q; exact hq (hs.symm.trans hs')
        exact .inl ⟨false, rfl, .str _, .str _, by simp [this]⟩
  | int kq =>
    rcases onInt_cases a (fun ka x => onInt b (fun kb y => kindIs kq ka (kindIs kq kb (kk (Nat.beq x y)) d) d) d) d with ⟨ka, m, rfl, he⟩ | he
    rotate_left
    · exact .inr he
    simp only [he]
    rcases onInt_cases b (fun kb y => kindIs kq ka (kindIs kq kb (kk (Nat.beq m y)) d) d) d with ⟨kb, n, rfl, he⟩ | he
    rotate_left
    · exact .inr he
    rw [he]
    rcases kindIs_cases kq ka (kindIs kq kb (kk (Nat.beq m n)) d) d with ⟨rfl, he⟩ | he
    rotate_left
    · exact .inr he
    rw [he]
    rcases kindIs_cases kq kb (kk (Nat.beq m n)) d with ⟨rfl, he⟩ | he
    rotate_left
    · exact .inr he
    cases ha with
    | int _ _ hm => cases hb with
      | int _ _ hn =>
      refine .inl ⟨_, he, .int _ _, .int _ _, ?_⟩
      by_cases hq : m = n
      · subst hq; simp
      · have hne : kq.wrap (m : Int) ≠ kq.wrap (n : Int) := fun q => hq (wrap_inj kq hm hn q)
        have : Nat.beq m n = false := by
          cases e : Nat.beq m n
          · rfl
          · exact absurd (Nat.eq_of_beq_eq_true e) hq
        rw [this]
        simp [hne]
open Classical in
theorem listEq_cases : ∀ (ks : List Kd) {a b : AV} {cs cs' : List Value}, VR φ 2 a cs → VR φ 2 b cs' → ∀ {R : Type} (kk : Bool → R) (d : R),
    (∃ t, listEq ks a b kk d = kk t ∧ CM ks cs ∧ CM ks cs' ∧ t = decide (cs = cs')) ∨ listEq ks a b kk d = d
  | [], a, b, cs, cs', ha, hb, R, kk, d => by
    show (∃ t, onList a (onList b (kk true) (fun _ _ => d) d) (fun _ _ => d) d = kk t ∧ _) ∨ onList a (onList b (kk true) (fun _ _ => d) d) (fun _ _ => d) d = d
    rcases onList_cases a (onList b (kk true) (fun _ _ => d) d) (fun _ _ => d) d with ⟨rfl, he⟩ | ⟨_, _, _, he⟩ | he
    · rw [he]
      rcases onList_cases b (kk true) (fun _ _ => d) d with ⟨rfl, he⟩ | ⟨_, _, _, he⟩ | he
      · cases ha; cases hb
        exact .inl ⟨true, he, .nil, .nil, by simp⟩
      · exact .inr he
      · exact .inr he
    · exact .inr he
    · exact .inr he
  | kd :: ks, a, b, cs, cs', ha, hb, R, kk, d => by
    show (∃ t, onCons a (fun x a => onCons b (fun y b => cellK kd x y (fun t => listEq ks a b (fun u => kk (ifB t u false)) d) d) d) d = kk t ∧ _) ∨ onCons a (fun x a => onCons b (fun y b => cellK kd x y (fun t => listEq ks a b (fun u => kk (ifB t u false)) d) d) d) d = d
    rcases onCons_cases a (fun x a => onCons b (fun y b => cellK kd x y (fun t => listEq ks a b (fun u => kk (ifB t u false)) d) d) d) d with ⟨x, a', rfl, he⟩ | he
    rotate_left
    · exact .inr he
    rw [he]
    rcases onCons_cases b (fun y b => cellK kd x y (fun t => listEq ks a' b (fun u => kk (ifB t u false)) d) d) d with ⟨y, b', rfl, he⟩ | he
    rotate_left
    · exact .inr he
    rw [he]
    cases ha with
    | cons2 _ _ vx xs h1 _ h2 => cases hb with
      | cons2 _ _ vy ys h3 _ h4 =>
      rcases cellK_cases (kd := kd) h1 h3 (fun t => listEq ks a' b' (fun u => kk (ifB t u false)) d) d with ⟨t, he, k1, k2, rfl⟩ | he
      rotate_left
      · exact .inr he
      rw [he]
      rcases listEq_cases ks h2 h4 (fun u => kk (ifB (decide (vx = vy)) u false)) d with ⟨u, he, k3, k4, rfl⟩ | he
      · refine .inl ⟨_, he, .cons _ _ _ _ k1 k3, .cons _ _ _ _ k2 k4, ?_⟩
        by_cases hq : vx = vy
        · by_cases hq2 : xs = ys <;> simp [hq, hq2, ifB]
        · simp [hq, ifB]
      · exact .inr he

/-- how the cells of a value of a type stand to it -/
def Formed (P : Program) (t : TypeId) (cs : List Value) (x : Value) : Prop :=
  match und P t with
  | some (.struct _) => x = .agg ⟨cs⟩
  | some (.array _ _) => x = .agg ⟨cs⟩
  | _ => cs = [x]
theorem flat_part {d : Nat} {e : TypeId} {ks : List Kd} {i : TypeInfo} (hk : flatKinds P d e = some ks) (hi : inf P e = some i) (hl : ks.length = i.size) {cs : List Value} {off : Nat} (h : CM ks ((cs.drop off).take i.size)) (w : World) :
    ∃ x, (part e ⟨cs⟩ off).run P w = .ok x w ∧ Formed P e ((cs.drop off).take i.size) x := by
  cases d with
  | zero => cases hk
  | succ d =>
    unfold flatKinds at hk
    unfold Formed
    cases hu : und P e with
    | none => rw [hu] at hk; cases hk
    | some dd =>
      rw [hu] at hk
      have hu' := und_sound hu
      have agg : ((∃ gs, dd = .struct gs) ∨ (∃ m e, dd = .array m e)) → (part e ⟨cs⟩ off).run P w = .ok (.agg ⟨(cs.drop off).take i.size⟩) w := fun q => by
        rw [part_many hu' q (inf_sound hi), extract_list]
      have one : (∀ fs, dd ≠ .struct fs) → (∀ n e, dd ≠ .array n e) → ks.length = 1 → ∃ x, (part e ⟨cs⟩ off).run P w = .ok x w ∧ (cs.drop off).take i.size = [x] := fun q1 q2 q3 => by
        have hlen := h.length
        rw [q3] at hlen
        obtain ⟨x, hx⟩ := List.length_eq_one_iff.1 hlen
        refine ⟨x, part_one hu' q1 q2 ?_ w, hx⟩
        have h0 : ((cs.drop off).take i.size)[0]? = some x := by rw [hx]; rfl
        rw [List.getElem?_take] at h0
        split at h0
        · rw [List.getElem?_drop, Nat.add_zero] at h0
          simpa using h0
        · cases h0
      cases dd with
      | struct fs => exact ⟨_, agg (.inl ⟨_, rfl⟩), rfl⟩
      | array n e' => exact ⟨_, agg (.inr ⟨_, _, rfl⟩), rfl⟩
      | bool => cases hk; exact one (by simp) (by simp) rfl
      | int k => cases hk; exact one (by simp) (by simp) rfl
      | string => cases hk; exact one (by simp) (by simp) rfl
      | _ => cases hk

open Classical in
/-- the claim about one type -/
def FlatAt (P : Program) (w : World) (D d : Nat) : Prop := ∀ t ks cs cs' x y, flatKinds P d t = some ks → CM ks cs → CM ks cs' → Formed P t cs x → Formed P t cs' y → (Op.equalIn (D + d) t x y).run P w = .ok (decide (cs = cs')) w
theorem take_drop_eq {n m : Nat} {xs ys : List Value} : (xs.drop n = ys.drop n) ↔ ((xs.drop n).take m = (ys.drop n).take m ∧ xs.drop (n + m) = ys.drop (n + m)) := by
  constructor
  · intro h
    exact ⟨by rw [h], by rw [← List.drop_drop, ← List.drop_drop, h]⟩
  · intro ⟨h1, h2⟩
    rw [← List.take_append_drop m (xs.drop n), ← List.take_append_drop m (ys.drop n), h1, List.drop_drop, List.drop_drop, h2]
open Classical in
theorem flat_fields {D d : Nat} (IH : FlatAt P w D d) (cs cs' : List Value) : ∀ (l : List Field) (n : Nat) (ks : List Kd), fieldKinds (flatKinds P d) P n l = some ks → CM ks (cs.drop n) → CM ks (cs'.drop n) →
    (Op.eqFields (D + d) ⟨cs⟩ ⟨cs'⟩ l).run P w = .ok (decide (cs.drop n = cs'.drop n)) w
  | [], n, ks, h, h1, h2 => by
    cases h
    have e1 : cs.drop n = [] := by
      generalize cs.drop n = c at h1
      cases h1; rfl
    have e2 : cs'.drop n = [] := by
      generalize cs'.drop n = c at h2
      cases h2; rfl
    simp [Op.eqFields, e1, e2]
  | f :: l, n, ks, h, h1, h2 => by
    unfold fieldKinds at h
    split at h
    · next hc =>
      simp only [Bool.and_eq_true, beq_iff_eq, bne_iff_ne, ne_eq] at hc
      cases hg : flatKinds P d f.type with
      | none => rw [hg] at h; cases h
      | some kf =>
        cases hi : inf P f.type with
        | none => rw [hg, hi] at h; cases h
        | some i =>
          rw [hg, hi] at h
          simp only at h
          split at h
          · next hl =>
            have hl : kf.length = i.size := by simpa using hl
            cases hr : fieldKinds (flatKinds P d) P (n + i.size) l with
            | none => rw [hr] at h; cases h
            | some r =>
              rw [hr] at h
              cases h
              obtain ⟨a1, a2⟩ := h1.split
              obtain ⟨b1, b2⟩ := h2.split
              rw [hl] at a1 a2 b1 b2
              rw [List.drop_drop] at a2 b2
              obtain ⟨x, p1, f1⟩ := flat_part hg hi hl (off := n) a1 w
              obtain ⟨y, p2, f2⟩ := flat_part hg hi hl (off := n) b1 w
              have he := IH _ _ _ _ x y hg a1 b1 f1 f2
              have hrest := flat_fields IH cs cs' l (n + i.size) r hr a2 b2
              have ho : f.offset = n := hc.1
              simp only [Op.eqFields, hc.2, ne_eq, not_false_eq_true, if_true, Sem.run_bind, ho, p1, p2, he, Result.andThen_ok]
              by_cases hq : (cs.drop n).take i.size = (cs'.drop n).take i.size
              · rw [if_neg (by simp [hq]), hrest]
                congr 1
                simp only [decide_eq_decide]
                rw [take_drop_eq (n := n) (m := i.size)]
                simp [hq]
              · rw [if_pos (by simp [hq])]
                rw [show decide (cs.drop n = cs'.drop n) = false from decide_eq_false fun e => hq (by rw [e])]
                rfl
          · cases h
    · cases h
open Classical in
theorem flat_items {D d : Nat} (IH : FlatAt P w D d) {e : TypeId} {ke : List Kd} {i : TypeInfo} (hk : flatKinds P d e = some ke) (hi : inf P e = some i) (hl : ke.length = i.size) (cs cs' : List Value) : ∀ (m s : Nat), CM (List.replicate m ke).flatten (cs.drop (s * i.size)) → CM (List.replicate m ke).flatten (cs'.drop (s * i.size)) →
    (Op.eqItems (D + d) e i.size ⟨cs⟩ ⟨cs'⟩ (List.range' s m)).run P w = .ok (decide (cs.drop (s * i.size) = cs'.drop (s * i.size))) w
  | 0, s, h1, h2 => by
    have e1 : cs.drop (s * i.size) = [] := by
      generalize cs.drop (s * i.size) = c at h1
      cases h1; rfl
    have e2 : cs'.drop (s * i.size) = [] := by
      generalize cs'.drop (s * i.size) = c at h2
      cases h2; rfl
    simp [Op.eqItems, e1, e2]
  | m + 1, s, h1, h2 => by
    rw [List.replicate_succ, List.flatten_cons] at h1 h2
    obtain ⟨a1, a2⟩ := h1.split
    obtain ⟨b1, b2⟩ := h2.split
    rw [hl] at a1 a2 b1 b2
    rw [List.drop_drop, ← Nat.succ_mul] at a2 b2
    obtain ⟨x, p1, f1⟩ := flat_part hk hi hl (off := s * i.size) a1 w
    obtain ⟨y, p2, f2⟩ := flat_part hk hi hl (off := s * i.size) b1 w
    have he := IH _ _ _ _ x y hk a1 b1 f1 f2
    have hrest := flat_items IH hk hi hl cs cs' m (s + 1) a2 b2
    rw [List.range'_succ]
    simp only [Op.eqItems, Sem.run_bind, p1, p2, he, Result.andThen_ok]
    by_cases hq : (cs.drop (s * i.size)).take i.size = (cs'.drop (s * i.size)).take i.size
    · rw [if_neg (by simp [hq]), hrest]
      congr 1
      simp only [decide_eq_decide]
      rw [take_drop_eq (n := s * i.size) (m := i.size), Nat.succ_mul]
      simp [hq]
    · rw [if_pos (by simp [hq])]
      rw [show decide (cs.drop (s * i.size) = cs'.drop (s * i.size)) = false from decide_eq_false fun e => hq (by rw [e])]
      rfl
open Classical in
theorem flat_at (D : Nat) : ∀ d, FlatAt P w D d
  | 0 => fun t ks cs cs' x y h => by cases h
  | d + 1 => fun t ks cs cs' x y h h1 h2 f1 f2 => by
    have IH := flat_at D d
    unfold flatKinds at h
    unfold Formed at f1 f2
    cases hu : und P t with
    | none => rw [hu] at h; cases h
    | some dd =>
      rw [hu] at h f1 f2
      have hu' := und_sound hu
      cases dd with
      | bool =>
        cases h
        simp only at f1 f2
        subst f1; subst f2
        cases h1 with | cons _ _ _ _ q _ => cases h2 with | cons _ _ _ _ q' _ =>
        cases q; cases q'
        rw [show D + (d + 1) = (D + d) + 1 from rfl]
        unfold Op.equalIn
        simp [run_underlying hu']
        rename_i a b
        cases a <;> cases b <;> rfl
      | int k =>
        cases h
        simp only at f1 f2
        subst f1; subst f2
        cases h1 with | cons _ _ _ _ q _ => cases h2 with | cons _ _ _ _ q' _ =>
        cases q; cases q'
        rw [show D + (d + 1) = (D + d) + 1 from rfl]
        unfold Op.equalIn
        rename_i m n
        by_cases hq : m = n <;> simp [run_underlying hu', hq]
      | string =>
        cases h
        simp only at f1 f2
        subst f1; subst f2
        cases h1 with | cons _ _ _ _ q _ => cases h2 with | cons _ _ _ _ q' _ =>
        cases q; cases q'
        rw [show D + (d + 1) = (D + d) + 1 from rfl]
        unfold Op.equalIn
        simp [run_underlying hu', ba_beq]
      | array n e =>
        simp only at h f1 f2
        subst f1; subst f2
        cases hk : flatKinds P d e with
        | none => rw [hk] at h; cases h
        | some ke =>
          cases hi : inf P e with
          | none => rw [hk, hi] at h; cases h
          | some i =>
            rw [hk, hi] at h
            simp only at h
            split at h
            · next hl =>
              cases h
              have hl : ke.length = i.size := by simpa using hl
              have hi' := inf_sound hi
              have hc : P.cellsOf e = i.size := by unfold Program.cellsOf; simp [hi']
              have := flat_items IH hk hi hl cs cs' n 0 (by rwa [Nat.zero_mul, List.drop_zero]) (by rwa [Nat.zero_mul, List.drop_zero])
              rw [show D + (d + 1) = (D + d) + 1 from rfl, run_equalIn_array w (D + d) ⟨cs⟩ ⟨cs'⟩ hu' hi', hc, List.range_eq_range', this, Nat.zero_mul, List.drop_zero, List.drop_zero]
            · cases h
      | struct fs =>
        simp only at h f1 f2
        subst f1; subst f2
        split at h
        · cases h
        · next hs =>
          have hs : P.stoodInHeld t = false := by simpa using hs
          have hf : P.fieldsOf t = fs := by unfold Program.fieldsOf; rw [hu']
          have := flat_fields IH cs cs' fs.toList 0 ks h (by rwa [List.drop_zero]) (by rwa [List.drop_zero])
          rw [show D + (d + 1) = (D + d) + 1 from rfl, run_equalIn_struct w (D + d) t ⟨cs⟩ ⟨cs'⟩ (by rw [hf]; exact hu') hs, hf, this, List.drop_zero, List.drop_zero]
      | _ => cases h

open Classical in
/-- what the comparison of two flat aggregates comes to -/
theorem aggEq {t : TypeId} {ks : List Kd} {l l' : AV} {cs cs' : List Value} (ht : aggKinds P t = some ks) (h1 : VR φ 2 l cs) (h2 : VR φ 2 l' cs') (kk : Bool → Res) (d : Res) :
    (∃ b, listEq ks l l' kk d = kk b ∧ (Op.equal t (.agg ⟨cs⟩) (.agg ⟨cs'⟩)).run P w = .ok b w) ∨ listEq ks l l' kk d = d := by
  rcases listEq_cases ks h1 h2 kk d with ⟨b, he, c1, c2, rfl⟩ | he
  · refine .inl ⟨_, he, ?_⟩
    unfold aggKinds at ht
    split at ht
    · cases ht
    · have key : flatKinds P 8 t = some ks → Formed P t cs (.agg ⟨cs⟩) → Formed P t cs' (.agg ⟨cs'⟩) → (Op.equal t (.agg ⟨cs⟩) (.agg ⟨cs'⟩)).run P w = .ok (decide (cs = cs')) w := fun q f1 f2 =>
        flat_at (P := P) (w := w) 9992 8 t ks cs cs' _ _ q c1 c2 f1 f2
      cases hu : und P t with
      | none => rw [hu] at ht; cases ht
      | some dd =>
        rw [hu] at ht
        cases dd with
        | struct fs => exact key ht (by unfold Formed; rw [hu]) (by unfold Formed; rw [hu])
        | array n e => exact key ht (by unfold Formed; rw [hu]) (by unfold Formed; rw [hu])
        | _ => cases ht
  · exact .inr he
theorem aggKinds_guard {t : TypeId} {ks : List Kd} (ht : aggKinds P t = some ks) : P.eqGuardType P.depth t = false := by
  unfold aggKinds at ht
  split at ht
  · cases ht
  · next h => simpa using h
theorem kindsOn_cases {R : Type} (o : Option (List Kd)) (kk : List Kd → R) (d : R) : (∃ l, o = some l ∧ kindsOn o kk d = kk l) ∨ kindsOn o kk d = d := by
  cases o with
  | none => exact .inr rfl
  | some l => exact .inl ⟨l, rfl, rfl⟩

theorem isPtrT_t {t : TypeId} (h : isPtrT P t = true) : ∃ e, P.underlying t = some (.pointer e) := by
  unfold isPtrT at h
  split at h
  · next e he => exact ⟨e, und_sound he⟩
  · cases h
theorem isSlT_t {t : TypeId} (h : isSlT P t = true) : ∃ e, P.underlying t = some (.slice e) := by
  unfold isSlT at h
  split at h
  · next e he => exact ⟨e, und_sound he⟩
  · cases h
theorem isBoolT_t {t : TypeId} (h : isBoolT P t = true) : P.underlying t = some .bool := by
  unfold isBoolT at h
  split at h
  · next he => exact und_sound he
  · cases h
theorem run_equal_unf (t : TypeId) (x y : Value) (w : World) : (Op.equal t x y).run P w = (Op.equalIn (9999 + 1) t x y).run P w := rfl

theorem eqK_sound {t : TypeId} {a b : AV} {x y : Value} {kk : Bool → Res} {d : Res} (ha : VR φ 0 a [x]) (hb : VR φ 0 b [y]) :
    (∃ v, eqK P t a b kk d = kk v ∧ (Op.equal t x y).run P w = .ok v w ∧ Eqs x y ∧ (∀ (op : BinOp) (p q : Operand), (eqGuard op t p q x y).run P w = .ok () w)) ∨ eqK P t a b kk d = d := by
  unfold eqK
  rcases onNptr_cases a _ _ _ with ⟨hv, he⟩ | ⟨p, i, hv, he⟩ | he
  · rw [he]
    subst hv
    rcases ifB_cases (isPtrT P t) _ d with ⟨ht, he⟩ | ⟨_, he⟩
    rotate_left
    · exact .inr he
    rw [he]
    obtain ⟨e, hu⟩ := isPtrT_t ht
    cases ha
    rcases onNptr_cases b (kk true) (fun _ _ => kk false) d with ⟨rfl, he⟩ | ⟨p, i, rfl, he⟩ | he
    · cases hb
      exact .inl ⟨true, he, by rw [run_equal_unf]; unfold Op.equalIn; simp [run_underlying hu], eqs_plain (.inl ⟨_, rfl, _, rfl⟩), fun op p q => run_eqGuard_plain op t p q (by simp) (by simp) w⟩
    · cases hb
      exact .inl ⟨false, he, by rw [run_equal_unf]; unfold Op.equalIn; simp [run_underlying hu], eqs_plain (.inl ⟨_, rfl, _, rfl⟩), fun op p q => run_eqGuard_plain op t p q (by simp) (by simp) w⟩
    · exact .inr he
  · rw [he]
    subst hv
    rcases ifB_cases (isPtrT P t) _ d with ⟨ht, he⟩ | ⟨_, he⟩
    rotate_left
    · exact .inr he
    rw [he]
    obtain ⟨e, hu⟩ := isPtrT_t ht
    cases ha
    rcases onNptr_cases b (kk false) (fun _ _ => d) d with ⟨rfl, he⟩ | ⟨p, i, rfl, he⟩ | he
    · cases hb
      exact .inl ⟨false, he, by rw [run_equal_unf]; unfold Op.equalIn; simp [run_underlying hu], eqs_plain (.inl ⟨_, rfl, _, rfl⟩), fun op p q => run_eqGuard_plain op t p q (by simp) (by simp) w⟩
    · exact .inr he
    · exact .inr he
  · rw [he]
    rcases onSl_cases a _ _ _ with ⟨hv, he⟩ | ⟨p, i, l, c, z, ex, hv, he⟩ | he
    · rw [he]
      subst hv
      rcases ifB_cases (isSlT P t) _ d with ⟨ht, he⟩ | ⟨_, he⟩
      rotate_left
      · exact .inr he
      rw [he]
      obtain ⟨e, hu⟩ := isSlT_t ht
      cases ha
      rcases onSl_cases b (kk true) (fun _ _ _ _ _ _ => kk false) d with ⟨rfl, he⟩ | ⟨p, i, l, c, z, ex, rfl, he⟩ | he
      · cases hb
        exact .inl ⟨true, he, by rw [run_equal_unf]; unfold Op.equalIn; simp [run_underlying hu], eqs_plain (.inr (.inl ⟨_, _, _, rfl⟩)), fun op p q => run_eqGuard_plain op t p q (by simp) (by simp) w⟩
      · cases hb
        exact .inl ⟨false, he, by rw [run_equal_unf]; unfold Op.equalIn; simp [run_underlying hu], eqs_plain (.inr (.inl ⟨_, _, _, rfl⟩)), fun op p q => run_eqGuard_plain op t p q (by simp) (by simp) w⟩
      · exact .inr he
    · rw [he]
      subst hv
      rcases ifB_cases (isSlT P t) _ d with ⟨ht, he⟩ | ⟨_, he⟩
      rotate_left
      · exact .inr he
      rw [he]
      obtain ⟨e, hu⟩ := isSlT_t ht
      cases ha
      rcases onSl_cases b (kk false) (fun _ _ _ _ _ _ => d) d with ⟨rfl, he⟩ | ⟨p, i, l, c, z, ex, rfl, he⟩ | he
      · cases hb
        exact .inl ⟨false, he, by rw [run_equal_unf]; unfold Op.equalIn; simp [run_underlying hu], eqs_plain (.inr (.inl ⟨_, _, _, rfl⟩)), fun op p q => run_eqGuard_plain op t p q (by simp) (by simp) w⟩
      · exact .inr he
      · exact .inr he
    · rw [he]
      rcases onBool_cases a _ _ with ⟨u, hv, he⟩ | he
      · rw [he]
        subst hv
        rcases ifB_cases (isBoolT P t) _ d with ⟨ht, he⟩ | ⟨_, he⟩
        rotate_left
        · exact .inr he
        rw [he]
        have hu := isBoolT_t ht
        cases ha
        rcases onBool_cases b (fun y => kk (ifB u y (ifB y false true))) d with ⟨v, rfl, he⟩ | he
        · cases hb
          refine .inl ⟨u == v, he.trans (congrArg kk (by cases u <;> cases v <;> rfl)), by rw [run_equal_unf]; unfold Op.equalIn; simp [run_underlying hu], eqs_plain (.inr (.inr (.inl ⟨_, rfl⟩))), fun op p q => run_eqGuard_plain op t p q (by simp) (by simp) w⟩
        · exact .inr he
      · rw [he]
        rcases onAgg_cases a _ _ with ⟨l, rfl, he⟩ | he
        · rw [he]
          rcases onAgg_cases b _ _ with ⟨l', rfl, he⟩ | he
          · rw [he]
            rcases kindsOn_cases (aggKinds P t) (fun ks => listEq ks l l' kk d) d with ⟨ks, ht, he⟩ | he
            · rw [he]
              cases ha with
              | agg _ cs hc =>
              cases hb with
              | agg _ cs' hc' =>
              rcases aggEq (P := P) (w := w) ht hc hc' kk d with ⟨v, h1, h2⟩ | h1
              · refine .inl ⟨v, h1, h2, eqs_plain (.inr (.inr (.inr ⟨_, rfl⟩))), fun op p q => ?_⟩
                have hg := aggKinds_guard ht
                unfold eqGuard
                cases op <;> simp [hg]
              · exact .inr h1
            · exact .inr he
          · exact .inr he
        · exact .inr he

theorem opBin_ok {op : BinOp} {t ty : TypeId} {x y : Operand} (h : opBin op t x y P fr st k = r) (hr : NF r) (sr : SR φ st w) (ho : o.op = .binOp op t x y ty) (hx : VR φ 0 (eo fr x) [ρ x]) (hy : VR φ 0 (eo fr y) [ρ y]) : Sound P o ρ φ st w k r := by
  unfold opBin at h
  rw [opnd_eq, opnd_eq] at h
  generalize eo fr x = a at *
  generalize eo fr y = b at *
  generalize hρx : ρ x = vx at hx
  generalize hρy : ρ y = vy at hy
  have fin : ∀ {v : AV} {z : Value}, k v st = r → (eqGuard op t x y vx vy).run P w = .ok () w → (Go.binOp op t vx vy).run P w = .ok z w → VR φ 0 v [z] → Sound P o ρ φ st w k r := by
    intro v z h1 h2 h3 h4
    refine .same sr h1 ?_ h4
    simp [execOp, ho, hρx, hρy, h2, h3]
  rcases onInt_cases a _ _ with ⟨ka, n, hv, he⟩ | he
  · rw [he] at h
    subst hv
    cases hx with
    | int _ _ hn =>
    rcases onInt_cases b _ (bad 33) with ⟨kb, m, rfl, he⟩ | he
    · rw [he] at h
      cases hy with
      | int _ _ hm =>
      have hg := run_eqGuard_plain (P := P) op t x y (x := .int ka (ka.wrap (n : Int))) (y := .int kb (kb.wrap (m : Int))) (by simp) (by simp) w
      rcases shOf_sound (P := P) h hr hn t φ w with ⟨v, z, e1, e2, e3⟩ | ⟨e, _, _⟩
      · exact fin e1 hg e2 e3
      · rcases kindIs_cases ka kb (binInt op ka n m fun v => k v st) (bad 32) with ⟨rfl, he⟩ | he
        · rw [he] at e
          obtain ⟨v, z, e1, e2, e3⟩ := binInt_sound (P := P) e hr hn hm t φ w
          exact fin e1 hg e2 e3
        · exact hr.no e he
    · exact hr.no h he
  · rw [he] at h
    rcases onStr_cases a _ _ with ⟨l, hv, he⟩ | he
    · rw [he] at h
      subst hv
      cases hx with
      | str _ s hs =>
      rcases onStr_cases b _ (bad 35) with ⟨l', rfl, he⟩ | he
      · rw [he] at h
        cases hy with
        | str _ s' hs' =>
        have hg := run_eqGuard_plain (P := P) op t x y (x := .string s) (y := .string s') (by simp) (by simp) w
        rw [seq_eq] at h
        have key : eqOf op (fun v => k v st) (bad 34) (if l = l' then true else false) = r → op ≠ .add → Sound P o ρ φ st w k r := by
          intro h _
          have hd : (if l = l' then true else false) = decide (l = l') := by by_cases q : l = l' <;> simp [q]
          rw [hd] at h
          rcases eqOf_cases op (fun v => k v st) (bad 34) (decide (l = l')) with ⟨rfl, he⟩ | ⟨rfl, he⟩ | he
          · rw [he] at h
            refine fin h hg ?_ (.bool _)
            simp [Go.binOp, Op.stringOp, str_eq, hs, hs']
          · rw [he] at h
            refine fin h hg ?_ (.bool _)
            simp [Go.binOp, Op.stringOp, str_eq, hs, hs']
          · exact hr.no h he
        cases op with
        | add =>
          have h : ifB (Nat.ble (Nat.add (slen l) (slen l')) 1099511627776) (sapp l' l fun l => k (.str l) st) (bad 19) = r := h
          rcases ifB_cases (Nat.ble (Nat.add (slen l) (slen l')) 1099511627776) (sapp l' l fun l => k (.str l) st) (bad 19) with ⟨hb, he⟩ | ⟨_, he⟩
          · rw [he, sapp_eq] at h
            have hlen : slen l + slen l' ≤ 1099511627776 := Nat.le_of_ble_eq_true hb
            rw [slen_eq, slen_eq, ← hs, ← hs', List.length_map, List.length_map] at hlen
            refine fin h hg (z := .string (s ++ s')) ?_ (.str _ _ ?_)
            · have : ¬ (((s.size + s'.size : Nat) : Int) > IntKind.i64.max) := by
                have e1 : s.size = s.data.toList.length := by simp
                have e2 : s'.size = s'.data.toList.length := by simp
                rw [e1, e2]
                show ¬ (_ > (9223372036854775807 : Int))
                omega
              simp only [Go.binOp, Op.stringOp]
              rw [if_neg this]
              rfl
            · rw [← hs, ← hs', ← List.map_append]
              congr 1
          · exact hr.no h he
        | _ => exact key h (by simp)
      · exact hr.no h he
    · rw [he] at h
      rcases eqK_sound (t := t) (kk := eqOf op (fun v => k v st) (bad 36)) (d := bad 37) hx hy with ⟨v, e1, e2, e3, e4⟩ | e
      · rw [e1] at h
        rcases eqOf_cases op (fun v => k v st) (bad 36) v with ⟨rfl, he⟩ | ⟨rfl, he⟩ | he
        · rw [he] at h
          exact fin h (e4 _ _ _) (by rw [(e3 t).1]; simp [e2]) (.bool v)
        · rw [he] at h
          exact fin h (e4 _ _ _) (by rw [(e3 t).2]; simp [e2]) (.bool _)
        · exact hr.no h he
      · exact hr.no h e
end ops
end Ev
end
/- This text proves that the evaluator's operations that build values and slices stand for the model's. -/
section
namespace Ev
open Go
section ops
variable {P : Program} {o : Oper} {ρ : Operand → Value} {φ : Phi} {st : St} {w : World} {fr : Tr AV} {k : AV → St → Res} {r : Res}

/-- the values of operands, as a list -/
noncomputable def eos (fr : Tr AV) : List Operand → AV
  | [] => .nil
  | x :: l => .cons (eo fr x) (eos fr l)
theorem opnds_eq {R : Type} (fr : Tr AV) : ∀ (l : List Operand) (k : AV → R), opnds l fr k = k (eos fr l)
  | [], _ => rfl
  | x :: l, k => by
    show opnd x fr (fun v => opnds l fr fun l => k (.cons v l)) = _
    rw [opnd_eq, opnds_eq fr l]; rfl
theorem eos_sound : ∀ (l : List Operand), (∀ x ∈ l, VR φ 0 (eo fr x) [ρ x]) → VR φ 1 (eos fr l) (l.map ρ)
  | [], _ => .nil1
  | x :: l, h => .cons1 _ _ _ _ (h x (List.mem_cons_self ..)) (eos_sound l fun y hy => h y (List.mem_cons_of_mem _ hy))

theorem opMakeFunc_ok {f : Fn} {a b : Array Operand} (h : opMakeFunc f a b fr st k = r) (hr : NF r) (sr : SR φ st w) (ho : o.op = .makeFunc f a b) (ha : ∀ x ∈ a.toList, VR φ 0 (eo fr x) [ρ x]) (hb : ∀ x ∈ b.toList, VR φ 0 (eo fr x) [ρ x]) : Sound P o ρ φ st w k r := by
  cases f with
  | func f =>
    have h : opnds a.toList fr (fun a => opnds b.toList fr fun c => k (.fn f a c) st) = r := h
    rw [opnds_eq, opnds_eq] at h
    refine .same sr h (x := .func (.func f) (a.map ρ) (b.map ρ)) (by simp [execOp, ho, Instr.makeFunc]) ?_
    have e1 : (⟨a.toList.map ρ⟩ : Array Value) = a.map ρ := by apply Array.ext'; simp
    have e2 : (⟨b.toList.map ρ⟩ : Array Value) = b.map ρ := by apply Array.ext'; simp
    rw [← e1, ← e2]
    exact .fn f _ _ _ _ (eos_sound a.toList ha) (eos_sound b.toList hb)
  | _ => exact hr.no h rfl

theorem VR.of_get2 {l : AV} (hl : IsL l) : ∀ {cs : List Value}, len l = cs.length → (∀ i v, lget i l = some v → ∃ x, cs[i]? = some x ∧ VR φ 0 v [x] ∧ x.oneCell' = true) → VR φ 2 l cs := by
  induction hl with
  | nil => intro cs h _; cases cs with
    | nil => exact .nil2
    | cons x cs => simp [len_nil] at h
  | cons a b _ ih => intro cs h hg; cases cs with
    | nil => simp [len_cons] at h
    | cons x cs =>
      obtain ⟨y, h1, h2, h3⟩ := hg 0 a rfl
      cases h1
      exact .cons2 _ _ _ _ h2 h3 (ih (by simpa [len_cons] using h) fun i v e => hg (i + 1) v e)

/-- cells written one after the other -/
theorem foldl_set (vs : List Value) : ∀ (n off : Nat) (cs : Array Value), (vs.zipIdx n).foldl (fun cs (p : Value × Nat) => cs.setIfInBounds (off + p.2) p.1) cs = (vs.zipIdx 0).foldl (fun cs (p : Value × Nat) => cs.setIfInBounds (off + n + p.2) p.1) cs := by
  induction vs with
  | nil => intro n off cs; rfl
  | cons v vs ih =>
    intro n off cs
    simp only [List.zipIdx_cons, List.foldl_cons]
    rw [ih (n + 1) off, ih (0 + 1) (off + n)]
    rfl
theorem foldl_get (vs : List Value) : ∀ (off : Nat) (cs : Array Value) (j : Nat), ((vs.zipIdx 0).foldl (fun cs (p : Value × Nat) => cs.setIfInBounds (off + p.2) p.1) cs)[j]? =
    if off ≤ j ∧ j < off + vs.length ∧ j < cs.size then vs[j - off]? else cs[j]? := by
  induction vs with
  | nil => intro off cs j; rw [if_neg (by simp; omega)]; rfl
  | cons v vs ih =>
    intro off cs j
    have e0 : (((v :: vs).zipIdx 0).foldl (fun cs (p : Value × Nat) => cs.setIfInBounds (off + p.2) p.1) cs)[j]? = ((vs.zipIdx 0).foldl (fun cs (p : Value × Nat) => cs.setIfInBounds (off + 1 + p.2) p.1) (cs.setIfInBounds off v))[j]? := by
      simp only [List.zipIdx_cons, List.foldl_cons]
      rw [foldl_set vs (0 + 1) off]
      rfl
    have hl : (v :: vs).length = vs.length + 1 := rfl
    rw [e0, ih (off + 1), Array.size_setIfInBounds, hl]
    by_cases e : j = off
    · subst e
      have h1 : ¬ (j + 1 ≤ j ∧ j < j + 1 + vs.length ∧ j < cs.size) := by omega
      rw [if_neg h1, Array.getElem?_setIfInBounds, if_pos rfl]
      by_cases q : j < cs.size
      · rw [if_pos q, if_pos ⟨Nat.le_refl _, by omega, q⟩, Nat.sub_self]; rfl
      · rw [if_neg q, if_neg (by omega), Array.getElem?_eq_none (by omega)]
    · by_cases q : off + 1 ≤ j ∧ j < off + 1 + vs.length ∧ j < cs.size
      · rw [if_pos q, if_pos ⟨by omega, by omega, by omega⟩, show j - off = (j - (off + 1)) + 1 by omega]; rfl
      · rw [if_neg q, Array.getElem?_setIfInBounds, if_neg (fun x => e x.symm), if_neg (by omega)]
theorem foldl_size (vs : List Value) : ∀ (off n : Nat) (cs : Array Value), ((vs.zipIdx n).foldl (fun cs (p : Value × Nat) => cs.setIfInBounds (off + p.2) p.1) cs).size = cs.size := by
  induction vs with
  | nil => intro off n cs; rfl
  | cons v vs ih => intro off n cs; simp only [List.zipIdx_cons, List.foldl_cons]; rw [ih, Array.size_setIfInBounds]

theorem pairOn_cases {R : Type} (p : Option (Nat × Nat)) (k : Nat → Nat → R) (d : R) : (∃ a b, p = some (a, b) ∧ pairOn p k d = k a b) ∨ pairOn p k d = d := by
  cases p with
  | none => exact .inr rfl
  | some p => exact .inl ⟨p.1, p.2, rfl, rfl⟩

theorem place_pos {t i a b : Nat} (h : place P t i = some (a, b)) : b ≠ 0 := by
  unfold place at h
  repeat' split at h
  all_goals first
    | (cases h; done)
    | (next q => cases h; exact q)
/-- the parts of an aggregate -/
theorem parts_sound {t : TypeId} {pl : Nat → Option (Nat × Nat)} (hpl : ∀ i a b, place P t i = some (a, b) → pl i = some (a, b)) : ∀ (l : List (Nat × Operand)) (c : AV) (kk : AV → Res), (∀ p ∈ l, VR φ 0 (eo fr p.2) [ρ p.2]) → parts P t fr l c kk = r → NF r →
    ∃ c', kk c' = r ∧ ∀ cs : Array Value, VR φ 2 c cs.toList → ∃ cs' : Array Value, Instr.fill pl cs (l.map fun p => (p.1, ρ p.2)) = some cs' ∧ VR φ 2 c' cs'.toList ∧ cs'.size = cs.size
  | [], c, kk, _, h, _ => ⟨c, h, fun cs hc => ⟨cs, rfl, hc, rfl⟩⟩
  | (i, x) :: l, c, kk, hl, h, hr => by
    have h : opnd x fr (fun v => cellsK v (fun vs => pairOn (place P t i) (fun off size => lenIs size vs (overAtK vs off c (fun c => parts P t fr l c kk) (bad 90)) (bad 91)) (bad 92)) (bad 93)) = r := h
    rw [opnd_eq] at h
    rcases cellsK_cases (eo fr x) (fun vs => pairOn (place P t i) (fun off size => lenIs size vs (overAtK vs off c (fun c => parts P t fr l c kk) (bad 90)) (bad 91)) (bad 92)) (bad 93) with ⟨vs, hvs, he⟩ | he
    rotate_left
    · exact hr.no h he
    rw [he] at h
    rcases pairOn_cases (place P t i) (fun off size => lenIs size vs (overAtK vs off c (fun c => parts P t fr l c kk) (bad 90)) (bad 91)) (bad 92) with ⟨off, size, hp, he⟩ | he
    rotate_left
    · exact hr.no h he
    rw [he] at h
    rcases lenIs_eq (overAtK vs off c (fun c => parts P t fr l c kk) (bad 90)) (bad 91) size vs with ⟨_, hlen, he⟩ | he
    rotate_left
    · exact hr.no h he
    rw [he] at h
    rcases overAtK_cases vs off c (fun c => parts P t fr l c kk) (bad 90) with ⟨c1, h1, h2, h3, he⟩ | he
    rotate_left
    · exact hr.no h he
    rw [he] at h
    obtain ⟨c', g1, g2⟩ := parts_sound hpl l c1 kk (fun p hp => hl p (List.mem_cons_of_mem _ hp)) h hr
    refine ⟨c', g1, fun cs hc => ?_⟩
    have hx := hvs φ _ (hl (i, x) (List.mem_cons_self ..))
    obtain ⟨_, e1, e2⟩ := hx.get2 rfl
    obtain ⟨f1, f2, f3⟩ := hc.get2 rfl
    have hs : (ρ x).cells.size = size := by rw [← hlen, e1]; simp
    have hz : size ≠ 0 := place_pos hp
    have hin : off + size ≤ cs.size := by
      obtain ⟨u, hu⟩ := h2 (size - 1) (by omega)
      have := lget_lt hu
      have e : len c = cs.size := by rw [f2]; simp
      omega
    have hcs : len c = cs.size := by rw [f2]; simp
    let D : Array Value := (ρ x).cells.zipIdx.foldl (fun cs (p : Value × Nat) => cs.setIfInBounds (off + p.2) p.1) cs
    have hD : D = ((ρ x).cells.toList.zipIdx 0).foldl (fun cs (p : Value × Nat) => cs.setIfInBounds (off + p.2) p.1) cs := by
      show Array.foldl _ _ _ = _
      rw [← Array.foldl_toList]
      simp
    have hDs : D.size = cs.size := by rw [hD, foldl_size]
    have hDg : ∀ j, D[j]? = if off ≤ j ∧ j < off + size ∧ j < cs.size then (ρ x).cells.toList[j - off]? else cs[j]? := fun j => by
      rw [hD, foldl_get, show (ρ x).cells.toList.length = size by simpa using hs]
    have hDv : VR φ 2 c1 D.toList := by
      have hL1 : IsL c1 ∧ len c1 = len c := ⟨h1.2.2 f1, h1.2.1⟩
      refine .of_get2 hL1.1 (by rw [hL1.2, hcs]; simp [hDs]) fun j v hv => ?_
      rw [h3 j] at hv
      rw [Array.getElem?_toList, hDg j]
      by_cases q : off ≤ j ∧ j < off + len vs
      · rw [if_pos q] at hv
        rw [if_pos ⟨q.1, by omega, by omega⟩]
        exact e2 _ _ hv
      · rw [if_neg q] at hv
        rw [if_neg (by omega), ← Array.getElem?_toList]
        exact f3 _ _ hv
    obtain ⟨cs', r1, r2, r3⟩ := g2 D hDv
    refine ⟨cs', ?_, r2, by omega⟩
    show Instr.fill pl cs ((i, ρ x) :: l.map fun p => (p.1, ρ p.2)) = some cs'
    unfold Instr.fill
    rw [hpl i off size hp]
    simp only [hs]
    rw [if_neg (by simp; omega)]
    exact r1


theorem mapM_fields : ∀ (fs : List Field), (∀ f ∈ fs, (inf P f.type).isSome = true) → ∃ places : List (Nat × Nat), fs.mapM (fun f => (P.info? f.type).map fun i => (f.offset, i.size)) = some places ∧
    ∀ (i : Nat) (f : Field) (j : TypeInfo), fs[i]? = some f → inf P f.type = some j → places[i]? = some (f.offset, j.size)
  | [], _ => ⟨[], rfl, fun i f j h => by simp at h⟩
  | f :: fs, h => by
    obtain ⟨j, hj⟩ := Option.isSome_iff_exists.1 (h f (List.mem_cons_self ..))
    obtain ⟨ps, h1, h2⟩ := mapM_fields fs fun g hg => h g (List.mem_cons_of_mem _ hg)
    refine ⟨(f.offset, j.size) :: ps, by simp [List.mapM_cons, inf_sound hj, h1], fun i g j' hg hj' => ?_⟩
    cases i with
    | zero => simp at hg; subst hg; rw [hj] at hj'; cases hj'; rfl
    | succ i => exact h2 i g j' (by simpa using hg) hj'

theorem opBuild_ok {t : TypeId} {ps : Array (Nat × Operand)} (h : opBuild t ps P fr st k = r) (hr : NF r) (sr : SR φ st w) (ho : o.op = .build t ps) (hp : ∀ p ∈ ps.toList, VR φ 0 (eo fr p.2) [ρ p.2]) : Sound P o ρ φ st w k r := by
  unfold opBuild at h
  rcases ifB_cases (partsOk P t) (onAgg (zeroOf P t) (fun z => parts P t fr ps.toList z fun c => k (.agg c) st) (bad 94)) (bad 93) with ⟨hok, he⟩ | ⟨_, he⟩
  rotate_left
  · exact hr.no h he
  rw [he] at h
  rcases onAgg_cases (zeroOf P t) (fun z => parts P t fr ps.toList z fun c => k (.agg c) st) (bad 94) with ⟨z, hz, he⟩ | he
  rotate_left
  · exact hr.no h he
  rw [he] at h
  obtain ⟨it, zv, g1, g2, g3⟩ := zeroOf_sound φ hz (by simp)
  cases g3 with
  | agg _ zs hzs =>
  unfold partsOk at hok
  cases hu' : und P t with
  | none => rw [hu'] at hok; cases hok
  | some d =>
    have hu := und_sound hu'
    rw [hu'] at hok
    have fin : ∀ (pl : Nat → Option (Nat × Nat)), (∀ i a b, place P t i = some (a, b) → pl i = some (a, b)) → (∀ ps' : List (Nat × Value), P.built t ps' = Instr.fill pl ⟨zs⟩ ps') → Sound P o ρ φ st w k r := by
      intro pl hpl hb
      obtain ⟨c', e1, e2⟩ := parts_sound hpl ps.toList z (fun c => k (.agg c) st) hp h hr
      obtain ⟨cs', f1, f2, f3⟩ := e2 ⟨zs⟩ hzs
      refine .same sr e1 (x := .agg cs') ?_ (by have := VR.agg (φ := φ) c' cs'.toList f2; simpa using this)
      have hb' := hb (ps.toList.map fun p => (p.1, ρ p.2))
      rw [f1] at hb'
      have hm : (ps.map fun (x : Nat × Operand) => (x.1, ρ x.2)).toList = ps.toList.map fun p => (p.1, ρ p.2) := by simp
      have := run_build (P := P) w t (ps.map fun (x : Nat × Operand) => (x.1, ρ x.2)) cs' (by rw [hm]; exact hb')
      simp [execOp, ho, this]
    cases d with
    | struct fs =>
      simp only at hok
      obtain ⟨places, m1, m2⟩ := mapM_fields (P := P) fs.toList (List.all_eq_true.1 hok)
      refine fin (places.toArray[·]?) (fun i a b hp => ?_) (fun ps' => ?_)
      · unfold place at hp
        rw [hu'] at hp
        simp only at hp
        cases e : fs[i]? with
        | none => rw [e] at hp; cases hp
        | some f =>
          rw [e] at hp
          simp only at hp
          cases e2 : inf P f.type with
          | none => rw [e2] at hp; cases hp
          | some j =>
            rw [e2] at hp
            simp only at hp
            split at hp
            · cases hp
            · cases hp
              have := m2 i f j (by rw [Array.getElem?_toList]; exact e) e2
              simpa using this
      · unfold Program.built
        rw [g1, hu]
        simp only [g2, m1]
        rfl
    | array n e =>
      simp only at hok
      obtain ⟨j, hj⟩ := Option.isSome_iff_exists.1 hok
      refine fin (fun i => some (i * j.size, j.size)) (fun i a b hp => ?_) (fun ps' => ?_)
      · unfold place at hp
        rw [hu'] at hp
        simp only [hj] at hp
        split at hp
        · cases hp
        · cases hp; rfl
      · unfold Program.built
        rw [g1, hu]
        simp only [g2, inf_sound hj]
        rfl
    | _ => cases hok

/-- so many copies of some cells -/
theorem repK_cases {R : Type} (z : AV) (hz : IsL z) : ∀ (n : Nat) (kk : AV → R) (d : R), (∃ l, IsL l ∧ len l = n * len z ∧ (∀ j, j < n * len z → lget j l = lget (j % len z) z) ∧ repK z n kk d = kk l) ∨ repK z n kk d = d
  | 0, kk, d => .inl ⟨.nil, .nil, by rw [len_nil]; omega, fun j hj => by omega, rfl⟩
  | n + 1, kk, d => by
    rcases repK_cases z hz n (fun l => appK z l kk d) d with ⟨l, h1, h2, h3, h4⟩ | h
    · rcases appK_cases l h1 z kk d with ⟨l', _, g2, g3, g4, g5⟩ | g
      · refine .inl ⟨l', g2, by rw [g3, h2, Nat.succ_mul]; omega, fun j hj => ?_, h4.trans g5⟩
        rw [Nat.succ_mul] at hj
        rw [g4 j]
        by_cases q : j < len z
        · rw [if_pos q, Nat.mod_eq_of_lt q]
        · rw [if_neg q, h3 (j - len z) (by omega)]
          congr 1
          exact (Nat.mod_eq_sub_mod (by omega)).symm
      · exact .inr (h4.trans g)
    · exact .inr h
theorem rep_sound {z l : AV} {zs : List Value} {n : Nat} (hz : VR φ 2 z zs) (hL : IsL l) (hl : len l = n * len z) (hg : ∀ j, j < n * len z → lget j l = lget (j % len z) z) :
    VR φ 2 l ((Array.range (n * zs.length)).map ((⟨zs⟩ : Array Value)[· % zs.length]!)).toList := by
  obtain ⟨f1, f2, f3⟩ := hz.get2 rfl
  refine .of_get2 hL (by simp [hl, f2]) fun j v hv => ?_
  have hj := lget_lt hv
  rw [hl] at hj
  rw [hg j hj] at hv
  obtain ⟨x, e1, e2, e3⟩ := f3 _ _ hv
  refine ⟨x, ?_, e2, e3⟩
  rw [f2] at hj e1
  obtain ⟨e4, e5⟩ := List.getElem?_eq_some_iff.1 e1
  simp only [Array.toList_map, Array.toList_range, List.getElem?_map, List.getElem?_range hj, Option.map_some, Option.some.injEq]
  rw [getElem!_pos (⟨zs⟩ : Array Value) (j % zs.length) (by simpa using e4)]
  exact e5

theorem opBuildSlice_ok {t n : Nat} {ps : Array (Nat × Operand)} (h : opBuildSlice t n ps P fr st k = r) (hr : NF r) (sr : SR φ st w) (ho : o.op = .buildSlice t n ps) (hp : ∀ p ∈ ps.toList, VR φ 0 (eo fr p.2) [ρ p.2]) : Sound P o ρ φ st w k r := by
  unfold opBuildSlice at h
  rcases ikOn_cases (ik P t) (fun _ _ => bad 95) _ (bad 100) (bad 101) with ⟨_, _, _, he⟩ | ⟨size, hk, he⟩ | ⟨_, he⟩ | he
  · exact hr.no h he
  rotate_left
  · exact hr.no h he
  · exact hr.no h he
  rw [he] at h
  obtain ⟨e, ie, u1, u2, u3, u4⟩ := ik_sl hk
  rcases ifB_cases (Nat.ble (Nat.mul n size) 16777216) _ (bad 99) with ⟨hs, he⟩ | ⟨_, he⟩
  rotate_left
  · exact hr.no h he
  rw [he] at h
  rcases ifB_cases (Nat.beq (Nat.mul n size) 0) _ _ with ⟨hz0, he⟩ | ⟨hz0, he⟩
  · rw [he] at h
    have hz0 : n * size = 0 := Nat.eq_of_beq_eq_true hz0
    cases hps : ps.toList with
    | cons p l => rw [hps] at h; exact hr.no h rfl
    | nil =>
      rw [hps] at h
      have h : (newBlk (.l .nil) st fun b st => k (.sl b 0 n n size true) st) = r := h
      rw [newBlk_eq] at h
      have hpe : ps = #[] := Array.toList_eq_nil_iff.1 hps
      refine ⟨_, _, h, not_quiet (by rw [ho]; exact .inl rfl), fun hf => ?_⟩
      have hn := fresh_next hf
      have hrun : (Instr.buildSlice t n #[]).run P w = .ok (.slice (some ⟨w.heap.size, 0, none⟩) n n) (w.alloc (.cells #[] e)) := by
        rcases Nat.mul_eq_zero.1 hz0 with q | q <;> subst q <;> (simp [Instr.buildSlice, run_underlying u1, Go.sizeOf, typeInfo, u2, u3, Instr.fill, newRow]; congr 2; apply Array.ext'; simp)
      refine ⟨_, _, _, .inl (by simp [execOp, ho, hpe, hrun]; rfl), ?_, alloc_cells sr hn (l := .nil) (cs := #[]) e (fz := (0, 0)) (Nat.le_refl _) (w' := w.alloc (.cells #[] e)) rfl rfl rfl rfl (n := 0) .nil2⟩
      exact .sl _ _ _ _ _ _ _ _ _ _ _ (upd_same _ _ _) (Nat.le_refl _) (Nat.le_refl _) (fun _ => rfl) (.inr rfl) (by rw [hz0]; simp)
  rw [he] at h
  have hs : n * size ≤ 16777216 := Nat.le_of_ble_eq_true hs
  have hz0 : ¬ n * size = 0 := fun q => by have q : Nat.mul n size = 0 := q; rw [q] at hz0; cases hz0
  rw [u4] at h
  rcases cellsK_cases (zeroOf P e) _ (bad 98) with ⟨z, hzs, he⟩ | he
  rotate_left
  · exact hr.no h he
  have hu : zeroOf P e ≠ .undef := fun q => by
    rw [q] at he
    have he' : bad 98 = _ := he
    rw [q, he] at h
    exact hr 98 (h.symm.trans he'.symm)
  rw [he] at h
  rcases lenIs_eq _ (bad 97) size z with ⟨hzL, hzl, he⟩ | he
  rotate_left
  · exact hr.no h he
  rw [he] at h
  rcases repK_cases z hzL n _ (bad 96) with ⟨l, l1, l2, l3, he⟩ | he
  rotate_left
  · exact hr.no h he
  rw [he] at h
  obtain ⟨i', zv, z1, z2, z3⟩ := zeroOf_sound φ rfl hu
  rw [u2] at z1
  cases z1
  have hzv := hzs φ zv z3
  have hzlen : zv.cells.size = size := by have := (hzv.get2 rfl).2.1; rw [hzl] at this; simpa using this.symm
  have hrep := rep_sound (n := n) hzv l1 l2 l3
  have hsl : ∀ i a b, place P t i = some (a, b) → (fun i => some (i * ie.size, ie.size) : Nat → Option (Nat × Nat)) i = some (a, b) := by
    intro i a b hp
    unfold place at hp
    cases hu' : und P t with
    | none => rw [hu'] at hp; cases hp
    | some d =>
      rw [hu'] at hp
      have := und_sound hu'
      rw [u1] at this
      cases this
      simp only at hp
      cases e2 : inf P e with
      | none => rw [e2] at hp; cases hp
      | some j =>
        have := inf_sound e2
        rw [u2] at this
        cases this
        rw [e2] at hp
        simp only at hp
        split at hp
        · cases hp
        · cases hp; rfl
  obtain ⟨c', e1, e2⟩ := parts_sound hsl ps.toList l _ hp h hr
  rw [newBlk_eq] at e1
  refine ⟨_, _, e1, not_quiet (by rw [ho]; exact .inl rfl), fun hf => ?_⟩
  have hn := fresh_next hf
  obtain ⟨cs', f1, f2, f3⟩ := e2 ((Array.range (n * zv.cells.toList.length)).map ((⟨zv.cells.toList⟩ : Array Value)[· % zv.cells.toList.length]!)) hrep
  have hzl' : zv.cells.toList.length = ie.size := by rw [u3]; simpa using hzlen
  have hm : (ps.map fun (x : Nat × Operand) => (x.1, ρ x.2)).toList = ps.toList.map fun p => (p.1, ρ p.2) := by simp
  have hrun := run_buildSlice (P := P) w t e n (ps.map fun (x : Nat × Operand) => (x.1, ρ x.2)) cs' ie zv u1 u2 z2 (by rw [u3]; omega) (by rw [u3]; exact hz0) (by
    rw [hm, ← f1, hzl']
    congr 2
    have : zv.cells.size = ie.size := by rw [u3]; exact hzlen
    rw [this])
  have hcs : cs'.size = n * size := by rw [f3]; simp [hzlen]
  refine ⟨_, _, _, .inl (by simp [execOp, ho, hrun]; rfl), ?_, alloc_cells sr hn (l := c') (cs := cs') e (fz := (0, 0)) (Nat.le_refl _) (w' := w.alloc (.cells cs' e)) rfl rfl rfl rfl (n := cs'.size) (by rw [List.take_of_length_le (by simp)]; exact f2)⟩
  exact .sl _ _ _ _ _ _ _ _ _ _ _ (upd_same _ _ _) (Nat.le_refl _) (Nat.le_refl _) (fun _ => rfl) (.inr rfl) (by rw [hcs]; omega)
end ops
end Ev
end
/- This text proves that the evaluator's slices, conversions and builtin functions stand for the model's. -/
section
namespace Ev
open Go
section ops
variable {P : Program} {o : Oper} {ρ : Operand → Value} {φ : Phi} {st : St} {w : World} {fr : Tr AV} {k : AV → St → Res} {r : Res}

theorem alloc_own (sr : SR φ st w) (hf : φ st.next = none) {b : Blk} (hb : bown b = true) {cs : Array Value} (e : TypeId) {fz : Nat × Nat} (hfz : fz.2 ≤ fz.1) {w' : World} (hh : w'.heap = w.heap.push (.cells cs e fz)) (h1 : w'.os = w.os) (h2 : w'.tape = w.tape) (h3 : w'.output = w.output)
    (hl : ∀ i v, bget i b = some v → ∃ x, cs[i]? = some x ∧ VR φ 0 v [x] ∧ x.oneCell' = true) :
    Moved φ st w (upd φ st.next (w.heap.size, 0, cs.size)) (stNew b st) w' := by
  refine Moved.alloc sr hf _ _ _ hh h1 h2 h3 ((BR_own hb).2 ⟨cs, e, fz, by rw [hh]; simp, rfl, fun _ o q => by omega, fun i v hv => ?_⟩)
  obtain ⟨x, g1, g2, g3⟩ := hl i v hv
  exact ⟨x, by rw [Nat.zero_add]; exact g1, g2.mono (.upd _ hf), g3⟩

theorem natK_cases {x : Operand} {kk : Nat → Res} {d : Res} (hx : VR φ 0 (eo fr x) [ρ x]) : (∃ kd, ∃ n : Nat, ρ x = .int kd (n : Int) ∧ n < khalf kd ∧ natK x fr kk d = kk n) ∨ natK x fr kk d = d := by
  unfold natK
  rw [opnd_eq]
  generalize eo fr x = a at *
  generalize hρ : ρ x = vx at hx
  rcases onInt_cases a (fun kd n => ifB (nonneg kd n) (kk n) d) d with ⟨kd, n, rfl, he⟩ | he
  · cases hx with
    | int _ _ hn =>
    rcases ifB_cases (nonneg kd n) (kk n) d with ⟨hn, h⟩ | ⟨_, h⟩
    · exact .inl ⟨kd, n, by rw [nonneg_t hn], Nat.le_of_ble_eq_true hn, he.trans h⟩
    · exact .inr (he.trans h)
  · exact .inr he
theorem wrap64_low {n : Nat} (h : n ≤ 281474976710656) : IntKind.i64.wrap (n : Int) = n := wrap_low .i64 (by show n < 9223372036854775808; omega)

theorem opMakeSlice_ok {t : TypeId} {l c : Operand} (h : opMakeSlice t l c P fr st k = r) (hr : NF r) (sr : SR φ st w) (ho : o.op = .makeSlice t l c) (hl : VR φ 0 (eo fr l) [ρ l]) (hc : VR φ 0 (eo fr c) [ρ c]) : Sound P o ρ φ st w k r := by
  unfold opMakeSlice at h
  rcases natK_cases (ρ := ρ) hl with ⟨kl, n, hρl, _, he⟩ | he
  rotate_left
  · exact hr.no h he
  rw [he] at h
  rcases natK_cases (ρ := ρ) hc with ⟨kc, m, hρc, _, he⟩ | he
  rotate_left
  · exact hr.no h he
  rw [he] at h
  rcases ikOn_cases (ik P t) (fun _ _ => bad 102) _ (bad 109) (bad 110) with ⟨_, _, _, he⟩ | ⟨size, hk, he⟩ | ⟨_, he⟩ | he
  · exact hr.no h he
  rotate_left
  · exact hr.no h he
  · exact hr.no h he
  rw [he] at h
  obtain ⟨e, ie, u1, u2, u3, u4⟩ := ik_sl hk
  rw [u4] at h
  rcases ifB_cases (Nat.ble n m) _ (bad 108) with ⟨hle, he⟩ | ⟨_, he⟩
  rotate_left
  · exact hr.no h he
  rw [he] at h
  rcases ifB_cases (Nat.ble (Nat.mul (bytesPer P e) m) 281474976710656) _ (bad 107) with ⟨hb, he⟩ | ⟨_, he⟩
  rotate_left
  · exact hr.no h he
  rw [he] at h
  rcases ifB_cases (Nat.ble m 281474976710656) _ (bad 106) with ⟨hm, he⟩ | ⟨_, he⟩
  rotate_left
  · exact hr.no h he
  rw [he] at h
  have hle : n ≤ m := Nat.le_of_ble_eq_true hle
  have hb : bytesPer P e * m ≤ 281474976710656 := Nat.le_of_ble_eq_true hb
  have hm : m ≤ 281474976710656 := Nat.le_of_ble_eq_true hm
  rcases cellsK_cases (zeroOf P e) _ (bad 105) with ⟨z, hzs, he⟩ | he
  rotate_left
  · exact hr.no h he
  have hu : zeroOf P e ≠ .undef := fun q => by
    rw [q] at he
    have he' : bad 105 = _ := he
    rw [q, he] at h
    exact hr 105 (h.symm.trans he'.symm)
  rw [he] at h
  rcases lenIs_eq _ (bad 104) size z with ⟨hzL, hzl, he⟩ | he
  rotate_left
  · exact hr.no h he
  rw [he] at h
  obtain ⟨i', zv, z1, z2, z3⟩ := zeroOf_sound φ rfl hu
  rw [u2] at z1
  cases z1
  have hzv := hzs φ zv z3
  have hzlen : zv.cells.size = size := by have := (hzv.get2 rfl).2.1; rw [hzl] at this; simpa using this.symm
  have hbytes : ie.bytes * m ≤ 281474976710656 ∨ m = 0 := by
    rcases Nat.eq_zero_or_pos m with q | q
    · exact .inr q
    · left
      unfold bytesPer at hb
      cases e2 : inf P e with
      | none => simp only [e2] at hb; have : 2 ^ 60 ≤ 2 ^ 60 * m := Nat.le_mul_of_pos_right _ q; omega
      | some j =>
        have := inf_sound e2
        rw [u2] at this
        cases this
        simp only [e2] at hb
        exact hb
  have hb' : (ie.bytes : Int) * (m : Int) ≤ 281474976710656 := by
    rcases hbytes with q | q
    · have : ((ie.bytes * m : Nat) : Int) = (ie.bytes : Int) * m := Int.natCast_mul ..
      omega
    · subst q; simp
  have hrun := run_make (P := P) w t e ie zv u1 u2 z2 kl kc (n : Int) (m : Int) (by omega) (by omega) hb' (by omega)
  rw [Int.toNat_natCast, Int.toNat_natCast, u3] at hrun
  have hzl' : zv.cells.toList.length = size := by simpa using hzlen
  have hcs : (madeCells zv.cells (m * size)).size = m * size := size_madeCells _ _
  have fin : ∀ b : Blk, bown b = true → k (.sl st.next 0 n m size true) (stNew b st) = r → (∀ i v, bget i b = some v → ∃ x, (madeCells zv.cells (m * size))[i]? = some x ∧ VR φ 0 v [x] ∧ x.oneCell' = true) → Sound P o ρ φ st w k r := by
    intro b hb h hg
    refine ⟨_, _, h, not_quiet (by rw [ho]; exact .inl rfl), fun hf => ?_⟩
    have hn := fresh_next hf
    refine ⟨_, _, _, .inl (by simp [execOp, ho, hρl, hρc, hrun]; rfl), ?_, alloc_own sr hn hb (cs := madeCells zv.cells (m * size)) e (fz := (0, 0)) (Nat.le_refl _) (w' := w.alloc (.cells (madeCells zv.cells (m * size)) e)) rfl rfl rfl rfl hg⟩
    exact .sl _ _ _ _ _ _ _ _ _ _ _ (upd_same _ _ _) hle (Nat.le_refl _) (fun _ => rfl) (.inr rfl) (by rw [hcs]; omega)
  have viaRep : repK z m (fun cs => newBlk (.l cs) st fun b st => k (.sl b 0 n m size true) st) (bad 103) = r → Sound P o ρ φ st w k r := by
    intro h
    rcases repK_cases z hzL m (fun cs => newBlk (.l cs) st fun b st => k (.sl b 0 n m size true) st) (bad 103) with ⟨l, l1, l2, l3, he⟩ | he
    · rw [he, newBlk_eq] at h
      have hrep := rep_sound (n := m) hzv l1 l2 l3
      refine fin (.l l) rfl h fun i v hv => ?_
      obtain ⟨x, e1, e2, e3⟩ := (hrep.get2 rfl).2.2 i v hv
      refine ⟨x, ?_, e2, e3⟩
      rw [← e1, hzl']
      unfold madeCells
      rw [hzlen]
      simp only [Array.getElem?_map, Array.getElem?_range, Array.toList_map, Array.toList_range, List.getElem?_map]
      by_cases hi : i < m * size <;> simp [hi]
    · exact hr.no h he
  rcases ifB_cases (Nat.ble (Nat.mul m size) 64) _ _ with ⟨_, he⟩ | ⟨_, he⟩
  · rw [he] at h
    exact viaRep h
  · rw [he] at h
    rcases onCons_cases z _ (bad 114) with ⟨dv, rest, hz, he⟩ | he
    rotate_left
    · exact hr.no h he
    rw [he] at h
    rcases onList_cases rest _ _ (bad 113) with ⟨hrest, he⟩ | ⟨a, b, hrest, he⟩ | he
    rotate_left
    · rw [he] at h; exact viaRep h
    · exact hr.no h he
    rw [he, newBlk_eq] at h
    subst hrest
    subst hz
    obtain ⟨x, e1, e2, e3⟩ := (hzv.get2 rfl).2.2 0 dv rfl
    have hs1 : size = 1 := by rw [← hzl]; rfl
    have hone : zv.cells.size = 1 := by rw [hzlen, hs1]
    refine fin (.t dv m .e) rfl h fun i v hv => ⟨x, ?_, ?_, e3⟩
    · rw [bget_t] at hv
      split at hv
      · next hi =>
        have : (madeCells zv.cells (m * size))[i]? = some (zv.cells[i % zv.cells.size]!) := by
          unfold madeCells
          simp [hs1, hi]
        rw [this, hone, Nat.mod_one]
        have e1' : zv.cells[0]? = some x := by rw [← Array.getElem?_toList]; exact e1
        rw [getElem!_def, e1']
      · cases hv
    · rw [bget_t] at hv
      split at hv
      · rw [Tr.find_e] at hv; cases hv; exact e2
      · cases hv

/-- the bounds of a slice expression -/
theorem optK_cases {x : Option Operand} {n : Res} {kk : Nat → Res} {d : Res} (hx : ∀ y, x = some y → VR φ 0 (eo fr y) [ρ y]) :
    (x = none ∧ optK x fr n kk d = n) ∨ (∃ y kd, ∃ m : Nat, x = some y ∧ ρ y = .int kd (m : Int) ∧ optK x fr n kk d = kk m) ∨ optK x fr n kk d = d := by
  cases x with
  | none => exact .inl ⟨rfl, rfl⟩
  | some y =>
    rcases natK_cases (ρ := ρ) (kk := kk) (d := d) (hx y rfl) with ⟨kd, m, h1, _, h2⟩ | h
    · exact .inr (.inl ⟨y, kd, m, rfl, h1, h2⟩)
    · exact .inr (.inr h)
end ops
end Ev
end
/- This text proves that the evaluator's slice expressions stand for the model's. -/
section
namespace Ev
open Go
section ops
variable {P : Program} {o : Oper} {ρ : Operand → Value} {φ : Phi} {st : St} {w : World} {fr : Tr AV} {k : AV → St → Res} {r : Res}

theorem stake_cases : ∀ (n : Nat) (l : List Nat) (kk : List Nat → Res) (d : Res), (n ≤ l.length ∧ stake n l kk d = kk (l.take n)) ∨ stake n l kk d = d
  | 0, l, kk, d => .inl ⟨Nat.zero_le _, by rw [List.take_zero]; rfl⟩
  | n + 1, [], kk, d => .inr rfl
  | n + 1, a :: l, kk, d => by
    rcases stake_cases n l (fun b => kk (a :: b)) d with ⟨h1, h2⟩ | h
    · exact .inl ⟨by simpa using h1, by rw [List.take_succ_cons]; exact h2⟩
    · exact .inr h
theorem sdrop_cases : ∀ (n : Nat) (l : List Nat) (kk : List Nat → Res) (d : Res), (n ≤ l.length ∧ sdrop n l kk d = kk (l.drop n)) ∨ sdrop n l kk d = d
  | 0, l, kk, d => .inl ⟨Nat.zero_le _, rfl⟩
  | n + 1, [], kk, d => .inr rfl
  | n + 1, a :: l, kk, d => by
    rcases sdrop_cases n l kk d with ⟨h1, h2⟩ | h
    · exact .inl ⟨by simpa using h1, by rw [List.drop_succ_cons]; exact h2⟩
    · exact .inr h

theorem bound_run {kd : IntKind} {n y : Nat} (h : n ≤ y) (c : Go.BoundsCode) : (Instr.sliceBound (.int kd (n : Int)) y c).run P w = .ok n w := by
  rw [run_sliceBound w kd n y c (by omega) (by omega)]; rfl

theorem bounds_cases {l c C : Nat} (hl : l ≤ c) (hc : c ≤ C) {lo hi mx : Option Operand} (isS : Bool) {kk : Nat → Nat → Nat → Bool → Res}
    (h1 : ∀ y, lo = some y → VR φ 0 (eo fr y) [ρ y]) (h2 : ∀ y, hi = some y → VR φ 0 (eo fr y) [ρ y]) (h3 : ∀ y, mx = some y → VR φ 0 (eo fr y) [ρ y]) :
    (∃ l' h' m' M' e, boundsK l c lo hi mx fr kk = kk l' h' m' e ∧ l' ≤ h' ∧ h' ≤ m' ∧ m' ≤ M' ∧ M' ≤ C ∧ (e = true → M' = m') ∧ (e = false → M' = C ∧ m' = c) ∧
      (Instr.sliceBounds isS l C (lo.map ρ) (hi.map ρ) (mx.map ρ)).run P w = .ok (l', h', M') w) ∨ ∃ n, boundsK l c lo hi mx fr kk = bad n := by
  unfold boundsK
  rcases optK_cases (ρ := ρ) (x := mx) (n := optK hi fr (optK lo fr (kk 0 l c false) (fun lo => ifB (Nat.ble lo l) (kk lo l c false) (bad 120)) (bad 121))
      (fun h => ifB (Nat.ble h c) (optK lo fr (kk 0 h c false) (fun lo => ifB (Nat.ble lo h) (kk lo h c false) (bad 122)) (bad 123)) (bad 124)) (bad 125))
    (kk := fun m => ifB (Nat.ble m c) (optK hi fr (bad 126) (fun h => ifB (Nat.ble h m) (optK lo fr (kk 0 h m true) (fun lo => ifB (Nat.ble lo h) (kk lo h m true) (bad 127)) (bad 128)) (bad 129)) (bad 130)) (bad 131)) (d := bad 132) h3 with ⟨rfl, he⟩ | ⟨ym, km, m, rfl, hym, he⟩ | he
  · rw [he]
    rcases optK_cases (ρ := ρ) (x := hi) (n := optK lo fr (kk 0 l c false) (fun lo => ifB (Nat.ble lo l) (kk lo l c false) (bad 120)) (bad 121))
      (kk := fun h => ifB (Nat.ble h c) (optK lo fr (kk 0 h c false) (fun lo => ifB (Nat.ble lo h) (kk lo h c false) (bad 122)) (bad 123)) (bad 124)) (d := bad 125) h2 with ⟨rfl, he⟩ | ⟨yh, kh, h, rfl, hyh, he⟩ | he
    · rw [he]
      rcases optK_cases (ρ := ρ) (x := lo) (n := kk 0 l c false) (kk := fun lo => ifB (Nat.ble lo l) (kk lo l c false) (bad 120)) (d := bad 121) h1 with ⟨rfl, he⟩ | ⟨yl, kl, n, rfl, hyl, he⟩ | he
      · exact .inl ⟨0, l, c, C, false, he, Nat.zero_le _, hl, hc, Nat.le_refl _, by simp, fun _ => ⟨rfl, rfl⟩, by simp [Instr.sliceBounds]⟩
      · rcases ifB_cases (Nat.ble n l) (kk n l c false) (bad 120) with ⟨q, e⟩ | ⟨_, e⟩
        · have q : n ≤ l := Nat.le_of_ble_eq_true q
          exact .inl ⟨n, l, c, C, false, he.trans e, q, hl, hc, Nat.le_refl _, by simp, fun _ => ⟨rfl, rfl⟩, by simp [Instr.sliceBounds, hyl, bound_run q]⟩
        · exact .inr ⟨_, he.trans e⟩
      · exact .inr ⟨_, he⟩
    · rw [he]
      rcases ifB_cases (Nat.ble h c) (optK lo fr (kk 0 h c false) (fun lo => ifB (Nat.ble lo h) (kk lo h c false) (bad 122)) (bad 123)) (bad 124) with ⟨q, e⟩ | ⟨_, e⟩
      · have q : h ≤ c := Nat.le_of_ble_eq_true q
        have q2 : h ≤ C := Nat.le_trans q hc
        simp only [e]
        rcases optK_cases (ρ := ρ) (x := lo) (n := kk 0 h c false) (kk := fun lo => ifB (Nat.ble lo h) (kk lo h c false) (bad 122)) (d := bad 123) h1 with ⟨rfl, he⟩ | ⟨yl, kl, n, rfl, hyl, he⟩ | he
        · exact .inl ⟨0, h, c, C, false, he, Nat.zero_le _, q, hc, Nat.le_refl _, by simp, fun _ => ⟨rfl, rfl⟩, by simp [Instr.sliceBounds, hyh, bound_run q2]⟩
        · rcases ifB_cases (Nat.ble n h) (kk n h c false) (bad 122) with ⟨q1, e⟩ | ⟨_, e⟩
          · have q1 : n ≤ h := Nat.le_of_ble_eq_true q1
            exact .inl ⟨n, h, c, C, false, he.trans e, q1, q, hc, Nat.le_refl _, by simp, fun _ => ⟨rfl, rfl⟩, by simp [Instr.sliceBounds, hyh, hyl, bound_run q2, bound_run q1]⟩
          · exact .inr ⟨_, he.trans e⟩
        · exact .inr ⟨_, he⟩
      · exact .inr ⟨_, e⟩
    · exact .inr ⟨_, he⟩
  · rw [he]
    rcases ifB_cases (Nat.ble m c) (optK hi fr (bad 126) (fun h => ifB (Nat.ble h m) (optK lo fr (kk 0 h m true) (fun lo => ifB (Nat.ble lo h) (kk lo h m true) (bad 127)) (bad 128)) (bad 129)) (bad 130)) (bad 131) with ⟨qm, e⟩ | ⟨_, e⟩
    · have qm : m ≤ c := Nat.le_of_ble_eq_true qm
      have qm2 : m ≤ C := Nat.le_trans qm hc
      simp only [e]
      rcases optK_cases (ρ := ρ) (x := hi) (n := bad 126) (kk := fun h => ifB (Nat.ble h m) (optK lo fr (kk 0 h m true) (fun lo => ifB (Nat.ble lo h) (kk lo h m true) (bad 127)) (bad 128)) (bad 129)) (d := bad 130) h2 with ⟨rfl, he⟩ | ⟨yh, kh, h, rfl, hyh, he⟩ | he
      · exact .inr ⟨_, he⟩
      · rw [he]
        rcases ifB_cases (Nat.ble h m) (optK lo fr (kk 0 h m true) (fun lo => ifB (Nat.ble lo h) (kk lo h m true) (bad 127)) (bad 128)) (bad 129) with ⟨q, e⟩ | ⟨_, e⟩
        · have q : h ≤ m := Nat.le_of_ble_eq_true q
          simp only [e]
          rcases optK_cases (ρ := ρ) (x := lo) (n := kk 0 h m true) (kk := fun lo => ifB (Nat.ble lo h) (kk lo h m true) (bad 127)) (d := bad 128) h1 with ⟨rfl, he⟩ | ⟨yl, kl, n, rfl, hyl, he⟩ | he
          · exact .inl ⟨0, h, m, m, true, he, Nat.zero_le _, q, Nat.le_refl _, qm2, by simp, by simp, by simp [Instr.sliceBounds, hym, hyh, bound_run qm2, bound_run q]⟩
          · rcases ifB_cases (Nat.ble n h) (kk n h m true) (bad 127) with ⟨q1, e⟩ | ⟨_, e⟩
            · have q1 : n ≤ h := Nat.le_of_ble_eq_true q1
              exact .inl ⟨n, h, m, m, true, he.trans e, q1, q, Nat.le_refl _, qm2, by simp, by simp, by simp [Instr.sliceBounds, hym, hyh, hyl, bound_run qm2, bound_run q, bound_run q1]⟩
            · exact .inr ⟨_, he.trans e⟩
          · exact .inr ⟨_, he⟩
        · exact .inr ⟨_, e⟩
      · exact .inr ⟨_, he⟩
    · exact .inr ⟨_, e⟩
  · exact .inr ⟨_, he⟩

/-- a cell that is known stands within its block -/
theorem cell_bound (h : SR φ st w) {b : Pos} {kb : Blk} {B s N : Nat} (hb : Tr.find b st.heap = some kb) (hφ : φ b = some (B, s, N)) {i : Nat} {v : AV} (hv : bget i kb = some v) : s + i < N := by
  have key : ∀ own, CellsR φ (fun i => bget i kb) own B s N w → s + i < N := by
    intro own hc
    obtain ⟨cs, e, fz, h1, h2, h3, h4⟩ := hc
    obtain ⟨x, g1, g2, g3⟩ := h4 i v hv
    have := (Array.getElem?_eq_some_iff.1 g1).1
    omega
  have hr := h.blk b kb B s N hb hφ
  cases kb with
  | l c => exact key _ hr
  | ro c => exact key _ hr
  | t d n t => exact key _ hr
  | dead => cases hv
  | m es n => cases hv
  | it _ _ _ _ _ => cases hv
  | lp _ _ _ _ _ _ => cases hv

theorem opSlice_ok {t : TypeId} {x : Operand} {lo hi mx : Option Operand} (h : opSlice t x lo hi mx P fr st k = r) (hr : NF r) (sr : SR φ st w) (ho : o.op = .slice t x lo hi mx)
    (hx : VR φ 0 (eo fr x) [ρ x]) (h1 : ∀ y, lo = some y → VR φ 0 (eo fr y) [ρ y]) (h2 : ∀ y, hi = some y → VR φ 0 (eo fr y) [ρ y]) (h3 : ∀ y, mx = some y → VR φ 0 (eo fr y) [ρ y]) : Sound P o ρ φ st w k r := by
  unfold opSlice at h
  rw [opnd_eq] at h
  generalize eo fr x = vx at *
  rcases ikOn_cases (ik P t) _ _ _ (bad 140) with ⟨n, size, hk, he⟩ | ⟨size, hk, he⟩ | ⟨hk, he⟩ | he
  · rw [he] at h
    rcases onPtr_cases vx _ (bad 133) with ⟨b, o', rfl, he⟩ | he
    rotate_left
    · exact hr.no h he
    rw [he] at h
    generalize hρ : ρ x = u at hx
    cases hx with
    | ptr _ _ B s N hb =>
    rcases atB_cases b st _ (bad 116) with ⟨blk, hf, he⟩ | he
    rotate_left
    · exact hr.no h he
    rw [he] at h
    rcases blkGet_cases (Nat.sub (Nat.add o' (Nat.mul n size)) 1) blk _ (bad 115) with ⟨cv, hcv, he⟩ | he
    rotate_left
    · exact hr.no h he
    rw [he] at h
    have hbd := cell_bound sr hf hb hcv
    have hbd : s + o' + n * size ≤ N := by
      have e1 : Nat.sub (Nat.add o' (Nat.mul n size)) 1 = o' + n * size - 1 := rfl
      rw [e1] at hbd
      omega
    rcases bounds_cases (P := P) (w := w) (ρ := ρ) (Nat.le_refl n) (Nat.le_refl n) false h1 h2 h3 with ⟨l', h', m', M', e, he, q1, q2, q3, q4, q5, q6, q7⟩ | ⟨n, he⟩
    rotate_left
    · exact hr.no h he
    rw [he, frc_eq, frc_eq, frc_eq] at h
    have hM : M' = m' := by
      cases e
      · have := q6 rfl; omega
      · exact q5 rfl
    subst hM
    obtain ⟨e, j, g1, g2, g3, _⟩ := ik_arr hk
    refine .same sr h (x := slicedAt ⟨B, s + o', none⟩ l' h' M' size) ?_ ?_
    · simp [execOp, ho, Instr.sliceAt, run_underlying g1, hρ, Instr.sureAddr, q7, run_sizeOf' g2, g3, slicedAt]
    · unfold slicedAt
      by_cases hq : M' = l'
      · rw [if_pos hq]
        exact .sl b _ _ _ size true B s N (s + o') (M' - l') hb (by show h' - l' ≤ M' - l'; omega) (Nat.le_refl _) (fun _ => rfl) (.inl (by omega)) (by rw [show M' - l' = 0 by omega]; omega)
      · rw [if_neg hq, add_none]
        have e2 : l' * size + (M' - l') * size = M' * size := by rw [← Nat.add_mul]; congr 1; omega
        have e3 : M' * size ≤ n * size := Nat.mul_le_mul_right _ q4
        refine .sl b _ _ _ size true B s N (s + o' + l' * size) (M' - l') hb (by show h' - l' ≤ M' - l'; omega) (Nat.le_refl _) (fun _ => rfl) (.inr ?_) (by omega)
        show _ = s + (o' + l' * size)
        omega
  · rw [he] at h
    obtain ⟨e, j, g1, g2, g3, _⟩ := ik_sl hk
    have hel : P.elem t = e := by unfold Program.elem; simp [g1]
    have g1' : P.underlying t = some (.slice (P.elem t)) := by rw [hel]; exact g1
    rcases onSl_cases vx _ _ (bad 135) with ⟨rfl, he⟩ | ⟨b, o', l, c, z, ex, rfl, he⟩ | he
    · rw [he] at h
      generalize hρ : ρ x = u at hx
      cases hx
      rcases bounds_cases (P := P) (w := w) (ρ := ρ) (Nat.le_refl 0) (Nat.le_refl 0) true h1 h2 h3 with ⟨l', h', m', M', e, he, q1, q2, q3, q4, q5, q6, q7⟩ | ⟨n, he⟩
      rotate_left
      · exact hr.no h he
      rw [he] at h
      refine .same sr h (x := .slice none 0 0) ?_ .nils
      have : M' = 0 := by omega
      subst this
      have : l' = 0 := by omega
      subst this
      have : h' = 0 := by omega
      subst this
      simp [execOp, ho, run_sliceAt_slice w t _ _ _ _ g1', hρ, run_slice_any w t none 0 0 g1', q7, hel, run_sizeOf' g2, sliced]
    · rw [he] at h
      rcases ifB_cases (Nat.beq z size) _ (bad 134) with ⟨hz, he⟩ | ⟨_, he⟩
      rotate_left
      · exact hr.no h he
      rw [he] at h
      have hz : z = size := Nat.eq_of_beq_eq_true hz
      subst hz
      generalize hρ : ρ x = u at hx
      cases hx with
      | sl _ _ _ _ _ _ B s N a C hb p1 p2 p3 p4 p5 =>
      rcases bounds_cases (P := P) (w := w) (ρ := ρ) p1 p2 true h1 h2 h3 with ⟨l', h', m', M', e', he, q1, q2, q3, q4, q5, q6, q7⟩ | ⟨n, he⟩
      rotate_left
      · exact hr.no h he
      rw [he, frc_eq, frc_eq, frc_eq] at h
      refine .same sr h (x := sliced (some ⟨B, a, none⟩) l' h' M' z) ?_ ?_
      · simp [execOp, ho, run_sliceAt_slice w t _ _ _ _ g1', hρ, run_slice_any w t _ _ _ g1', q7, hel, run_sizeOf' g2, g3]
      · unfold sliced
        have hex : ifB e' true ex = true → M' - l' = m' - l' := by
          intro hh
          cases e' with
          | true => rw [q5 rfl]
          | false => have := q6 rfl; have := p3 hh; omega
        by_cases hq : M' = l'
        · rw [if_pos hq]
          exact .sl b _ _ _ z _ B s N a (M' - l') hb (by show h' - l' ≤ m' - l'; omega) (by show m' - l' ≤ M' - l'; omega) hex (.inl (by omega)) (by rw [show M' - l' = 0 by omega]; omega)
        · rw [if_neg hq]
          show VR φ 0 _ [.slice (some ((⟨B, a, none⟩ : Addr).add (l' * z))) _ _]
          rw [add_none]
          have e2 : l' * z + (M' - l') * z = M' * z := by rw [← Nat.add_mul]; congr 1; omega
          have e3 : M' * z ≤ C * z := Nat.mul_le_mul_right _ q4
          refine .sl b _ _ _ z _ B s N (a + l' * z) (M' - l') hb (by show h' - l' ≤ m' - l'; omega) (by show m' - l' ≤ M' - l'; omega) hex (.inr ?_) (by omega)
          show _ = s + (o' + l' * z)
          omega
    · exact hr.no h he
  · rw [he] at h
    rcases onStr_cases vx _ (bad 139) with ⟨s, rfl, he⟩ | he
    rotate_left
    · exact hr.no h he
    rw [he] at h
    generalize hρ : ρ x = u at hx
    cases hx with
    | str _ b hs =>
    cases mx with
    | some y => exact hr.no h rfl
    | none =>
    have h : (frc (slen s) fun n => boundsK n n lo hi none fr fun l h _ _ => stake h s (fun s => sdrop l s (fun s => k (.str s) st) (bad 136)) (bad 137)) = r := h
    rw [frc_eq] at h
    have hsz : slen s = b.size := by rw [slen_eq, ← hs]; simp
    rw [hsz] at h
    rcases bounds_cases (P := P) (w := w) (ρ := ρ) (mx := none) (Nat.le_refl b.size) (Nat.le_refl b.size) false h1 h2 (by simp) with ⟨l', h', m', M', e, he, q1, q2, q3, q4, q5, q6, q7⟩ | ⟨n, he⟩
    rotate_left
    · exact hr.no h he
    rw [he] at h
    rcases stake_cases h' s (fun s => sdrop l' s (fun s => k (.str s) st) (bad 136)) (bad 137) with ⟨_, he⟩ | he
    rotate_left
    · exact hr.no h he
    rw [he] at h
    rcases sdrop_cases l' (s.take h') (fun s => k (.str s) st) (bad 136) with ⟨_, he⟩ | he
    rotate_left
    · exact hr.no h he
    rw [he] at h
    have g1 := ik_str hk
    refine .same sr h (x := .string (b.extract l' h')) ?_ (.str _ _ ?_)
    · simp only [Option.map_none] at q7
      simp [execOp, ho, run_sliceAt_string w t _ _ _ _ g1, hρ, Instr.slice, run_underlying g1, q7]
    · rw [← hs]
      simp [List.map_drop, List.map_take, List.drop_take]
  · exact hr.no h he
end ops
end Ev
end
