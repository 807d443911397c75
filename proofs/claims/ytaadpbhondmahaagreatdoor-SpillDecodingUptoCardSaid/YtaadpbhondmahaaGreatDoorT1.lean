/- Part of a proof. -/
import Derived.Calls
import Derived.Orders
import Derived.Below
set_option linter.all false
namespace Go.Ev
inductive Nm where
 | arg (i : Nat)
 | loc (t j : Nat)
 deriving DecidableEq, Inhabited
inductive Fl where
 | nil | any | full
 deriving DecidableEq, Inhabited
inductive D where
 | bool (b : Bool)
 | int (k : IntKind) (n : Int)
 | str (s : List UInt8)
 | nilp
 | ptr (b : Nm) (g r o : Nat)
 | eptr (row : List D) (o : Nat)
 | sl (f : Fl) (rows : List (List D))
 | own (b : Nm) (g off len : Nat)
 | nilm
 | map (b : Nm) (g : Nat)
 | iter (b : Nm) (g : Nat)
 | fn (f : Fn) (first captured : List D)
 | nilf
 | iface (t : TypeId) (v : D)
 | nili
 | agg (cells : List D)
 | tup (ds : List D)
 | unk
 deriving Inhabited
abbrev Row := List D
structure Ent where
 key : D
 val : D
 born : Nat
 deriving Inhabited
inductive Blk where
 | rows (g : Nat) (fz cl : Bool) (sz : Nat) (rows : List Row)
 | map (g : Nat) (cl : Bool) (es : List Ent) (clock : Nat)
 | siter (g : Nat) (s : List UInt8) (pos : Nat)
 | miter (g : Nat) (m : Option (Nm × Nat)) (since : Nat) (seen : List Nat) (last : Nat)
 deriving Inhabited
def Blk.gen : Blk → Nat
 | .rows g _ _ _ _ => g
 | .map g _ _ _ => g
 | .siter g _ _ => g
 | .miter g _ _ _ _ => g
def bnd {α β : Type} (x : Option α) (f : α → Option β) : Option β := x.bind f
theorem zad {α β : Type} (a : α) (f : α → Option β) : bnd (some a) f = f a := rfl
theorem zaa {α β : Type} {x : Option α} {f : α → Option β} {b : β} (h : bnd x f = some b) : ∃ a, x = some a ∧ f a = some b := by
 cases x with
 | none => cases h
 | some a => exact ⟨a, rfl, h⟩
def ok (b : Bool) : Option Unit := if b then some () else none
@[simp] theorem zCv : ok true = some () := rfl
@[simp] theorem zEM : ok false = none := rfl
theorem zcO {b : Bool} {u : Unit} (h : ok b = some u) : b = true := by cases b <;> simp_all
abbrev Mem := Nm → Option Blk
abbrev Env := Nat → D
def Env.upd (e : Env) (t : Nat) (v : D) : Env := fun x => if x = t then v else e x
def Mem.upd (m : Mem) (b : Nm) (k : Blk) : Mem := fun x => if x = b then some k else m x
abbrev Ups := List (Nm × Blk)
def Mem.upds (m : Mem) : Ups → Mem
 | [] => m
 | (b, k) :: r => Mem.upds (m.upd b k) r
inductive M (α : Type) where
 | ret (a : α)
 | look (b : Nm) (k : Option Blk → M α)
 | fail
def M.bind {α β : Type} : M α → (α → M β) → M β
 | .ret a, f => f a
 | .look b k, f => .look b fun o => (k o).bind f
 | .fail, _ => .fail
instance : Monad M where
 pure := M.ret
 bind := M.bind
def M.exec {α : Type} (m : Mem) : M α → Option α
 | .ret a => some a
 | .look b k => (k (m b)).exec m
 | .fail => none
def M.run {α : Type} (m : Mem) (l : List Nm) : M α → Option (α × List Nm)
 | .ret a => some (a, l)
 | .look b k => (k (m b)).run m (b :: l)
 | .fail => none
def M.peek (b : Nm) : M (Option Blk) := .look b .ret
def M.lift {α : Type} : Option α → M α
 | some a => .ret a
 | none => .fail
def M.guard (b : Bool) : M Unit := if b then .ret () else .fail
section laws
variable {α β : Type} (m : Mem)
@[simp] theorem M.exec_pure (a : α) : (pure a : M α).exec m = some a := rfl
@[simp] theorem M.exec_ret (a : α) : (M.ret a).exec m = some a := rfl
@[simp] theorem M.exec_fail : (M.fail : M α).exec m = none := rfl
@[simp] theorem M.exec_bind (x : M α) (f : α → M β) : (x >>= f).exec m = bnd (x.exec m) fun a => (f a).exec m := by
  show (M.bind x f).exec m = _
  induction x with
  | ret a => rfl
  | look b k ih => simp only [M.bind, M.exec]; exact ih _
  | fail => rfl
@[simp] theorem M.exec_peek (b : Nm) : (M.peek b).exec m = some (m b) := rfl
@[simp] theorem M.exec_lift (o : Option α) : (M.lift o).exec m = o := by cases o <;> rfl
@[simp] theorem M.exec_guard (b : Bool) : (M.guard b).exec m = ok b := by cases b <;> rfl
@[simp] theorem M.exec_ite (c : Prop) [Decidable c] (x y : M α) : (if c then x else y).exec m = if c then x.exec m else y.exec m := by split <;> rfl
variable (l : List Nm)
@[simp] theorem M.run_pure (a : α) : (pure a : M α).run m l = some (a, l) := rfl
@[simp] theorem M.run_ret (a : α) : (M.ret a).run m l = some (a, l) := rfl
@[simp] theorem M.run_fail : (M.fail : M α).run m l = none := rfl
@[simp] theorem M.run_bind (x : M α) (f : α → M β) : (x >>= f).run m l = bnd (x.run m l) fun p => (f p.1).run m p.2 := by
  show (M.bind x f).run m l = _
  induction x generalizing l with
  | ret a => rfl
  | look b k ih => simp only [M.bind, M.run]; exact ih _ _
  | fail => rfl
@[simp] theorem M.run_peek (b : Nm) : (M.peek b).run m l = some (m b, b :: l) := rfl
@[simp] theorem M.run_lift (o : Option α) : (M.lift o).run m l = bnd o fun a => some (a, l) := by cases o <;> rfl
@[simp] theorem M.run_guard (b : Bool) : (M.guard b).run m l = bnd (ok b) fun u => some (u, l) := by cases b <;> rfl
@[simp] theorem M.run_ite (c : Prop) [Decidable c] (x y : M α) : (if c then x else y).run m l = if c then x.run m l else y.run m l := by split <;> rfl
theorem M.exec_of_run {x : M α} {a : α} {l l' : List Nm} (h : x.run m l = some (a, l')) : x.exec m = some a := by
 induction x generalizing l with
 | ret b => simp only [M.run, Option.some.injEq, Prod.mk.injEq] at h; exact congrArg some h.1
 | look b k ih => exact ih _ h
 | fail => cases h
theorem M.run_local {x : M α} {a : α} {l l' : List Nm} {m₂ : Mem} (h : x.run m l = some (a, l')) (hm : ∀ b ∈ l', m₂ b = m b) : x.run m₂ l = some (a, l') := by
 induction x generalizing l with
 | ret b => exact h
 | look b k ih =>
   have hb : b ∈ l' := by
    have grow : ∀ (x : M α) (l : List Nm), x.run m l = some (a, l') → ∀ c ∈ l, c ∈ l' := by
     intro x
     induction x with
     | ret d => intro l h c hc; simp only [M.run, Option.some.injEq, Prod.mk.injEq] at h; exact h.2 ▸ hc
     | look b k ih => intro l h c hc; exact ih _ _ h c (List.mem_cons_of_mem _ hc)
     | fail => intro l h; cases h
    exact grow (k (m b)) (b :: l) h b List.mem_cons_self
   show (k (m₂ b)).run m₂ (b :: l) = some (a, l')
   rw [hm b hb]
   exact ih _ h
 | fail => cases h
end laws
mutual
def ids : D → List Nm
 | .ptr b _ _ _ => [b]
 | .own b _ _ _ => [b]
 | .map b _ => [b]
 | .iter b _ => [b]
 | .fn _ a b => zkO a ++ zkO b
 | .iface _ v => ids v
 | .agg cs => zkO cs
 | .tup cs => zkO cs
 | .bool _ => []
 | .int _ _ => []
 | .str _ => []
 | .nilp => []
 | .eptr _ _ => []
 | .sl _ _ => []
 | .nilm => []
 | .nilf => []
 | .nili => []
 | .unk => []
def zkO : List D → List Nm
 | [] => []
 | d :: r => ids d ++ zkO r
end
def zQs : List Row → List Nm
 | [] => []
 | r :: l => zkO r ++ zQs l
def zQt : List Ent → List Nm
 | [] => []
 | e :: l => ids e.key ++ (ids e.val ++ zQt l)
def Blk.ids : Blk → List Nm
 | .rows _ _ cl _ rs => if cl then [] else zQs rs
 | .map _ cl es _ => if cl then [] else zQt es
 | .siter _ _ _ => []
 | .miter _ m _ _ _ => match m with | some (b, _) => [b] | none => []
mutual
def zrj : D → Bool
 | .bool _ => true
 | .int _ _ => true
 | .str _ => true
 | .nilp => true
 | .nilf => true
 | .nili => true
 | .nilm => true
 | .iface _ v => zrj v
 | .agg cs => ztq cs
 | .tup cs => ztq cs
 | .ptr _ _ _ _ => false
 | .eptr _ _ => false
 | .sl _ _ => false
 | .own _ _ _ _ => false
 | .map _ _ => false
 | .iter _ _ => false
 | .fn _ _ _ => false
 | .unk => true
def ztq : List D → Bool
 | [] => true
 | d :: r => zrj d && ztq r
end
def cell : D → Bool
 | .agg _ => false
 | .tup _ => false
 | .unk => false
 | .bool _ => true
 | .int _ _ => true
 | .str _ => true
 | .nilp => true
 | .ptr _ _ _ _ => true
 | .eptr _ _ => true
 | .sl _ _ => true
 | .own _ _ _ _ => true
 | .nilm => true
 | .map _ _ => true
 | .iter _ _ => true
 | .fn _ _ _ => true
 | .nilf => true
 | .iface _ _ => true
 | .nili => true
def still : D → Bool
 | .bool _ => true
 | .int _ _ => true
 | .str _ => true
 | .nilp => true
 | .nilf => true
 | .nili => true
 | .nilm => true
 | .sl _ _ => true
 | .iface _ v => still v
 | .agg _ => false
 | .tup _ => false
 | .unk => false
 | .ptr _ _ _ _ => false
 | .eptr _ _ => false
 | .own _ _ _ _ => false
 | .map _ _ => false
 | .iter _ _ => false
 | .fn _ _ _ => false
mutual
def ren (ρ : Nm → Option (Nm × Nat)) : D → Option D
 | .ptr b g r o => (ρ b).map fun (c, k) => .ptr c (g + k) r o
 | .own b g r o => (ρ b).map fun (c, k) => .own c (g + k) r o
 | .map b g => (ρ b).map fun (c, k) => .map c (g + k)
 | .iter b g => (ρ b).map fun (c, k) => .iter c (g + k)
 | .fn f a b => (zkh ρ a).bind fun a' => (zkh ρ b).map fun b' => .fn f a' b'
 | .iface t v => (ren ρ v).map (.iface t)
 | .agg cs => (zkh ρ cs).map .agg
 | .tup cs => (zkh ρ cs).map .tup
 | .bool b => some (.bool b)
 | .int k n => some (.int k n)
 | .str s => some (.str s)
 | .nilp => some .nilp
 | .eptr r o => some (.eptr r o)
 | .sl f r => some (.sl f r)
 | .nilf => some .nilf
 | .nili => some .nili
 | .nilm => some .nilm
 | .unk => some .unk
def zkh (ρ : Nm → Option (Nm × Nat)) : List D → Option (List D)
 | [] => some []
 | d :: r => (ren ρ d).bind fun d' => (zkh ρ r).map fun r' => d' :: r'
end
def zHs (ρ : Nm → Option (Nm × Nat)) : List Row → Option (List Row)
 | [] => some []
 | d :: r => (zkh ρ d).bind fun d' => (zHs ρ r).map fun r' => d' :: r'
def zHv (ρ : Nm → Option (Nm × Nat)) : List Ent → Option (List Ent)
 | [] => some []
 | e :: r => (ren ρ e.key).bind fun k' => (ren ρ e.val).bind fun v' => (zHv ρ r).map fun r' => ⟨k', v', e.born⟩ :: r'
def zgi (ρ : Nm → Option (Nm × Nat)) (k : Nat) : Blk → Option Blk
 | .rows g fz cl sz rows => if cl then some (.rows (g + k) fz true sz rows) else (zHs ρ rows).map fun r => .rows (g + k) fz false sz r
 | .map g cl es clock => if cl then some (.map (g + k) true es clock) else (zHv ρ es).map fun r => .map (g + k) false r clock
 | .siter g s pos => some (.siter (g + k) s pos)
 | .miter g m since seen last => match m with
   | none => some (.miter (g + k) none since seen last)
   | some (b, gb) => (ρ b).map fun (c, kb) => .miter (g + k) (some (c, gb + kb)) since seen last
mutual
def zk8 : D → D → Bool
 | .bool a, .bool b => a == b
 | .int j a, .int k b => decide (j = k) && decide (a = b)
 | .str a, .str b => decide (a = b)
 | .nilp, .nilp => true
 | .ptr b g r o, .ptr b' g' r' o' => decide (b = b') && decide (g = g') && decide (r = r') && decide (o = o')
 | .eptr a o, .eptr b o' => zq5 a b && decide (o = o')
 | .sl f a, .sl f' b => decide (f = f') && zvo a b
 | .own b g r o, .own b' g' r' o' => decide (b = b') && decide (g = g') && decide (r = r') && decide (o = o')
 | .nilm, .nilm => true
 | .map b g, .map b' g' => decide (b = b') && decide (g = g')
 | .iter b g, .iter b' g' => decide (b = b') && decide (g = g')
 | .fn f a b, .fn f' a' b' => decide (f = f') && zq5 a a' && zq5 b b'
 | .nilf, .nilf => true
 | .iface t v, .iface t' v' => decide (t = t') && zk8 v v'
 | .nili, .nili => true
 | .agg a, .agg b => zq5 a b
 | .tup a, .tup b => zq5 a b
 | .unk, .unk => true
 | _, _ => false
def zq5 : List D → List D → Bool
 | [], [] => true
 | a :: r, b :: s => zk8 a b && zq5 r s
 | _, _ => false
def zvo : List (List D) → List (List D) → Bool
 | [], [] => true
 | a :: r, b :: s => zq5 a b && zvo r s
 | _, _ => false
end
def zwK : List Ent → List Ent → Bool
 | [], [] => true
 | a :: r, b :: s => zk8 a.key b.key && zk8 a.val b.val && decide (a.born = b.born) && zwK r s
 | _, _ => false
def zB3 : Blk → Blk → Bool
 | .rows g fz cl sz rs, .rows g' fz' cl' sz' rs' => decide (g = g') && (fz == fz') && (cl == cl') && decide (sz = sz') && zvo rs rs'
 | .map g cl es c, .map g' cl' es' c' => decide (g = g') && (cl == cl') && zwK es es' && decide (c = c')
 | .siter g s p, .siter g' s' p' => decide (g = g') && decide (s = s') && decide (p = p')
 | .miter g m i l h, .miter g' m' i' l' h' => decide (g = g') && decide (m = m') && decide (i = i') && decide (l = l') && decide (h = h')
 | _, _ => false
def zp9 : List Blk → List Blk → Bool
 | [], [] => true
 | a :: r, b :: s => zB3 a b && zp9 r s
 | _, _ => false
end Go.Ev
