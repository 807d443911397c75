/- Part of a proof. -/
import Derived.Calls
import Derived.Orders
import Derived.Below
set_option linter.all false
namespace Go.Ev
theorem YJ {p : Prop} (h : p := by omega) : p := h
def yA := @Option.some.injEq
def yB := @List.getElem?_eq_getElem
def yC := @List.length_cons
def yD := @List.length_append
def yE := @List.getLast?_singleton
def yF := @Bool.false_eq_true
def yG := @Bool.eq_false_or_eq_true
def yH := @List.getElem?_cons_zero
def yI := @List.length_nil
def yJ := @List.getLast?_append
def yK := @Bool.and_eq_true
def yL := @List.mem_of_getElem?
def yM := @Option.some_or
def yN := @Option.or_some
def yO := @Option.some.inj
def yP := @Nat.le_refl
def yQ := @List.mem_cons_self
def yR := @List.map_cons
def yS := @List.cons_append
def yT := @List.append_assoc
def yU := @List.mem_cons_of_mem
def yV := @List.length_map
def yW := @List.getElem?_eq_some_iff
def yX := @List.getElem?_cons_succ
def yY := @Option.map_eq_some_iff
def yZ := @List.nil_append
def ya := @List.mem_iff_getElem?
def yb := @List.drop_eq_getElem_cons
def yc := @Option.getD_some
def yd := @List.getElem?_toArray
def ye := @Bool.not_true
def yf := @Option.map_some
def yg := @List.drop_zero
def yh := @List.eq_of_mem_replicate
def yi := @Nat.zero_le
def yj := @List.mem_cons
def yk := @Nat.zero_add
def yl := @List.all_eq_true
def ym := @List.length_eq_zero_iff
def yn := @List.getElem?_append_left
def yp := @Array.getElem?_eq_getElem
def yq := @Option.bind_eq_some_iff
def yr := @List.map_nil
def yu := @List.mem_append
def yv := @List.getElem?_append_right
def yw := @Nat.add_mul
def yx := @Bool.not_false
def yy := @List.getElem_mem
def yz := @Bool.true_and
def YA := @List.getElem?_map
def YB := @Array.getD_eq_getD_getElem?
def YC := @List.mem_map
def YD := @Prod.mk.injEq
def YE := @Prod.mk.inj
def YF := @of_decide_eq_true
def YG := @decide_eq_true_eq
def YH := @decide_eq_true
def YI := @decide_eq_false
inductive Nm where
 | arg (i : Nat)
 | loc (t j : Nat)
 deriving DecidableEq, Inhabited
inductive Fl where
 | nil | any | full
 deriving DecidableEq, Inhabited
inductive D where
 | bool (b : Bool)
 | int (k : IntKind) (n : Int)
 | str (s : List UInt8)
 | nilp
 | ptr (b : Nm) (g r o : Nat)
 | eptr (row : List D) (o : Nat)
 | sl (f : Fl) (rows : List (List D))
 | own (b : Nm) (g off len : Nat)
 | nilm
 | map (b : Nm) (g : Nat)
 | iter (b : Nm) (g : Nat)
 | fn (f : Fn) (first captured : List D)
 | nilf
 | iface (t : TypeId) (v : D)
 | nili
 | agg (cells : List D)
 | tup (ds : List D)
 | unk
 deriving Inhabited
abbrev Row := List D
structure Ent where
 key : D
 val : D
 born : Nat
 deriving Inhabited
inductive Blk where
 | rows (g : Nat) (fz cl : Bool) (sz : Nat) (rows : List Row)
 | map (g : Nat) (cl : Bool) (es : List Ent) (clock : Nat)
 | siter (g : Nat) (s : List UInt8) (pos : Nat)
 | miter (g : Nat) (m : Option (Nm × Nat)) (since : Nat) (seen : List Nat) (last : Nat)
 deriving Inhabited
def Blk.gen : Blk -> Nat
 | .rows g _ _ _ _ => g
 | .map g _ _ _ => g
 | .siter g _ _ => g
 | .miter g _ _ _ _ => g
def bnd {α β : Type} (x : Option α) (f : α -> Option β) : Option β := x.bind f
theorem zad {α β : Type} (a : α) (f : α -> Option β) : bnd (some a) f = f a := rfl
theorem zaa {α β : Type} {x : Option α} {f : α -> Option β} {b : β} (h : bnd x f = some b) : ∃ a, x = some a /\ f a = some b := by
 cases x with
 | none => cases h
 | some a => exact ⟨a, rfl, h⟩
def ok (b : Bool) : Option Unit := if b then some () else none
@[simp] theorem zMo : ok true = some () := rfl
@[simp] theorem zWA : ok false = none := rfl
theorem zdA {b : Bool} {u : Unit} (h : ok b = some u) : b = true := by cases b <;> simp_all
abbrev Mem := Nm -> Option Blk
abbrev Env := Nat -> D
def Env.upd (e : Env) (t : Nat) (v : D) : Env := fun x => if x = t then v else e x
def Mem.upd (m : Mem) (b : Nm) (k : Blk) : Mem := fun x => if x = b then some k else m x
abbrev Ups := List (Nm × Blk)
def Mem.upds (m : Mem) : Ups -> Mem
 | [] => m
 | (b, k) :: r => Mem.upds (m.upd b k) r
inductive M (α : Type) where
 | ret (a : α)
 | look (b : Nm) (k : Option Blk -> M α)
 | fail
def M.bind {α β : Type} : M α -> (α -> M β) -> M β
 | .ret a, f => f a
 | .look b k, f => .look b fun o => (k o).bind f
 | .fail, _ => .fail
instance : Monad M where
 pure := M.ret
 bind := M.bind
def M.exec {α : Type} (m : Mem) : M α -> Option α
 | .ret a => some a
 | .look b k => (k (m b)).exec m
 | .fail => none
def M.run {α : Type} (m : Mem) (l : List Nm) : M α -> Option (α × List Nm)
 | .ret a => some (a, l)
 | .look b k => (k (m b)).run m (b :: l)
 | .fail => none
def M.peek (b : Nm) : M (Option Blk) := .look b .ret
def M.lift {α : Type} : Option α -> M α
 | some a => .ret a
 | none => .fail
def M.guard (b : Bool) : M Unit := if b then .ret () else .fail
section laws
variable {α β : Type} (m : Mem)
@[simp] theorem M.exec_pure (a : α) : (pure a : M α).exec m = some a := rfl
@[simp] theorem M.exec_ret (a : α) : (M.ret a).exec m = some a := rfl
@[simp] theorem M.exec_fail : (M.fail : M α).exec m = none := rfl
@[simp] theorem M.exec_bind (x : M α) (f : α -> M β) : (x >>= f).exec m = bnd (x.exec m) fun a => (f a).exec m := by
  show (M.bind x f).exec m = _
  induction x with
  | ret a => rfl
  | look b k ih => simp only [M.bind, M.exec]; exact ih _
  | fail => rfl
@[simp] theorem M.exec_peek (b : Nm) : (M.peek b).exec m = some (m b) := rfl
@[simp] theorem M.exec_lift (o : Option α) : (M.lift o).exec m = o := by cases o <;> rfl
@[simp] theorem M.exec_guard (b : Bool) : (M.guard b).exec m = ok b := by cases b <;> rfl
@[simp] theorem M.exec_ite (c : Prop) [Decidable c] (x y : M α) : (if c then x else y).exec m = if c then x.exec m else y.exec m := by split <;> rfl
variable (l : List Nm)
@[simp] theorem M.run_pure (a : α) : (pure a : M α).run m l = some (a, l) := rfl
@[simp] theorem M.run_ret (a : α) : (M.ret a).run m l = some (a, l) := rfl
@[simp] theorem M.run_fail : (M.fail : M α).run m l = none := rfl
@[simp] theorem M.run_bind (x : M α) (f : α -> M β) : (x >>= f).run m l = bnd (x.run m l) fun p => (f p.1).run m p.2 := by
  show (M.bind x f).run m l = _
  induction x generalizing l with
  | ret a => rfl
  | look b k ih => simp only [M.bind, M.run]; exact ih _ _
  | fail => rfl
@[simp] theorem M.run_peek (b : Nm) : (M.peek b).run m l = some (m b, b :: l) := rfl
@[simp] theorem M.run_lift (o : Option α) : (M.lift o).run m l = bnd o fun a => some (a, l) := by cases o <;> rfl
@[simp] theorem M.run_guard (b : Bool) : (M.guard b).run m l = bnd (ok b) fun u => some (u, l) := by cases b <;> rfl
@[simp] theorem M.run_ite (c : Prop) [Decidable c] (x y : M α) : (if c then x else y).run m l = if c then x.run m l else y.run m l := by split <;> rfl
theorem M.exec_of_run {x : M α} {a : α} {l l' : List Nm} (h : x.run m l = some (a, l')) : x.exec m = some a := by
 induction x generalizing l with
 | ret b => simp only [M.run, yA, YD] at h; exact congrArg some h.1
 | look b k ih => exact ih _ h
 | fail => cases h
theorem M.run_local {x : M α} {a : α} {l l' : List Nm} {m₂ : Mem} (h : x.run m l = some (a, l')) (hm : ∀ b ∈ l', m₂ b = m b) : x.run m₂ l = some (a, l') := by
 induction x generalizing l with
 | ret b => exact h
 | look b k ih =>
   have hb : b ∈ l' := by
    have grow : ∀ (x : M α) (l : List Nm), x.run m l = some (a, l') -> ∀ c ∈ l, c ∈ l' := by
     intro x
     induction x with
     | ret d => intro l h c hc; simp only [M.run, yA, YD] at h; exact h.2 ▸ hc
     | look b k ih => intro l h c hc; exact ih _ _ h c (yU _ hc)
     | fail => intro l h; cases h
    exact grow (k (m b)) (b :: l) h b yQ
   show (k (m₂ b)).run m₂ (b :: l) = some (a, l')
   rw [hm b hb]
   exact ih _ h
 | fail => cases h
end laws
mutual
def ids : D -> List Nm
 | .ptr b _ _ _ => [b]
 | .own b _ _ _ => [b]
 | .map b _ => [b]
 | .iter b _ => [b]
 | .fn _ a b => ztB a ++ ztB b
 | .iface _ v => ids v
 | .agg cs => ztB cs
 | .tup cs => ztB cs
 | .bool _ => []
 | .int _ _ => []
 | .str _ => []
 | .nilp => []
 | .eptr _ _ => []
 | .sl _ _ => []
 | .nilm => []
 | .nilf => []
 | .nili => []
 | .unk => []
def ztB : List D -> List Nm
 | [] => []
 | d :: r => ids d ++ ztB r
end
def zZp : List Row -> List Nm
 | [] => []
 | r :: l => ztB r ++ zZp l
def zZq : List Ent -> List Nm
 | [] => []
 | e :: l => ids e.key ++ (ids e.val ++ zZq l)
def Blk.ids : Blk -> List Nm
 | .rows _ _ cl _ rs => if cl then [] else zZp rs
 | .map _ cl es _ => if cl then [] else zZq es
 | .siter _ _ _ => []
 | .miter _ m _ _ _ => match m with | some (b, _) => [b] | none => []
mutual
def zxr : D -> Bool
 | .bool _ => true
 | .int _ _ => true
 | .str _ => true
 | .nilp => true
 | .nilf => true
 | .nili => true
 | .nilm => true
 | .iface _ v => zxr v
 | .agg cs => zAq cs
 | .tup cs => zAq cs
 | .ptr _ _ _ _ => false
 | .eptr _ _ => false
 | .sl _ _ => false
 | .own _ _ _ _ => false
 | .map _ _ => false
 | .iter _ _ => false
 | .fn _ _ _ => false
 | .unk => true
def zAq : List D -> Bool
 | [] => true
 | d :: r => zxr d && zAq r
end
def cell : D -> Bool
 | .agg _ => false
 | .tup _ => false
 | .unk => false
 | .bool _ => true
 | .int _ _ => true
 | .str _ => true
 | .nilp => true
 | .ptr _ _ _ _ => true
 | .eptr _ _ => true
 | .sl _ _ => true
 | .own _ _ _ _ => true
 | .nilm => true
 | .map _ _ => true
 | .iter _ _ => true
 | .fn _ _ _ => true
 | .nilf => true
 | .iface _ _ => true
 | .nili => true
def still : D -> Bool
 | .bool _ => true
 | .int _ _ => true
 | .str _ => true
 | .nilp => true
 | .nilf => true
 | .nili => true
 | .nilm => true
 | .sl _ _ => true
 | .iface _ v => still v
 | .agg _ => false
 | .tup _ => false
 | .unk => false
 | .ptr _ _ _ _ => false
 | .eptr _ _ => false
 | .own _ _ _ _ => false
 | .map _ _ => false
 | .iter _ _ => false
 | .fn _ _ _ => false
mutual
def ren (ρ : Nm -> Option (Nm × Nat)) : D -> Option D
 | .ptr b g r o => (ρ b).map fun (c, k) => .ptr c (g + k) r o
 | .own b g r o => (ρ b).map fun (c, k) => .own c (g + k) r o
 | .map b g => (ρ b).map fun (c, k) => .map c (g + k)
 | .iter b g => (ρ b).map fun (c, k) => .iter c (g + k)
 | .fn f a b => (zr7 ρ a).bind fun a' => (zr7 ρ b).map fun b' => .fn f a' b'
 | .iface t v => (ren ρ v).map (.iface t)
 | .agg cs => (zr7 ρ cs).map .agg
 | .tup cs => (zr7 ρ cs).map .tup
 | .bool b => some (.bool b)
 | .int k n => some (.int k n)
 | .str s => some (.str s)
 | .nilp => some .nilp
 | .eptr r o => some (.eptr r o)
 | .sl f r => some (.sl f r)
 | .nilf => some .nilf
 | .nili => some .nili
 | .nilm => some .nilm
 | .unk => some .unk
def zr7 (ρ : Nm -> Option (Nm × Nat)) : List D -> Option (List D)
 | [] => some []
 | d :: r => (ren ρ d).bind fun d' => (zr7 ρ r).map fun r' => d' :: r'
end
def zRu (ρ : Nm -> Option (Nm × Nat)) : List Row -> Option (List Row)
 | [] => some []
 | d :: r => (zr7 ρ d).bind fun d' => (zRu ρ r).map fun r' => d' :: r'
def zRx (ρ : Nm -> Option (Nm × Nat)) : List Ent -> Option (List Ent)
 | [] => some []
 | e :: r => (ren ρ e.key).bind fun k' => (ren ρ e.val).bind fun v' => (zRx ρ r).map fun r' => ⟨k', v', e.born⟩ :: r'
def zhS (ρ : Nm -> Option (Nm × Nat)) (k : Nat) : Blk -> Option Blk
 | .rows g fz cl sz rows => if cl then some (.rows (g + k) fz true sz rows) else (zRu ρ rows).map fun r => .rows (g + k) fz false sz r
 | .map g cl es clock => if cl then some (.map (g + k) true es clock) else (zRx ρ es).map fun r => .map (g + k) false r clock
 | .siter g s pos => some (.siter (g + k) s pos)
 | .miter g m since seen last => match m with
   | none => some (.miter (g + k) none since seen last)
   | some (b, gb) => (ρ b).map fun (c, kb) => .miter (g + k) (some (c, gb + kb)) since seen last
mutual
def zog : D -> D -> Bool
 | .bool a, .bool b => a == b
 | .int j a, .int k b => decide (j = k) && decide (a = b)
 | .str a, .str b => decide (a = b)
 | .nilp, .nilp => true
 | .ptr b g r o, .ptr b' g' r' o' => decide (b = b') && decide (g = g') && decide (r = r') && decide (o = o')
 | .eptr a o, .eptr b o' => zxb a b && decide (o = o')
 | .sl f a, .sl f' b => decide (f = f') && zDf a b
 | .own b g r o, .own b' g' r' o' => decide (b = b') && decide (g = g') && decide (r = r') && decide (o = o')
 | .nilm, .nilm => true
 | .map b g, .map b' g' => decide (b = b') && decide (g = g')
 | .iter b g, .iter b' g' => decide (b = b') && decide (g = g')
 | .fn f a b, .fn f' a' b' => decide (f = f') && zxb a a' && zxb b b'
 | .nilf, .nilf => true
 | .iface t v, .iface t' v' => decide (t = t') && zog v v'
 | .nili, .nili => true
 | .agg a, .agg b => zxb a b
 | .tup a, .tup b => zxb a b
 | .unk, .unk => true
 | _, _ => false
def zxb : List D -> List D -> Bool
 | [], [] => true
 | a :: r, b :: s => zog a b && zxb r s
 | _, _ => false
def zDf : List (List D) -> List (List D) -> Bool
 | [], [] => true
 | a :: r, b :: s => zxb a b && zDf r s
 | _, _ => false
end
def zE7 : List Ent -> List Ent -> Bool
 | [], [] => true
 | a :: r, b :: s => zog a.key b.key && zog a.val b.val && decide (a.born = b.born) && zE7 r s
 | _, _ => false
def zLR : Blk -> Blk -> Bool
 | .rows g fz cl sz rs, .rows g' fz' cl' sz' rs' => decide (g = g') && (fz == fz') && (cl == cl') && decide (sz = sz') && zDf rs rs'
 | .map g cl es c, .map g' cl' es' c' => decide (g = g') && (cl == cl') && zE7 es es' && decide (c = c')
 | .siter g s p, .siter g' s' p' => decide (g = g') && decide (s = s') && decide (p = p')
 | .miter g m i l h, .miter g' m' i' l' h' => decide (g = g') && decide (m = m') && decide (i = i') && decide (l = l') && decide (h = h')
 | _, _ => false
def zvA : List Blk -> List Blk -> Bool
 | [], [] => true
 | a :: r, b :: s => zLR a b && zvA r s
 | _, _ => false
end Go.Ev
