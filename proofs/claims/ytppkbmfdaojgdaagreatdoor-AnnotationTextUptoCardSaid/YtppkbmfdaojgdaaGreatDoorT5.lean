/- AnnotationText: for every annotation and string that hold together at most 1048576 values and letters, the law returns true. Condition: that bound (the Upto form). -/
import Derived.Lib.Join
import Derived.Lib.ItoaNum
import Derived.Lib.Bytealg
import Derived.Test.YtppkbmfdaojgdaaGreatDoorT2
set_option linter.all false
namespace Go.Ev
theorem zx8 (a b : Str) : Lib.compareBytes a b = zFk a b := by
 unfold zFk
 induction a generalizing b with
 | nil => cases b <;> simp [Lib.compareBytes, zda]
 | cons x a ih => cases b with
   | nil => simp [Lib.compareBytes, zda]
   | cons y b =>
     simp only [Lib.compareBytes, zda, ih]
     by_cases h1 : x < y
     · simp [h1]
     · by_cases h2 : y < x
       · have e : (x == y) = false := by simp; intro e; subst e; exact h1 h2
         simp [h1, h2, e]
       · have e : x = y := by
          rw [UInt8.lt_iff_toNat_lt] at h1 h2
          exact UInt8.toNat_inj.1 (by omega)
         subst e
         simp [h1]
def zAc : Nat → Nat → Str
 | 0, _ => []
 | k + 1, u => if u < 10 then [UInt8.ofNat (48 + u)] else zAc k (u / 10) ++ [UInt8.ofNat (48 + u % 10)]
theorem zBu (k u : Nat) (h : u < 10 ^ k) (hk : 0 < k) : zAc k u = Lib.decDigits u := by
 induction k generalizing u with
 | zero => omega
 | succ k ih =>
   rw [Lib.decDigits, zAc]
   by_cases h1 : u < 10
   · simp [h1]
   · simp only [h1, if_false, dif_neg, not_false_eq_true]
     cases k with
     | zero => simp at h; omega
     | succ k => rw [ih (u / 10) (by rw [Nat.pow_succ] at h; omega) (by omega)]
def zb7 (n : Int) : Str := if n < 0 then 45 :: zAc 20 n.natAbs else zAc 20 n.toNat
theorem zGb {n : Int} (h : zld n) : zb7 n = Lib.itoa n := by
 unfold zb7 Lib.itoa
 obtain ⟨h1, h2⟩ := h
 split
 · rw [zBu _ _ (by omega) (by omega)]
 · rw [zBu _ _ (by omega) (by omega)]
def zsY (n : Int) : Bool := decide (-9223372036854775808 ≤ n) && decide (n ≤ 9223372036854775807)
theorem zGd {n : Int} (h : zsY n = true) : zld n := by
 simp only [zsY, Bool.and_eq_true, decide_eq_true_eq] at h; exact h
theorem zt3 {n : Int} (h : zld n) : zsY n = true := by
 simp only [zsY, Bool.and_eq_true, decide_eq_true_eq]; exact h
def ztP : List D → Option D
 | [.str a, .str b] => some (.int .i64 (zFk a b))
 | _ => none
def zHi : List D → Option D
 | [.int .i64 n] => if zsY n then some (.str (zb7 n)) else none
 | _ => none
def zid : List D → Option D
 | [.int .i64 n, .int .i64 b] => if zsY n && b == 10 then some (.str (zb7 n)) else none
 | _ => none
def zM4 : Row → Option Str
 | [.str s] => some s
 | _ => none
def zyi : List Row → Option (List Str)
 | [] => some []
 | r :: l => bnd (zM4 r) fun s => bnd (zyi l) fun ss => some (s :: ss)
theorem zIa (l : List Str) : zyi (l.map zrk) = some l := by
 induction l with
 | nil => rfl
 | cons s l ih => simp only [List.map_cons, zyi, ih]; rfl
theorem zIb {rows : List Row} {l : List Str} (h : zyi rows = some l) : rows = l.map zrk := by
 induction rows generalizing l with
 | nil => simp only [zyi, Option.some.injEq] at h; subst h; rfl
 | cons r rows ih =>
   simp only [zyi] at h
   obtain ⟨s, h1, h2⟩ := zaa h
   obtain ⟨ss, h3, h4⟩ := zaa h2
   simp only [Option.some.injEq] at h4; subst h4
   rw [ih h3]
   unfold zM4 at h1
   split at h1
   · simp only [Option.some.injEq] at h1; subst h1; rfl
   · cases h1
def ze0 (xs : List Str) (sep : Str) : Str := Lib.join xs sep
def zEK : List D → Option D
 | [.sl _ rows, .str sep] => bnd (zyi rows) fun xs => bnd (ok (decide ((ze0 xs sep).length ≤ zdd) && decide (xs.length ≤ zdd))) fun _ => some (.str (ze0 xs sep))
 | _ => none
theorem zCV (a b : Str) : ztP [.str a, .str b] = some (.int .i64 (zFk a b)) := rfl
theorem zxF (n : Int) (h : zsY n = true) : zHi [.int .i64 n] = some (.str (zb7 n)) := by simp only [zHi, h, if_true]
theorem znv (n b : Int) (h : (zsY n && b == 10) = true) : zid [.int .i64 n, .int .i64 b] = some (.str (zb7 n)) := by simp only [zid, h, if_true]
def ztZ (xs : List Str) (sep : Str) : Prop := (ze0 xs sep).length ≤ zdd ∧ xs.length ≤ zdd
instance (xs : List Str) (sep : Str) : Decidable (ztZ xs sep) := inferInstanceAs (Decidable (_ ∧ _))
def zm4 (a : Sl Str) (sep : Str) : Str := ze0 a.l sep
theorem zHh {f : Fl} (xs : List Str) (sep : Str) (h : ztZ xs sep) : zEK [.sl f (xs.map zrk), .str sep] = some (.str (ze0 xs sep)) := by
 obtain ⟨h1, h2⟩ := h
 simp [zEK, zIa, ok, h1, h2, bnd]
theorem zxE (a : Sl Str) (sep : Str) (h : ztZ a.l sep) : zEK [dSl zrk a, .str sep] = some (.str (zm4 a sep)) := zHh a.l sep h
end Go.Ev
