/- Part of a proof. -/
import Derived.Lib.Join
import Derived.Lib.ItoaNum
import Derived.Lib.Bytealg
import Derived.Test.YtaadpbhondmahaaGreatDoorT2
set_option linter.all false
namespace Go.Ev
theorem ztC (a b : Str) : Lib.compareBytes a b = zDp a b := by
 unfold zDp
 induction a generalizing b with
 | nil => cases b <;> simp [Lib.compareBytes, zfe]
 | cons x a ih => cases b with
   | nil => simp [Lib.compareBytes, zfe]
   | cons y b =>
     simp only [Lib.compareBytes, zfe, ih]
     by_cases h1 : x < y
     · simp [h1]
     · by_cases h2 : y < x
       · have e : (x == y) = false := by simp; intro e; subst e; exact h1 h2
         simp [h1, h2, e]
       · have e : x = y := by
          rw [UInt8.lt_iff_toNat_lt] at h1 h2
          exact UInt8.toNat_inj.1 (by omega)
         subst e
         simp [h1]
def zFZ : Nat → Nat → Str
 | 0, _ => []
 | k + 1, u => if u < 10 then [UInt8.ofNat (48 + u)] else zFZ k (u / 10) ++ [UInt8.ofNat (48 + u % 10)]
theorem zDh (k u : Nat) (h : u < 10 ^ k) (hk : 0 < k) : zFZ k u = Lib.decDigits u := by
 induction k generalizing u with
 | zero => omega
 | succ k ih =>
   rw [Lib.decDigits, zFZ]
   by_cases h1 : u < 10
   · simp [h1]
   · simp only [h1, if_false, dif_neg, not_false_eq_true]
     cases k with
     | zero => simp at h; omega
     | succ k => rw [ih (u / 10) (by rw [Nat.pow_succ] at h; omega) (by omega)]
def zhT (n : Int) : Str := if n < 0 then 45 :: zFZ 20 n.natAbs else zFZ 20 n.toNat
theorem zzI {n : Int} (h : zl2 n) : zhT n = Lib.itoa n := by
 unfold zhT Lib.itoa
 obtain ⟨h1, h2⟩ := h
 split
 · rw [zDh _ _ (by omega) (by omega)]
 · rw [zDh _ _ (by omega) (by omega)]
def zpB (n : Int) : Bool := decide (-9223372036854775808 ≤ n) && decide (n ≤ 9223372036854775807)
theorem zzK {n : Int} (h : zpB n = true) : zl2 n := by
 simp only [zpB, Bool.and_eq_true, decide_eq_true_eq] at h; exact h
theorem zqq {n : Int} (h : zl2 n) : zpB n = true := by
 simp only [zpB, Bool.and_eq_true, decide_eq_true_eq]; exact h
def zqg : List D → Option D
 | [.str a, .str b] => some (.int .i64 (zDp a b))
 | _ => none
def zAF : List D → Option D
 | [.int .i64 n] => if zpB n then some (.str (zhT n)) else none
 | _ => none
def zg4 : List D → Option D
 | [.int .i64 n, .int .i64 b] => if zpB n && b == 10 then some (.str (zhT n)) else none
 | _ => none
def zGa : Row → Option Str
 | [.str s] => some s
 | _ => none
def ztH : List Row → Option (List Str)
 | [] => some []
 | r :: l => bnd (zGa r) fun s => bnd (ztH l) fun ss => some (s :: ss)
theorem zBp (l : List Str) : ztH (l.map zpm) = some l := by
 induction l with
 | nil => rfl
 | cons s l ih => simp only [List.map_cons, ztH, ih]; rfl
theorem zBq {rows : List Row} {l : List Str} (h : ztH rows = some l) : rows = l.map zpm := by
 induction rows generalizing l with
 | nil => simp only [ztH, Option.some.injEq] at h; subst h; rfl
 | cons r rows ih =>
   simp only [ztH] at h
   obtain ⟨s, h1, h2⟩ := zaa h
   obtain ⟨ss, h3, h4⟩ := zaa h2
   simp only [Option.some.injEq] at h4; subst h4
   rw [ih h3]
   unfold zGa at h1
   split at h1
   · simp only [Option.some.injEq] at h1; subst h1; rfl
   · cases h1
def zjV (xs : List Str) (sep : Str) : Str := Lib.join xs sep
def zyz : List D → Option D
 | [.sl _ rows, .str sep] => bnd (ztH rows) fun xs => bnd (ok (decide ((zjV xs sep).length ≤ room) && decide (xs.length ≤ room))) fun _ => some (.str (zjV xs sep))
 | _ => none
theorem zw0 (a b : Str) : zqg [.str a, .str b] = some (.int .i64 (zDp a b)) := rfl
theorem ztb (n : Int) (h : zpB n = true) : zAF [.int .i64 n] = some (.str (zhT n)) := by simp only [zAF, h, if_true]
theorem zlp (n b : Int) (h : (zpB n && b == 10) = true) : zg4 [.int .i64 n, .int .i64 b] = some (.str (zhT n)) := by simp only [zg4, h, if_true]
def zqo (xs : List Str) (sep : Str) : Prop := (zjV xs sep).length ≤ room ∧ xs.length ≤ room
instance (xs : List Str) (sep : Str) : Decidable (zqo xs sep) := inferInstanceAs (Decidable (_ ∧ _))
def zld (a : Sl Str) (sep : Str) : Str := zjV a.l sep
theorem zAE {f : Fl} (xs : List Str) (sep : Str) (h : zqo xs sep) : zyz [.sl f (xs.map zpm), .str sep] = some (.str (zjV xs sep)) := by
 obtain ⟨h1, h2⟩ := h
 simp [zyz, zBp, ok, h1, h2, bnd]
theorem zta (a : Sl Str) (sep : Str) (h : zqo a.l sep) : zyz [dSl zpm a, .str sep] = some (.str (zld a sep)) := zAE a.l sep h
end Go.Ev
