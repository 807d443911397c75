/- HashjoinBucket: for all rows, key columns, numbers of parts and levels that hold together at most 1048576 values and letters, the law returns true. Condition: that bound (the Upto form). -/
import Derived.Lib.Join
import Derived.Lib.ItoaNum
import Derived.Lib.Bytealg
import Derived.Test.YtklniminnejicaaGreatDoorT2
set_option linter.all false
namespace Go.Ev
theorem zjD (a b : Str) : Lib.compareBytes a b = zur a b := by
 unfold zur
 induction a generalizing b with
 | nil => cases b <;> simp [Lib.compareBytes, zbw]
 | cons x a ih => cases b with
   | nil => simp [Lib.compareBytes, zbw]
   | cons y b =>
     simp only [Lib.compareBytes, zbw, ih]
     by_cases h1 : x < y
     · simp [h1]
     · by_cases h2 : y < x
       · have e : (x == y) = false := by simp; intro e; subst e; exact h1 h2
         simp [h1, h2, e]
       · have e : x = y := by
          rw [UInt8.lt_iff_toNat_lt] at h1 h2
          exact UInt8.toNat_inj.1 (by omega)
         subst e
         simp [h1]
def zxf : Nat → Nat → Str
 | 0, _ => []
 | k + 1, u => if u < 10 then [UInt8.ofNat (48 + u)] else zxf k (u / 10) ++ [UInt8.ofNat (48 + u % 10)]
theorem zsD (k u : Nat) (h : u < 10 ^ k) (hk : 0 < k) : zxf k u = Lib.decDigits u := by
 induction k generalizing u with
 | zero => omega
 | succ k ih =>
   rw [Lib.decDigits, zxf]
   by_cases h1 : u < 10
   · simp [h1]
   · simp only [h1, if_false, dif_neg, not_false_eq_true]
     cases k with
     | zero => simp at h; omega
     | succ k => rw [ih (u / 10) (by rw [Nat.pow_succ] at h; omega) (by omega)]
def zt7 (n : Int) : Str := if n < 0 then 45 :: zxf 20 n.natAbs else zxf 20 n.toNat
theorem zpq {n : Int} (h : zgC n) : zt7 n = Lib.itoa n := by
 unfold zt7 Lib.itoa
 obtain ⟨h1, h2⟩ := h
 split
 · rw [zsD _ _ (by omega) (by omega)]
 · rw [zsD _ _ (by omega) (by omega)]
def zt9 (n : Int) : Bool := decide (-9223372036854775808 ≤ n) && decide (n ≤ 9223372036854775807)
theorem zpr {n : Int} (h : zt9 n = true) : zgC n := by
 simp only [zt9, Bool.and_eq_true, decide_eq_true_eq] at h; exact h
def ziQ : List D → Option D
 | [.str a, .str b] => some (.int .i64 (zur a b))
 | _ => none
def zt0 : List D → Option D
 | [.int .i64 n] => if zt9 n then some (.str (zt7 n)) else none
 | _ => none
def zf8 : List D → Option D
 | [.int .i64 n, .int .i64 b] => if zt9 n && b == 10 then some (.str (zt7 n)) else none
 | _ => none
def zu6 : Row → Option Str
 | [.str s] => some s
 | _ => none
def zni : List Row → Option (List Str)
 | [] => some []
 | r :: l => bnd (zu6 r) fun s => bnd (zni l) fun ss => some (s :: ss)
theorem zqY {rows : List Row} {l : List Str} (h : zni rows = some l) : rows = l.map ztn := by
 induction rows generalizing l with
 | nil => simp only [zni, Option.some.injEq] at h; subst h; rfl
 | cons r rows ih =>
   simp only [zni] at h
   obtain ⟨s, h1, h2⟩ := zaa h
   obtain ⟨ss, h3, h4⟩ := zaa h2
   simp only [Option.some.injEq] at h4; subst h4
   rw [ih h3]
   unfold zu6 at h1
   split at h1
   · simp only [Option.some.injEq] at h1; subst h1; rfl
   · cases h1
def zvu (xs : List Str) (sep : Str) : Str := Lib.join xs sep
def ztZ : List D → Option D
 | [.sl _ rows, .str sep] => bnd (zni rows) fun xs => bnd (ok (decide ((zvu xs sep).length ≤ zhO) && decide (xs.length ≤ zhO))) fun _ => some (.str (zvu xs sep))
 | _ => none
def zwP (xs : List Str) (sep : Str) : Prop := (zvu xs sep).length ≤ zhO ∧ xs.length ≤ zhO
instance (xs : List Str) (sep : Str) : Decidable (zwP xs sep) := inferInstanceAs (Decidable (_ ∧ _))
end Go.Ev
