/- Part of a proof. -/
import Derived.Lib.Join
import Derived.Lib.ItoaNum
import Derived.Lib.Bytealg
import Derived.Test.YtaadpbhondmahaaGreatDoorT2
set_option linter.all false
namespace Go.Ev
theorem zAx (a b : Str) : Lib.compareBytes a b = zH7 a b := by
 unfold zH7
 induction a generalizing b with
 | nil => cases b <;> simp [Lib.compareBytes, zdf]
 | cons x a ih => cases b with
   | nil => simp [Lib.compareBytes, zdf]
   | cons y b =>
     simp only [Lib.compareBytes, zdf, ih]
     by_cases h1 : x < y
     · simp [h1]
     · by_cases h2 : y < x
       · have e : (x == y) = false := by simp; intro e; subst e; exact h1 h2
         simp [h1, h2, e]
       · have e : x = y := by
          rw [UInt8.lt_iff_toNat_lt] at h1 h2
          exact UInt8.toNat_inj.1 YJ
         subst e
         simp [h1]
def zCG : Nat -> Nat -> Str
 | 0, _ => []
 | k + 1, u => if u < 10 then [UInt8.ofNat (48 + u)] else zCG k (u / 10) ++ [UInt8.ofNat (48 + u % 10)]
theorem zD0 (k u : Nat) (h : u < 10 ^ k) (hk : 0 < k) : zCG k u = Lib.decDigits u := by
 induction k generalizing u with
 | zero => omega
 | succ k ih =>
   rw [Lib.decDigits, zCG]
   by_cases h1 : u < 10
   · simp [h1]
   · simp only [h1, if_false, dif_neg, not_false_eq_true]
     cases k with
     | zero => simp at h; omega
     | succ k => rw [ih (u / 10) (by rw [Nat.pow_succ] at h; omega) YJ]
def zb8 (n : Int) : Str := if n < 0 then 45 :: zCG 20 n.natAbs else zCG 20 n.toNat
theorem zIX {n : Int} (h : zkY n) : zb8 n = Lib.itoa n := by
 unfold zb8 Lib.itoa
 obtain ⟨h1, h2⟩ := h
 split
 · rw [zD0 _ _ YJ YJ]
 · rw [zD0 _ _ YJ YJ]
def zuH (n : Int) : Bool := decide (-9223372036854775808 <= n) && decide (n <= 9223372036854775807)
theorem zIZ {n : Int} (h : zuH n = true) : zkY n := by
 simp only [zuH, yK, YG] at h; exact h
theorem zvW {n : Int} (h : zkY n) : zuH n = true := by
 simp only [zuH, yK, YG]; exact h
def zvJ : List D -> Option D
 | [.str a, .str b] => some (.int .i64 (zH7 a b))
 | _ => none
def zJ4 : List D -> Option D
 | [.int .i64 n] => if zuH n then some (.str (zb8 n)) else none
 | _ => none
def ziV : List D -> Option D
 | [.int .i64 n, .int .i64 b] => if zuH n && b == 10 then some (.str (zb8 n)) else none
 | _ => none
def zP6 : Row -> Option Str
 | [.str s] => some s
 | _ => none
def zAH : List Row -> Option (List Str)
 | [] => some []
 | r :: l => bnd (zP6 r) fun s => bnd (zAH l) fun ss => some (s :: ss)
theorem zK0 (l : List Str) : zAH (l.map zsz) = some l := by
 induction l with
 | nil => rfl
 | cons s l ih => simp only [yR, zAH, ih]; rfl
theorem zK1 {rows : List Row} {l : List Str} (h : zAH rows = some l) : rows = l.map zsz := by
 induction rows generalizing l with
 | nil => simp only [zAH, yA] at h; subst h; rfl
 | cons r rows ih =>
   simp only [zAH] at h
   obtain ⟨s, h1, h2⟩ := zaa h
   obtain ⟨ss, h3, h4⟩ := zaa h2
   simp only [yA] at h4; subst h4
   rw [ih h3]
   unfold zP6 at h1
   split at h1
   · simp only [yA] at h1; subst h1; rfl
   · cases h1
def zfc (xs : List Str) (sep : Str) : Str := Lib.join xs sep
def zHv : List D -> Option D
 | [.sl _ rows, .str sep] => bnd (zAH rows) fun xs => bnd (ok (decide ((zfc xs sep).length <= room) && decide (xs.length <= room))) fun _ => some (.str (zfc xs sep))
 | _ => none
theorem zFw (a b : Str) : zvJ [.str a, .str b] = some (.int .i64 (zH7 a b)) := rfl
theorem zz4 (n : Int) (h : zuH n = true) : zJ4 [.int .i64 n] = some (.str (zb8 n)) := by simp only [zJ4, h, if_true]
theorem zoO (n b : Int) (h : (zuH n && b == 10) = true) : ziV [.int .i64 n, .int .i64 b] = some (.str (zb8 n)) := by simp only [ziV, h, if_true]
def zvT (xs : List Str) (sep : Str) : Prop := (zfc xs sep).length <= room /\ xs.length <= room
instance (xs : List Str) (sep : Str) : Decidable (zvT xs sep) := inferInstanceAs (Decidable (_ /\ _))
def zon (a : Sl Str) (sep : Str) : Str := zfc a.l sep
theorem zJ3 {f : Fl} (xs : List Str) (sep : Str) (h : zvT xs sep) : zHv [.sl f (xs.map zsz), .str sep] = some (.str (zfc xs sep)) := by
 obtain ⟨h1, h2⟩ := h
 simp [zHv, zK0, ok, h1, h2, bnd]
theorem zz3 (a : Sl Str) (sep : Str) (h : zvT a.l sep) : zHv [dSl zsz a, .str sep] = some (.str (zon a sep)) := zJ3 a.l sep h
end Go.Ev
