/- HashjoinBucket: for all rows, key columns, numbers of parts and levels that hold together at most 1048576 values and letters, the law returns true. Condition: that bound (the Upto form). -/
import Derived.IntWalk
import Derived.Test.YtklniminnejicaaGreatDoorT2
set_option linter.all false
namespace Go.Ev
@[simp] theorem zaN {α : Type} (A B : Option α) : sel A B true = A := rfl
@[simp] theorem za5 {α : Type} (A B : Option α) : sel A B false = B := rfl
theorem zrC {α : Type} (A B : Option α) (b : Bool) : sel A B b = if b = true then A else B := by cases b <;> rfl
@[simp] theorem zve {α β : Type} [BEq β] [LawfulBEq β] [DecidableEq β] (A B : Option α) (a b : β) : sel A B (a != b) = if a = b then B else A := by
  by_cases h : a = b <;> simp [h, zrC]
@[simp] theorem zvf {α β : Type} [BEq β] [LawfulBEq β] [DecidableEq β] (A B : Option α) (a b : β) : sel A B (a == b) = if a = b then A else B := by
  by_cases h : a = b <;> simp [h, zrC]
@[simp] theorem zyw {α : Type} (A B : Option α) (b : Bool) : sel A B (!b) = sel B A b := by cases b <;> rfl
@[simp] theorem zyx {α : Type} (A B : Option α) (p : Prop) [Decidable p] : sel A B (decide p) = if p then A else B := by
  by_cases h : p <;> simp [h, zrC]
attribute [simp] zai zuw
@[simp] theorem zt2 {R S β : Type} (r : R) (f : R → Option β) (g : S → Option β) : ziA (some (.ret r)) f g = f r := rfl
@[simp] theorem zbN {R S β : Type} (s : S) (f : R → Option β) (g : S → Option β) : ziA (some (.done s)) f g = g s := rfl
def big : Nat := 1152921504606846976
theorem zb0 {n : Int} (h1 : -9223372036854775808 ≤ n) (h2 : n ≤ 9223372036854775807) : IntKind.wrap .i64 n = n := by
 exact IntWalk.i64_in n ⟨h1, h2⟩
theorem zbh {i : Nat} (h : i < big) : IntKind.wrap .i64 ((i : Int) + 1) = ((i + 1 : Nat) : Int) := by
 have : big = 1152921504606846976 := rfl
 rw [zb0 (by omega) (by omega)]; rfl
theorem zcW {α : Type} (l : List α) (i : Nat) : ix l (i : Int) = l[i]? := by
 unfold ix; rw [if_pos (by omega)]; simp
theorem zhs (a : Int) : zcX a a = 0 := by simp [zcX]
def zcM {α : Type} (f : α → α → Int) : List α → List α → Int
 | x :: xs, y :: ys => orI (f x y) (zcM f xs ys)
 | _, _ => 0
theorem zoJ {α : Type} (f : α → α → Int) (xs ys : List α) : zjF f xs ys = orI (zcM f xs ys) (zcX xs.length ys.length) := by
 induction xs generalizing ys with
 | nil => cases ys <;> simp [zjF, zcM, orI, zcX]
 | cons x xs ih =>
   cases ys with
   | nil => simp [zjF, zcM, orI, zcX]; omega
   | cons y ys =>
     have e : zcX ((xs.length : Int) + 1) ((ys.length : Int) + 1) = zcX xs.length ys.length := by simp [zcX]
     simp only [zjF, zcM, ih, List.length_cons, Int.natCast_add, Int.natCast_one, e, orI]
     by_cases h : f x y = 0 <;> simp [h]
theorem zmJ {a b : Int} (h : a ≠ 0) : orI a b = a := by simp [orI, h]
theorem zt3 {a b : Int} (h : a = 0) : orI a b = b := by simp [orI, h]
theorem zkp (a : Str) : zbw a a = false := by
 induction a with
 | nil => rfl
 | cons x a ih => simp [zbw, ih]
theorem zoP {a b : Str} (h : a ≠ b) (h1 : zbw a b = false) : zbw b a = true := by
 induction a generalizing b with
 | nil => cases b with
   | nil => exact absurd rfl h
   | cons y b => simp [zbw] at h1
 | cons x a ih => cases b with
   | nil => rfl
   | cons y b =>
     simp only [zbw, Bool.or_eq_false_iff, Bool.and_eq_false_iff, decide_eq_false_iff_not] at h1
     simp only [zbw, Bool.or_eq_true, Bool.and_eq_true, decide_eq_true_eq, beq_iff_eq]
     obtain ⟨h2, h3⟩ := h1
     by_cases e : x = y
     · subst e
       right
       refine ⟨rfl, ih (fun e => h (by rw [e])) ?_⟩
       rcases h3 with h3 | h3
       · simp at h3
       · exact h3
     · left
       rw [UInt8.lt_iff_toNat_lt] at h2 ⊢
       have : x.toNat ≠ y.toNat := fun e' => e (UInt8.toNat_inj.1 e')
       omega
end Go.Ev
namespace Go.Ev
theorem zio (i n : Nat) : decide ((i : Int) < (n : Int)) = decide (i < n) := by
 by_cases h : i < n <;> simp [h]
theorem zrD {α : Type} {L : Nat → Int → Option (Out Int Int)} {xs ys : List α} {f : α → α → Int} (T : α → α → Option (Out Int Int) → Option (Out Int Int))
 (hL : ∀ k i, L (k + 1) i = sel (bnd (ix xs i) fun x => bnd (ix ys i) fun y => T x y (L k (IntKind.wrap .i64 (i + 1)))) (some (.done i)) (decide (i < (xs.length : Int)) && decide (i < (ys.length : Int))))
 (hT : ∀ (i : Nat) x y R, xs[i]? = some x → ys[i]? = some y → T x y R = if f x y = 0 then R else some (.ret (f x y))) (hb : xs.length < big) :
 ∀ (k i : Nat), i ≤ xs.length → i ≤ ys.length → xs.length - i < k → ∃ j : Int, L k i = if zcM f (xs.drop i) (ys.drop i) = 0 then some (.done j) else some (.ret (zcM f (xs.drop i) (ys.drop i))) := by
 intro k
 induction k with
 | zero => intro i _ _ h; omega
 | succ k ih =>
   intro i h1 h2 h3
   rw [hL, zio, zio]
   by_cases hx : i < xs.length
   · by_cases hy : i < ys.length
     · have ex := List.getElem?_eq_getElem hx
       have ey := List.getElem?_eq_getElem hy
       obtain ⟨j, hj⟩ := ih (i + 1) (by omega) (by omega) (by omega)
       refine ⟨j, ?_⟩
       simp only [decide_eq_true hx, decide_eq_true hy, Bool.and_self, zaN, zcW, ex, ey, zai]
       rw [hT i _ _ _ ex ey, zbh (by omega), hj, List.drop_eq_getElem_cons hx, List.drop_eq_getElem_cons hy]
       simp only [zcM]
       by_cases e : f xs[i] ys[i] = 0
       · rw [if_pos e]; simp only [zt3 e]
       · rw [if_neg e]; simp only [zmJ e, if_neg e]
     · refine ⟨i, ?_⟩
       have : ys.drop i = [] := List.drop_eq_nil_of_le (by omega)
       have e : zcM f (xs.drop i) (ys.drop i) = 0 := by rw [this]; cases xs.drop i <;> rfl
       simp [hy, e]
   · refine ⟨i, ?_⟩
     have : xs.drop i = [] := List.drop_eq_nil_of_le (by omega)
     have e : zcM f (xs.drop i) (ys.drop i) = 0 := by rw [this]; cases ys.drop i <;> rfl
     simp [hx, e]
theorem zjT (kk : Nat) (a b : Int) : zeu kk a b = some (zcX a b) := by
 unfold zeu zcX
 by_cases h : a < b
 · simp [h]
 · by_cases k : b < a <;> simp [h, k]
theorem zl8 (kk : Nat) (a : Bool) : zig kk a = some (sgn a) := by cases a <;> rfl
theorem zgY (kk : Nat) (a b : zaR) : zcK kk a b = some (ziq a b) := by
 unfold zcK ziq orI
 by_cases h : zcX a.table b.table = 0 <;> simp [h]
theorem zpT {a b : Int} (h : a ≠ b) : sgn (decide (a < b)) = zcX a b := by
 unfold sgn zcX
 by_cases k : a < b
 · simp [k]
 · have : b < a := by omega
   simp [k, this]
theorem zoL {a b : Int} (h : a ≠ b) : zcX a b ≠ 0 := by
 unfold zcX
 by_cases k : a < b
 · simp [k]
 · have : b < a := by omega
   simp [k, this]
theorem zpU {a b : Int} : zcX a b = 0 ↔ a = b := ⟨fun h => Classical.byContradiction fun k => zoL k h, fun h => by subst h; exact zhs a⟩
theorem zpS {a b : Str} (h : a ≠ b) : sgn (zbw a b) = zur a b := by
 unfold sgn zur
 cases k : zbw a b
 · simp [zoP h k]
 · simp
theorem zsL (a : Str) : zur a a = 0 := by simp [zur, zkp]
theorem zvV {a b : Str} (h : a ≠ b) : zur a b ≠ 0 := by
 rw [← zpS h]; cases zbw a b <;> simp [sgn]
theorem ziK (kk : Nat) (a b : Val) : zdZ kk a b = some (zco a b) := by
 unfold zdZ zco
 by_cases h1 : a.kind = b.kind
 · by_cases h2 : a.int = b.int
   · by_cases h3 : a.text = b.text
     · simp [h1, h2, h3, zhs, zsL, orI]
     · simp [h1, h2, h3, zhs, zpS h3, orI]
   · simp [h1, h2, zhs, zpT h2, zt3, zmJ (zoL h2)]
 · simp [h1, zpT h1, zmJ (zoL h1)]
theorem zvg {α : Type} {L : Nat → Int → Option (Out Int Int)} {xs ys : List α} {f : α → α → Int} {kk : Nat} (hk : xs.length < kk) (g : Option Int)
 (h : ∃ j : Int, L kk ((0 : Nat) : Int) = if zcM f (xs.drop 0) (ys.drop 0) = 0 then some (.done j) else some (.ret (zcM f (xs.drop 0) (ys.drop 0)))) (G : Int → Option Int)
 (hG : ∀ q, G q = some (zcX (xs.length : Int) (ys.length : Int))) : ziA (L kk 0) (fun r => some r) G = some (zjF f xs ys) := by
 obtain ⟨j, hj⟩ := h
 simp only [List.drop_zero] at hj
 have h0 : L kk 0 = L kk ((0 : Nat) : Int) := rfl
 rw [h0, hj, zoJ]
 by_cases e : zcM f xs ys = 0
 · rw [if_pos e, zbN, hG, zt3 e]
 · rw [if_neg e, zt2, zmJ e]
theorem zfn {kk sz : Nat} {a b : Sl zaf} (hs : zaW a.l + zaW b.l ≤ sz) (hb : sz < big) (hk : sz < kk) : zbV kk sz a b = some (zcp a b) := by
 have hl := zdM a.l
 unfold zbV zcp
 rw [zlV]
 refine zvg (f := zeO) (by omega) none (zrD (f := zeO) (fun x y R => bnd (okP (zd4 x.atom + zd4 y.atom < sz)) fun _ =>
  sel (some (.ret (zed x.atom y.atom))) (sel (some (.ret (zcX x.exp y.exp))) R (zcX x.exp y.exp != 0)) (zed x.atom y.atom != 0)) (fun k i => rfl) ?_ (by omega) kk 0 (Nat.zero_le _) (Nat.zero_le _) (by omega)) _ (fun q => rfl)
 intro i x y R hx hy
 have h1 := zeZ hx
 have h2 := zeZ hy
 rw [zgL] at h1 h2
 rw [zb5 (by omega), znc]
 by_cases e : zed x.atom y.atom = 0
 · by_cases e2 : zcX x.exp y.exp = 0 <;> simp [e, e2, orI]
 · simp [e, orI]
theorem zf1 {kk sz : Nat} {a b : Sl zac} (hs : zbR a.l + zbR b.l ≤ sz) (hb : sz < big) (hk : sz < kk) : zch kk sz a b = some (zeN a b) := by
 have hl := zeY a.l
 unfold zch zeN
 rw [zoK]
 refine zvg (f := zh1) (by omega) none (zrD (f := zh1) (fun x y R => sel (some (.ret (zco x.value y.value))) (bnd (okP (zat x.ann.l + zat y.ann.l < sz)) fun _ =>
  sel (some (.ret (zcA x.ann y.ann))) R (zcA x.ann y.ann != 0)) (zco x.value y.value != 0)) (fun k i => rfl) ?_ (by omega) kk 0 (Nat.zero_le _) (Nat.zero_le _) (by omega)) _ (fun q => rfl)
 intro i x y R hx hy
 have h1 := zgK hx
 have h2 := zgK hy
 rw [zi7] at h1 h2
 rw [zb5 (by omega), zqT]
 by_cases e : zco x.value y.value = 0
 · by_cases e2 : zcA x.ann y.ann = 0 <;> simp [e, e2, orI]
 · simp [e, orI]
theorem ziJ {kk sz : Nat} {a b : Sl zaE} (hs : zat a.l + zat b.l ≤ sz) (hb : sz < big) (hk : sz < kk) : zdY kk sz a b = some (zcA a b) := by
 have hl := zi6 a.l
 unfold zdY zcA
 rw [zoI]
 refine zvg (f := zh0) (by omega) none (zrD (f := zh0) (fun x y R => bnd (okP (zaW x.factors.l + zaW y.factors.l < sz)) fun _ =>
  sel (some (.ret (zcp x.factors y.factors))) (sel (some (.ret (zcX x.coeff y.coeff))) R (zcX x.coeff y.coeff != 0)) (zcp x.factors y.factors != 0)) (fun k i => rfl) ?_ (by omega) kk 0 (Nat.zero_le _) (Nat.zero_le _) (by omega)) _ (fun q => rfl)
 intro i x y R hx hy
 have h1 := zgJ hx
 have h2 := zgJ hy
 rw [zg5] at h1 h2
 rw [zb5 (by omega), zqS]
 unfold zcp
 by_cases e : zcY x.factors.l y.factors.l = 0
 · by_cases e2 : zcX x.coeff y.coeff = 0 <;> simp [e, e2, orI]
 · simp [e, orI]
theorem zgu {kk sz : Nat} {a b : zah} (hs : zd4 a + zd4 b ≤ sz) (hb : sz < big) (hk : sz < kk) : zcx kk sz a b = some (zed a b) := by
 rw [zg7, zg7] at hs
 have hl := zd0 a.args.l
 obtain ⟨j, hj⟩ := zrD (L := za2 a b sz kk) (f := zcA) (fun x y R => bnd (okP (zat x.l + zat y.l < sz)) fun _ => sel (some (.ret (zcA x y))) R (zcA x y != 0)) (fun k i => rfl) (by
  intro i x y R hx hy
  have h1 := zf4 hx
  have h2 := zf4 hy
  rw [zb5 (by omega)]
  by_cases e : zcA x y = 0 <;> simp [e]) (by omega) kk 0 (Nat.zero_le _) (Nat.zero_le _) (by omega)
 simp only [List.drop_zero] at hj
 have h0 : za2 a b sz kk kk 0 = za2 a b sz kk kk ((0 : Nat) : Int) := rfl
 unfold zcx
 rw [zqU, zqV, zoJ, h0, hj, zb5 (by omega)]
 unfold zeN
 by_cases e1 : zcX a.kind b.kind = 0
 · by_cases e2 : ziq a.row b.row = 0
   · by_cases e3 : zcM zcA a.args.l b.args.l = 0
     · by_cases e4 : zcX (a.args.l.length : Int) (b.args.l.length : Int) = 0
       · by_cases e5 : zcX a.func b.func = 0
         · by_cases e6 : zeq a.items.l b.items.l = 0
           · by_cases e7 : zcX a.op b.op = 0 <;> simp [e1, e2, e3, e4, e5, e6, e7, orI]
           · simp [e1, e2, e3, e4, e5, e6, orI]
         · simp [e1, e2, e3, e4, e5, orI]
       · simp [e1, e2, e3, e4, orI]
     · simp [e1, e2, e3, orI]
   · simp [e1, e2, orI]
 · simp [e1, orI]
end Go.Ev
namespace Go.Ev
@[simp] theorem zx0 (a : Int) : orI a 0 = a := by unfold orI; split <;> simp_all
@[simp] theorem zwJ (a b c : Int) : orI (orI a b) c = orI a (orI b c) := by unfold orI; split <;> simp_all
end Go.Ev
namespace Go.Ev
def zyA {α : Type} : List α → Option α
 | [x] => some x
 | _ => none
def zop (a : Sl zaE) : Bool := match zyA a.l with
 | some t => (t.factors.l.length : Int) == 0
 | none => false
def zyM (a : zah) : Bool := (a.kind == 3) || (a.kind == 4)
def zvv (a : Sl zaE) : Bool := match zyA a.l with
 | some t => (t.coeff == 1) && (match zyA t.factors.l with
   | some f => (f.exp == 1) && ((f.atom.kind == 2) || zyM f.atom)
   | none => false)
 | none => false
theorem zso {R S : Type} {L : Nat → S → Int → Option (Out R (S × Int))} {n : Nat} (acc : Nat → S)
 (hend : ∀ k s, L (k + 1) s n = some (.done (s, (n : Int))))
 (hstep : ∀ k i, i < n → L (k + 1) (acc i) (i : Int) = L k (acc (i + 1)) ((i + 1 : Nat) : Int)) :
 ∀ k i, i ≤ n → n - i < k → L k (acc i) (i : Int) = some (.done (acc n, (n : Int))) := by
 intro k
 induction k with
 | zero => intro i _ h; omega
 | succ k ih =>
   intro i h1 h2
   by_cases e : i = n
   · subst e; exact hend k _
   · rw [hstep k i (by omega), ih (i + 1) (by omega) (by omega)]
theorem zkN {R S : Type} {L : Nat → S → Int → Option (Out R (S × Int))} {n k : Nat} (acc : Nat → S) (s0 : S)
 (hend : ∀ k s, L (k + 1) s n = some (.done (s, (n : Int))))
 (hstep : ∀ k i, i < n → L (k + 1) (acc i) (i : Int) = L k (acc (i + 1)) ((i + 1 : Nat) : Int)) (h0 : acc 0 = s0) (hk : n < k) :
 L k s0 0 = some (.done (acc n, (n : Int))) := by
 have := zso acc hend hstep k 0 (by omega) (by omega)
 rw [← h0]; exact this
end Go.Ev
set_option linter.unusedVariables false
namespace Go.Ev
end Go.Ev
namespace Go.Ev
theorem zux {α : Type} {L : Nat → Int → Option (Out Bool Int)} {xs : List α} (p : α → Bool) (v : Bool)
 (hend : ∀ k, L (k + 1) xs.length = some (.done (xs.length : Int)))
 (hstep : ∀ k (i : Nat) x, i < xs.length → xs[i]? = some x → L (k + 1) (i : Int) = if p x then some (.ret v) else L k ((i + 1 : Nat) : Int)) :
 ∀ k i, i ≤ xs.length → xs.length - i < k → L k (i : Int) = if (xs.drop i).any p then some (.ret v) else some (.done (xs.length : Int)) := by
 intro k
 induction k with
 | zero => intro i _ h; omega
 | succ k ih =>
   intro i h1 h2
   by_cases e : i = xs.length
   · subst e; rw [hend]; simp
   · have hi : i < xs.length := by omega
     rw [hstep k i _ hi (List.getElem?_eq_getElem hi), ih (i + 1) (by omega) (by omega), List.drop_eq_getElem_cons hi, List.any_cons]
     by_cases hp : p xs[i] = true
     · simp [hp]
     · simp [hp]
theorem zjL {α : Type} {L : Nat → Int → Option (Out Bool Int)} {xs : List α} {k : Nat} (p : α → Bool) (v : Bool)
 (hend : ∀ k, L (k + 1) xs.length = some (.done (xs.length : Int)))
 (hstep : ∀ k (i : Nat) x, i < xs.length → xs[i]? = some x → L (k + 1) (i : Int) = if p x then some (.ret v) else L k ((i + 1 : Nat) : Int))
 (hk : xs.length < k) : L k 0 = if xs.any p then some (.ret v) else some (.done (xs.length : Int)) := by
 have := zux p v hend hstep k 0 (by omega) (by omega)
 simpa using this
end Go.Ev
namespace Go.Ev
def zkA (a b : Sl zaE) : Bool := zcA a b == 0
end Go.Ev
set_option linter.unusedVariables false
namespace Go.Ev
noncomputable def zgk (kk : Nat) (a : (Sl zaE)) (b : (Sl zaE)) : Option (Bool) :=
 bnd (okP (zat a.l + zat b.l < big - 1)) fun _ =>
 some ((zcA a b) == 0)
end Go.Ev
namespace Go.Ev
theorem zl7 {kk : Nat} (a b : Sl zaE) (h : zat a.l + zat b.l < big - 1) (_hk : 0 < big) : zgk kk a b = some (zkA a b) := by
 unfold zgk; rw [zb5 h]; rfl
theorem zoU {α : Type} (p : α → Bool) (l : List α) : (l.any fun x => !p x) = !l.all p := by
 induction l with
 | nil => rfl
 | cons x l ih => simp only [List.any_cons, List.all_cons, ih, Bool.not_and]
end Go.Ev
namespace Go.Ev
end Go.Ev
set_option linter.unusedVariables false
namespace Go.Ev
end Go.Ev
namespace Go.Ev
end Go.Ev
namespace Go.Ev
end Go.Ev
set_option linter.unusedVariables false
namespace Go.Ev
end Go.Ev
namespace Go.Ev
end Go.Ev
namespace Go.Ev
end Go.Ev
set_option linter.unusedVariables false
namespace Go.Ev
end Go.Ev
namespace Go.Ev
end Go.Ev
set_option linter.unusedVariables false
namespace Go.Ev
end Go.Ev
namespace Go.Ev
end Go.Ev
namespace Go.Ev
end Go.Ev
namespace Go.Ev
def pk1 (a : zah) : Bool := match a.args.l with | [x, y] => !(zkA x y) | _ => false
def pk2 (a : zah) : Bool := match a.args.l with | [x] => !(zop x) && !(zvv x) | _ => false
end Go.Ev
set_option linter.unusedVariables false
namespace Go.Ev
end Go.Ev
namespace Go.Ev
end Go.Ev
