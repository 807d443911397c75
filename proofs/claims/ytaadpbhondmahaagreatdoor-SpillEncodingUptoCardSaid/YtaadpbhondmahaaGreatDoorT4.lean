/- Part of a proof. -/
import Derived.IntWalk
import Derived.Test.YtaadpbhondmahaaGreatDoorT2
set_option linter.all false
namespace Go.Ev
@[simp] theorem zat {α : Type} (A B : Option α) : sel A B true = A := rfl
@[simp] theorem zaC {α : Type} (A B : Option α) : sel A B false = B := rfl
theorem zdB {α : Type} (A B : Option α) (b : Bool) : sel A B b = if b = true then A else B := by cases b <;> rfl
@[simp] theorem zw9 {α β : Type} [BEq β] [LawfulBEq β] [DecidableEq β] (A B : Option α) (a b : β) : sel A B (a != b) = if a = b then B else A := by
  by_cases h : a = b <;> simp [h, zdB]
@[simp] theorem zcs {α β : Type} [BEq β] [LawfulBEq β] [DecidableEq β] (A B : Option α) (a b : β) : sel A B (a == b) = if a = b then A else B := by
  by_cases h : a = b <;> simp [h, zdB]
@[simp] theorem zc2 {α : Type} (A B : Option α) (b : Bool) : sel A B (!b) = sel B A b := by cases b <;> rfl
@[simp] theorem zjO {α : Type} (A B : Option α) (p : Prop) [Decidable p] : sel A B (decide p) = if p then A else B := by
  by_cases h : p <;> simp [h, zdB]
attribute [simp] zad
@[simp] theorem zmC {R S β : Type} (r : R) (f : R -> Option β) (g : S -> Option β) : zgD (some (.ret r)) f g = f r := rfl
@[simp] theorem za5 {R S β : Type} (s : S) (f : R -> Option β) (g : S -> Option β) : zgD (some (.done s)) f g = g s := rfl
def big : Nat := 1152921504606846976
theorem zcG {n : Int} (h1 : -9223372036854775808 <= n) (h2 : n <= 9223372036854775807) : IntKind.wrap .i64 n = n := by
 exact IntWalk.i64_in n ⟨h1, h2⟩
theorem zaF {i : Nat} (h : i < big) : IntKind.wrap .i64 ((i : Int) + 1) = ((i + 1 : Nat) : Int) := by
 have : big = 1152921504606846976 := rfl
 rw [zcG YJ YJ]; rfl
theorem zbE {α : Type} (l : List α) (i : Nat) : ix l (i : Int) = l[i]? := by
 unfold ix; rw [if_pos YJ]; simp
theorem zju (a : Int) : zfR a a = 0 := by simp [zfR]
def zh4 {α : Type} (f : α -> α -> Int) : List α -> List α -> Int
 | x :: xs, y :: ys => orI (f x y) (zh4 f xs ys)
 | _, _ => 0
theorem zD8 {α : Type} (f : α -> α -> Int) (xs ys : List α) : zwY f xs ys = orI (zh4 f xs ys) (zfR xs.length ys.length) := by
 induction xs generalizing ys with
 | nil => cases ys <;> simp [zwY, zh4, orI, zfR]
 | cons x xs ih =>
   cases ys with
   | nil => simp [zwY, zh4, orI, zfR]; omega
   | cons y ys =>
     have e : zfR ((xs.length : Int) + 1) ((ys.length : Int) + 1) = zfR xs.length ys.length := by simp [zfR]
     simp only [zwY, zh4, ih, yC, Int.natCast_add, Int.natCast_one, e, orI]
     by_cases h : f x y = 0 <;> simp [h]
theorem zz7 {a b : Int} (h : a ≠ 0) : orI a b = a := by simp [orI, h]
theorem zFz {a b : Int} (h : a = 0) : orI a b = b := by simp [orI, h]
theorem zBJ (a : Str) : zdf a a = false := by
 induction a with
 | nil => rfl
 | cons x a ih => simp [zdf, ih]
theorem zId {a b : Str} (h : a ≠ b) (h1 : zdf a b = false) : zdf b a = true := by
 induction a generalizing b with
 | nil => cases b with
   | nil => exact absurd rfl h
   | cons y b => simp [zdf] at h1
 | cons x a ih => cases b with
   | nil => rfl
   | cons y b =>
     simp only [zdf, Bool.or_eq_false_iff, Bool.and_eq_false_iff, decide_eq_false_iff_not] at h1
     simp only [zdf, Bool.or_eq_true, yK, YG, beq_iff_eq]
     obtain ⟨h2, h3⟩ := h1
     by_cases e : x = y
     · subst e
       right
       refine ⟨rfl, ih (fun e => h (by rw [e])) ?_⟩
       rcases h3 with h3 | h3
       · simp at h3
       · exact h3
     · left
       rw [UInt8.lt_iff_toNat_lt] at h2 ⊢
       have : x.toNat ≠ y.toNat := fun e' => e (UInt8.toNat_inj.1 e')
       omega
theorem zdC (i n : Nat) : decide ((i : Int) < (n : Int)) = decide (i < n) := by
 by_cases h : i < n <;> simp [h]
theorem zLP {α : Type} {L : Nat -> Int -> Option (Out Int Int)} {xs ys : List α} {f : α -> α -> Int} (T : α -> α -> Option (Out Int Int) -> Option (Out Int Int))
 (hL : ∀ k i, L (k + 1) i = sel (bnd (ix xs i) fun x => bnd (ix ys i) fun y => T x y (L k (IntKind.wrap .i64 (i + 1)))) (some (.done i)) (decide (i < (xs.length : Int)) && decide (i < (ys.length : Int))))
 (hT : ∀ (i : Nat) x y R, xs[i]? = some x -> ys[i]? = some y -> T x y R = if f x y = 0 then R else some (.ret (f x y))) (hb : xs.length < big) :
 ∀ (k i : Nat), i <= xs.length -> i <= ys.length -> xs.length - i < k -> ∃ j : Int, L k i = if zh4 f (xs.drop i) (ys.drop i) = 0 then some (.done j) else some (.ret (zh4 f (xs.drop i) (ys.drop i))) := by
 intro k
 induction k with
 | zero => intro i _ _ h; omega
 | succ k ih =>
   intro i h1 h2 h3
   rw [hL, zdC, zdC]
   by_cases hx : i < xs.length
   · by_cases hy : i < ys.length
     · have ex := yB hx
       have ey := yB hy
       obtain ⟨j, hj⟩ := ih (i + 1) YJ YJ YJ
       refine ⟨j, ?_⟩
       simp only [YH hx, YH hy, Bool.and_self, zat, zbE, ex, ey, zad]
       rw [hT i _ _ _ ex ey, zaF YJ, hj, yb hx, yb hy]
       simp only [zh4]
       by_cases e : f xs[i] ys[i] = 0
       · rw [if_pos e]; simp only [zFz e]
       · rw [if_neg e]; simp only [zz7 e, if_neg e]
     · refine ⟨i, ?_⟩
       have : ys.drop i = [] := List.drop_eq_nil_of_le YJ
       have e : zh4 f (xs.drop i) (ys.drop i) = 0 := by rw [this]; cases xs.drop i <;> rfl
       simp [hy, e]
   · refine ⟨i, ?_⟩
     have : xs.drop i = [] := List.drop_eq_nil_of_le YJ
     have e : zh4 f (xs.drop i) (ys.drop i) = 0 := by rw [this]; cases ys.drop i <;> rfl
     simp [hx, e]
theorem zA7 (kk : Nat) (a b : Int) : zoA kk a b = some (zfR a b) := by
 unfold zoA zfR
 by_cases h : a < b
 · simp [h]
 · by_cases k : b < a <;> simp [h, k]
theorem zEv (kk : Nat) (a : Bool) : zx1 kk a = some (sgn a) := by cases a <;> rfl
theorem zu4 (kk : Nat) (a b : zbZ) : zjN kk a b = some (zpB a b) := by
 unfold zjN zpB orI
 by_cases h : zfR a.table b.table = 0 <;> simp [h]
theorem zJo {a b : Int} (h : a ≠ b) : sgn (decide (a < b)) = zfR a b := by
 unfold sgn zfR
 by_cases k : a < b
 · simp [k]
 · have : b < a := by omega
   simp [k, this]
theorem zNs {a b : Int} (h : a ≠ b) : zfR a b ≠ 0 := by
 unfold zfR
 by_cases k : a < b
 · simp [k]
 · have : b < a := by omega
   simp [k, this]
theorem zPj {a b : Str} (h : a ≠ b) : sgn (zdf a b) = zH7 a b := by
 unfold sgn zH7
 cases k : zdf a b
 · simp [zId h k]
 · simp
theorem zGk (a : Str) : zH7 a a = 0 := by simp [zH7, zBJ]
theorem zy6 (kk : Nat) (a b : Val) : zmT kk a b = some (zfd a b) := by
 unfold zmT zfd
 by_cases h1 : a.kind = b.kind
 · by_cases h2 : a.int = b.int
   · by_cases h3 : a.text = b.text
     · simp [h1, h2, h3, zju, zGk, orI]
     · simp [h1, h2, h3, zju, zPj h3, orI]
   · simp [h1, h2, zju, zJo h2, zFz, zz7 (zNs h2)]
 · simp [h1, zJo h1, zz7 (zNs h1)]
theorem zQn {α : Type} {L : Nat -> Int -> Option (Out Int Int)} {xs ys : List α} {f : α -> α -> Int} {kk : Nat} (hk : xs.length < kk) (g : Option Int)
 (h : ∃ j : Int, L kk ((0 : Nat) : Int) = if zh4 f (xs.drop 0) (ys.drop 0) = 0 then some (.done j) else some (.ret (zh4 f (xs.drop 0) (ys.drop 0)))) (G : Int -> Option Int)
 (hG : ∀ q, G q = some (zfR (xs.length : Int) (ys.length : Int))) : zgD (L kk 0) (fun r => some r) G = some (zwY f xs ys) := by
 obtain ⟨j, hj⟩ := h
 simp only [yg] at hj
 have h0 : L kk 0 = L kk ((0 : Nat) : Int) := rfl
 rw [h0, hj, zD8]
 by_cases e : zh4 f xs ys = 0
 · rw [if_pos e, za5, hG, zFz e]
 · rw [if_neg e, zmC, zz7 e]
theorem zq3 {kk sz : Nat} {a b : Sl zaj} (hs : zaD a.l + zaD b.l <= sz) (hb : sz < big) (hk : sz < kk) : zg6 kk sz a b = some (zbF a b) := by
 have hl := zbO a.l
 unfold zg6 zbF
 rw [zv8]
 refine zQn (f := zct) YJ none (zLP (f := zct) (fun x y R => bnd (okP (zby x.atom + zby y.atom < sz)) fun _ =>
  sel (some (.ret (zb3 x.atom y.atom))) (sel (some (.ret (zfR x.exp y.exp))) R (zfR x.exp y.exp != 0)) (zb3 x.atom y.atom != 0)) (fun k i => rfl) ?_ YJ kk 0 (yi _) (yi _) YJ) _ (fun q => rfl)
 intro i x y R hx hy
 have h1 := zcS hx
 have h2 := zcS hy
 rw [zcB] at h1 h2
 rw [zar YJ, zor]
 by_cases e : zb3 x.atom y.atom = 0
 · by_cases e2 : zfR x.exp y.exp = 0 <;> simp [e, e2, orI]
 · simp [e, orI]
theorem zsS {kk sz : Nat} {a b : Sl zae} (hs : zbb a.l + zbb b.l <= sz) (hb : sz < big) (hk : sz < kk) : zie kk sz a b = some (zcI a b) := by
 have hl := zcA a.l
 unfold zie zcI
 rw [zAB]
 refine zQn (f := zcV) YJ none (zLP (f := zcV) (fun x y R => sel (some (.ret (zfd x.value y.value))) (bnd (okP (zak x.ann.l + zak y.ann.l < sz)) fun _ =>
  sel (some (.ret (zcR x.ann y.ann))) R (zcR x.ann y.ann != 0)) (zfd x.value y.value != 0)) (fun k i => rfl) ?_ YJ kk 0 (yi _) (yi _) YJ) _ (fun q => rfl)
 intro i x y R hx hy
 have h1 := zil hx
 have h2 := zil hy
 rw [zjp] at h1 h2
 rw [zar YJ, zm3]
 by_cases e : zfd x.value y.value = 0
 · by_cases e2 : zcR x.ann y.ann = 0 <;> simp [e, e2, orI]
 · simp [e, orI]
theorem zy4 {kk sz : Nat} {a b : Sl zam} (hs : zak a.l + zak b.l <= sz) (hb : sz < big) (hk : sz < kk) : zmR kk sz a b = some (zcR a b) := by
 have hl := zb4 a.l
 unfold zmR zcR
 rw [zAA]
 refine zQn (f := zfs) YJ none (zLP (f := zfs) (fun x y R => bnd (okP (zaD x.factors.l + zaD y.factors.l < sz)) fun _ =>
  sel (some (.ret (zbF x.factors y.factors))) (sel (some (.ret (zfR x.coeff y.coeff))) R (zfR x.coeff y.coeff != 0)) (zbF x.factors y.factors != 0)) (fun k i => rfl) ?_ YJ kk 0 (yi _) (yi _) YJ) _ (fun q => rfl)
 intro i x y R hx hy
 have h1 := zdk hx
 have h2 := zdk hy
 rw [zdq] at h1 h2
 rw [zar YJ, zm2]
 unfold zbF
 by_cases e : zbX x.factors.l y.factors.l = 0
 · by_cases e2 : zfR x.coeff y.coeff = 0 <;> simp [e, e2, orI]
 · simp [e, orI]
theorem ztO {kk sz : Nat} {a b : zas} (hs : zby a + zby b <= sz) (hb : sz < big) (hk : sz < kk) : zi8 kk sz a b = some (zb3 a b) := by
 rw [zcr, zcr] at hs
 have hl := zd6 a.args.l
 obtain ⟨j, hj⟩ := zLP (L := zdn a b sz kk) (f := zcR) (fun x y R => bnd (okP (zak x.l + zak y.l < sz)) fun _ => sel (some (.ret (zcR x y))) R (zcR x y != 0)) (fun k i => rfl) (by
  intro i x y R hx hy
  have h1 := zfQ hx
  have h2 := zfQ hy
  rw [zar YJ]
  by_cases e : zcR x y = 0 <;> simp [e]) YJ kk 0 (yi _) (yi _) YJ
 simp only [yg] at hj
 have h0 : zdn a b sz kk kk 0 = zdn a b sz kk kk ((0 : Nat) : Int) := rfl
 unfold zi8
 rw [zm4, zj6, zD8, h0, hj, zar YJ]
 unfold zcI
 by_cases e1 : zfR a.kind b.kind = 0
 · by_cases e2 : zpB a.row b.row = 0
   · by_cases e3 : zh4 zcR a.args.l b.args.l = 0
     · by_cases e4 : zfR (a.args.l.length : Int) (b.args.l.length : Int) = 0
       · by_cases e5 : zfR a.func b.func = 0
         · by_cases e6 : zcU a.items.l b.items.l = 0
           · by_cases e7 : zfR a.op b.op = 0 <;> simp [e1, e2, e3, e4, e5, e6, e7, orI]
           · simp [e1, e2, e3, e4, e5, e6, orI]
         · simp [e1, e2, e3, e4, e5, orI]
       · simp [e1, e2, e3, e4, orI]
     · simp [e1, e2, e3, orI]
   · simp [e1, e2, orI]
 · simp [e1, orI]
theorem zIJ {α : Type} {L : Nat -> Int -> Option (Out Int Int)} {xs ys : List α} {f : α -> α -> Int} (T : α -> α -> Option (Out Int Int) -> Option (Out Int Int))
 (hL : ∀ k i, L (k + 1) i = sel (bnd (ix xs i) fun x => sel (some (.ret 1)) (bnd (ix ys i) fun y => T x y (L k (IntKind.wrap .i64 (i + 1)))) (decide ((ys.length : Int) <= i))) (some (.done i)) (decide (i < (xs.length : Int))))
 (hT : ∀ (i : Nat) x y R, xs[i]? = some x -> ys[i]? = some y -> T x y R = if f x y = 0 then R else some (.ret (f x y))) (hb : xs.length < big) :
 ∀ (k i : Nat), i <= xs.length -> i <= ys.length -> xs.length - i < k -> (∃ j : Int, L k i = some (.done j) /\ xs.length <= ys.length /\ zh4 f (xs.drop i) (ys.drop i) = 0) ∨ L k i = some (.ret (zwY f (xs.drop i) (ys.drop i))) := by
 intro k
 induction k with
 | zero => intro i _ _ h; omega
 | succ k ih =>
   intro i h1 h2 h3
   rw [hL, zdC]
   by_cases hx : i < xs.length
   · have ex := yB hx
     by_cases hy : i < ys.length
     · have ey := yB hy
       have hle : decide ((ys.length : Int) <= (i : Int)) = false := YI YJ
       simp only [YH hx, zat, zbE, ex, ey, zad, hle, zaC]
       rw [hT i _ _ _ ex ey, zaF YJ, yb hx, yb hy]
       by_cases e : f xs[i] ys[i] = 0
       · rw [if_pos e]
         rcases ih (i + 1) YJ YJ YJ with ⟨j, a, b, c⟩ | a
         · exact .inl ⟨j, a, b, by simp only [zh4, zFz e, c]⟩
         · exact .inr (by simp only [a, zwY, zFz e])
       · rw [if_neg e]
         exact .inr (by simp only [zwY, zz7 e])
     · have hle : decide ((ys.length : Int) <= (i : Int)) = true := YH YJ
       simp only [YH hx, zat, zbE, ex, zad, hle]
       have : ys.drop i = [] := List.drop_eq_nil_of_le YJ
       exact .inr (by rw [this, yb hx]; rfl)
   · refine .inl ⟨i, by simp [hx], by omega, ?_⟩
     have : xs.drop i = [] := List.drop_eq_nil_of_le YJ
     rw [this]; cases ys.drop i <;> rfl
theorem zDd {α : Type} {L : Nat -> Int -> Option (Out Int Int)} {xs ys : List α} {f : α -> α -> Int} {kk : Nat}
 (h : (∃ j : Int, L kk ((0 : Nat) : Int) = some (.done j) /\ xs.length <= ys.length /\ zh4 f (xs.drop 0) (ys.drop 0) = 0) ∨ L kk ((0 : Nat) : Int) = some (.ret (zwY f (xs.drop 0) (ys.drop 0)))) (G : Int -> Option Int)
 (hG : ∀ q, G q = sel (some (-1)) (some 0) (decide ((xs.length : Int) < (ys.length : Int)))) : zgD (L kk 0) (fun r => some r) G = some (zwY f xs ys) := by
 have h0 : L kk 0 = L kk ((0 : Nat) : Int) := rfl
 simp only [yg] at h
 rw [h0]
 rcases h with ⟨j, a, b, c⟩ | a
 · rw [a, za5, hG, zD8, zFz c, zdC]
   unfold zfR
   by_cases e : xs.length < ys.length
   · simp [e]
   · have : xs.length = ys.length := by omega
     simp [this]
 · rw [a, zmC]
@[simp] theorem zWz (a : Int) : orI a 0 = a := by unfold orI; split <;> simp_all
@[simp] theorem zTn (a b c : Int) : orI (orI a b) c = orI a (orI b c) := by unfold orI; split <;> simp_all
theorem zwJ (kk : Nat) (a : Int) : zkS kk a = some (zKh a) := by simp [zkS, zKh]
theorem ztS (kk : Nat) (a : Int) : zja kk a = some (zKh a) := by simp [zja, zKh]
theorem zmt (kk : Nat) (a b : Int) : zjb kk a b = some (zfR a b) := by
 unfold zjb zfR zKh
 by_cases h : a < b
 · simp [h]
 · by_cases k : b < a <;> simp [h, k]
theorem zrO (kk : Nat) (a b : Int) : zjZ kk a b = some (zfR a b) := zmt kk a b
theorem zKa {l : List Int} {i : Nat} (h : i < l.length) : zsa (l.drop i) = orI l[i] (zsa (l.drop (i + 1))) := by
 rw [yb h]; rfl
theorem zBd (kk : Nat) (a : Sl Int) (h : a.l.length < 100) : zoG (kk + 100) a = some (orL a) := by
 have key : ∀ (k i : Nat), i <= a.l.length -> a.l.length - i < k -> (zsa (a.l.drop i) = 0 /\ ∃ j, zel a (a.l.length : Int) (kk + 100) k i = some (.done j)) ∨ zel a (a.l.length : Int) (kk + 100) k i = some (.ret (zsa (a.l.drop i))) := by
  intro k
  induction k with
  | zero => intro i _ h; omega
  | succ k ih =>
    intro i h1 h3
    unfold zel
    rw [zdC]
    by_cases hx : i < a.l.length
    · have ex := yB hx
      simp only [YH hx, zat, zbE, ex, zad]
      rw [zaF (by unfold big; omega), zKa hx]
      by_cases e : a.l[i] = 0
      · rw [e]
        simp only [bne_self_eq_false, zaC, zFz rfl]
        exact ih (i + 1) YJ YJ
      · right
        simp [e, zz7 e]
    · left
      have : a.l.drop i = [] := List.drop_eq_nil_of_le YJ
      rw [this]
      exact ⟨rfl, i, by simp [hx]⟩
 unfold zoG orL
 have h0 : zel a (a.l.length : Int) (kk + 100) (kk + 100) 0 = zel a (a.l.length : Int) (kk + 100) (kk + 100) ((0 : Nat) : Int) := rfl
 rw [h0]
 rcases key (kk + 100) 0 (yi _) YJ with ⟨a1, j, a2⟩ | a2
 · simp only [yg] at a1; rw [a2, a1]; rfl
 · rw [a2]; simp
theorem zwC (kk : Nat) (a b : Val) : zkO kk a b = some (zfd a b) := by
 unfold zkO
 rw [zar (by simp)]
 simp [orL, zsa, zfd]
theorem zfT {kk sz : Nat} {a b : Sl zam} (hs : 8 * (zak a.l + zak b.l) + 6 <= sz) (hb : sz < big) (hk : sz < kk) : zbA kk sz a b = some (zcR a b) := by
 have hl := zb4 a.l
 unfold zbA zcR
 rw [zAA]
 refine zDd (f := zfs) (zIJ (f := zfs) (fun x y R => bnd (okP (8 * (zcH x + zcH y) + 5 < sz)) fun _ => sel (some (.ret (zfs x y))) R (zfs x y != 0)) (fun k i => rfl) ?_ YJ kk 0 (yi _) (yi _) YJ) _ (fun q => rfl)
 intro i x y R hx hy
 have h1 := zdk hx
 have h2 := zdk hy
 rw [zar YJ]
 by_cases e : zfs x y = 0 <;> simp [e]
theorem zee {kk sz : Nat} {a b : Sl zaj} (hs : 8 * (zaD a.l + zaD b.l) + 7 <= sz) (hb : sz < big) (hk : sz < kk) : zbg kk sz a b = some (zbF a b) := by
 have hl := zbO a.l
 unfold zbg zbF
 rw [zv8]
 refine zDd (f := zct) (zIJ (f := zct) (fun x y R => bnd (okP (8 * (zc8 x + zc8 y) + 5 < sz)) fun _ => sel (some (.ret (zct x y))) R (zct x y != 0)) (fun k i => rfl) ?_ YJ kk 0 (yi _) (yi _) YJ) _ (fun q => rfl)
 intro i x y R hx hy
 have h1 := zcS hx
 have h2 := zcS hy
 rw [zar YJ]
 by_cases e : zct x y = 0 <;> simp [e]
theorem zed {kk sz : Nat} {a b : Sl zae} (hs : 8 * (zbb a.l + zbb b.l) + 6 <= sz) (hb : sz < big) (hk : sz < kk) : zbf kk sz a b = some (zcI a b) := by
 have hl := zcA a.l
 unfold zbf zcI
 rw [zAB]
 refine zDd (f := zcV) (zIJ (f := zcV) (fun x y R => bnd (okP (8 * (zei x + zei y) + 5 < sz)) fun _ => sel (some (.ret (zcV x y))) R (zcV x y != 0)) (fun k i => rfl) ?_ YJ kk 0 (yi _) (yi _) YJ) _ (fun q => rfl)
 intro i x y R hx hy
 have h1 := zil hx
 have h2 := zil hy
 rw [zar YJ]
 by_cases e : zcV x y = 0 <;> simp [e]
theorem zeO {kk sz : Nat} {a b : Sl (Sl zam)} (hs : 8 * (zcw a.l + zcw b.l) + 6 <= sz) (hb : sz < big) (hk : sz < kk) : zbs kk sz a b = some (zqJ a b) := by
 have hl := zd6 a.l
 unfold zbs zqJ
 rw [zj6]
 refine zDd (f := zcR) (zIJ (f := zcR) (fun x y R => bnd (okP (8 * (zak x.l + zak y.l) + 7 < sz)) fun _ => sel (some (.ret (zcR x y))) R (zcR x y != 0)) (fun k i => rfl) ?_ YJ kk 0 (yi _) (yi _) YJ) _ (fun q => rfl)
 intro i x y R hx hy
 have h1 := zfQ hx
 have h2 := zfQ hy
 rw [zar YJ]
 by_cases e : zcR x y = 0 <;> simp [e]
theorem zq9 {kk sz : Nat} {a b : Sl zam} (hs : 8 * (zak a.l + zak b.l) + 7 <= sz) (hb : sz < big) (hk : sz < kk) : zha kk sz a b = some (zcR a b) := by
 unfold zha; rw [zar YJ]; rfl
theorem zpc {kk sz : Nat} {a b : zam} (hs : 8 * (zcH a + zcH b) + 5 <= sz) (hb : sz < big) (hk : sz < kk) : zgb kk sz a b = some (zfs a b) := by
 unfold zgb; rw [zar YJ, zar (by simp), zm2]
 simp [orL, zsa, ze4]
theorem zmW {kk sz : Nat} {a b : zam} (hs : 8 * (zcH a + zcH b) + 4 <= sz) (hb : sz < big) (hk : sz < kk) : zep kk sz a b = some (ze4 a b) := by
 rw [zdq, zdq] at hs
 unfold zep; rw [zar YJ]; rfl
theorem zl3 {kk sz : Nat} {a b : zaj} (hs : 8 * (zc8 a + zc8 b) + 5 <= sz) (hb : sz < big) (hk : sz < kk) : zdN kk sz a b = some (zct a b) := by
 rw [zcB, zcB] at hs
 unfold zdN; rw [zar YJ, zar (by simp), zor]
 simp [orL, zsa]
theorem zmX {kk sz : Nat} {a b : zae} (hs : 8 * (zei a + zei b) + 5 <= sz) (hb : sz < big) (hk : sz < kk) : zeq kk sz a b = some (zcV a b) := by
 rw [zjp, zjp] at hs
 unfold zeq; rw [zar YJ, zar (by simp), zm3]
 simp [orL, zsa]
theorem zmY {kk sz : Nat} {a b : zas} (hs : 8 * (zby a + zby b) + 7 <= sz) (hb : sz < big) (hk : sz < kk) : zer kk sz a b = some (zb3 a b) := by
 rw [zcr, zcr] at hs
 unfold zer; rw [zar YJ, zar YJ, zar (by simp), zm4]
 simp [orL, zsa, zqJ, zcI, zpB]
mutual
def zls : zam -> Nat
 | .mk _ ⟨_, fs⟩ => 1 + zdl fs
def zdl : List zaj -> Nat
 | [] => 0
 | x :: xs => 1 + zeT x + zdl xs
def zeT : zaj -> Nat
 | .mk a _ => zof a
def zof : zas -> Nat
 | .mk _ _ ⟨_, as⟩ _ ⟨_, is⟩ _ _ => zia as + zfW is
def zia : List (Sl zam) -> Nat
 | [] => 0
 | ⟨_, x⟩ :: xs => zdZ x + zia xs
def zdZ : List zam -> Nat
 | [] => 0
 | x :: xs => zls x + zdZ xs
def zfW : List zae -> Nat
 | [] => 0
 | x :: xs => zlt x + zfW xs
def zlt : zae -> Nat
 | .mk _ ⟨_, l⟩ => 1 + zdZ l
end
def zmA (a : Sl zam) : Int := (zdZ a.l : Nat)
mutual
def zjG : zam -> Nat
 | .mk _ ⟨_, fs⟩ => zd9 fs
def zd9 : List zaj -> Nat
 | [] => 0
 | x :: xs => max (zgn x) (zd9 xs)
def zgn : zaj -> Nat
 | .mk a _ => zmD a
def zmD : zas -> Nat
 | .mk k _ ⟨_, as⟩ _ ⟨_, is⟩ _ _ => if k = 0 then 0 else 1 + max (ziX as) (zgu is)
def ziX : List (Sl zam) -> Nat
 | [] => 0
 | ⟨_, x⟩ :: xs => max (zce x) (ziX xs)
def zce : List zam -> Nat
 | [] => 0
 | x :: xs => max (zjG x) (zce xs)
def zgu : List zae -> Nat
 | [] => 0
 | x :: xs => max (ziW x) (zgu xs)
def ziW : zae -> Nat
 | .mk _ ⟨_, l⟩ => zce l
end
def zkh (a : Sl zam) : Int := (zce a.l : Nat)
theorem zp9 (x : zam) : zls x = 1 + zdl x.factors.l := by rcases x with ⟨c, ⟨f, l⟩⟩; simp only [zls, zam.factors]
theorem zvy (x : zaj) : zeT x = zof x.atom := by cases x; simp only [zeT, zaj.atom]
theorem zqa (x : zae) : zlt x = 1 + zdZ x.ann.l := by rcases x with ⟨v, ⟨f, l⟩⟩; simp only [zlt, zae.ann]
theorem zqb (x : zas) : zof x = zia x.args.l + zfW x.items.l := by
 rcases x with ⟨k, r, ⟨f, a⟩, fn, ⟨g, i⟩, o, b⟩; simp only [zof, zas.args, zas.items]
theorem zni (x : zam) : zjG x = zd9 x.factors.l := by rcases x with ⟨c, ⟨f, l⟩⟩; simp only [zjG, zam.factors]
theorem zqp (x : zaj) : zgn x = zmD x.atom := by cases x; simp only [zgn, zaj.atom]
theorem znj (x : zae) : ziW x = zce x.ann.l := by rcases x with ⟨v, ⟨f, l⟩⟩; simp only [ziW, zae.ann]
theorem zle (x : zas) : zmD x = if x.kind = 0 then 0 else 1 + max (ziX x.args.l) (zgu x.items.l) := by
 rcases x with ⟨k, r, ⟨f, a⟩, fn, ⟨g, i⟩, o, b⟩; simp only [zmD, zas.args, zas.items, zas.kind]; rfl
mutual
theorem zE2 (x : zam) : zls x <= zcH x := by
 rcases x with ⟨c, ⟨f, l⟩⟩; simp only [zls, zcH]; have := zr5 l; omega
theorem zr5 (l : List zaj) : zdl l <= zaD l := by
 cases l with
 | nil => simp [zdl]
 | cons x l => simp only [zdl, zaD]; have := zBr x; have := zr5 l; omega
theorem zBr (x : zaj) : zeT x <= zc8 x := by
 cases x with | mk a e => simp only [zeT, zc8]; have := zE4 a; omega
theorem zE4 (x : zas) : zof x <= zby x := by
 rcases x with ⟨k, r, ⟨f, a⟩, fn, ⟨g, i⟩, o, b⟩; simp only [zof, zby]; have := zyd a; have := zvv i; omega
theorem zyd (l : List (Sl zam)) : zia l <= zcw l := by
 rcases l with _ | ⟨⟨f, x⟩, l⟩
 · simp [zia]
 · simp only [zia, zcw]; have := zkc x; have := zyd l; omega
theorem zkc (l : List zam) : zdZ l <= zak l := by
 cases l with
 | nil => simp [zdZ]
 | cons x l => simp only [zdZ, zak]; have := zE2 x; have := zkc l; omega
theorem zvv (l : List zae) : zfW l <= zbb l := by
 cases l with
 | nil => simp [zfW]
 | cons x l => simp only [zfW, zbb]; have := zE3 x; have := zvv l; omega
theorem zE3 (x : zae) : zlt x <= zei x := by
 rcases x with ⟨v, ⟨f, l⟩⟩; simp only [zlt, zei]; have := zkc l; omega
end
mutual
theorem zFG (x : zam) : zjG x <= zcH x := by
 rcases x with ⟨c, ⟨f, l⟩⟩; simp only [zjG, zcH]; have := zsc l; omega
theorem zsc (l : List zaj) : zd9 l <= zaD l := by
 cases l with
 | nil => simp [zd9]
 | cons x l => simp only [zd9, zaD]; have := zBx x; have := zsc l; omega
theorem zBx (x : zaj) : zgn x <= zc8 x := by
 cases x with | mk a e => simp only [zgn, zc8]; have := zFI a; omega
theorem zFI (x : zas) : zmD x <= zby x := by
 rcases x with ⟨k, r, ⟨f, a⟩, fn, ⟨g, i⟩, o, b⟩; simp only [zmD, zby]; have := zsd a; have := zqm i; split <;> omega
theorem zsd (l : List (Sl zam)) : ziX l <= zcw l := by
 rcases l with _ | ⟨⟨f, x⟩, l⟩
 · simp [ziX]
 · simp only [ziX, zcw]; have := zkg x; have := zsd l; omega
theorem zkg (l : List zam) : zce l <= zak l := by
 cases l with
 | nil => simp [zce]
 | cons x l => simp only [zce, zak]; have := zFG x; have := zkg l; omega
theorem zqm (l : List zae) : zgu l <= zbb l := by
 cases l with
 | nil => simp [zgu]
 | cons x l => simp only [zgu, zbb]; have := zFH x; have := zqm l; omega
theorem zFH (x : zae) : ziW x <= zei x := by
 rcases x with ⟨v, ⟨f, l⟩⟩; simp only [ziW, zei]; have := zkg l; omega
end
theorem zvw (l : List zam) : zdZ l = zgf zls l := by
 induction l with
 | nil => rfl
 | cons x l ih => simp only [zdZ, zgf, ih]
theorem zzN (l : List zaj) : zdl l = zgf (fun x => 1 + zeT x) l := by
 induction l with
 | nil => rfl
 | cons x l ih => simp only [zdl, zgf, ih]
theorem zvx (l : List zae) : zfW l = zgf zlt l := by
 induction l with
 | nil => rfl
 | cons x l ih => simp only [zfW, zgf, ih]
theorem zj0 (l : List (Sl zam)) : zia l = zgf (fun x => zdZ x.l) l := by
 induction l with
 | nil => rfl
 | cons x l ih => cases x; simp only [zia, zgf, ih]
def zjk {α : Type} (f : α -> Nat) : List α -> Nat
 | [] => 0
 | x :: l => max (f x) (zjk f l)
theorem zqn (l : List zam) : zce l = zjk zjG l := by
 induction l with
 | nil => rfl
 | cons x l ih => simp only [zce, zjk, ih]
theorem znk (l : List zaj) : zd9 l = zjk zgn l := by
 induction l with
 | nil => rfl
 | cons x l ih => simp only [zd9, zjk, ih]
theorem zqo (l : List zae) : zgu l = zjk ziW l := by
 induction l with
 | nil => rfl
 | cons x l ih => simp only [zgu, zjk, ih]
theorem zir (l : List (Sl zam)) : ziX l = zjk (fun x => zce x.l) l := by
 induction l with
 | nil => rfl
 | cons x l ih => cases x; simp only [ziX, zjk, ih]
theorem zvq {α : Type} (f : α -> Nat) (a b : List α) : zgf f (a ++ b) = zgf f a + zgf f b := by
 induction a with
 | nil => simp [zgf]
 | cons x a ih => simp only [yS, zgf, ih]; omega
theorem zw5 {α : Type} (f : α -> Nat) {l : List α} {i : Nat} {x : α} (h : l[i]? = some x) : zgf f (l.take (i + 1)) = zgf f (l.take i) + f x := by
 have e : l.take (i + 1) = l.take i ++ [x] := by rw [List.take_add_one, h]; rfl
 rw [e, zvq]; simp [zgf]
theorem zvp {α : Type} (f : α -> Nat) (l : List α) (i : Nat) : zgf f (l.take i) <= zgf f l := by
 have := zvq f (l.take i) (l.drop i)
 rw [List.take_append_drop] at this; omega
theorem zyo {α : Type} (f : α -> Nat) (a b : List α) : zjk f (a ++ b) = max (zjk f a) (zjk f b) := by
 induction a with
 | nil => simp [zjk]
 | cons x a ih => simp only [yS, zjk, ih]; omega
theorem zKj {α : Type} (f : α -> Nat) {l : List α} {i : Nat} {x : α} (h : l[i]? = some x) : zjk f (l.take (i + 1)) = max (zjk f (l.take i)) (f x) := by
 have e : l.take (i + 1) = l.take i ++ [x] := by rw [List.take_add_one, h]; rfl
 rw [e, zyo]; simp [zjk]
theorem zDF {α : Type} (f : α -> Nat) (l : List α) (i : Nat) : zjk f (l.take i) <= zjk f l := by
 have := zyo f (l.take i) (l.drop i)
 rw [List.take_append_drop] at this; omega
def zdY (r : zbZ) : Bool := decide (1 <= r.table) && decide (1 <= r.seq)
def zaE (v : Val) : Bool :=
 if v.kind = 0 then v.text == []
 else if v.kind = 1 then (v.int == 0) && decide ((v.text.length : Int) <= 255)
 else if v.kind = 2 then ((v.int == 0) || (v.int == 1)) && (v.text == [])
 else false
def zk0 (a : zas) : Bool := (((a.func == 0) && ((a.items.l.length : Int) == 0)) && (a.op == 0)) && ((a.bound.kind == 0) && ((a.bound.int == 0) && (a.bound.text == [])))
def zeu (a : Sl zam) : Bool := a.l.any fun t => (t.factors.l.length : Int) == 0
def zFD {α : Type} : List α -> Option α
 | [x] => some x
 | _ => none
def zmd (a : Sl zam) : Bool := match zFD a.l with
 | some t => (t.coeff == 1) && (match zFD t.factors.l with
   | some f => (f.exp == 1) && decide (2 <= f.atom.kind)
   | none => false)
 | none => false
def zit (a : Sl zam) : Bool := match zFD a.l with
 | some t => (t.factors.l.length : Int) == 0
 | none => false
def zxo (a : zas) : Bool := (a.kind == 3) || (a.kind == 4)
def zsh (a : Sl zam) : Bool := match zFD a.l with
 | some t => (t.coeff == 1) && (match zFD t.factors.l with
   | some f => (f.exp == 1) && ((f.atom.kind == 2) || zxo f.atom)
   | none => false)
 | none => false
theorem zMQ {R S : Type} {L : Nat -> S -> Int -> Option (Out R (S × Int))} {n : Nat} (acc : Nat -> S)
 (hend : ∀ k s, L (k + 1) s n = some (.done (s, (n : Int))))
 (hstep : ∀ k i, i < n -> L (k + 1) (acc i) (i : Int) = L k (acc (i + 1)) ((i + 1 : Nat) : Int)) :
 ∀ k i, i <= n -> n - i < k -> L k (acc i) (i : Int) = some (.done (acc n, (n : Int))) := by
 intro k
 induction k with
 | zero => intro i _ h; omega
 | succ k ih =>
   intro i h1 h2
   by_cases e : i = n
   · subst e; exact hend k _
   · rw [hstep k i YJ, ih (i + 1) YJ YJ]
theorem zpy {R S : Type} {L : Nat -> S -> Int -> Option (Out R (S × Int))} {n k : Nat} (acc : Nat -> S) (s0 : S)
 (hend : ∀ k s, L (k + 1) s n = some (.done (s, (n : Int))))
 (hstep : ∀ k i, i < n -> L (k + 1) (acc i) (i : Int) = L k (acc (i + 1)) ((i + 1 : Nat) : Int)) (h0 : acc 0 = s0) (hk : n < k) :
 L k s0 0 = some (.done (acc n, (n : Int))) := by
 have := zMQ acc hend hstep k 0 YJ YJ
 rw [<- h0]; exact this
theorem zod {α R : Type} {L : Nat -> Int -> Int -> Option (Out R (Int × Int))} {xs : List α} {k : Nat} (f : α -> Nat) (s : Nat)
 (hend : ∀ k s, L (k + 1) s xs.length = some (.done (s, (xs.length : Int))))
 (hstep : ∀ k (i m : Nat) x, i < xs.length -> xs[i]? = some x -> m + f x <= s + zgf f xs -> L (k + 1) (m : Int) (i : Int) = L k ((m + f x : Nat) : Int) ((i + 1 : Nat) : Int))
 (hk : xs.length < k) : L k (s : Int) 0 = some (.done (((s + zgf f xs : Nat) : Int), (xs.length : Int))) := by
 have := zpy (L := L) (n := xs.length) (k := k) (fun i => ((s + zgf f (xs.take i) : Nat) : Int)) (s : Int) hend (fun k i hi => ?_) (by simp [zgf]) hk
 · simpa using this
 · have ex := yB hi
   have h1 := zw5 f ex
   have h2 := zvp f xs (i + 1)
   have := hstep k i (s + zgf f (xs.take i)) _ hi ex YJ
   rw [this, h1, Nat.add_assoc]
theorem zol {α R : Type} {L : Nat -> Int -> Int -> Option (Out R (Int × Int))} {xs : List α} {k : Nat} (f : α -> Nat) (s : Nat)
 (hend : ∀ k s, L (k + 1) s xs.length = some (.done (s, (xs.length : Int))))
 (hstep : ∀ k (i m : Nat) x, i < xs.length -> xs[i]? = some x -> s <= m -> m <= max s (zjk f xs) -> L (k + 1) (m : Int) (i : Int) = L k ((max m (f x) : Nat) : Int) ((i + 1 : Nat) : Int))
 (hk : xs.length < k) : L k (s : Int) 0 = some (.done (((max s (zjk f xs) : Nat) : Int), (xs.length : Int))) := by
 have := zpy (L := L) (n := xs.length) (k := k) (fun i => ((max s (zjk f (xs.take i)) : Nat) : Int)) (s : Int) hend (fun k i hi => ?_) (by simp [zjk]) hk
 · simpa using this
 · have ex := yB hi
   have h1 := zKj f ex
   have h2 := zDF f xs i
   have := hstep k i (max s (zjk f (xs.take i))) _ hi ex YJ YJ
   rw [this, h1, Nat.max_assoc]
end Go.Ev
namespace Go.Ev
open Go.IntKind (wrap)
noncomputable def zo7 (kk : Nat) (a : zbZ) : Option (Bool) :=
 some ((decide (1 <= a.table)) && (decide (1 <= a.seq)))
noncomputable def zmN (kk : Nat) (a : Val) : Option (Bool) :=
 sel (
  some (a.text == [])) (
  sel (
   some ((a.int == 0) && (decide ((a.text.length : Int) <= 255)))) (
   sel (
    some (((a.int == 0) || (a.int == 1)) && (a.text == []))) (
    some false) (a.kind == 2)) (a.kind == 1)) (a.kind == 0)
noncomputable def zq4 (kk : Nat) (a : Val) : Option (Bool) :=
 sel (
  some (a.text == [])) (
  sel (
   some ((a.int == 0) && (decide ((a.text.length : Int) <= 255)))) (
   sel (
    some ((a.text == []) && ((a.int == 0) || (a.int == 1)))) (
    some false) (a.kind == 2)) (a.kind == 1)) (a.kind == 0)
noncomputable def zu3 (kk : Nat) (a : zas) : Option (Bool) :=
 some ((((a.func == 0) && ((a.items.l.length : Int) == 0)) && (a.op == 0)) && ((a.bound.kind == 0) && ((a.bound.int == 0) && (a.bound.text == []))))
noncomputable def zoB (kk : Nat) (a : (Sl zam)) : Option (Bool) :=
 sel (
  bnd (a.l[0]?) fun (y1 : zam) =>
  sel (
   sel (
    bnd (y1.factors.l[0]?) fun (y2 : zaj) =>
    sel (
     some (y2.exp == 1)) (
     some false) (decide (2 <= y2.atom.kind))) (
    some false) ((y1.factors.l.length : Int) == 1)) (
   some false) (y1.coeff == 1)) (
  some false) ((a.l.length : Int) == 1)
noncomputable def zhN (kk : Nat) (a : zas) : Option (Bool) :=
 some ((a.kind == 3) || (a.kind == 4))
noncomputable def zfE (kk : Nat) (a : (Sl zam)) : Option (Bool) :=
 sel (
  bnd (a.l[0]?) fun (y1 : zam) =>
  some ((y1.factors.l.length : Int) == 0)) (
  some false) ((a.l.length : Int) == 1)
noncomputable def zhM (kk : Nat) (a : (Sl zam)) : Option (Bool) :=
 sel (
  bnd (a.l[0]?) fun (y1 : zam) =>
  sel (
   sel (
    some false) (
    bnd (y1.factors.l[0]?) fun (y2 : zaj) =>
    some ((y2.exp == 1) && ((y2.atom.kind == 2) || ((zxo y2.atom))))) ((y1.factors.l.length : Int) != 1)) (
   some false) (!(y1.coeff != 1))) (
  some false) (!((a.l.length : Int) != 1))
noncomputable def ze7 (c1 : Sl zam) (kk : Nat) : Nat -> Int -> Option (Out (Bool) (Int))
 | 0, _ => none
 | k + 1, s2 =>
   sel (
    bnd (ix c1.l s2) fun (y3 : zam) =>
    sel (
     some (.ret true)) (
     ze7 c1 kk k (wrap .i64 (s2 + 1))) ((y3.factors.l.length : Int) == 0)) (
    some (.done s2)) (decide (s2 < (c1.l.length : Int)))
noncomputable def zlD (kk : Nat) (a : (Sl zam)) : Option (Bool) :=
 zgD (ze7 a kk kk 0) (fun r => some r) fun (q4 : Int) =>
  some false
noncomputable def zcM (c29 : Sl zam) (c30 c31 : Int) (c32 : Sl zaj) (c33 c34 : Int) (c35 : Sl zae) (c36 : Int) (sz kk : Nat) : Nat -> Int -> Int -> Option (Out (Int) (Int × Int))
 | 0, _, _ => none
 | k + 1, s28, s37 =>
   sel (
    bnd (ix c35.l s37) fun (y38 : zae) =>
    bnd (okP (zak y38.ann.l < sz)) fun _ =>
    zcM c29 c30 c31 c32 c33 c34 c35 c36 sz kk k (wrap .i64 (s28 + (wrap .i64 (1 + (zmA y38.ann))))) (wrap .i64 (s37 + 1))) (
    some (.done (s28, s37))) (decide (s37 < c36))
noncomputable def zcN (c15 : Sl zam) (c16 c17 : Int) (c18 : Sl zaj) (c19 c20 : Int) (c21 : Sl (Sl zam)) (c22 : Int) (c24 : zaj) (sz : Nat) (kk : Nat) : Nat -> Int -> Int -> Option (Out (Int) (Int × Int))
 | 0, _, _ => none
 | k + 1, s14, s23 =>
   sel (
    bnd (ix c21.l s23) fun (y25 : (Sl zam)) =>
    bnd (okP (zak y25.l < sz)) fun _ =>
    zcN c15 c16 c17 c18 c19 c20 c21 c22 c24 sz kk k (wrap .i64 (s14 + (zmA y25))) (wrap .i64 (s23 + 1))) (
    some (.done (s14, s23))) (decide (s23 < c22))
noncomputable def zcO (c7 : Sl zam) (c8 c9 : Int) (c10 : Sl zaj) (c11 : Int) (sz kk : Nat) : Nat -> Int -> Int -> Option (Out (Int) (Int × Int))
 | 0, _, _ => none
 | k + 1, s6, s12 =>
   sel (
    bnd (ix c10.l s12) fun (y13 : zaj) =>
    zgD (zcN c7 c8 c9 c10 c11 s12 y13.atom.args (y13.atom.args.l.length : Int) y13 sz kk kk s6 0) (fun r => some (.ret r)) fun (q27 : Int × Int) =>
     zgD (zcM c7 c8 c9 c10 c11 s12 y13.atom.items (y13.atom.items.l.length : Int) sz kk kk q27.1 0) (fun r => some (.ret r)) fun (q40 : Int × Int) =>
      zcO c7 c8 c9 c10 c11 sz kk k q40.1 (wrap .i64 (s12 + 1))) (
    some (.done (s6, s12))) (decide (s12 < c11))
noncomputable def zcP (c2 : Sl zam) (c3 : Int) (sz kk : Nat) : Nat -> Int -> Int -> Option (Out (Int) (Int × Int))
 | 0, _, _ => none
 | k + 1, s1, s4 =>
   sel (
    bnd (ix c2.l s4) fun (y5 : zam) =>
    zgD (zcO c2 c3 s4 y5.factors (y5.factors.l.length : Int) sz kk kk (wrap .i64 (s1 + (wrap .i64 (1 + (y5.factors.l.length : Int))))) 0) (fun r => some (.ret r)) fun (q41 : Int × Int) =>
     zcP c2 c3 sz kk k q41.1 (wrap .i64 (s4 + 1))) (
    some (.done (s1, s4))) (decide (s4 < c3))
noncomputable def zjd (kk sz : Nat) (a : (Sl zam)) : Option (Int) :=
 zgD (zcP a (a.l.length : Int) sz kk kk 0 0) (fun r => some r) fun (q42 : Int × Int) =>
  some q42.1
noncomputable def zcb (c29 : Int) (c31 : Sl zam) (c32 c33 : Int) (c34 : Sl zaj) (c35 c36 : Int) (c37 : Sl zae) (c38 : Int) (sz kk : Nat) : Nat -> Int -> Int -> Option (Out (Int) (Int × Int))
 | 0, _, _ => none
 | k + 1, s30, s39 =>
   sel (
    bnd (ix c37.l s39) fun (y40 : zae) =>
    bnd (okP (zak y40.ann.l < sz)) fun _ =>
    zcb c29 c31 c32 c33 c34 c35 c36 c37 c38 sz kk k (if s30 < (zkh y40.ann) then (zkh y40.ann) else s30) (wrap .i64 (s39 + 1))) (
    some (.done (s30, s39))) (decide (s39 < c38))
noncomputable def zbV (c14 : Int) (c16 : Sl zam) (c17 c18 : Int) (c19 : Sl zaj) (c20 c21 : Int) (c22 : Sl (Sl zam)) (c23 : Int) (c25 : zaj) (sz : Nat) (kk : Nat) : Nat -> Int -> Int -> Option (Out (Int) (Int × Int))
 | 0, _, _ => none
 | k + 1, s15, s24 =>
   sel (
    bnd (ix c22.l s24) fun (y26 : (Sl zam)) =>
    bnd (okP (zak y26.l < sz)) fun _ =>
    zbV c14 c16 c17 c18 c19 c20 c21 c22 c23 c25 sz kk k (if s15 < (zkh y26) then (zkh y26) else s15) (wrap .i64 (s24 + 1))) (
    some (.done (s15, s24))) (decide (s24 < c23))
noncomputable def zbW (c7 : Sl zam) (c8 c9 : Int) (c10 : Sl zaj) (c11 : Int) (sz kk : Nat) : Nat -> Int -> Int -> Option (Out (Int) (Int × Int))
 | 0, _, _ => none
 | k + 1, s6, s12 =>
   sel (
    bnd (ix c10.l s12) fun (y13 : zaj) =>
    sel (
     zbW c7 c8 c9 c10 c11 sz kk k s6 (wrap .i64 (s12 + 1))) (
     zgD (zbV s6 c7 c8 c9 c10 c11 s12 y13.atom.args (y13.atom.args.l.length : Int) y13 sz kk kk 0 0) (fun r => some (.ret r)) fun (q28 : Int × Int) =>
      zgD (zcb s6 c7 c8 c9 c10 c11 s12 y13.atom.items (y13.atom.items.l.length : Int) sz kk kk q28.1 0) (fun r => some (.ret r)) fun (q42 : Int × Int) =>
       zbW c7 c8 c9 c10 c11 sz kk k (if s6 < (wrap .i64 (1 + q42.1)) then (wrap .i64 (1 + q42.1)) else s6) (wrap .i64 (s12 + 1))) (y13.atom.kind == 0)) (
    some (.done (s6, s12))) (decide (s12 < c11))
noncomputable def zcc (c2 : Sl zam) (c3 : Int) (sz kk : Nat) : Nat -> Int -> Int -> Option (Out (Int) (Int × Int))
 | 0, _, _ => none
 | k + 1, s1, s4 =>
   sel (
    bnd (ix c2.l s4) fun (y5 : zam) =>
    zgD (zbW c2 c3 s4 y5.factors (y5.factors.l.length : Int) sz kk kk s1 0) (fun r => some (.ret r)) fun (q43 : Int × Int) =>
     zcc c2 c3 sz kk k q43.1 (wrap .i64 (s4 + 1))) (
    some (.done (s1, s4))) (decide (s4 < c3))
noncomputable def zg7 (kk sz : Nat) (a : (Sl zam)) : Option (Int) :=
 zgD (zcc a (a.l.length : Int) sz kk kk 0 0) (fun r => some r) fun (q44 : Int × Int) =>
  some q44.1
noncomputable def zhr (c19 : Sl zam) (c21 c22 : Int) (c24 : zas) (sz kk : Nat) : Nat -> Int -> Int -> Option (Out (Int) (Int × Int))
 | 0, _, _ => none
 | k + 1, s20, s23 =>
   sel (
    bnd (ix c24.items.l s23) fun (y25 : zae) =>
    bnd (okP (zak y25.ann.l < sz)) fun _ =>
    zhr c19 c21 c22 c24 sz kk k (wrap .i64 ((wrap .i64 (s20 + 1)) + (zmA y25.ann))) (wrap .i64 (s23 + 1))) (
    some (.done (s20, s23))) (decide (s23 < (c24.items.l.length : Int)))
noncomputable def zhs (c10 : Sl zam) (c12 c13 : Int) (c15 : zas) (sz kk : Nat) : Nat -> Int -> Int -> Option (Out (Int) (Int × Int))
 | 0, _, _ => none
 | k + 1, s11, s14 =>
   sel (
    bnd (ix c15.args.l s14) fun (y16 : (Sl zam)) =>
    bnd (okP (zak y16.l < sz)) fun _ =>
    zhs c10 c12 c13 c15 sz kk k (wrap .i64 (s11 + (zmA y16))) (wrap .i64 (s14 + 1))) (
    some (.done (s11, s14))) (decide (s14 < (c15.args.l.length : Int)))
noncomputable def zht (c4 : Sl zam) (c6 : Int) (sz kk : Nat) : Nat -> Int -> Int -> Option (Out (Int) (Int × Int))
 | 0, _, _ => none
 | k + 1, s5, s7 =>
   bnd (ix c4.l c6) fun (y8 : zam) =>
   sel (
    bnd (ix y8.factors.l s7) fun (y9 : zaj) =>
    zgD (zhs c4 c6 s7 y9.atom sz kk kk (wrap .i64 (s5 + 1)) 0) (fun r => some (.ret r)) fun (q18 : Int × Int) =>
     zgD (zhr c4 c6 s7 y9.atom sz kk kk q18.1 0) (fun r => some (.ret r)) fun (q27 : Int × Int) =>
      zht c4 c6 sz kk k q27.1 (wrap .i64 (s7 + 1))) (
    some (.done (s5, s7))) (decide (s7 < (y8.factors.l.length : Int)))
noncomputable def zhu (c1 : Sl zam) (sz kk : Nat) : Nat -> Int -> Int -> Option (Out (Int) (Int × Int))
 | 0, _, _ => none
 | k + 1, s2, s3 =>
   sel (
    zgD (zht c1 s3 sz kk kk (wrap .i64 (s2 + 1)) 0) (fun r => some (.ret r)) fun (q28 : Int × Int) =>
     zhu c1 sz kk k q28.1 (wrap .i64 (s3 + 1))) (
    some (.done (s2, s3))) (decide (s3 < (c1.l.length : Int)))
noncomputable def zts (kk sz : Nat) (a : (Sl zam)) : Option (Int) :=
 zgD (zhu a sz kk kk 0 0) (fun r => some r) fun (q29 : Int × Int) =>
  some q29.1
noncomputable def zeC (c20 : Sl zam) (c21 c22 c23 : Int) (c26 : zas) (sz kk : Nat) : Nat -> Int -> Int -> Option (Out (Int) (Int × Int))
 | 0, _, _ => none
 | k + 1, s24, s25 =>
   sel (
    bnd (ix c26.items.l s25) fun (y27 : zae) =>
    bnd (okP (zak y27.ann.l < sz)) fun _ =>
    zeC c20 c21 c22 c23 c26 sz kk k (if s24 < (wrap .i64 (1 + (zkh y27.ann))) then (wrap .i64 (1 + (zkh y27.ann))) else s24) (wrap .i64 (s25 + 1))) (
    some (.done (s24, s25))) (decide (s25 < (c26.items.l.length : Int)))
noncomputable def zdJ (c10 : Sl zam) (c11 c12 c13 : Int) (c16 : zas) (sz kk : Nat) : Nat -> Int -> Int -> Option (Out (Int) (Int × Int))
 | 0, _, _ => none
 | k + 1, s14, s15 =>
   sel (
    bnd (ix c16.args.l s15) fun (y17 : (Sl zam)) =>
    bnd (okP (zak y17.l < sz)) fun _ =>
    zdJ c10 c11 c12 c13 c16 sz kk k (if s14 < (wrap .i64 (1 + (zkh y17))) then (wrap .i64 (1 + (zkh y17))) else s14) (wrap .i64 (s15 + 1))) (
    some (.done (s14, s15))) (decide (s15 < (c16.args.l.length : Int)))
noncomputable def zdK (c4 : Sl zam) (c6 : Int) (sz kk : Nat) : Nat -> Int -> Int -> Option (Out (Int) (Int × Int))
 | 0, _, _ => none
 | k + 1, s5, s7 =>
   bnd (ix c4.l c6) fun (y8 : zam) =>
   sel (
    bnd (ix y8.factors.l s7) fun (y9 : zaj) =>
    sel (
     zdK c4 c6 sz kk k s5 (wrap .i64 (s7 + 1))) (
     zgD (zdJ c4 s5 c6 s7 y9.atom sz kk kk 1 0) (fun r => some (.ret r)) fun (q19 : Int × Int) =>
      zgD (zeC c4 s5 c6 s7 y9.atom sz kk kk q19.1 0) (fun r => some (.ret r)) fun (q29 : Int × Int) =>
       zdK c4 c6 sz kk k (if s5 < q29.1 then q29.1 else s5) (wrap .i64 (s7 + 1))) (y9.atom.kind == 0)) (
    some (.done (s5, s7))) (decide (s7 < (y8.factors.l.length : Int)))
noncomputable def zeD (c1 : Sl zam) (sz kk : Nat) : Nat -> Int -> Int -> Option (Out (Int) (Int × Int))
 | 0, _, _ => none
 | k + 1, s2, s3 =>
   sel (
    zgD (zdK c1 s3 sz kk kk s2 0) (fun r => some (.ret r)) fun (q30 : Int × Int) =>
     zeD c1 sz kk k q30.1 (wrap .i64 (s3 + 1))) (
    some (.done (s2, s3))) (decide (s3 < (c1.l.length : Int)))
noncomputable def zmQ (kk sz : Nat) (a : (Sl zam)) : Option (Int) :=
 zgD (zeD a sz kk kk 0 0) (fun r => some r) fun (q31 : Int × Int) =>
  some q31.1
end Go.Ev
namespace Go.Ev
theorem ziO {n : Nat} (h : n < 2 * big) : IntKind.wrap .i64 ((n : Nat) : Int) = (n : Nat) := by
 have : big = 1152921504606846976 := rfl
 exact zcG YJ YJ
theorem zIc (x : Nat) : ((x : Int) + 1) = ((x + 1 : Nat) : Int) := by omega
theorem zGr (x : Nat) : (1 + (x : Int)) = ((1 + x : Nat) : Int) := by omega
theorem zNv (x y : Nat) : ((x : Int) + (y : Int)) = ((x + y : Nat) : Int) := by omega
theorem zpn {l : List zae} {i : Nat} {x : zae} (h : l[i]? = some x) : zak x.ann.l + 1 < zbb l := by
 have := zil h; rw [zjp] at this; omega
theorem zxW (kk : Nat) (a : zbZ) : zo7 kk a = some (zdY a) := rfl
theorem zy0 (kk : Nat) (a : Val) : zmN kk a = some (zaE a) := by
 unfold zmN zaE
 simp only [zcs]
 split
 · rfl
 · split
   · rfl
   · split <;> rfl
theorem zB4 (kk : Nat) (a : Val) : zq4 kk a = some (zaE a) := by
 unfold zq4 zaE
 simp only [zcs]
 split
 · rfl
 · split
   · rfl
   · split
     · rw [Bool.and_comm]
     · rfl
theorem zB1 (kk : Nat) (a : zas) : zu3 kk a = some (zk0 a) := rfl
theorem zn3 (kk : Nat) (a : zas) : zhN kk a = some (zxo a) := rfl
theorem zFA {α : Type} (x : α) : zFD [x] = some x := rfl
theorem zFB {α : Type} {l : List α} (h : ((l.length : Nat) : Int) ≠ 1) : zFD l = none := by
 rcases l with _ | ⟨x, _ | ⟨y, l⟩⟩
 · rfl
 · simp at h
 · rfl
theorem zrq {α : Type} {l : List α} (h : ((l.length : Nat) : Int) = 1) : ∃ x, l = [x] := by
 rcases l with _ | ⟨x, _ | ⟨y, l⟩⟩
 · simp at h
 · exact ⟨x, rfl⟩
 · simp at h; omega
theorem zA8 (kk : Nat) (a : Sl zam) : zoB kk a = some (zmd a) := by
 unfold zoB zmd
 rw [zcs]
 by_cases h : ((a.l.length : Nat) : Int) = 1
 · rw [if_pos h]
   obtain ⟨t, e⟩ := zrq h
   rw [e]
   simp only [yH, zad, zFA]
   by_cases hc : t.coeff = 1
   · simp only [hc, beq_self_eq_true, zat, yz]
     by_cases hf : ((t.factors.l.length : Nat) : Int) = 1
     · obtain ⟨f, e2⟩ := zrq hf
       rw [e2]
       simp [zFA, zdB]
       split <;> simp_all
     · rw [zFB hf]; simp [zdB, hf]
   · simp [hc, zdB]
 · rw [if_neg h, zFB h]
theorem zn2 (kk : Nat) (a : Sl zam) : zfE kk a = some (zit a) := by
 unfold zfE zit
 rw [zcs]
 by_cases h : ((a.l.length : Nat) : Int) = 1
 · rw [if_pos h]
   obtain ⟨t, e⟩ := zrq h
   rw [e]
   simp only [yH, zad, zFA]
 · rw [if_neg h, zFB h]
theorem zrQ (kk : Nat) (a : Sl zam) : zhM kk a = some (zsh a) := by
 unfold zhM zsh
 rw [zc2, zw9]
 by_cases h : ((a.l.length : Nat) : Int) = 1
 · rw [if_pos h]
   obtain ⟨t, e⟩ := zrq h
   rw [e]
   simp only [yH, zad, zFA, zc2, zw9]
   by_cases hc : t.coeff = 1
   · simp only [hc, beq_self_eq_true, if_true, yz]
     by_cases hf : ((t.factors.l.length : Nat) : Int) = 1
     · obtain ⟨f, e2⟩ := zrq hf
       rw [e2]
       simp [zFA]
     · rw [zFB hf]; simp [hf]
   · simp [hc]
 · rw [if_neg h, zFB h]
theorem zPr {α : Type} {L : Nat -> Int -> Option (Out Bool Int)} {xs : List α} (p : α -> Bool) (v : Bool)
 (hend : ∀ k, L (k + 1) xs.length = some (.done (xs.length : Int)))
 (hstep : ∀ k (i : Nat) x, i < xs.length -> xs[i]? = some x -> L (k + 1) (i : Int) = if p x then some (.ret v) else L k ((i + 1 : Nat) : Int)) :
 ∀ k i, i <= xs.length -> xs.length - i < k -> L k (i : Int) = if (xs.drop i).any p then some (.ret v) else some (.done (xs.length : Int)) := by
 intro k
 induction k with
 | zero => intro i _ h; omega
 | succ k ih =>
   intro i h1 h2
   by_cases e : i = xs.length
   · subst e; rw [hend]; simp
   · have hi : i < xs.length := by omega
     rw [hstep k i _ hi (yB hi), ih (i + 1) YJ YJ, yb hi, List.any_cons]
     by_cases hp : p xs[i] = true
     · simp [hp]
     · simp [hp]
theorem zkt {α : Type} {L : Nat -> Int -> Option (Out Bool Int)} {xs : List α} {k : Nat} (p : α -> Bool) (v : Bool)
 (hend : ∀ k, L (k + 1) xs.length = some (.done (xs.length : Int)))
 (hstep : ∀ k (i : Nat) x, i < xs.length -> xs[i]? = some x -> L (k + 1) (i : Int) = if p x then some (.ret v) else L k ((i + 1 : Nat) : Int))
 (hk : xs.length < k) : L k 0 = if xs.any p then some (.ret v) else some (.done (xs.length : Int)) := by
 have := zPr p v hend hstep k 0 YJ YJ
 simpa using this
theorem zxY {kk : Nat} (a : Sl zam) (h : a.l.length < big - 1) (hk : a.l.length < kk) : zlD kk a = some (zeu a) := by
 unfold zlD zeu
 rw [zkt (xs := a.l) (L := ze7 a kk) (fun t => (t.factors.l.length : Int) == 0) true (fun k => by simp [ze7]) (fun k i x hi ex => ?_) hk]
 · cases a.l.any _ <;> rfl
 · simp only [ze7, zdC, YH hi, zat, zbE, ex, zad]
   rw [zaF YJ]
   exact zdB _ _ _
theorem zAW {c1 : Sl zam} {c2 c3 : Int} {a : zas} {sz kk k s : Nat} (h : zby a < sz + 1) (hk : sz < k) (hs : s + zfW a.items.l < big) (hb : sz < big) :
 zhr c1 c2 c3 a sz kk k s 0 = some (.done (((s + zfW a.items.l : Nat) : Int), (a.items.l.length : Int))) := by
 have hz := zcr a
 have hl := zcA a.items.l
 rw [zvx] at hs ⊢
 refine zod (xs := a.items.l) (L := zhr c1 c2 c3 a sz kk) zlt s (fun k s => by simp [zhr]) (fun k i m x hi ex hm => ?_) YJ
 have hx := zpn ex
 have he := zqa x
 simp only [zhr, zdC, YH hi, zat, zbE, ex, zad]
 rw [zar YJ, zad, zaF YJ, zIc, ziO YJ]
 unfold zmA
 rw [zNv, ziO YJ]
 congr 2; omega
theorem zAX {c1 : Sl zam} {c2 c3 : Int} {a : zas} {sz kk k s : Nat} (h : zby a < sz + 1) (hk : sz < k) (hs : s + zia a.args.l < big) (hb : sz < big) :
 zhs c1 c2 c3 a sz kk k s 0 = some (.done (((s + zia a.args.l : Nat) : Int), (a.args.l.length : Int))) := by
 have hz := zcr a
 have hl := zd6 a.args.l
 rw [zj0] at hs ⊢
 refine zod (xs := a.args.l) (L := zhs c1 c2 c3 a sz kk) (fun x : Sl zam => zdZ x.l) s (fun k s => by simp [zhs]) (fun k i m x hi ex hm => ?_) YJ
 have hx := zfQ ex
 simp only [zhs, zdC, YH hi, zat, zbE, ex, zad]
 rw [zar YJ, zad, zaF YJ]
 unfold zmA
 rw [zNv, ziO YJ]
theorem zAY {a : Sl zam} {j : Nat} {t : zam} {sz kk k s : Nat} (ht : a.l[j]? = some t) (h : zcH t < sz + 1) (hk : sz < k) (hkk : sz < kk) (hs : s + zdl t.factors.l < big) (hb : sz < big) :
 zht a j sz kk k s 0 = some (.done (((s + zdl t.factors.l : Nat) : Int), (t.factors.l.length : Int))) := by
 have hz := zdq t
 have hl := zbO t.factors.l
 rw [zzN] at hs ⊢
 refine zod (xs := t.factors.l) (L := zht a j sz kk) (fun x => 1 + zeT x) s (fun k s => by simp [zht, zbE, ht]) (fun k i m x hi ex hm => ?_) YJ
 have hx := zcS ex
 have e1 := zcB x
 have e2 := zvy x
 have e3 := zqb x.atom
 simp only [zht, zdC, zbE, ht, zad, YH hi, zat, ex]
 rw [zIc, ziO YJ, zAX YJ YJ YJ YJ, za5]
 simp only
 rw [zAW YJ YJ YJ YJ, za5, <- zIc, zaF YJ]
 congr 2; omega
theorem zAZ {a : Sl zam} {sz kk k : Nat} (h : zak a.l < sz + 1) (hk : sz < k) (hkk : sz < kk) (hb : sz < big) :
 zhu a sz kk k (0 : Nat) 0 = some (.done (((0 + zdZ a.l : Nat) : Int), (a.l.length : Int))) := by
 have hl := zb4 a.l
 have hs := zkc a.l
 rw [zvw] at hs ⊢
 refine zod (xs := a.l) (L := zhu a sz kk) zls 0 (fun k s => by simp [zhu]) (fun k i m x hi ex hm => ?_) YJ
 have hx := zdk ex
 have e2 := zp9 x
 simp only [zhu, zdC, YH hi, zat]
 rw [zIc, ziO YJ, zAY ex YJ YJ YJ YJ YJ, za5]
 simp only
 rw [<- zIc, zaF YJ]
 congr 2; omega
theorem zEs {kk sz : Nat} {a : Sl zam} (h : zak a.l < sz + 1) (hk : sz < kk) (hb : sz < big) : zts kk sz a = some (zmA a) := by
 unfold zts
 have := zAZ h hk hk hb
 rw [show (0 : Int) = ((0 : Nat) : Int) from rfl] at *
 rw [this]
 simp [zmA]
theorem zrI {c1 : Sl zam} {c2 c3 c5 c6 : Int} {c4 : Sl zaj} {its : Sl zae} {sz kk k s : Nat} (h : zbb its.l < sz + 1) (hk : sz < k) (hs : s + zfW its.l < big) (hb : sz < big) :
 zcM c1 c2 c3 c4 c5 c6 its its.l.length sz kk k s 0 = some (.done (((s + zfW its.l : Nat) : Int), (its.l.length : Int))) := by
 have hl := zcA its.l
 rw [zvx] at hs ⊢
 refine zod (xs := its.l) (L := zcM c1 c2 c3 c4 c5 c6 its its.l.length sz kk) zlt s (fun k s => by simp [zcM]) (fun k i m x hi ex hm => ?_) YJ
 have hx := zpn ex
 have he := zqa x
 simp only [zcM, zdC, YH hi, zat, zbE, ex, zad]
 rw [zar YJ, zad, zaF YJ]
 unfold zmA
 rw [zGr, ziO YJ, zNv, ziO YJ, he]
theorem zrJ {c1 : Sl zam} {c2 c3 c5 c6 : Int} {c4 : Sl zaj} {fa : zaj} {as : Sl (Sl zam)} {sz kk k s : Nat} (h : zcw as.l < sz + 1) (hk : sz < k) (hs : s + zia as.l < big) (hb : sz < big) :
 zcN c1 c2 c3 c4 c5 c6 as as.l.length fa sz kk k s 0 = some (.done (((s + zia as.l : Nat) : Int), (as.l.length : Int))) := by
 have hl := zd6 as.l
 rw [zj0] at hs ⊢
 refine zod (xs := as.l) (L := zcN c1 c2 c3 c4 c5 c6 as as.l.length fa sz kk) (fun x : Sl zam => zdZ x.l) s (fun k s => by simp [zcN]) (fun k i m x hi ex hm => ?_) YJ
 have hx := zfQ ex
 simp only [zcN, zdC, YH hi, zat, zbE, ex, zad]
 rw [zar YJ, zad, zaF YJ]
 unfold zmA
 rw [zNv, ziO YJ]
theorem zrK {c1 : Sl zam} {c2 c3 : Int} {fs : Sl zaj} {sz kk k s : Nat} (h : zaD fs.l < sz + 1) (hk : sz < k) (hkk : sz < kk) (hs : s + zgf zeT fs.l < big) (hb : sz < big) :
 zcO c1 c2 c3 fs fs.l.length sz kk k s 0 = some (.done (((s + zgf zeT fs.l : Nat) : Int), (fs.l.length : Int))) := by
 have hl := zbO fs.l
 refine zod (xs := fs.l) (L := zcO c1 c2 c3 fs fs.l.length sz kk) zeT s (fun k s => by simp [zcO]) (fun k i m x hi ex hm => ?_) YJ
 have hx := zcS ex
 have e1 := zcB x
 have e2 := zvy x
 have e3 := zqb x.atom
 have e4 := zcr x.atom
 simp only [zcO, zdC, zbE, zad, YH hi, zat, ex]
 rw [zrJ YJ YJ YJ YJ, za5]
 simp only
 rw [zrI YJ YJ YJ YJ, za5, <- zIc, zaF YJ]
 congr 2; omega
theorem zzO (l : List zaj) : zdl l = l.length + zgf zeT l := by
 induction l with
 | nil => rfl
 | cons x l ih => simp only [zdl, zgf, yC, ih]; omega
theorem zrL {a : Sl zam} {sz kk k : Nat} (h : zak a.l < sz + 1) (hk : sz < k) (hkk : sz < kk) (hb : sz < big) :
 zcP a a.l.length sz kk k (0 : Nat) 0 = some (.done (((0 + zdZ a.l : Nat) : Int), (a.l.length : Int))) := by
 have hl := zb4 a.l
 have hs := zkc a.l
 rw [zvw] at hs ⊢
 refine zod (xs := a.l) (L := zcP a a.l.length sz kk) zls 0 (fun k s => by simp [zcP]) (fun k i m x hi ex hm => ?_) YJ
 have hx := zdk ex
 have e1 := zdq x
 have e2 := zp9 x
 have e3 := zzO x.factors.l
 simp only [zcP, zdC, YH hi, zat, zbE, ex, zad]
 rw [zGr, ziO YJ, zNv, ziO YJ, zrK YJ YJ YJ YJ YJ, za5]
 simp only
 rw [<- zIc, zaF YJ]
 congr 2; omega
theorem ztU {kk sz : Nat} {a : Sl zam} (h : zak a.l < sz + 1) (hk : sz < kk) (hb : sz < big) : zjd kk sz a = some (zmA a) := by
 unfold zjd
 have := zrL h hk hk hb
 rw [show (0 : Int) = ((0 : Nat) : Int) from rfl] at *
 rw [this]
 simp [zmA]
theorem zxm (m n : Nat) : (if ((m : Nat) : Int) < ((n : Nat) : Int) then ((n : Nat) : Int) else ((m : Nat) : Int)) = ((max m n : Nat) : Int) := by
 split <;> omega
theorem zo3 {c0 : Int} {c1 : Sl zam} {c2 c3 c5 c6 : Int} {c4 : Sl zaj} {its : Sl zae} {sz kk k s : Nat} (h : zbb its.l < sz + 1) (hk : sz < k) (hb : sz < big) :
 zcb c0 c1 c2 c3 c4 c5 c6 its its.l.length sz kk k s 0 = some (.done (((max s (zgu its.l) : Nat) : Int), (its.l.length : Int))) := by
 have hl := zcA its.l
 rw [zqo]
 refine zol (xs := its.l) (L := zcb c0 c1 c2 c3 c4 c5 c6 its its.l.length sz kk) ziW s (fun k s => by simp [zcb]) (fun k i m x hi ex hm hm2 => ?_) YJ
 have hx := zpn ex
 have he := znj x
 simp only [zcb, zdC, YH hi, zat, zbE, ex, zad]
 rw [zar YJ, zad, zaF YJ]
 unfold zkh
 rw [zxm, he]
theorem zo4 {c0 : Int} {c1 : Sl zam} {c2 c3 c5 c6 : Int} {c4 : Sl zaj} {fa : zaj} {as : Sl (Sl zam)} {sz kk k s : Nat} (h : zcw as.l < sz + 1) (hk : sz < k) (hb : sz < big) :
 zbV c0 c1 c2 c3 c4 c5 c6 as as.l.length fa sz kk k s 0 = some (.done (((max s (ziX as.l) : Nat) : Int), (as.l.length : Int))) := by
 have hl := zd6 as.l
 rw [zir]
 refine zol (xs := as.l) (L := zbV c0 c1 c2 c3 c4 c5 c6 as as.l.length fa sz kk) (fun x : Sl zam => zce x.l) s (fun k s => by simp [zbV]) (fun k i m x hi ex hm hm2 => ?_) YJ
 have hx := zfQ ex
 simp only [zbV, zdC, YH hi, zat, zbE, ex, zad]
 rw [zar YJ, zad, zaF YJ]
 unfold zkh
 rw [zxm]
theorem zo5 {c1 : Sl zam} {c2 c3 : Int} {fs : Sl zaj} {sz kk k s : Nat} (h : zaD fs.l < sz + 1) (hk : sz < k) (hkk : sz < kk) (hb : sz < big) :
 zbW c1 c2 c3 fs fs.l.length sz kk k s 0 = some (.done (((max s (zd9 fs.l) : Nat) : Int), (fs.l.length : Int))) := by
 have hl := zbO fs.l
 rw [znk]
 refine zol (xs := fs.l) (L := zbW c1 c2 c3 fs fs.l.length sz kk) zgn s (fun k s => by simp [zbW]) (fun k i m x hi ex hm hm2 => ?_) YJ
 have hx := zcS ex
 have e1 := zcB x
 have e2 := zqp x
 have e3 := zle x.atom
 have e4 := zcr x.atom
 have e5 := zsd x.atom.args.l
 have e6 := zqm x.atom.items.l
 simp only [zbW, zdC, zbE, zad, YH hi, zat, ex, zcs]
 by_cases hz : x.atom.kind = 0
 · rw [if_pos hz] at e3 ⊢
   rw [zaF YJ]
   congr 2; omega
 · rw [if_neg hz] at e3 ⊢
   have h2 : zbV m c1 c2 c3 fs fs.l.length i x.atom.args x.atom.args.l.length x sz kk kk 0 0 = _ := @zo4 m c1 c2 c3 fs.l.length i fs x x.atom.args sz kk kk 0 YJ YJ YJ
   rw [h2, za5]
   simp only
   rw [zo3 YJ YJ YJ, za5]
   simp only
   rw [zaF YJ, zGr, ziO YJ, zxm]
   congr 2; omega
theorem zo6 {a : Sl zam} {sz kk k : Nat} (h : zak a.l < sz + 1) (hk : sz < k) (hkk : sz < kk) (hb : sz < big) :
 zcc a a.l.length sz kk k (0 : Nat) 0 = some (.done (((max 0 (zce a.l) : Nat) : Int), (a.l.length : Int))) := by
 have hl := zb4 a.l
 rw [zqn]
 refine zol (xs := a.l) (L := zcc a a.l.length sz kk) zjG 0 (fun k s => by simp [zcc]) (fun k i m x hi ex hm hm2 => ?_) YJ
 have hx := zdk ex
 have e1 := zdq x
 have e2 := zni x
 simp only [zcc, zdC, YH hi, zat, zbE, ex, zad]
 rw [zo5 YJ YJ YJ YJ, za5]
 simp only
 rw [zaF YJ, e2]
theorem zq6 {kk sz : Nat} {a : Sl zam} (h : zak a.l < sz + 1) (hk : sz < kk) (hb : sz < big) : zg7 kk sz a = some (zkh a) := by
 unfold zg7
 have := zo6 h hk hk hb
 rw [show (0 : Int) = ((0 : Nat) : Int) from rfl] at *
 rw [this]
 simp [zkh]
theorem zwx {c1 : Sl zam} {c2 c3 c4 : Int} {a : zas} {sz kk k s : Nat} (h : zby a < sz + 1) (hk : sz < k) (h1 : 1 <= s) (hb : sz < big) :
 zeC c1 c2 c3 c4 a sz kk k s 0 = some (.done (((max s (1 + zgu a.items.l) : Nat) : Int), (a.items.l.length : Int))) := by
 have hz := zcr a
 have hl := zcA a.items.l
 have := zol (R := Int) (k := k) (xs := a.items.l) (L := zeC c1 c2 c3 c4 a sz kk) (fun x => 1 + ziW x) s (fun k s => by simp [zeC]) (fun k i m x hi ex hm hm2 => ?_) YJ
 · rw [this, zqo]
   congr 4
   generalize a.items.l = l
   have : ∀ l : List zae, max 1 (zjk (fun x => 1 + ziW x) l) = 1 + zjk ziW l := by
    intro l; induction l with
    | nil => rfl
    | cons x l ih => simp only [zjk]; omega
   have := this l; omega
 · have hx := zpn ex
   have he := znj x
   have hn := zkg x.ann.l
   simp only [zeC, zdC, YH hi, zat, zbE, ex, zad]
   rw [zar YJ, zad, zaF YJ]
   unfold zkh
   rw [zGr, ziO YJ, zxm, he]
theorem zwy {c1 : Sl zam} {c2 c3 c4 : Int} {a : zas} {sz kk k s : Nat} (h : zby a < sz + 1) (hk : sz < k) (h1 : 1 <= s) (hb : sz < big) :
 zdJ c1 c2 c3 c4 a sz kk k s 0 = some (.done (((max s (1 + ziX a.args.l) : Nat) : Int), (a.args.l.length : Int))) := by
 have hz := zcr a
 have hl := zd6 a.args.l
 have := zol (R := Int) (k := k) (xs := a.args.l) (L := zdJ c1 c2 c3 c4 a sz kk) (fun x : Sl zam => 1 + zce x.l) s (fun k s => by simp [zdJ]) (fun k i m x hi ex hm hm2 => ?_) YJ
 · rw [this, zir]
   congr 4
   generalize a.args.l = l
   have : ∀ l : List (Sl zam), max 1 (zjk (fun x : Sl zam => 1 + zce x.l) l) = 1 + zjk (fun x : Sl zam => zce x.l) l := by
    intro l; induction l with
    | nil => rfl
    | cons x l ih => simp only [zjk]; omega
   have := this l; omega
 · have hx := zfQ ex
   have hn := zkg x.l
   simp only [zdJ, zdC, YH hi, zat, zbE, ex, zad]
   rw [zar YJ, zad, zaF YJ]
   unfold zkh
   rw [zGr, ziO YJ, zxm]
theorem zwz {a : Sl zam} {j : Nat} {t : zam} {sz kk k s : Nat} (ht : a.l[j]? = some t) (h : zcH t < sz + 1) (hk : sz < k) (hkk : sz < kk) (hb : sz < big) :
 zdK a j sz kk k s 0 = some (.done (((max s (zd9 t.factors.l) : Nat) : Int), (t.factors.l.length : Int))) := by
 have hz := zdq t
 have hl := zbO t.factors.l
 rw [znk]
 refine zol (xs := t.factors.l) (L := zdK a j sz kk) zgn s (fun k s => by simp [zdK, zbE, ht]) (fun k i m x hi ex hm hm2 => ?_) YJ
 have hx := zcS ex
 have e1 := zcB x
 have e2 := zqp x
 have e3 := zle x.atom
 simp only [zdK, zdC, zbE, ht, zad, YH hi, zat, ex, zcs]
 by_cases hz0 : x.atom.kind = 0
 · rw [if_pos hz0] at e3 ⊢
   rw [zaF YJ]
   congr 2; omega
 · rw [if_neg hz0] at e3 ⊢
   have h2 : zdJ a m j i x.atom sz kk kk 1 0 = _ := @zwy a m j i x.atom sz kk kk 1 YJ YJ YJ YJ
   rw [h2, za5]
   simp only
   rw [zwx YJ YJ YJ YJ, za5]
   simp only
   rw [zaF YJ, zxm]
   congr 2; omega
theorem zwA {a : Sl zam} {sz kk k : Nat} (h : zak a.l < sz + 1) (hk : sz < k) (hkk : sz < kk) (hb : sz < big) :
 zeD a sz kk k (0 : Nat) 0 = some (.done (((max 0 (zce a.l) : Nat) : Int), (a.l.length : Int))) := by
 have hl := zb4 a.l
 rw [zqn]
 refine zol (xs := a.l) (L := zeD a sz kk) zjG 0 (fun k s => by simp [zeD]) (fun k i m x hi ex hm hm2 => ?_) YJ
 have hx := zdk ex
 have e2 := zni x
 simp only [zeD, zdC, YH hi, zat]
 rw [zwz ex YJ YJ YJ YJ, za5]
 simp only
 rw [zaF YJ, e2]
theorem zy3 {kk sz : Nat} {a : Sl zam} (h : zak a.l < sz + 1) (hk : sz < kk) (hb : sz < big) : zmQ kk sz a = some (zkh a) := by
 unfold zmQ
 have := zwA h hk hk hb
 rw [show (0 : Int) = ((0 : Nat) : Int) from rfl] at *
 rw [this]
 simp [zkh]
def zpq (a b : Sl zam) : Bool := zcR a b == 0
def zea (f : zaj) : Bool := decide (f.exp <= 64) && decide ((f.atom.items.l.length : Int) <= 1024)
def zfX (t : zam) : Bool := decide ((t.factors.l.length : Int) <= 64) && t.factors.l.all zea
def zpz (a : Sl zam) : Bool := decide ((a.l.length : Int) <= 512) && decide (zkh a <= 8) && decide (zmA a <= 4096) && a.l.all zfX
def ztA (fn : Int) (d : Val) (w : zae) : Bool := !(((!(zaE w.value)) || (w.value.kind != d.kind)) || ((fn == 0) && (w.value.int != 1)))
def zk1 (fn : Int) (its : Sl zae) (op : Int) (d : Val) : Bool :=
 !((((((decide (fn < 0)) || (decide (3 < fn))) || (decide (op < 5))) || (decide (10 < op))) || (!((zaE d)))) || ((decide (fn <= 1)) && (d.kind != 0))) && its.l.all (ztA fn d)
noncomputable def ztt (kk : Nat) (a : (Sl zam)) (b : (Sl zam)) : Option (Bool) :=
 bnd (okP (zak a.l + zak b.l < big - 1)) fun _ =>
 some ((zcR a b) == 0)
noncomputable def zih (kk : Nat) (a : (Sl zam)) (b : (Sl zam)) : Option (Bool) :=
 bnd (okP (8 * (zak a.l + zak b.l) + 7 < big - 1)) fun _ =>
 some ((zcR a b) == 0)
noncomputable def zhv (c6 : Sl zam) (c7 : Int) (kk : Nat) : Nat -> Int -> Option (Out (Bool) (Int))
 | 0, _ => none
 | k + 1, s8 =>
   bnd (ix c6.l c7) fun (y9 : zam) =>
   sel (
    bnd (ix y9.factors.l s8) fun (y10 : zaj) =>
    sel (
     sel (
      some (.ret false)) (
      zhv c6 c7 kk k (IntKind.wrap .i64 (s8 + 1))) (decide (1024 < (y10.atom.items.l.length : Int)))) (
     some (.ret false)) (!(decide (64 < y10.exp)))) (
    some (.done s8)) (decide (s8 < (y9.factors.l.length : Int)))
noncomputable def zhw (c3 : Sl zam) (kk : Nat) : Nat -> Int -> Option (Out (Bool) (Int))
 | 0, _ => none
 | k + 1, s4 =>
   sel (
    bnd (ix c3.l s4) fun (y5 : zam) =>
    sel (
     some (.ret false)) (
     zgD (zhv c3 s4 kk kk 0) (fun r => some (.ret r)) fun (q11 : Int) =>
      zhw c3 kk k (IntKind.wrap .i64 (s4 + 1))) (decide (64 < (y5.factors.l.length : Int)))) (
    some (.done s4)) (decide (s4 < (c3.l.length : Int)))
noncomputable def ztu (kk : Nat) (a : (Sl zam)) : Option (Bool) :=
 sel (
  bnd (okP (zak a.l < big - 1)) fun _ =>
  sel (
   bnd (okP (zak a.l < big - 1)) fun _ =>
   sel (
    some false) (
    zgD (zhw a kk kk 0) (fun r => some r) fun (q12 : Int) =>
     some true) (decide (4096 < (zmA a)))) (
   some false) (!(decide (8 < (zkh a))))) (
  some false) (!(decide (512 < (a.l.length : Int))))
noncomputable def zhG (c1 : Int) (c2 : Sl zae) (c4 : Val) (kk : Nat) : Nat -> Int -> Option (Out (Bool) (Int))
 | 0, _ => none
 | k + 1, s3 =>
   sel (
    bnd (ix c2.l s3) fun (y5 : zae) =>
    sel (
     some (.ret false)) (
     zhG c1 c2 c4 kk k (IntKind.wrap .i64 (s3 + 1))) (((!((zaE y5.value))) || (y5.value.kind != c4.kind)) || ((c1 == 0) && (y5.value.int != 1)))) (
    some (.done s3)) (decide (s3 < (c2.l.length : Int)))
noncomputable def zq1 (kk : Nat) (a : Int) (b : (Sl zae)) (c : Int) (d : Val) : Option (Bool) :=
 sel (
  some false) (
  zgD (zhG a b d kk kk 0) (fun r => some r) fun (q6 : Int) =>
   some true) ((((((decide (a < 0)) || (decide (3 < a))) || (decide (c < 5))) || (decide (10 < c))) || (!((zaE d)))) || ((decide (a <= 1)) && (d.kind != 0)))
theorem zEt {kk : Nat} (a b : Sl zam) (h : zak a.l + zak b.l < big - 1) (_hk : 0 < big) : ztt kk a b = some (zpq a b) := by
 unfold ztt; rw [zar h]; rfl
theorem zsV {kk : Nat} (a b : Sl zam) (h : 8 * (zak a.l + zak b.l) + 7 < big - 1) (_hk : 0 < big) : zih kk a b = some (zpq a b) := by
 unfold zih; rw [zar h]; rfl
theorem zll {α : Type} (p : α -> Bool) (l : List α) : (l.any fun x => !p x) = !l.all p := by
 induction l with
 | nil => rfl
 | cons x l ih => simp only [List.any_cons, List.all_cons, ih, Bool.not_and]
theorem zB2 {kk : Nat} (a : Int) (b : Sl zae) (c : Int) (d : Val) (h : b.l.length < big - 1) (hk : b.l.length < kk) : zq1 kk a b c d = some (zk1 a b c d) := by
 unfold zq1 zk1
 rw [zkt (xs := b.l) (L := zhG a b d kk) (fun x => !ztA a d x) false (fun k => by simp [zhG]) (fun k i x hi ex => ?_) hk, zll]
 · generalize ((((((decide (a < 0)) || (decide (3 < a))) || (decide (c < 5))) || (decide (10 < c))) || (!((zaE d)))) || ((decide (a <= 1)) && (d.kind != 0))) = u
   cases u <;> cases b.l.all (ztA a d) <;> rfl
 · simp only [zhG, zdC, YH hi, zat, zbE, ex, zad]
   rw [zaF YJ, zdB]
   simp only [ztA, Bool.not_not]
theorem zA0 {a : Sl zam} {j : Nat} {t : zam} {kk k : Nat} (ht : a.l[j]? = some t) (h : t.factors.l.length < big - 1) (hk : t.factors.l.length < k) :
 zhv a j kk k 0 = if t.factors.l.all zea then some (.done (t.factors.l.length : Int)) else some (.ret false) := by
 rw [zkt (xs := t.factors.l) (L := zhv a j kk) (fun x => !zea x) false (fun k => by simp [zhv, zbE, ht]) (fun k i x hi ex => ?_) hk, zll]
 · cases t.factors.l.all zea <;> rfl
 · simp only [zhv, zdC, zbE, ht, zad, YH hi, zat, ex]
   rw [zaF YJ]
   unfold zea
   simp only [zdB, Bool.not_eq_true', decide_eq_false_iff_not, YG, Bool.and_eq_false_iff]
   by_cases h1 : x.exp <= 64
   · by_cases h2 : (x.atom.items.l.length : Int) <= 1024
     · rw [if_pos YJ, if_neg YJ, if_neg YJ]
     · rw [if_pos YJ, if_pos YJ, if_pos YJ]
   · rw [if_neg YJ, if_pos YJ]
theorem zA1 {a : Sl zam} {kk k : Nat} (h : zak a.l < big - 1) (hk : a.l.length < k) (hkk : zak a.l < kk) :
 zhw a kk k 0 = if a.l.all zfX then some (.done (a.l.length : Int)) else some (.ret false) := by
 have hl := zb4 a.l
 rw [zkt (xs := a.l) (L := zhw a kk) (fun x => !zfX x) false (fun k => by simp [zhw]) (fun k i x hi ex => ?_) hk, zll]
 · cases a.l.all zfX <;> rfl
 · have h1 := zdk ex
   have h2 := zdq x
   have h3 := zbO x.factors.l
   simp only [zhw, zdC, YH hi, zat, zbE, ex, zad]
   rw [zaF YJ, zA0 ex YJ YJ]
   unfold zfX
   by_cases h4 : (x.factors.l.length : Int) <= 64
   · rw [YH h4, YI (show ¬ (64 : Int) < x.factors.l.length by omega)]
     cases x.factors.l.all zea <;> rfl
   · rw [YI h4, YH (show (64 : Int) < x.factors.l.length by omega)]
     rfl
theorem zEu {kk : Nat} (a : Sl zam) (h : zak a.l < big - 1) (hk : zak a.l < kk) : ztu kk a = some (zpz a) := by
 have hl := zb4 a.l
 unfold ztu zpz
 rw [zar h, zA1 h YJ hk]
 simp only [zad, zc2, zjO]
 by_cases h1 : (a.l.length : Int) <= 512
 · rw [if_neg YJ, YH h1]
   by_cases h2 : zkh a <= 8
   · rw [if_neg YJ, YH h2]
     by_cases h3 : zmA a <= 4096
     · rw [if_neg YJ, YH h3]
       cases a.l.all zfX <;> rfl
     · rw [if_pos YJ, YI h3]; rfl
   · rw [if_pos YJ, YI h2]; rfl
 · rw [if_pos YJ, YI h1]; rfl
def adj {α : Type} (f : α -> α -> Bool) : List α -> Bool
 | x :: y :: l => f x y && adj f (y :: l)
 | _ => true
def zqk (fn : Int) (il : Nat) (op : Int) (b : Val) : Bool := (((fn == 0) && ((il : Int) == 0)) && (op == 0)) && ((b.kind == 0) && ((b.int == 0) && (b.text == [])))
def zsb (a : Sl zam) : Bool := if (a.l.length : Int) = 1 then !(zeu a) && !(zmd a) else !(zmd a)
mutual
def zvi : zam -> Bool
 | .mk c ⟨_, fs⟩ => !(decide (c < 1)) && !(decide (1152921504606846976 < c)) && zmu fs && adj (fun x y => decide (zb3 x.atom y.atom < 0)) fs
def zmu : List zaj -> Bool
 | [] => true
 | x :: xs => zgE x && zmu xs
def zgE : zaj -> Bool
 | .mk a e => !((decide (e < 1)) || ((decide (1 < e)) && (decide (3 <= a.kind)))) && zgU a
def zgU : zas -> Bool
 | .mk k r ⟨f1, as⟩ fn ⟨f2, is⟩ op b =>
   if k = 0 then zdY r && ((as.length : Int) == 0) && zqk fn is.length op b
   else (r.table == 0) && (r.seq == 0) && zyJ as &&
    (if k = 1 then ((as.length : Int) == 2) && zqk fn is.length op b && (match as with | [x, y] => !(zpq x y) | _ => false)
    else if k = 2 then ((as.length : Int) == 1) && zqk fn is.length op b && (match as with | [x] => zsb x | _ => false)
    else if k = 3 then ((as.length : Int) == 1) && zqk fn is.length op b && (match as with | [x] => !(zeu x) | _ => false)
    else if k = 4 then ((as.length : Int) == 0) && !((is.length : Int) == 0) && !(decide (1024 < (is.length : Int))) && zk1 fn ⟨f2, is⟩ op b && zub is && adj (fun x y => decide (zcI ⟨.any, [x]⟩ ⟨.any, [y]⟩ <= 0)) is
    else false)
def zyJ : List (Sl zam) -> Bool
 | [] => true
 | ⟨f, x⟩ :: xs => !((x.length : Int) == 0) && (zpz ⟨f, x⟩ && zdp x && adj (fun x y => decide (zbF x.factors y.factors < 0)) x) && zyJ xs
def zdp : List zam -> Bool
 | [] => true
 | x :: xs => zvi x && zdp xs
def zub : List zae -> Bool
 | [] => true
 | x :: xs => zC3 x && zub xs
def zC3 : zae -> Bool
 | .mk _ ⟨f, x⟩ => !((x.length : Int) == 0) && (zpz ⟨f, x⟩ && zdp x && adj (fun x y => decide (zbF x.factors y.factors < 0)) x)
end
def zb2 (a : Sl zam) : Bool := zpz a && zdp a.l && adj (fun x y => decide (zbF x.factors y.factors < 0)) a.l
theorem zp0 (x : zam) : zvi x = (!(decide (x.coeff < 1)) && !(decide (1152921504606846976 < x.coeff)) && zmu x.factors.l && adj (fun x y => decide (zb3 x.atom y.atom < 0)) x.factors.l) := by
 rcases x with ⟨c, ⟨f, l⟩⟩; simp only [zvi, zam.coeff, zam.factors]; first | done | rfl
theorem ziP (x : zaj) : zgE x = (!((decide (x.exp < 1)) || ((decide (1 < x.exp)) && (decide (3 <= x.atom.kind)))) && zgU x.atom) := by cases x; simp only [zgE, zaj.atom, zaj.exp]; first | done | rfl
theorem zs4 (x : zae) : zC3 x = (!((x.ann.l.length : Int) == 0) && zb2 x.ann) := by rcases x with ⟨v, ⟨f, l⟩⟩; simp only [zC3, zae.ann, zb2]; first | done | rfl
theorem zoa (l : List zaj) : zmu l = l.all zgE := by
 induction l with
 | nil => rfl
 | cons x l ih => simp only [zmu, List.all_cons, ih]
theorem zpk (l : List zam) : zdp l = l.all zvi := by
 induction l with
 | nil => rfl
 | cons x l ih => simp only [zdp, List.all_cons, ih]
theorem zw3 (l : List zae) : zub l = l.all zC3 := by
 induction l with
 | nil => rfl
 | cons x l ih => simp only [zub, List.all_cons, ih]
theorem zpl (l : List (Sl zam)) : zyJ l = l.all fun x => !((x.l.length : Int) == 0) && zb2 x := by
 induction l with
 | nil => rfl
 | cons x l ih => cases x; simp only [zyJ, List.all_cons, ih, zb2]
def zuc {α : Type} (p : α -> Bool) (f : α -> α -> Bool) (l : List α) (i : Nat) : Bool :=
 match l[i]? with
 | some y => p y && (match i with
   | 0 => true
   | j + 1 => match l[j]? with
     | some x => f x y
     | none => true)
 | none => true
def zsn {α : Type} (p : α -> Bool) (f : α -> α -> Bool) (l : List α) : Nat -> Nat -> Bool
 | 0, _ => true
 | k + 1, i => zuc p f l i && zsn p f l k (i + 1)
theorem zLJ {α : Type} {L : Nat -> Int -> Option (Out Bool Int)} {xs : List α} (p : α -> Bool) (f : α -> α -> Bool) (v : Bool)
 (hend : ∀ k, L (k + 1) xs.length = some (.done (xs.length : Int)))
 (hstep : ∀ k (i : Nat), i < xs.length -> L (k + 1) (i : Int) = if zuc p f xs i then L k ((i + 1 : Nat) : Int) else some (.ret v)) :
 ∀ k i, i <= xs.length -> xs.length - i < k -> L k (i : Int) = if zsn p f xs (xs.length - i) i then some (.done (xs.length : Int)) else some (.ret v) := by
 intro k
 induction k with
 | zero => intro i _ h; omega
 | succ k ih =>
   intro i h1 h2
   by_cases e : i = xs.length
   · subst e; rw [hend, Nat.sub_self]; simp [zsn]
   · rw [hstep k i YJ, show xs.length - i = (xs.length - (i + 1)) + 1 by omega, zsn]
     cases hs : zuc p f xs i
     · simp
     · rw [if_pos rfl, ih (i + 1) YJ YJ]; simp
theorem zHQ {α : Type} (p : α -> Bool) (f : α -> α -> Bool) (x y : α) (l : List α) (k i : Nat) :
 zsn p f (x :: y :: l) k (i + 2) = zsn p f (y :: l) k (i + 1) := by
 induction k generalizing i with
 | zero => rfl
 | succ k ih =>
   simp only [zsn]
   rw [ih (i + 1)]
   congr 1
theorem zKs {α : Type} (p : α -> Bool) (f : α -> α -> Bool) (l : List α) : zsn p f l l.length 0 = (l.all p && adj f l) := by
 have key : ∀ (l : List α) (x : α), zsn p f (x :: l) l.length 1 = (l.all p && adj f (x :: l)) := by
  intro l
  induction l with
  | nil => intro x; rfl
  | cons y l ih =>
    intro x
    have := zHQ p f x y l l.length 0
    simp only [yC, zsn]
    rw [this, ih y]
    simp only [zuc, yX, yH, List.all_cons, adj]
    cases p y <;> cases f x y <;> cases l.all p <;> rfl
 cases l with
 | nil => rfl
 | cons x l =>
   simp only [yC, zsn]
   rw [key l x]
   simp [zuc, Bool.and_assoc]
theorem zpp {α : Type} {L : Nat -> Int -> Option (Out Bool Int)} {xs : List α} {k : Nat} (p : α -> Bool) (f : α -> α -> Bool) (v : Bool)
 (hend : ∀ k, L (k + 1) xs.length = some (.done (xs.length : Int)))
 (hstep : ∀ k (i : Nat), i < xs.length -> L (k + 1) (i : Int) = if zuc p f xs i then L k ((i + 1 : Nat) : Int) else some (.ret v))
 (hk : xs.length < k) : L k 0 = if xs.all p && adj f xs then some (.done (xs.length : Int)) else some (.ret v) := by
 have := zLJ p f v hend hstep k 0 YJ YJ
 rw [Nat.sub_zero, zKs] at this
 exact this
end Go.Ev
namespace Go.Ev
open Go.IntKind (wrap)
noncomputable def zdI (c16 : Sl zam) (c17 : Int) (c19 : zam) (sz kk : Nat) : Nat -> Int -> Option (Out (Bool) (Int))
 | 0, _ => none
 | k + 1, s18 =>
   sel (
    bnd (ix c19.factors.l s18) fun (y20 : zaj) =>
    sel (
     bnd (okP (zby y20.atom < sz)) fun _ =>
     sel (
      bnd (ix c19.factors.l (wrap .i64 (s18 - 1))) fun (y22 : zaj) =>
      bnd (okP (zby y22.atom + zby y20.atom < big - 1)) fun _ =>
      sel (
       some (.ret false)) (
       zdI c16 c17 c19 sz kk k (wrap .i64 (s18 + 1))) ((!((zgU y20.atom))) || (decide (0 <= (zb3 y22.atom y20.atom))))) (
      sel (
       zdI c16 c17 c19 sz kk k (wrap .i64 (s18 + 1))) (
       some (.ret false)) (!(!((zgU y20.atom))))) (decide (0 < s18))) (
     some (.ret false)) (!((decide (y20.exp < 1)) || ((decide (1 < y20.exp)) && (decide (3 <= y20.atom.kind)))))) (
    some (.done s18)) (decide (s18 < (c19.factors.l.length : Int)))
noncomputable def zhH (c7 : Sl zam) (c8 : Int) (c10 : zam) (sz kk : Nat) : Nat -> Int -> Option (Out (Bool) (Int))
 | 0, _ => none
 | k + 1, s9 =>
   sel (
    bnd (ix c10.factors.l s9) fun (y11 : zaj) =>
    sel (
     bnd (okP (zby y11.atom < sz)) fun _ =>
     sel (
      bnd (ix c10.factors.l (wrap .i64 (s9 - 1))) fun (y13 : zaj) =>
      bnd (okP (zby y13.atom + zby y11.atom < big - 1)) fun _ =>
      sel (
       some (.ret false)) (
       zhH c7 c8 c10 sz kk k (wrap .i64 (s9 + 1))) ((!((zgU y11.atom))) || (decide (0 <= (zb3 y13.atom y11.atom))))) (
      sel (
       zhH c7 c8 c10 sz kk k (wrap .i64 (s9 + 1))) (
       some (.ret false)) (!(!((zgU y11.atom))))) (decide (0 < s9))) (
     some (.ret false)) (!((decide (y11.exp < 1)) || ((decide (1 < y11.exp)) && (decide (3 <= y11.atom.kind)))))) (
    some (.done s9)) (decide (s9 < (c10.factors.l.length : Int)))
noncomputable def zfB (c2 : Sl zam) (sz kk : Nat) : Nat -> Int -> Option (Out (Bool) (Int))
 | 0, _ => none
 | k + 1, s3 =>
   sel (
    bnd (ix c2.l s3) fun (y4 : zam) =>
    sel (
     bnd (ix c2.l (wrap .i64 (s3 - 1))) fun (y5 : zam) =>
     bnd (okP (zaD y5.factors.l + zaD y4.factors.l < big - 1)) fun _ =>
     sel (
      some (.ret false)) (
      zgD (zhH c2 s3 y4 sz kk kk 0) (fun r => some (.ret r)) fun (q15 : Int) =>
       zfB c2 sz kk k (wrap .i64 (s3 + 1))) (((decide (y4.coeff < 1)) || (decide (1152921504606846976 < y4.coeff))) || (decide (0 <= (zbF y5.factors y4.factors))))) (
     sel (
      zgD (zdI c2 s3 y4 sz kk kk 0) (fun r => some (.ret r)) fun (q24 : Int) =>
       zfB c2 sz kk k (wrap .i64 (s3 + 1))) (
      some (.ret false)) (!((decide (y4.coeff < 1)) || (decide (1152921504606846976 < y4.coeff))))) (decide (0 < s3))) (
    some (.done s3)) (decide (s3 < (c2.l.length : Int)))
noncomputable def zq2 (kk sz : Nat) (a : (Sl zam)) : Option (Bool) :=
 bnd (okP (zak a.l < big - 1)) fun _ =>
 sel (
  some false) (
  zgD (zfB a sz kk kk 0) (fun r => some r) fun (q25 : Int) =>
   some true) (!((zpz a)))
noncomputable def zcY (c15 : zas) (sz kk : Nat) : Nat -> Int -> Option (Out (Bool) (Int))
 | 0, _ => none
 | k + 1, s14 =>
   sel (
    bnd (ix c15.items.l s14) fun (y16 : zae) =>
    sel (
     bnd (okP (zak y16.ann.l < sz)) fun _ =>
     sel (
      bnd (zBq c15.items (some (wrap .i64 (s14 - 1))) (some s14)) fun (y18 : Sl zae) =>
      bnd (zBq c15.items (some s14) (some (wrap .i64 (s14 + 1)))) fun (y19 : Sl zae) =>
      bnd (okP (zbb y18.l + zbb y19.l < big - 1)) fun _ =>
      sel (
       some (.ret false)) (
       zcY c15 sz kk k (wrap .i64 (s14 + 1))) ((!((zb2 y16.ann))) || (decide (0 < (zcI y18 y19))))) (
      sel (
       zcY c15 sz kk k (wrap .i64 (s14 + 1))) (
       some (.ret false)) (!(!((zb2 y16.ann))))) (decide (0 < s14))) (
     some (.ret false)) (!((y16.ann.l.length : Int) == 0))) (
    some (.done s14)) (decide (s14 < (c15.items.l.length : Int)))
noncomputable def zdw (c2 : zas) (sz kk : Nat) : Nat -> Int -> Option (Out (Bool) (Int))
 | 0, _ => none
 | k + 1, s1 =>
   sel (
    bnd (ix c2.args.l s1) fun (y3 : (Sl zam)) =>
    sel (
     bnd (okP (zak y3.l < sz)) fun _ =>
     sel (
      some (.ret false)) (
      zdw c2 sz kk k (wrap .i64 (s1 + 1))) (!((zb2 y3)))) (
     some (.ret false)) (!((y3.l.length : Int) == 0))) (
    some (.done s1)) (decide (s1 < (c2.args.l.length : Int)))
noncomputable def zkR (kk sz : Nat) (a : zas) : Option (Bool) :=
 sel (
  some ((((decide (1 <= a.row.table)) && (decide (1 <= a.row.seq))) && ((a.args.l.length : Int) == 0)) && ((zk0 a)))) (
  sel (
   some false) (
   zgD (zdw a sz kk kk 0) (fun r => some r) fun (q5 : Int) =>
    sel (
     sel (
      bnd (a.args.l[0]?) fun (y6 : (Sl zam)) =>
      bnd (a.args.l[1]?) fun (y7 : (Sl zam)) =>
      bnd (okP (zak y6.l + zak y7.l < big - 1)) fun _ =>
      some (!((zpq y6 y7)))) (
      some false) (((a.args.l.length : Int) == 2) && ((zk0 a)))) (
     sel (
      sel (
       bnd (a.args.l[0]?) fun (y9 : (Sl zam)) =>
       sel (
        bnd (okP (y9.l.length < big - 1)) fun _ =>
        sel (
         some (!((zmd y9)))) (
         some false) (!((zeu y9)))) (
        some (!((zmd y9)))) ((y9.l.length : Int) == 1)) (
       some false) (((a.args.l.length : Int) == 1) && ((zk0 a)))) (
      sel (
       sel (
        bnd (a.args.l[0]?) fun (y11 : (Sl zam)) =>
        bnd (okP (y11.l.length < big - 1)) fun _ =>
        some (!((zeu y11)))) (
        some false) (((a.args.l.length : Int) == 1) && ((zk0 a)))) (
       sel (
        sel (
         bnd (okP (a.items.l.length < big - 1)) fun _ =>
         sel (
          some false) (
          zgD (zcY a sz kk kk 0) (fun r => some r) fun (q21 : Int) =>
           some true) (!((zk1 a.func a.items a.op a.bound)))) (
         some false) (!((((a.args.l.length : Int) != 0) || ((a.items.l.length : Int) == 0)) || (decide (1024 < (a.items.l.length : Int)))))) (
        some false) (a.kind == 4)) (a.kind == 3)) (a.kind == 2)) (a.kind == 1)) (!((a.row.table == 0) && (a.row.seq == 0)))) (a.kind == 0)
end Go.Ev
namespace Go.Ev
theorem zm0 {α : Type} (f : α -> Nat) {l : List α} {i : Nat} {x y : α} (h : l[i]? = some x) (h' : l[i + 1]? = some y) : f x + f y <= zgf f l := by
 have h1 := zw5 f h
 have h2 := zw5 f h'
 have h3 := zvp f l (i + 1 + 1)
 omega
theorem zpj {i : Nat} (h : i < big) : IntKind.wrap .i64 (((i + 1 : Nat) : Int) - 1) = ((i : Nat) : Int) := by
 have : big = 1152921504606846976 := rfl
 rw [zcG YJ YJ]; omega
theorem zzM {α : Type} {p : α -> Bool} {f : α -> α -> Bool} {l : List α} {i : Nat} {x y : α} (h : l[i]? = some x) (h' : l[i + 1]? = some y) : zuc p f l (i + 1) = (p y && f x y) := by
 simp only [zuc, h, h']
theorem zE1 {α : Type} {p : α -> Bool} {f : α -> α -> Bool} {l : List α} {y : α} (h' : l[0]? = some y) : zuc p f l 0 = p y := by
 simp only [zuc, h', Bool.and_true]
def zom (x y : zaj) : Bool := decide (zb3 x.atom y.atom < 0)
def zjq (x y : zam) : Bool := decide (zbF x.factors y.factors < 0)
theorem zyX {c7 : Sl zam} {c8 : Int} {t : zam} {sz kk k : Nat} (h : zaD t.factors.l < sz) (hb : sz < big) (hk : t.factors.l.length < k) :
 zdI c7 c8 t sz kk k 0 = if t.factors.l.all zgE && adj zom t.factors.l then some (.done (t.factors.l.length : Int)) else some (.ret false) := by
 have hl := zbO t.factors.l
 refine zpp (xs := t.factors.l) (L := zdI c7 c8 t sz kk) zgE zom false (fun k => by simp [zdI]) (fun k i hi => ?_) hk
 have ey := yB hi
 have hy := zcS ey
 have hy1 := zcB t.factors.l[i]
 revert ey hy hy1
 generalize t.factors.l[i] = y
 intro ey hy hy1
 simp only [zdI, zdC, YH hi, zat, zbE, ey, zad]
 rw [zar (show zby y.atom < sz by omega), zaF YJ]
 simp only [zad]
 cases i with
 | zero =>
   rw [zE1 ey, ziP]
   generalize ((decide (y.exp < 1)) || ((decide (1 < y.exp)) && (decide (3 <= y.atom.kind)))) = u
   cases u <;> cases zgU y.atom <;> simp
 | succ j =>
   have hj : j < t.factors.l.length := by omega
   have ex := yB hj
   have h2 := zm0 (fun x => zc8 x + 1) ex ey
   rw [<- zp4] at h2
   have hx1 := zcB t.factors.l[j]
   revert ex h2 hx1
   generalize t.factors.l[j] = x
   intro ex h2 hx1
   have hb1 : big = 1152921504606846976 := rfl
   rw [zzM ex ey, zpj YJ, ziP]
   simp only [zbE, ex, zad]
   rw [zar (show zby x.atom + zby y.atom < big - 1 by omega)]
   unfold zom
   generalize ((decide (y.exp < 1)) || ((decide (1 < y.exp)) && (decide (3 <= y.atom.kind)))) = u
   have e : decide (0 < ((j + 1 : Nat) : Int)) = true := by simp
   rw [e]
   by_cases hc : zb3 x.atom y.atom < 0
   · rw [YH hc, YI (show ¬ 0 <= zb3 x.atom y.atom by omega)]
     cases u <;> cases zgU y.atom <;> simp
   · rw [YI hc, YH (show 0 <= zb3 x.atom y.atom by omega)]
     cases u <;> cases zgU y.atom <;> simp
theorem zBY (c7 : Sl zam) (c8 : Int) (t : zam) (sz kk : Nat) : zhH c7 c8 t sz kk = zdI c7 c8 t sz kk := by
 funext k s
 induction k generalizing s with
 | zero => rfl
 | succ k ih => simp only [zhH, zdI, ih]
theorem zyY {a : Sl zam} {sz kk k : Nat} (h : zak a.l < sz + 1) (hb : sz < big) (hk : a.l.length < k) (hkk : sz < kk) :
 zfB a sz kk k 0 = if a.l.all zvi && adj zjq a.l then some (.done (a.l.length : Int)) else some (.ret false) := by
 have hl := zb4 a.l
 refine zpp (xs := a.l) (L := zfB a sz kk) zvi zjq false (fun k => by simp [zfB]) (fun k i hi => ?_) hk
 have ey := yB hi
 have hy := zdk ey
 have hy1 := zdq a.l[i]
 have hy2 := zbO a.l[i].factors.l
 have hv := zp0 a.l[i]
 revert ey hy hy1 hy2 hv
 generalize a.l[i] = y
 intro ey hy hy1 hy2 hv
 rw [show (fun x y : zaj => decide (zb3 x.atom y.atom < 0)) = zom from rfl, zoa] at hv
 simp only [zfB, zdC, YH hi, zat, zbE, ey, zad, zBY]
 rw [zaF YJ, zyX YJ hb YJ]
 cases i with
 | zero =>
   rw [zE1 ey, hv]
   generalize (decide (y.coeff < 1)) = u
   generalize (decide (1152921504606846976 < y.coeff)) = u'
   cases u <;> cases u' <;> cases y.factors.l.all zgE <;> cases adj zom y.factors.l <;> simp
 | succ j =>
   have hj : j < a.l.length := by omega
   have ex := yB hj
   have h2 := zm0 (fun x => zcH x + 1) ex ey
   rw [<- zuz] at h2
   have hx1 := zdq a.l[j]
   revert ex h2 hx1
   generalize a.l[j] = x
   intro ex h2 hx1
   have hb1 : big = 1152921504606846976 := rfl
   rw [zzM ex ey, zpj YJ, hv]
   simp only [zbE, ex, zad]
   rw [zar (show zaD x.factors.l + zaD y.factors.l < big - 1 by omega)]
   unfold zjq
   generalize (decide (y.coeff < 1)) = u
   generalize (decide (1152921504606846976 < y.coeff)) = u'
   have e : decide (0 < ((j + 1 : Nat) : Int)) = true := by simp
   rw [e]
   by_cases hc : zbF x.factors y.factors < 0
   · rw [YH hc, YI (show ¬ 0 <= zbF x.factors y.factors by omega)]
     cases u <;> cases u' <;> cases y.factors.l.all zgE <;> cases adj zom y.factors.l <;> simp
   · rw [YI hc, YH (show 0 <= zbF x.factors y.factors by omega)]
     cases u <;> cases u' <;> cases y.factors.l.all zgE <;> cases adj zom y.factors.l <;> simp
theorem zB3 {kk sz : Nat} {a : Sl zam} (h : zak a.l < sz + 1) (hk : sz < kk) (hb : sz + 1 < big) : zq2 kk sz a = some (zb2 a) := by
 have hl := zb4 a.l
 unfold zq2 zb2
 rw [zar YJ, zyY h YJ YJ hk, zpk]
 rw [show (fun x y : zam => decide (zbF x.factors y.factors < 0)) = zjq from rfl]
 cases zpz a <;> cases a.l.all zvi <;> cases adj zjq a.l <;> rfl
theorem zNk {α : Type} {l : List α} {i : Nat} {x : α} (h : l[i]? = some x) : cut l i 1 = [x] := by
 have hi := (yW.1 h).1
 have e : l[i] = x := (yW.1 h).2
 unfold cut
 split
 · next hc =>
   obtain ⟨h1, h2⟩ := hc
   subst h1
   rcases l with _ | ⟨a, _ | ⟨b, l⟩⟩
   · simp at hi
   · simp at e; rw [e]
   · simp at h2
 · rw [yb hi, e]; rfl
theorem zIH {α : Type} (s : Sl α) {i : Nat} {x : α} (h : s.l[i]? = some x) : ∃ f, zBq s (some (i : Int)) (some ((i + 1 : Nat) : Int)) = some ⟨f, [x]⟩ := by
 have hi := (yW.1 h).1
 refine ⟨znn s.fl (i + 1 == s.l.length), ?_⟩
 unfold zBq
 simp only [yc, Int.toNat_natCast]
 rw [if_pos ⟨by omega, by omega, by omega, by omega⟩, show i + 1 - i = 1 by omega, zNk h]
def zse (x y : zae) : Bool := decide (zcI ⟨.any, [x]⟩ ⟨.any, [y]⟩ <= 0)
theorem zzI (x : zae) : zbb [x] = zei x + 1 := by simp [zbb]
theorem ztK {a : zas} {sz kk k : Nat} (h : zby a < sz + 1) (hb : sz + 1 < big) (hk : a.items.l.length < k) :
 zcY a sz kk k 0 = if a.items.l.all zC3 && adj zse a.items.l then some (.done (a.items.l.length : Int)) else some (.ret false) := by
 have hl := zcA a.items.l
 have hz := zcr a
 refine zpp (xs := a.items.l) (L := zcY a sz kk) zC3 zse false (fun k => by simp [zcY]) (fun k i hi => ?_) hk
 have ey := yB hi
 have hy := zpn ey
 revert ey hy
 generalize a.items.l[i] = y
 intro ey hy
 obtain ⟨f2, e2⟩ := zIH a.items ey
 simp only [zcY, zdC, YH hi, zat, zbE, ey, zad]
 rw [zar (show zak y.ann.l < sz by omega), zaF YJ]
 simp only [zad]
 cases i with
 | zero =>
   rw [zE1 ey, zs4]
   generalize ((y.ann.l.length : Int) == 0) = u
   cases u <;> cases zb2 y.ann <;> simp
 | succ j =>
   have hj : j < a.items.l.length := by omega
   have ex := yB hj
   have h2 := zm0 (fun x => zei x + 1) ex ey
   rw [<- zuA] at h2
   revert ex h2
   generalize a.items.l[j] = x
   intro ex h2
   obtain ⟨f1, e1⟩ := zIH a.items ex
   have hb1 : big = 1152921504606846976 := rfl
   rw [zzM ex ey, zpj YJ, zs4, e1, e2]
   simp only [zad]
   rw [zar (show zbb [x] + zbb [y] < big - 1 by rw [zzI, zzI]; omega)]
   rw [show zcI ⟨f1, [x]⟩ ⟨f2, [y]⟩ = zcI ⟨.any, [x]⟩ ⟨.any, [y]⟩ from rfl]
   unfold zse
   generalize ((y.ann.l.length : Int) == 0) = u
   have e : decide (0 < ((j + 1 : Nat) : Int)) = true := by simp
   rw [e]
   generalize zcI ⟨.any, [x]⟩ ⟨.any, [y]⟩ = c
   by_cases hc : c <= 0
   · rw [YH hc, YI (show ¬ 0 < c by omega)]
     cases u <;> cases zb2 y.ann <;> simp
   · rw [YI hc, YH (show 0 < c by omega)]
     cases u <;> cases zb2 y.ann <;> simp
theorem ztL {a : zas} {sz kk k : Nat} (h : zby a < sz + 1) (hb : sz + 1 < big) (hk : a.args.l.length < k) :
 zdw a sz kk k 0 = if zyJ a.args.l then some (.done (a.args.l.length : Int)) else some (.ret false) := by
 have hl := zd6 a.args.l
 have hz := zcr a
 rw [zpl, zkt (xs := a.args.l) (L := zdw a sz kk) (fun x => !(!((x.l.length : Int) == 0) && zb2 x)) false (fun k => by simp [zdw]) (fun k i x hi ex => ?_) hk, zll]
 · generalize a.args.l.all _ = u; cases u <;> rfl
 · have hx := zfQ ex
   simp only [zdw, zdC, YH hi, zat, zbE, ex, zad]
   rw [zar (show zak x.l < sz by omega), zaF YJ]
   generalize ((x.l.length : Int) == 0) = u
   cases u <;> cases zb2 x <;> simp
def z13 {α : Type} : List α -> Option (α × α)
 | [x, y] => some (x, y)
 | _ => none
theorem zLy {α : Type} {l : List α} (h : ((l.length : Nat) : Int) = 2) : ∃ x y, l = [x, y] := by
 rcases l with _ | ⟨x, _ | ⟨y, _ | ⟨z, l⟩⟩⟩
 · simp at h
 · simp at h
 · exact ⟨x, y, rfl⟩
 · simp at h; omega
def k1B (a : zas) : Bool := ((a.args.l.length : Int) == 2) && zk0 a && (match a.args.l with | [x, y] => !(zpq x y) | _ => false)
def k2B (a : zas) : Bool := ((a.args.l.length : Int) == 1) && zk0 a && (match a.args.l with | [x] => zsb x | _ => false)
def k3B (a : zas) : Bool := ((a.args.l.length : Int) == 1) && zk0 a && (match a.args.l with | [x] => !(zeu x) | _ => false)
def k4B (a : zas) : Bool := ((a.args.l.length : Int) == 0) && !((a.items.l.length : Int) == 0) && !(decide (1024 < (a.items.l.length : Int))) && zk1 a.func a.items a.op a.bound && zub a.items.l && adj zse a.items.l
theorem zmv (a : zas) : zgU a = (if a.kind = 0 then zdY a.row && ((a.args.l.length : Int) == 0) && zk0 a
 else (a.row.table == 0) && (a.row.seq == 0) && zyJ a.args.l && (if a.kind = 1 then k1B a else if a.kind = 2 then k2B a else if a.kind = 3 then k3B a else if a.kind = 4 then k4B a else false)) := by
 rcases a with ⟨k, r, ⟨f1, as⟩, fn, ⟨f2, is⟩, op, b⟩
 simp only [zgU, zas.kind, zas.row, zas.args]
 rfl
theorem zwG {kk sz : Nat} {a : zas} (h : zby a < sz + 1) (hk : sz < kk) (hb : sz + 1 < big) : zkR kk sz a = some (zgU a) := by
 have hz := zcr a
 have h1 := zd6 a.args.l
 have h2 := zcA a.items.l
 unfold zkR
 rw [zmv, ztL h hb YJ, ztK h hb YJ, zcs, zcs, zcs, zcs, zcs, zc2]
 by_cases c0 : a.kind = 0
 · rw [if_pos c0, if_pos c0]; rfl
 rw [if_neg c0, if_neg c0]
 cases hrow : ((a.row.table == 0) && (a.row.seq == 0))
 · rfl
 rw [zat]
 cases hv : zyJ a.args.l
 · rfl
 simp only [yz, if_true, za5]
 by_cases c1 : a.kind = 1
 · rw [if_pos c1, if_pos c1]
   unfold k1B
   cases hp : (((a.args.l.length : Int) == 2) && zk0 a)
   · rfl
   · simp only [yK, beq_iff_eq] at hp
     obtain ⟨x, y, e⟩ := zLy hp.1
     rw [e] at hz ⊢
     simp only [zcw] at hz
     simp only [yH, yX, zad, zat]
     rw [zar (by cases x; cases y; simp only at hz ⊢; omega)]
     rfl
 rw [if_neg c1, if_neg c1]
 by_cases c2 : a.kind = 2
 · rw [if_pos c2, if_pos c2]
   unfold k2B
   cases hp : (((a.args.l.length : Int) == 1) && zk0 a)
   · rfl
   · simp only [yK, beq_iff_eq] at hp
     obtain ⟨x, e⟩ := zrq hp.1
     rw [e] at hz ⊢
     simp only [zcw] at hz
     have hx := zb4 x.l
     simp only [yH, zad, zat]
     rw [zar (show x.l.length < big - 1 by cases x; simp only at hz hx ⊢; omega)]
     unfold zsb
     rw [zcs]
     by_cases c : (x.l.length : Int) = 1
     · rw [if_pos c, if_pos c]; cases zeu x <;> rfl
     · rw [if_neg c, if_neg c]; rfl
 rw [if_neg c2, if_neg c2]
 by_cases c3 : a.kind = 3
 · rw [if_pos c3, if_pos c3]
   unfold k3B
   cases hp : (((a.args.l.length : Int) == 1) && zk0 a)
   · rfl
   · simp only [yK, beq_iff_eq] at hp
     obtain ⟨x, e⟩ := zrq hp.1
     rw [e] at hz ⊢
     simp only [zcw] at hz
     have hx := zb4 x.l
     simp only [yH, zad, zat]
     rw [zar (show x.l.length < big - 1 by cases x; simp only at hz hx ⊢; omega)]
     rfl
 rw [if_neg c3, if_neg c3]
 by_cases c4 : a.kind = 4
 · rw [if_pos c4, if_pos c4, zar YJ, zad]
   unfold k4B
   rw [zw3]
   have e : ((a.args.l.length : Int) != 0) = !((a.args.l.length : Int) == 0) := rfl
   rw [e]
   cases ((a.args.l.length : Int) == 0) <;> cases ((a.items.l.length : Int) == 0) <;> cases (decide (1024 < (a.items.l.length : Int))) <;> cases zk1 a.func a.items a.op a.bound <;> cases a.items.l.all zC3 <;> cases adj zse a.items.l <;> rfl
 rw [if_neg c4, if_neg c4]
def zrs (f : zaj) : Bool := (decide (64 < f.exp)) || (decide (1024 < (f.atom.items.l.length : Int)))
def zrr (t : zam) : Bool := !zfX t
def zBw (t : zam) : Bool := (t.factors.l.length : Int) == 0
def zjl {α : Type} (p : α -> Bool) : List α -> Nat -> Int
 | [], _ => -1
 | x :: l, i => if p x then (i : Int) else zjl p l (i + 1)
def zyM {α : Type} (p : α -> Bool) (a : Sl α) : Int := zjl p a.l 0
def zwZ {α : Type} (p : α -> Bool) (a : Sl α) : Bool := a.l.any p
theorem zHM {α : Type} (p : α -> Bool) (l : List α) (i : Nat) : 0 <= zjl p l i ↔ l.any p = true := by
 induction l generalizing i with
 | nil => simp [zjl]
 | cons x l ih =>
   by_cases h : p x = true
   · simp [zjl, h]
   · have e : zjl p (x :: l) i = zjl p l (i + 1) := by simp [zjl, h]
     rw [e, ih]; simp [h]
theorem zjQ {α : Type} (p : α -> Bool) (l : List α) (i : Nat) : decide (0 <= zjl p l i) = l.any p := by
 have h := zHM p l i
 cases e : l.any p
 · exact YI (fun k => by rw [h.1 k] at e; cases e)
 · exact YH (h.2 e)
theorem zFP {α : Type} (p : α -> Bool) (l : List α) (i : Nat) (h : l.any p = false) : zjl p l i = -1 := by
 induction l generalizing i with
 | nil => rfl
 | cons x l ih =>
   simp only [List.any_cons, Bool.or_eq_false_iff] at h
   simp only [zjl, h.1]
   rw [if_neg (by simp), ih _ h.2]
theorem zMT {α : Type} {L : Nat -> Int -> Option (Out Int Int)} {xs : List α} (p : α -> Bool)
 (hend : ∀ k, L (k + 1) xs.length = some (.done (xs.length : Int)))
 (hstep : ∀ k (i : Nat) x, i < xs.length -> xs[i]? = some x -> L (k + 1) (i : Int) = if p x then some (.ret (i : Int)) else L k ((i + 1 : Nat) : Int)) :
 ∀ k i, i <= xs.length -> xs.length - i < k -> L k (i : Int) = if (xs.drop i).any p then some (.ret (zjl p (xs.drop i) i)) else some (.done (xs.length : Int)) := by
 intro k
 induction k with
 | zero => intro i _ h; omega
 | succ k ih =>
   intro i h1 h2
   by_cases e : i = xs.length
   · subst e; rw [hend]; simp
   · have hi : i < xs.length := by omega
     rw [hstep k i _ hi (yB hi), ih (i + 1) YJ YJ, yb hi]
     simp only [List.any_cons, zjl]
     by_cases h : p xs[i] = true <;> simp [h]
theorem ztd {α : Type} {L : Nat -> Int -> Option (Out Int Int)} {xs : List α} {k : Nat} (p : α -> Bool)
 (hend : ∀ k, L (k + 1) xs.length = some (.done (xs.length : Int)))
 (hstep : ∀ k (i : Nat) x, i < xs.length -> xs[i]? = some x -> L (k + 1) (i : Int) = if p x then some (.ret (i : Int)) else L k ((i + 1 : Nat) : Int))
 (hk : xs.length < k) : zgD (L k 0) (fun r => some r) (fun (_ : Int) => some (-1)) = some (zjl p xs 0) := by
 have := zMT p hend hstep k 0 YJ YJ
 simp only [yg] at this
 rw [show ((0 : Nat) : Int) = 0 from rfl] at this
 rw [this]
 cases h : xs.any p
 · rw [zFP p xs 0 h]; rfl
 · rfl
noncomputable def zhK (kk : Nat) (a : zaj) : Option (Bool) :=
 some ((decide (64 < a.exp)) || (decide (1024 < (a.atom.items.l.length : Int))))
noncomputable def zgk (kk : Nat) (a : zam) : Option (Bool) :=
 some ((a.factors.l.length : Int) == 0)
noncomputable def zaM (c1 : Sl zaj) (c2 : Int) (kk : Nat) : Nat -> Int -> Option (Out (Int) (Int))
 | 0, _ => none
 | k + 1, s3 =>
   sel (
    bnd (ix c1.l s3) fun (y4 : zaj) =>
    sel (
     some (.ret s3)) (
     zaM c1 c2 kk k (IntKind.wrap .i64 (s3 + 1))) ((zrs y4))) (
    some (.done s3)) (decide (s3 < c2))
noncomputable def zbx (kk : Nat) (a : (Sl zaj)) : Option (Int) :=
 zgD (zaM a (a.l.length : Int) kk kk 0) (fun r => some r) fun (q5 : Int) =>
  some (-1)
noncomputable def zbr (kk : Nat) (a : (Sl zaj)) : Option (Bool) :=
 bnd (okP (a.l.length < big - 1)) fun _ =>
 some (decide (0 <= (zyM zrs a)))
noncomputable def zgC (kk : Nat) (a : zam) : Option (Bool) :=
 sel (
  bnd (okP (a.factors.l.length < big - 1)) fun _ =>
  some ((zwZ zrs a.factors))) (
  some true) (!(decide (64 < (a.factors.l.length : Int))))
noncomputable def zaX (c1 : Sl zam) (c2 : Int) (kk : Nat) : Nat -> Int -> Option (Out (Int) (Int))
 | 0, _ => none
 | k + 1, s3 =>
   sel (
    bnd (ix c1.l s3) fun (y4 : zam) =>
    bnd (okP (zcH y4 < big - 1)) fun _ =>
    sel (
     some (.ret s3)) (
     zaX c1 c2 kk k (IntKind.wrap .i64 (s3 + 1))) ((zrr y4))) (
    some (.done s3)) (decide (s3 < c2))
noncomputable def zbH (kk : Nat) (a : (Sl zam)) : Option (Int) :=
 zgD (zaX a (a.l.length : Int) kk kk 0) (fun r => some r) fun (q6 : Int) =>
  some (-1)
noncomputable def zbz (kk : Nat) (a : (Sl zam)) : Option (Bool) :=
 bnd (okP (zak a.l < big - 1)) fun _ =>
 some (decide (0 <= (zyM zrr a)))
noncomputable def zhL (kk : Nat) (a : (Sl zam)) : Option (Bool) :=
 sel (
  bnd (okP (zak a.l < big - 1)) fun _ =>
  sel (
   bnd (okP (zak a.l < big - 1)) fun _ =>
   sel (
    some false) (
    bnd (okP (zak a.l < big - 1)) fun _ =>
    some (!((zwZ zrr a)))) (decide (4096 < (zmA a)))) (
   some false) (!(decide (8 < (zkh a))))) (
  some false) (!(decide (512 < (a.l.length : Int))))
noncomputable def zaL (c1 : Sl zam) (c2 : Int) (kk : Nat) : Nat -> Int -> Option (Out (Int) (Int))
 | 0, _ => none
 | k + 1, s3 =>
   sel (
    bnd (ix c1.l s3) fun (y4 : zam) =>
    sel (
     some (.ret s3)) (
     zaL c1 c2 kk k (IntKind.wrap .i64 (s3 + 1))) ((zBw y4))) (
    some (.done s3)) (decide (s3 < c2))
noncomputable def zbw (kk : Nat) (a : (Sl zam)) : Option (Int) :=
 zgD (zaL a (a.l.length : Int) kk kk 0) (fun r => some r) fun (q5 : Int) =>
  some (-1)
noncomputable def zbl (kk : Nat) (a : (Sl zam)) : Option (Bool) :=
 bnd (okP (a.l.length < big - 1)) fun _ =>
 some (decide (0 <= (zyM zBw a)))
noncomputable def ze2 (kk : Nat) (a : (Sl zam)) : Option (Bool) :=
 bnd (okP (a.l.length < big - 1)) fun _ =>
 some ((zwZ zBw a))
theorem zn0 (kk : Nat) (a : zaj) : zhK kk a = some (zrs a) := rfl
theorem zmg (kk : Nat) (a : zam) : zgk kk a = some (zBw a) := rfl
theorem zfC {kk : Nat} (a : Sl zaj) (h : a.l.length < big - 1) (hk : a.l.length < kk) : zbx kk a = some (zyM zrs a) := by
 unfold zbx zyM
 refine ztd (xs := a.l) zrs (fun k => by simp [zaM]) (fun k i x hi ex => ?_) hk
 simp only [zaM, zdC, YH hi, zat, zbE, ex, zad]
 rw [zaF YJ, zdB]
theorem zeN {kk : Nat} (a : Sl zaj) (h : a.l.length < big - 1) (_hk : a.l.length < big) : zbr kk a = some (zwZ zrs a) := by
 unfold zbr zyM zwZ
 rw [zar h, zjQ]; rfl
theorem zKf (l : List zaj) : l.any zrs = !l.all zea := by
 rw [<- zll]
 congr 1
 funext f
 unfold zrs zea
 by_cases h1 : f.exp <= 64
 · by_cases h2 : (f.atom.items.l.length : Int) <= 1024
   · rw [YH h1, YH h2, YI (show ¬ (64 : Int) < f.exp by omega), YI (show ¬ (1024 : Int) < f.atom.items.l.length by omega)]; rfl
   · rw [YH h1, YI h2, YI (show ¬ (64 : Int) < f.exp by omega), YH (show (1024 : Int) < f.atom.items.l.length by omega)]; rfl
 · rw [YI h1, YH (show (64 : Int) < f.exp by omega)]; rfl
theorem zpO {kk : Nat} (a : zam) (h : zcH a < big - 1) (_hk : zcH a < big) : zgC kk a = some (zrr a) := by
 have h1 := zdq a
 have h2 := zbO a.factors.l
 unfold zgC zrr zfX zwZ
 rw [zar YJ, zKf]
 by_cases h3 : (a.factors.l.length : Int) <= 64
 · rw [YH h3, YI (show ¬ (64 : Int) < a.factors.l.length by omega)]; rfl
 · rw [YI h3, YH (show (64 : Int) < a.factors.l.length by omega)]; rfl
theorem zgj {kk : Nat} (a : Sl zam) (h : zak a.l < big - 1) (hk : zak a.l < kk) : zbH kk a = some (zyM zrr a) := by
 have hl := zb4 a.l
 unfold zbH zyM
 refine ztd (xs := a.l) zrr (fun k => by simp [zaX]) (fun k i x hi ex => ?_) YJ
 have hx := zdk ex
 simp only [zaX, zdC, YH hi, zat, zbE, ex, zad]
 rw [zar YJ, zad, zaF YJ, zdB]
theorem zfS {kk : Nat} (a : Sl zam) (h : zak a.l < big - 1) (_hk : zak a.l < big) : zbz kk a = some (zwZ zrr a) := by
 unfold zbz zyM zwZ
 rw [zar h, zjQ]; rfl
theorem zrP {kk : Nat} (a : Sl zam) (h : zak a.l < big - 1) (_hk : zak a.l < big) : zhL kk a = some (zpz a) := by
 unfold zhL zpz zwZ
 rw [zar h, show a.l.any zrr = !a.l.all zfX from zll _ _]
 simp only [zad, zc2, zjO]
 by_cases h1 : (a.l.length : Int) <= 512
 · rw [if_neg YJ, YH h1]
   by_cases h2 : zkh a <= 8
   · rw [if_neg YJ, YH h2]
     by_cases h3 : zmA a <= 4096
     · rw [if_neg YJ, YH h3]
       cases a.l.all zfX <;> rfl
     · rw [if_pos YJ, YI h3]; rfl
   · rw [if_pos YJ, YI h2]; rfl
 · rw [if_pos YJ, YI h1]; rfl
theorem zfj {kk : Nat} (a : Sl zam) (h : a.l.length < big - 1) (hk : a.l.length < kk) : zbw kk a = some (zyM zBw a) := by
 unfold zbw zyM
 refine ztd (xs := a.l) zBw (fun k => by simp [zaL]) (fun k i x hi ex => ?_) hk
 simp only [zaL, zdC, YH hi, zat, zbE, ex, zad]
 rw [zaF YJ, zdB]
theorem zeE {kk : Nat} (a : Sl zam) (h : a.l.length < big - 1) (_hk : a.l.length < big) : zbl kk a = some (zwZ zBw a) := by
 unfold zbl zyM zwZ
 rw [zar h, zjQ]; rfl
theorem znN {kk : Nat} (a : Sl zam) (h : a.l.length < big - 1) (_hk : a.l.length < big) : ze2 kk a = some (zeu a) := by
 unfold ze2
 rw [zar h]; rfl
theorem zPw {α : Type} (f : α -> α -> Bool) {l : List α} {i : Nat} {x y : α} (h : l[i]? = some x) (h' : l[i + 1]? = some y) :
 adj f (l.take (i + 2)) = (adj f (l.take (i + 1)) && f x y) := by
 induction i generalizing l with
 | zero =>
   rcases l with _ | ⟨a, _ | ⟨b, l⟩⟩
   · simp at h
   · simp at h'
   · simp at h h'; subst h; subst h'; simp [adj]
 | succ i ih =>
   rcases l with _ | ⟨a, _ | ⟨b, l⟩⟩
   · simp at h
   · simp at h'
   · have := @ih (b :: l) (by simpa using h) (by simpa using h')
     rw [show (a :: b :: l).take (i + 1 + 2) = a :: b :: l.take (i + 1) from rfl, show (a :: b :: l).take (i + 1 + 1) = a :: b :: l.take i from rfl]
     rw [show (b :: l).take (i + 2) = b :: l.take (i + 1) from rfl, show (b :: l).take (i + 1) = b :: l.take i from rfl] at this
     simp only [adj, this, Bool.and_assoc]
theorem zNB {α : Type} {L : Nat -> Int -> Option (Out Bool Int)} {xs : List α} (f : α -> α -> Bool)
 (hend : ∀ k, L (k + 1) 0 = some (.done 0))
 (hstep : ∀ k (i : Nat) x y, i + 1 < xs.length -> xs[i]? = some x -> xs[i + 1]? = some y -> L (k + 1) ((i + 1 : Nat) : Int) = if f x y then L k (i : Int) else some (.ret false)) :
 ∀ k i, i < xs.length -> i < k -> L k (i : Int) = if adj f (xs.take (i + 1)) then some (.done 0) else some (.ret false) := by
 intro k
 induction k with
 | zero => intro i _ h; omega
 | succ k ih =>
   intro i h1 h2
   cases i with
   | zero =>
     rw [show ((0 : Nat) : Int) = 0 from rfl, hend]
     rcases xs with _ | ⟨a, l⟩
     · simp at h1
     · simp [adj]
   | succ i =>
     have hi : i < xs.length := by omega
     have ex := yB hi
     have ey := yB h1
     rw [hstep k i _ _ h1 ex ey, ih i hi YJ, zPw f ex ey]
     cases f xs[i] xs[i + 1] <;> simp
def zr4 (a : Sl zae) : Bool := adj (fun x y => !decide (zcV y x < 0)) a.l
noncomputable def zau (c1 : Sl zae) (kk : Nat) : Nat -> Int -> Option (Out (Bool) (Int))
 | 0, _ => none
 | k + 1, s2 =>
   sel (
    bnd (ix c1.l s2) fun (y3 : zae) =>
    bnd (ix c1.l (IntKind.wrap .i64 (s2 - 1))) fun (y4 : zae) =>
    bnd (okP (8 * (zei y3 + zei y4) + 5 < big - 1)) fun _ =>
    sel (
     some (.ret false)) (
     zau c1 kk k (IntKind.wrap .i64 (s2 - 1))) (decide ((zcV y3 y4) < 0))) (
    some (.done s2)) (decide (0 < s2))
noncomputable def zbd (kk : Nat) (a : (Sl zae)) : Option (Bool) :=
 zgD (zau a kk kk (IntKind.wrap .i64 ((a.l.length : Int) - 1))) (fun r => some r) fun (q6 : Int) =>
  some true
theorem zd3 {kk : Nat} (a : Sl zae) (h : 8 * zbb a.l + 5 < big - 1) (hk : zbb a.l < kk) :
 zbd kk a = some (zr4 a) := by
 have hl := zcA a.l
 have hb1 : big = 1152921504606846976 := rfl
 unfold zbd zr4
 have hend : ∀ k, zau a kk (k + 1) 0 = some (.done 0) := fun k => by simp [zau]
 by_cases h0 : a.l = []
 · obtain ⟨k, rfl⟩ : ∃ k, kk = k + 1 := ⟨kk - 1, by omega⟩
   rw [h0, show IntKind.wrap .i64 ((([] : List zae).length : Int) - 1) = -1 from zcG (by decide) (by decide)]
   simp [zau, adj]
 · have hpos : 0 < a.l.length := List.length_pos_iff.2 h0
   have := zNB (xs := a.l) (L := zau a kk) (fun x y => !decide (zcV y x < 0)) hend (fun k i x y hi ex ey => ?_) kk (a.l.length - 1) YJ YJ
   · rw [zcG YJ YJ, show ((a.l.length : Int) - 1) = ((a.l.length - 1 : Nat) : Int) by omega, this, show a.l.length - 1 + 1 = a.l.length by omega, List.take_length]
     cases adj (fun x y => !decide (zcV y x < 0)) a.l <;> rfl
   · have h2 := zm0 (fun x => zei x + 1) ex ey
     rw [<- zuA] at h2
     simp only [zau, zbE, ey, zad, zpj (show i < big by omega), ex]
     rw [zar YJ, YH (show (0 : Int) < ((i + 1 : Nat) : Int) by omega)]
     cases decide (zcV y x < 0) <;> rfl
noncomputable def zd4 (kk : Nat) (a : zae) (u0 : Val) (u1 : Int) : Option (Bool × Val × Int) :=
 some ((((!((zaE a.value))) || (a.value.kind != u0.kind)) || ((u1 == 0) && (a.value.int != 1))), u0, u1)
noncomputable def zaB (c1 : Sl zae) (c2 : Int) (kk : Nat) : Nat -> Int -> Val -> Int -> Option (Out (Int × Val × Int) (Int × Val × Int))
 | 0, _, _, _ => none
 | k + 1, s3, s4, s5 =>
   sel (
    bnd (ix c1.l s3) fun (y6 : zae) =>
    bnd (zd4 kk y6 s4 s5) fun (r7 : Bool × Val × Int) =>
    sel (
     some (.ret (s3, r7.2.1, r7.2.2))) (
     zaB c1 c2 kk k (IntKind.wrap .i64 (s3 + 1)) r7.2.1 r7.2.2) (r7.1)) (
    some (.done (s3, s4, s5))) (decide (s3 < c2))
noncomputable def zbv (kk : Nat) (a : (Sl zae)) (u0 : Val) (u1 : Int) : Option (Int × Val × Int) :=
 zgD (zaB a (a.l.length : Int) kk kk 0 u0 u1) (fun r => some r) fun (q8 : Int × Val × Int) =>
  some ((-1), q8.2.1, q8.2.2)
noncomputable def za0 (kk : Nat) (a : (Sl zae)) (u0 : Val) (u1 : Int) : Option (Bool × Val × Int) :=
 bnd (zbv kk a u0 u1) fun (r1 : Int × Val × Int) =>
 some ((decide (0 <= r1.1)), r1.2.1, r1.2.2)
noncomputable def zg8 (kk : Nat) (a : Int) (b : (Sl zae)) (c : Int) (d : Val) : Option (Bool) :=
 sel (
  some false) (
  sel (
   some false) (
   bnd (za0 kk b d a) fun (r1 : Bool × Val × Int) =>
   some (!(r1.1))) (((a == 0) || (a == 1)) && (d.kind != 0))) (((((decide (a < 0)) || (decide (3 < a))) || (decide (c < 5))) || (decide (10 < c))) || (!((zaE d))))
theorem zpb (kk : Nat) (a : zae) (u0 : Val) (u1 : Int) : zd4 kk a u0 u1 = some (!ztA u1 u0 a, u0, u1) := by
 unfold zd4 ztA; rw [Bool.not_not]
theorem zGK (a : Sl zae) (kk : Nat) (u0 : Val) (u1 : Int) (hb : a.l.length < big - 1) : ∀ k i, i <= a.l.length -> a.l.length - i < k ->
 zaB a a.l.length kk k (i : Int) u0 u1 = if (a.l.drop i).any (fun w => !ztA u1 u0 w) then some (.ret (zjl (fun w => !ztA u1 u0 w) (a.l.drop i) i, u0, u1)) else some (.done ((a.l.length : Int), u0, u1)) := by
 intro k
 induction k with
 | zero => intro i _ h; omega
 | succ k ih =>
   intro i h1 h2
   by_cases e : i = a.l.length
   · subst e; simp [zaB]
   · have hi : i < a.l.length := by omega
     simp only [zaB, zdC, YH hi, zat, zbE, yB hi, zad, zpb]
     rw [zaF YJ, ih (i + 1) YJ YJ, yb hi]
     simp only [List.any_cons, zjl]
     by_cases h : ztA u1 u0 a.l[i] = true <;> simp [h]
theorem zq7 {kk : Nat} (a : Int) (b : Sl zae) (c : Int) (d : Val) (h : b.l.length < big - 1) (hk : b.l.length < kk) : zg8 kk a b c d = some (zk1 a b c d) := by
 have := zGK b kk d a h kk 0 YJ YJ
 rw [show ((0 : Nat) : Int) = 0 from rfl, yg, zll] at this
 have e : za0 kk b d a = some (!b.l.all (ztA a d), d, a) := by
  unfold za0 zbv
  rw [this]
  cases hv : b.l.all (ztA a d)
  · have := zjQ (fun w => !ztA a d w) b.l 0
    rw [zll, hv] at this
    simp only [yx, if_true, zmC, zad, this]
  · rfl
 unfold zg8 zk1
 rw [e]
 have e1 : decide (a <= 1) = true -> decide (a < 0) = false -> ((a == 0) || (a == 1)) = true := by
  intro h1 h2
  simp only [YG, decide_eq_false_iff_not] at h1 h2
  have : a = 0 ∨ a = 1 := by omega
  rcases this with rfl | rfl <;> rfl
 have e2 : decide (a <= 1) = false -> ((a == 0) || (a == 1)) = false := by
  intro h1
  simp only [decide_eq_false_iff_not] at h1
  simp only [Bool.or_eq_false_iff, beq_eq_false_iff_ne]
  exact ⟨by omega, by omega⟩
 revert e1 e2
 generalize ((a == 0) || (a == 1)) = u
 generalize decide (a <= 1) = v
 generalize decide (a < 0) = w
 generalize b.l.all (ztA a d) = z
 generalize (d.kind != 0) = y
 generalize decide (3 < a) = x1
 generalize decide (c < 5) = x2
 generalize decide (10 < c) = x3
 generalize zaE d = x4
 intro e1 e2
 cases w <;> cases v <;> simp_all <;> cases x1 <;> cases x2 <;> cases x3 <;> cases x4 <;> cases y <;> cases z <;> rfl
theorem zkn (a b : Int) : zfR b a = -zfR a b := by unfold zfR; split <;> split <;> first | rfl | omega
theorem zQB (a b : Int) : orI (-a) (-b) = -orI a b := by unfold orI; split <;> split <;> first | rfl | omega
theorem zgY {a b a' b' : Int} (h : a' = -a) (k : b' = -b) : orI a' b' = -orI a b := by rw [h, k, zQB]
theorem zGu {a b : Str} (h : zdf a b = true) : zdf b a = false := by
 induction a generalizing b with
 | nil => cases b <;> simp [zdf]
 | cons x a ih => cases b with
   | nil => simp [zdf] at h
   | cons y b =>
     simp only [zdf, Bool.or_eq_true, yK, YG, beq_iff_eq] at h
     rcases h with h | ⟨rfl, h⟩
     · have h1 : ¬ y < x := by rw [UInt8.lt_iff_toNat_lt] at h ⊢; omega
       have h2 : (y == x) = false := by simp; intro e; subst e; rw [UInt8.lt_iff_toNat_lt] at h; omega
       simp [zdf, h1, h2]
     · have h1 : ¬ x < x := by rw [UInt8.lt_iff_toNat_lt]; omega
       simp [zdf, h1, ih h]
theorem zNr (a b : Str) : zH7 b a = -zH7 a b := by
 unfold zH7
 cases h : zdf a b
 · cases h2 : zdf b a <;> rfl
 · rw [zGu h]; rfl
theorem zH8 (a b : zbZ) : zpB b a = -zpB a b := zgY (zkn _ _) (zkn _ _)
theorem zAz (a b : Val) : zfd b a = -zfd a b := zgY (zkn _ _) (zgY (zkn _ _) (zNr _ _))
mutual
theorem zGi : ∀ x y : zam, zfs y x = -zfs x y
 | .mk c ⟨f, fs⟩, y => by rw [zm2, zm2]; exact zgY (zsw fs _) (zkn _ _)
theorem zsw : ∀ l m : List zaj, zbX m l = -zbX l m
 | [], [] => by simp only [zbX]; rfl
 | [], _ :: _ => by simp only [zbX]; rfl
 | _ :: _, [] => by simp only [zbX]
 | x :: xs, y :: ys => by simp only [zbX]; exact zgY (zBG x y) (zsw xs ys)
theorem zBG : ∀ x y : zaj, zct y x = -zct x y
 | .mk a e, y => by rw [zor, zor]; exact zgY (zGn a _) (zkn _ _)
theorem zGn : ∀ x y : zas, zb3 y x = -zb3 x y
 | .mk k r ⟨f1, as⟩ f ⟨f2, is⟩ o b, y => by
   rw [zm4, zm4]
   exact zgY (zkn _ _) (zgY (zH8 _ _) (zgY (zyt as _) (zgY (zkn _ _) (zgY (zv6 is _) (zgY (zkn _ _) (zAz _ _))))))
theorem zyt : ∀ l m : List (Sl zam), zgg m l = -zgg l m
 | [], [] => by simp only [zgg]; rfl
 | [], ⟨_, _⟩ :: _ => by simp only [zgg]; rfl
 | ⟨_, _⟩ :: _, [] => by simp only [zgg]
 | ⟨_, x⟩ :: xs, ⟨_, y⟩ :: ys => by simp only [zgg]; exact zgY (zqG x y) (zyt xs ys)
theorem zqG : ∀ l m : List zam, zdz m l = -zdz l m
 | [], [] => by simp only [zdz]; rfl
 | [], _ :: _ => by simp only [zdz]; rfl
 | _ :: _, [] => by simp only [zdz]
 | x :: xs, y :: ys => by simp only [zdz]; exact zgY (zGi x y) (zqG xs ys)
theorem zv6 : ∀ l m : List zae, zcU m l = -zcU l m
 | [], [] => by simp only [zcU]; rfl
 | [], _ :: _ => by simp only [zcU]; rfl
 | _ :: _, [] => by simp only [zcU]
 | x :: xs, y :: ys => by simp only [zcU]; exact zgY (zys x y) (zv6 xs ys)
theorem zys : ∀ x y : zae, zcV y x = -zcV x y
 | .mk v ⟨f, l⟩, y => by rw [zm3, zm3]; exact zgY (zAz _ _) (zqG l _)
end
def zos (a : Sl zam) : Bool := (!((zb2 a))) || ((a.l.length : Int) == 0)
def zkr (a : zae) : Bool := (!((zb2 a.ann))) || ((a.ann.l.length : Int) == 0)
def zC4 (a : zas) : Bool := (((a.kind != 4) && ((((a.func != 0) || ((a.items.l.length : Int) != 0)) || (a.op != 0)) || (!((a.bound.kind == 0) && ((a.bound.int == 0) && (a.bound.text == [])))))) || ((a.kind != 0) && (!((a.row.table == 0) && (a.row.seq == 0)))))
def pk1 (a : zas) : Bool := match a.args.l with | [x, y] => !(zpq x y) | _ => false
def pk2 (a : zas) : Bool := match a.args.l with | [x] => !(zit x) && !(zsh x) | _ => false
def pk3 (a : zas) : Bool := match a.args.l with | [x] => !(zeu x) | _ => false
def pk4 (a : zas) : Bool := (((a.args.l.length : Int) == 0) && (decide (0 < (a.items.l.length : Int)))) && (!((zwZ zkr a.items))) && zr4 a.items && zk1 a.func a.items a.op a.bound
def zr9 (a : zas) : Bool :=
 if zC4 a then false else if zwZ zos a.args then false
 else if a.kind = 0 then zdY a.row && ((a.args.l.length : Int) == 0)
 else if a.kind = 1 then pk1 a else if a.kind = 2 then pk2 a else if a.kind = 3 then pk3 a else if a.kind = 4 then pk4 a else false
def zke (f : zaj) : Bool := !((decide (f.exp < 1)) || (((zxo f.atom)) && (f.exp != 1))) && zr9 f.atom
def zvF (x : zam) : Bool := !(decide (x.coeff < 1)) && !(decide (1152921504606846976 < x.coeff)) && x.factors.l.all zke && adj zom x.factors.l
theorem zRj (l : List (Sl zam)) : l.any zos = !zyJ l := by
 rw [zpl]
 induction l with
 | nil => rfl
 | cons x l ih =>
   simp only [List.any_cons, List.all_cons, ih, zos]
   cases zb2 x <;> cases ((x.l.length : Int) == 0) <;> rfl
theorem zIi (l : List zae) : l.any zkr = !zub l := by
 rw [zw3]
 induction l with
 | nil => rfl
 | cons x l ih =>
   simp only [List.any_cons, List.all_cons, ih, zkr, zs4]
   cases zb2 x.ann <;> cases ((x.ann.l.length : Int) == 0) <;> rfl
theorem zxk {x : zas} (h : zgU x = true) : x.kind = 0 ∨ x.kind = 1 ∨ x.kind = 2 ∨ x.kind = 3 ∨ x.kind = 4 := by
 rw [zmv] at h
 by_cases c0 : x.kind = 0; exact .inl c0
 by_cases c1 : x.kind = 1; exact .inr (.inl c1)
 by_cases c2 : x.kind = 2; exact .inr (.inr (.inl c2))
 by_cases c3 : x.kind = 3; exact .inr (.inr (.inr (.inl c3)))
 by_cases c4 : x.kind = 4; exact .inr (.inr (.inr (.inr c4)))
 rw [if_neg c0, if_neg c1, if_neg c2, if_neg c3, if_neg c4, Bool.and_false] at h; cases h
theorem zDB {α : Type} {l : List α} {x : α} (h : zFD l = some x) : l = [x] := by
 match l, h with
 | [y], h => simp only [zFD, yA] at h; rw [h]
theorem zG3 {x : Sl zam} (h : zb2 x = true) : zsh x = zmd x := by
 unfold zsh zmd
 cases e : zFD x.l with
 | none => rfl
 | some t =>
   simp only
   cases e2 : zFD t.factors.l with
   | none => rfl
   | some f =>
     simp only
     unfold zb2 at h
     simp only [yK] at h
     have h := h.1.2
     rw [zDB e] at h
     simp only [zdp, Bool.and_true, zp0, yK] at h
     have h := h.1.2
     rw [zDB e2] at h
     simp only [zmu, Bool.and_true, ziP, yK] at h
     have h := zxk h.2
     unfold zxo
     rcases h with h | h | h | h | h <;> rw [h] <;> simp
theorem zKd {x : Sl zam} (h : zb2 x = true) : (!(zit x) && !(zsh x)) = zsb x := by
 rw [zG3 h]
 unfold zsb zit zeu
 cases e : zFD x.l with
 | none =>
   rw [if_neg]; rfl
   intro hl
   obtain ⟨y, e2⟩ := zrq hl
   rw [e2] at e; simp [zFD] at e
 | some t =>
   rw [zDB e, if_pos (by simp)]
   simp
theorem zLL (a : Sl zae) : zr4 a = adj zse a.l := by
 unfold zr4 zse
 congr 1
 funext x y
 have e : zcI ⟨.any, [x]⟩ ⟨.any, [y]⟩ = zcV x y := by
  simp only [zcI, zcU]; unfold orI; split
  · rename_i h; rw [h]
  · rfl
 rw [e, zys x y]
 by_cases h : zcV x y <= 0
 · rw [YH h, YI YJ]; rfl
 · rw [YI h, YH YJ]; rfl
theorem zFq (a : zas) : zk0 a = !(((((a.func != 0) || ((a.items.l.length : Int) != 0)) || (a.op != 0)) || (!((a.bound.kind == 0) && ((a.bound.int == 0) && (a.bound.text == [])))))) := by
 unfold zk0
 have e : ∀ {α : Type} [BEq α] (x y : α), (x != y) = !(x == y) := fun _ _ => rfl
 rw [e, e, e]
 cases (a.func == 0) <;> cases ((a.items.l.length : Int) == 0) <;> cases (a.op == 0) <;> simp
theorem zOG {a : zas} (hi : (a.items.l.length : Int) <= 1024) : zr9 a = zgU a := by
 rw [zmv]
 unfold zr9 zC4 zwZ
 rw [zRj, show ∀ b : Bool, (!((a.bound.kind == 0) && b)) = !((a.bound.kind == 0) && b) from fun _ => rfl]
 have hp := zFq a
 generalize hu : ((((a.func != 0) || ((a.items.l.length : Int) != 0)) || (a.op != 0)) || (!((a.bound.kind == 0) && ((a.bound.int == 0) && (a.bound.text == []))))) = u at hp ⊢
 by_cases c0 : a.kind = 0
 · rw [if_pos c0, if_pos c0, hp, c0]
   cases u
   · simp only [Bool.and_false, Bool.false_or, yF, if_false, show ((0 : Int) != 0) = false from rfl, Bool.false_and, yx, Bool.and_true]
     cases hl : ((a.args.l.length : Int) == 0)
     · simp
     · have : a.args.l = [] := ym.1 (by have := eq_of_beq hl; omega)
       rw [this]; simp [zyJ]
   · simp
 rw [if_neg c0, if_neg c0, show (a.kind != 0) = true by simpa using c0]
 cases hrow : ((a.row.table == 0) && (a.row.seq == 0))
 · simp
 cases hv : zyJ a.args.l
 · simp
 simp only [ye, Bool.and_false, Bool.or_false, yF, if_false, yz]
 have hva : ∀ x ∈ a.args.l, zb2 x = true := fun x hx => by
  rw [zpl] at hv
  have := yl.1 hv x hx
  simp only [yK] at this; exact this.2
 by_cases c1 : a.kind = 1
 · rw [if_pos c1, if_pos c1, c1, show ((1 : Int) != 4) = true from rfl, yz]
   unfold k1B pk1
   rw [hp]
   cases u
   · simp only [yF, if_false, yx, Bool.and_true]
     match a.args.l with
     | [] => rfl
     | [_] => rfl
     | [_, _] => simp
     | _ :: _ :: _ :: _ => simp
   · simp
 rw [if_neg c1, if_neg c1]
 by_cases c2 : a.kind = 2
 · rw [if_pos c2, if_pos c2, c2, show ((2 : Int) != 4) = true from rfl, yz]
   unfold k2B pk2
   rw [hp]
   cases u
   · simp only [yF, if_false, yx, Bool.and_true]
     match hl : a.args.l with
     | [] => rfl
     | [x] =>
       simp only
       rw [zKd (hva x (by rw [hl]; simp))]; simp
     | _ :: _ :: _ => simp
   · simp
 rw [if_neg c2, if_neg c2]
 by_cases c3 : a.kind = 3
 · rw [if_pos c3, if_pos c3, c3, show ((3 : Int) != 4) = true from rfl, yz]
   unfold k3B pk3
   rw [hp]
   cases u
   · simp only [yF, if_false, yx, Bool.and_true]
     match a.args.l with
     | [] => rfl
     | [x] => simp
     | _ :: _ :: _ => simp
   · simp
 rw [if_neg c3, if_neg c3]
 by_cases c4 : a.kind = 4
 · rw [if_pos c4, if_pos c4, c4, show ((4 : Int) != 4) = false from rfl, Bool.false_and]
   unfold k4B pk4 zwZ
   rw [zIi, zLL, YI (show ¬ (1024 : Int) < a.items.l.length by omega)]
   have e : decide (0 < (a.items.l.length : Int)) = !((a.items.l.length : Int) == 0) := by
    cases a.items.l with
    | nil => rfl
    | cons x l => simp; omega
   rw [e]
   cases ((a.args.l.length : Int) == 0) <;> cases ((a.items.l.length : Int) == 0) <;> cases zub a.items.l <;> cases adj zse a.items.l <;> cases zk1 a.func a.items a.op a.bound <;> rfl
 · rw [if_neg c4, if_neg c4]; simp
theorem zz0 {f : zaj} (hi : zea f = true) : zke f = zgE f := by
 unfold zea at hi
 simp only [yK, YG] at hi
 unfold zke
 rw [ziP, zOG hi.2]
 cases hv : zgU f.atom
 · simp
 · have hk := zxk hv
   unfold zxo
   by_cases h1 : f.exp < 1
   · rw [YH h1]; rfl
   · rw [YI h1]
     by_cases h2 : f.exp = 1
     · rw [h2]; simp
     · rw [show (f.exp != 1) = true by simpa using h2, YH (show 1 < f.exp by omega)]
       rcases hk with h | h | h | h | h <;> rw [h] <;> rfl
theorem zFl {x : zam} (hi : zfX x = true) : zvF x = zvi x := by
 unfold zfX at hi
 simp only [yK] at hi
 have hf := yl.1 hi.2
 rw [zp0, zoa]
 unfold zvF
 have e : x.factors.l.all zke = x.factors.l.all zgE := by
  rw [Bool.eq_iff_iff, yl, yl]
  exact ⟨fun h f m => by rw [<- zz0 (hf f m)]; exact h f m, fun h f m => by rw [zz0 (hf f m)]; exact h f m⟩
 rw [e]; rfl
theorem zOf (a : Sl zam) : zb2 a = (zpz a && (a.l.all zvF && adj zjq a.l)) := by
 unfold zb2
 rw [zpk, Bool.and_assoc]
 cases hf : zpz a
 · rfl
 · unfold zpz at hf
   simp only [yK] at hf
   have ht := yl.1 hf.2
   have e : a.l.all zvF = a.l.all zvi := by
    rw [Bool.eq_iff_iff, yl, yl]
    exact ⟨fun h f m => by rw [<- zFl (ht f m)]; exact h f m, fun h f m => by rw [zFl (ht f m)]; exact h f m⟩
   rw [e]; rfl
end Go.Ev
namespace Go.Ev
open Go.IntKind (wrap)
noncomputable def zcd (c16 c17 : Sl zam) (c18 c19 : Int) (c20 : Sl zaj) (c21 : Int) (c23 : zam) (sz kk : Nat) : Nat -> Int -> Option (Out (Bool) (Int))
 | 0, _ => none
 | k + 1, s22 =>
   sel (
    bnd (ix c20.l s22) fun (y24 : zaj) =>
    sel (
     bnd (ix c23.factors.l (wrap .i64 (s22 - 1))) fun (y25 : zaj) =>
     bnd (okP (8 * (zby y25.atom + zby y24.atom) + 7 < big - 1)) fun _ =>
     sel (
      bnd (okP (20 * zby y24.atom < sz)) fun _ =>
      sel (
       some (.ret false)) (
       zcd c16 c17 c18 c19 c20 c21 c23 sz kk k (wrap .i64 (s22 + 1))) (!((zr9 y24.atom)))) (
      some (.ret false)) (!(((decide (y24.exp < 1)) || (((zxo y24.atom)) && (y24.exp != 1))) || (decide (0 <= (zb3 y25.atom y24.atom)))))) (
     sel (
      bnd (okP (20 * zby y24.atom < sz)) fun _ =>
      sel (
       some (.ret false)) (
       zcd c16 c17 c18 c19 c20 c21 c23 sz kk k (wrap .i64 (s22 + 1))) (!((zr9 y24.atom)))) (
      some (.ret false)) (!((decide (y24.exp < 1)) || (((zxo y24.atom)) && (y24.exp != 1))))) (decide (0 < s22))) (
    some (.done s22)) (decide (s22 < c21))
noncomputable def zg5 (c7 : Sl zam) (c8 : Int) (c9 : Sl zam) (c10 c11 : Int) (c12 : zam) (sz kk : Nat) : Option (Bool) :=
 sel (
  bnd (ix c7.l (wrap .i64 (c8 - 1))) fun (y13 : zam) =>
  bnd (okP (8 * (zcH y13 + zcH c12) + 4 < big - 1)) fun _ =>
  some (((decide (c12.coeff < 1)) || (decide (1152921504606846976 < c12.coeff))) || (decide (0 <= (ze4 y13 c12))))) (
  sel (
   some false) (
   some true) (!((decide (c12.coeff < 1)) || (decide (1152921504606846976 < c12.coeff))))) (decide (0 < c8))
noncomputable def zcz (c2 c3 : Sl zam) (c4 : Int) (sz kk : Nat) : Nat -> Int -> Option (Out (Bool) (Int))
 | 0, _ => none
 | k + 1, s5 =>
   sel (
    bnd (ix c3.l s5) fun (y6 : zam) =>
    bnd (zg5 c2 s5 c3 c4 s5 y6 sz kk) fun (q15 : Bool) =>
    sel (
     some (.ret false)) (
     zgD (zcd c2 c3 c4 s5 y6.factors (y6.factors.l.length : Int) y6 sz kk kk 0) (fun r => some (.ret r)) fun (q29 : Int) =>
      zcz c2 c3 c4 sz kk k (wrap .i64 (s5 + 1))) (q15)) (
    some (.done s5)) (decide (s5 < c4))
noncomputable def zif (kk sz : Nat) (a : (Sl zam)) : Option (Bool) :=
 bnd (okP (zak a.l < big - 1)) fun _ =>
 sel (
  some false) (
  zgD (zcz a a (a.l.length : Int) sz kk kk 0) (fun r => some r) fun (q30 : Int) =>
   some true) (!((zpz a)))
noncomputable def zeW (c3 : Bool) (c4 : zas) (sz kk : Nat) : Option (Bool) :=
 sel (
  bnd (okP (20 * zcw c4.args.l + 1 < sz)) fun _ =>
  some ((zwZ zos c4.args))) (
  some true) (!((c3) || ((c4.kind != 0) && (!((c4.row.table == 0) && (c4.row.seq == 0))))))
noncomputable def zeX (c1 : zas) (sz kk : Nat) : Option (Bool) :=
 some ((c1.kind != 4) && ((((c1.func != 0) || ((c1.items.l.length : Int) != 0)) || (c1.op != 0)) || (!((c1.bound.kind == 0) && ((c1.bound.int == 0) && (c1.bound.text == []))))))
noncomputable def zga (kk sz : Nat) (a : zas) : Option (Bool) :=
 bnd (zeX a sz kk) fun (q2 : Bool) =>
 bnd (zeW (q2) a sz kk) fun (q6 : Bool) =>
 sel (
  some false) (
  sel (
   some (((zdY a.row)) && ((a.args.l.length : Int) == 0))) (
   sel (
    sel (
     bnd (a.args.l[0]?) fun (y7 : (Sl zam)) =>
     bnd (a.args.l[1]?) fun (y8 : (Sl zam)) =>
     bnd (okP (8 * (zak y7.l + zak y8.l) + 7 < big - 1)) fun _ =>
     some (!((zpq y7 y8)))) (
     some false) ((a.args.l.length : Int) == 2)) (
    sel (
     sel (
      bnd (a.args.l[0]?) fun (y10 : (Sl zam)) =>
      some ((!((zit y10))) && (!((zsh y10))))) (
      some false) ((a.args.l.length : Int) == 1)) (
     sel (
      sel (
       bnd (a.args.l[0]?) fun (y11 : (Sl zam)) =>
       bnd (okP (y11.l.length < big - 1)) fun _ =>
       some (!((zeu y11)))) (
       some false) ((a.args.l.length : Int) == 1)) (
      sel (
       bnd (okP (20 * zbb a.items.l + 1 < sz)) fun _ =>
       sel (
        bnd (okP (8 * zbb a.items.l + 5 < big - 1)) fun _ =>
        sel (
         bnd (okP (a.items.l.length < big - 1)) fun _ =>
         some ((zk1 a.func a.items a.op a.bound))) (
         some false) ((zr4 a.items))) (
        some false) ((((a.args.l.length : Int) == 0) && (decide (0 < (a.items.l.length : Int)))) && (!((zwZ zkr a.items))))) (
       some false) (a.kind == 4)) (a.kind == 3)) (a.kind == 2)) (a.kind == 1)) (a.kind == 0)) (q6)
noncomputable def zeZ (kk sz : Nat) (a : (Sl zam)) : Option (Bool) :=
 bnd (okP (20 * zak a.l + 1 < sz)) fun _ =>
 some ((!((zb2 a))) || ((a.l.length : Int) == 0))
noncomputable def zaG (c1 : Sl (Sl zam)) (c2 : Int) (sz : Nat) (kk : Nat) : Nat -> Int -> Option (Out (Int) (Int))
 | 0, _ => none
 | k + 1, s3 =>
   sel (
    bnd (ix c1.l s3) fun (y4 : (Sl zam)) =>
    bnd (okP (20 * zak y4.l + 2 < sz)) fun _ =>
    sel (
     some (.ret s3)) (
     zaG c1 c2 sz kk k (wrap .i64 (s3 + 1))) ((zos y4))) (
    some (.done s3)) (decide (s3 < c2))
noncomputable def zbi (kk sz : Nat) (a : (Sl (Sl zam))) : Option (Int) :=
 zgD (zaG a (a.l.length : Int) sz kk kk 0) (fun r => some r) fun (q6 : Int) =>
  some (-1)
noncomputable def zba (kk sz : Nat) (a : (Sl (Sl zam))) : Option (Bool) :=
 bnd (okP (20 * zcw a.l < sz)) fun _ =>
 some (decide (0 <= (zyM zos a)))
noncomputable def zeY (kk sz : Nat) (a : zae) : Option (Bool) :=
 bnd (okP (20 * zak a.ann.l + 1 < sz)) fun _ =>
 some ((!((zb2 a.ann))) || ((a.ann.l.length : Int) == 0))
noncomputable def zaJ (c1 : Sl zae) (c2 : Int) (sz kk : Nat) : Nat -> Int -> Option (Out (Int) (Int))
 | 0, _ => none
 | k + 1, s3 =>
   sel (
    bnd (ix c1.l s3) fun (y4 : zae) =>
    bnd (okP (20 * zei y4 < sz)) fun _ =>
    sel (
     some (.ret s3)) (
     zaJ c1 c2 sz kk k (wrap .i64 (s3 + 1))) ((zkr y4))) (
    some (.done s3)) (decide (s3 < c2))
noncomputable def zbq (kk sz : Nat) (a : (Sl zae)) : Option (Int) :=
 zgD (zaJ a (a.l.length : Int) sz kk kk 0) (fun r => some r) fun (q6 : Int) =>
  some (-1)
noncomputable def zbe (kk sz : Nat) (a : (Sl zae)) : Option (Bool) :=
 bnd (okP (20 * zbb a.l < sz)) fun _ =>
 some (decide (0 <= (zyM zkr a)))
end Go.Ev
namespace Go.Ev
theorem zqX {c23 c24 : Sl zam} {c25 c26 : Int} {t : zam} {sz kk k : Nat} (h : 20 * zaD t.factors.l < sz) (hb : sz < big) (hk : t.factors.l.length < k) :
 zcd c23 c24 c25 c26 t.factors (t.factors.l.length : Int) t sz kk k 0 = if t.factors.l.all zke && adj zom t.factors.l then some (.done (t.factors.l.length : Int)) else some (.ret false) := by
 have hl := zbO t.factors.l
 have hb1 : big = 1152921504606846976 := rfl
 refine zpp (xs := t.factors.l) (L := zcd c23 c24 c25 c26 t.factors (t.factors.l.length : Int) t sz kk) zke zom false (fun k => by simp [zcd]) (fun k i hi => ?_) hk
 have ey := yB hi
 have hy := zcS ey
 have hy1 := zcB t.factors.l[i]
 revert ey hy hy1
 generalize t.factors.l[i] = y
 intro ey hy hy1
 simp only [zcd, zdC, YH hi, zat, zbE, ey, zad]
 rw [zar (show 20 * zby y.atom < sz by omega), zaF YJ]
 simp only [zad]
 cases i with
 | zero =>
   rw [zE1 ey]
   unfold zke
   generalize ((decide (y.exp < 1)) || (((zxo y.atom)) && (y.exp != 1))) = u
   cases u <;> cases zr9 y.atom <;> simp
 | succ j =>
   have hj : j < t.factors.l.length := by omega
   have ex := yB hj
   have h2 := zm0 (fun x => zc8 x + 1) ex ey
   rw [<- zp4] at h2
   have hx1 := zcB t.factors.l[j]
   revert ex h2 hx1
   generalize t.factors.l[j] = x
   intro ex h2 hx1
   rw [zzM ex ey, zpj YJ]
   simp only [zbE, ex, zad]
   rw [zar (show 8 * (zby x.atom + zby y.atom) + 7 < big - 1 by omega)]
   unfold zom zke
   generalize ((decide (y.exp < 1)) || (((zxo y.atom)) && (y.exp != 1))) = u
   have e : decide (0 < ((j + 1 : Nat) : Int)) = true := by simp
   rw [e]
   by_cases hc : zb3 x.atom y.atom < 0
   · rw [YH hc, YI (show ¬ 0 <= zb3 x.atom y.atom by omega)]
     cases u <;> cases zr9 y.atom <;> simp
   · rw [YI hc, YH (show 0 <= zb3 x.atom y.atom by omega)]
     cases u <;> cases zr9 y.atom <;> simp
theorem zqY {a : Sl zam} {sz kk k : Nat} (h : 20 * zak a.l + 1 < sz + 1) (hb : sz + 1 < big) (hk : a.l.length < k) (hkk : sz < kk) :
 zcz a a (a.l.length : Int) sz kk k 0 = if a.l.all zvF && adj zjq a.l then some (.done (a.l.length : Int)) else some (.ret false) := by
 have hl := zb4 a.l
 have hb1 : big = 1152921504606846976 := rfl
 refine zpp (xs := a.l) (L := zcz a a (a.l.length : Int) sz kk) zvF zjq false (fun k => by simp [zcz]) (fun k i hi => ?_) hk
 have ey := yB hi
 have hy := zdk ey
 have hy1 := zdq a.l[i]
 have hy2 := zbO a.l[i].factors.l
 revert ey hy hy1 hy2
 generalize a.l[i] = y
 intro ey hy hy1 hy2
 simp only [zcz, zdC, YH hi, zat, zbE, ey, zad]
 rw [zaF YJ, zqX YJ YJ YJ]
 unfold zg5
 cases i with
 | zero =>
   rw [zE1 ey]
   unfold zvF
   generalize (decide (y.coeff < 1)) = u
   generalize (decide (1152921504606846976 < y.coeff)) = u'
   cases u <;> cases u' <;> cases y.factors.l.all zke <;> cases adj zom y.factors.l <;> simp
 | succ j =>
   have hj : j < a.l.length := by omega
   have ex := yB hj
   have h2 := zm0 (fun x => zcH x + 1) ex ey
   rw [<- zuz] at h2
   revert ex h2
   generalize a.l[j] = x
   intro ex h2
   rw [zzM ex ey, zpj YJ]
   simp only [zbE, ex, zad]
   rw [zar (show 8 * (zcH x + zcH y) + 4 < big - 1 by omega)]
   unfold zjq zvF
   rw [show zbF x.factors y.factors = ze4 x y from rfl]
   generalize (decide (y.coeff < 1)) = u
   generalize (decide (1152921504606846976 < y.coeff)) = u'
   have e : decide (0 < ((j + 1 : Nat) : Int)) = true := by simp
   rw [e]
   simp only [zad, zat]
   by_cases hc : ze4 x y < 0
   · rw [YH hc, YI (show ¬ 0 <= ze4 x y by omega)]
     cases u <;> cases u' <;> cases y.factors.l.all zke <;> cases adj zom y.factors.l <;> simp
   · rw [YI hc, YH (show 0 <= ze4 x y by omega)]
     cases u <;> cases u' <;> cases y.factors.l.all zke <;> cases adj zom y.factors.l <;> simp
theorem zsT {kk sz : Nat} {a : Sl zam} (h : 20 * zak a.l + 1 < sz + 1) (hk : sz < kk) (hb : sz + 1 < big) : zif kk sz a = some (zb2 a) := by
 have hl := zb4 a.l
 have hb1 : big = 1152921504606846976 := rfl
 unfold zif
 rw [zar YJ, zqY h hb YJ hk, zOf]
 cases zpz a <;> cases a.l.all zvF <;> cases adj zjq a.l <;> rfl
theorem zo8 {kk sz : Nat} {a : zas} (h : 20 * zby a < sz + 1) (hk : sz < kk) (hb : sz + 1 < big) : zga kk sz a = some (zr9 a) := by
 have hz := zcr a
 have hb1 : big = 1152921504606846976 := rfl
 have h1 := zd6 a.args.l
 have h2 := zcA a.items.l
 unfold zga zr9 zeX
 rw [zad]
 unfold zeW
 rw [zar (show 20 * zcw a.args.l + 1 < sz by omega), zad, zc2, show (((a.kind != 4) && ((((a.func != 0) || ((a.items.l.length : Int) != 0)) || (a.op != 0)) || (!((a.bound.kind == 0) && ((a.bound.int == 0) && (a.bound.text == [])))))) || ((a.kind != 0) && (!((a.row.table == 0) && (a.row.seq == 0))))) = zC4 a from rfl]
 cases zC4 a
 · rw [zaC]
   cases zwZ zos a.args
   · simp only [zad, zaC, yF, if_false]
     simp only [zcs]
     by_cases c0 : a.kind = 0
     · rw [if_pos c0, if_pos c0]
     rw [if_neg c0, if_neg c0]
     by_cases c1 : a.kind = 1
     · rw [if_pos c1, if_pos c1]
       unfold pk1
       by_cases c : (a.args.l.length : Int) = 2
       · obtain ⟨x, y, e⟩ := zLy c
         rw [if_pos c]
         rw [e] at hz ⊢
         simp only [zcw] at hz
         simp only [yH, yX, zad]
         rw [zar (by cases x; cases y; simp only at hz ⊢; omega)]
         rfl
       · rw [if_neg c]
         match hl : a.args.l with
         | [] => rfl
         | [_] => rfl
         | [_, _] => rw [hl] at c; exact absurd rfl c
         | _ :: _ :: _ :: _ => rfl
     rw [if_neg c1, if_neg c1]
     by_cases c2 : a.kind = 2
     · rw [if_pos c2, if_pos c2]
       unfold pk2
       by_cases c : (a.args.l.length : Int) = 1
       · obtain ⟨x, e⟩ := zrq c
         rw [if_pos c, e]
         simp only [yH, zad]
       · rw [if_neg c]
         match hl : a.args.l with
         | [] => rfl
         | [_] => rw [hl] at c; exact absurd rfl c
         | _ :: _ :: _ => rfl
     rw [if_neg c2, if_neg c2]
     by_cases c3 : a.kind = 3
     · rw [if_pos c3, if_pos c3]
       unfold pk3
       by_cases c : (a.args.l.length : Int) = 1
       · obtain ⟨x, e⟩ := zrq c
         rw [if_pos c]
         rw [e] at hz ⊢
         simp only [zcw] at hz
         have hx := zb4 x.l
         simp only [yH, zad]
         rw [zar (show x.l.length < big - 1 by cases x; simp only at hz hx ⊢; omega)]
         rfl
       · rw [if_neg c]
         match hl : a.args.l with
         | [] => rfl
         | [_] => rw [hl] at c; exact absurd rfl c
         | _ :: _ :: _ => rfl
     rw [if_neg c3, if_neg c3]
     by_cases c4 : a.kind = 4
     · rw [if_pos c4, if_pos c4, zar (show 20 * zbb a.items.l + 1 < sz by omega), zad, zar (show 8 * zbb a.items.l + 5 < big - 1 by omega), zad, zar (show a.items.l.length < big - 1 by omega), zad]
       unfold pk4
       cases ((a.args.l.length : Int) == 0) <;> cases decide (0 < (a.items.l.length : Int)) <;> cases zwZ zkr a.items <;> cases zr4 a.items <;> rfl
     rw [if_neg c4, if_neg c4]
   · rfl
 · rfl
theorem znI {kk sz : Nat} {a : Sl zam} (h : 20 * zak a.l + 2 < sz + 1) (hk : sz < kk) (hb : sz + 1 < big) : zeZ kk sz a = some (zos a) := by
 unfold zeZ
 rw [zar (show 20 * zak a.l + 1 < sz by omega)]; rfl
theorem znH {kk sz : Nat} {a : zae} (h : 20 * zei a < sz + 1) (hk : sz < kk) (hb : sz + 1 < big) : zeY kk sz a = some (zkr a) := by
 have := zjp a
 unfold zeY
 rw [zar (show 20 * zak a.ann.l + 1 < sz by omega)]; rfl
theorem zem {kk sz : Nat} {a : Sl (Sl zam)} (h : 20 * zcw a.l < sz + 1) (hk : sz < kk) (hb : sz + 1 < big) : zbi kk sz a = some (zyM zos a) := by
 have hl := zd6 a.l
 unfold zbi zyM
 refine ztd (xs := a.l) zos (fun k => by simp [zaG]) (fun k i x hi ex => ?_) YJ
 have hx := zfQ ex
 simp only [zaG, zdC, YH hi, zat, zbE, ex, zad]
 rw [zar YJ, zad, zaF YJ, zdB]
theorem zeM {kk sz : Nat} {a : Sl zae} (h : 20 * zbb a.l < sz + 1) (hk : sz < kk) (hb : sz + 1 < big) : zbq kk sz a = some (zyM zkr a) := by
 have hl := zcA a.l
 unfold zbq zyM
 refine ztd (xs := a.l) zkr (fun k => by simp [zaJ]) (fun k i x hi ex => ?_) YJ
 have hx := zil ex
 simp only [zaJ, zdC, YH hi, zat, zbE, ex, zad]
 rw [zar YJ, zad, zaF YJ, zdB]
theorem zdP {kk sz : Nat} {a : Sl (Sl zam)} (h : 20 * zcw a.l + 1 < sz + 1) (hk : sz < kk) (hb : sz + 1 < big) : zba kk sz a = some (zwZ zos a) := by
 unfold zba zyM zwZ
 rw [zar YJ, zjQ]; rfl
theorem zec {kk sz : Nat} {a : Sl zae} (h : 20 * zbb a.l + 1 < sz + 1) (hk : sz < kk) (hb : sz + 1 < big) : zbe kk sz a = some (zwZ zkr a) := by
 unfold zbe zyM zwZ
 rw [zar YJ, zjQ]; rfl
end Go.Ev
