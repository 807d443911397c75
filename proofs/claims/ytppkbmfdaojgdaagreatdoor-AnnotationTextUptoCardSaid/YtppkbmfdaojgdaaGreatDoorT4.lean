/- AnnotationText: for every annotation and string that hold together at most 1048576 values and letters, the law returns true. Condition: that bound (the Upto form). -/
import Derived.IntWalk
import Derived.Test.YtppkbmfdaojgdaaGreatDoorT2
set_option linter.all false
namespace Go.Ev
@[simp] theorem zaw {α : Type} (A B : Option α) : sel A B true = A := rfl
@[simp] theorem zbD {α : Type} (A B : Option α) : sel A B false = B := rfl
theorem zdK {α : Type} (A B : Option α) (b : Bool) : sel A B b = if b = true then A else B := by cases b <;> rfl
@[simp] theorem zAE {α β : Type} [BEq β] [LawfulBEq β] [DecidableEq β] (A B : Option α) (a b : β) : sel A B (a != b) = if a = b then B else A := by
  by_cases h : a = b <;> simp [h, zdK]
@[simp] theorem zcr {α β : Type} [BEq β] [LawfulBEq β] [DecidableEq β] (A B : Option α) (a b : β) : sel A B (a == b) = if a = b then A else B := by
  by_cases h : a = b <;> simp [h, zdK]
@[simp] theorem zdv {α : Type} (A B : Option α) (b : Bool) : sel A B (!b) = sel B A b := by cases b <;> rfl
@[simp] theorem zjl {α : Type} (A B : Option α) (p : Prop) [Decidable p] : sel A B (decide p) = if p then A else B := by
  by_cases h : p <;> simp [h, zdK]
attribute [simp] zaf zMq
@[simp] theorem zo2 {R S β : Type} (r : R) (f : R → Option β) (g : S → Option β) : zhy (some (.ret r)) f g = f r := rfl
@[simp] theorem zbE {R S β : Type} (s : S) (f : R → Option β) (g : S → Option β) : zhy (some (.done s)) f g = g s := rfl
def big : Nat := 1152921504606846976
theorem zc3 {n : Int} (h1 : -9223372036854775808 ≤ n) (h2 : n ≤ 9223372036854775807) : IntKind.wrap .i64 n = n := by
 exact IntWalk.i64_in n ⟨h1, h2⟩
theorem zaL {i : Nat} (h : i < big) : IntKind.wrap .i64 ((i : Int) + 1) = ((i + 1 : Nat) : Int) := by
 have : big = 1152921504606846976 := rfl
 rw [zc3 (by omega) (by omega)]; rfl
theorem zbO {α : Type} (l : List α) (i : Nat) : ix l (i : Int) = l[i]? := by
 unfold ix; rw [if_pos (by omega)]; simp
theorem ziN (a : Int) : zfG a a = 0 := by simp [zfG]
def zhV {α : Type} (f : α → α → Int) : List α → List α → Int
 | x :: xs, y :: ys => orI (f x y) (zhV f xs ys)
 | _, _ => 0
theorem zFn {α : Type} (f : α → α → Int) (xs ys : List α) : zwC f xs ys = orI (zhV f xs ys) (zfG xs.length ys.length) := by
 induction xs generalizing ys with
 | nil => cases ys <;> simp [zwC, zhV, orI, zfG]
 | cons x xs ih =>
   cases ys with
   | nil => simp [zwC, zhV, orI, zfG]; omega
   | cons y ys =>
     have e : zfG ((xs.length : Int) + 1) ((ys.length : Int) + 1) = zfG xs.length ys.length := by simp [zfG]
     simp only [zwC, zhV, ih, List.length_cons, Int.natCast_add, Int.natCast_one, e, orI]
     by_cases h : f x y = 0 <;> simp [h]
theorem zz0 {a b : Int} (h : a ≠ 0) : orI a b = a := by simp [orI, h]
theorem zEN {a b : Int} (h : a = 0) : orI a b = b := by simp [orI, h]
theorem zzp (a : Str) : zda a a = false := by
 induction a with
 | nil => rfl
 | cons x a ih => simp [zda, ih]
theorem zFr {a b : Str} (h : a ≠ b) (h1 : zda a b = false) : zda b a = true := by
 induction a generalizing b with
 | nil => cases b with
   | nil => exact absurd rfl h
   | cons y b => simp [zda] at h1
 | cons x a ih => cases b with
   | nil => rfl
   | cons y b =>
     simp only [zda, Bool.or_eq_false_iff, Bool.and_eq_false_iff, decide_eq_false_iff_not] at h1
     simp only [zda, Bool.or_eq_true, Bool.and_eq_true, decide_eq_true_eq, beq_iff_eq]
     obtain ⟨h2, h3⟩ := h1
     by_cases e : x = y
     · subst e
       right
       refine ⟨rfl, ih (fun e => h (by rw [e])) ?_⟩
       rcases h3 with h3 | h3
       · simp at h3
       · exact h3
     · left
       rw [UInt8.lt_iff_toNat_lt] at h2 ⊢
       have : x.toNat ≠ y.toNat := fun e' => e (UInt8.toNat_inj.1 e')
       omega
end Go.Ev
namespace Go.Ev
theorem zdL (i n : Nat) : decide ((i : Int) < (n : Int)) = decide (i < n) := by
 by_cases h : i < n <;> simp [h]
theorem zLr {α : Type} {L : Nat → Int → Option (Out Int Int)} {xs ys : List α} {f : α → α → Int} (T : α → α → Option (Out Int Int) → Option (Out Int Int))
 (hL : ∀ k i, L (k + 1) i = sel (bnd (ix xs i) fun x => bnd (ix ys i) fun y => T x y (L k (IntKind.wrap .i64 (i + 1)))) (some (.done i)) (decide (i < (xs.length : Int)) && decide (i < (ys.length : Int))))
 (hT : ∀ (i : Nat) x y R, xs[i]? = some x → ys[i]? = some y → T x y R = if f x y = 0 then R else some (.ret (f x y))) (hb : xs.length < big) :
 ∀ (k i : Nat), i ≤ xs.length → i ≤ ys.length → xs.length - i < k → ∃ j : Int, L k i = if zhV f (xs.drop i) (ys.drop i) = 0 then some (.done j) else some (.ret (zhV f (xs.drop i) (ys.drop i))) := by
 intro k
 induction k with
 | zero => intro i _ _ h; omega
 | succ k ih =>
   intro i h1 h2 h3
   rw [hL, zdL, zdL]
   by_cases hx : i < xs.length
   · by_cases hy : i < ys.length
     · have ex := List.getElem?_eq_getElem hx
       have ey := List.getElem?_eq_getElem hy
       obtain ⟨j, hj⟩ := ih (i + 1) (by omega) (by omega) (by omega)
       refine ⟨j, ?_⟩
       simp only [decide_eq_true hx, decide_eq_true hy, Bool.and_self, zaw, zbO, ex, ey, zaf]
       rw [hT i _ _ _ ex ey, zaL (by omega), hj, List.drop_eq_getElem_cons hx, List.drop_eq_getElem_cons hy]
       simp only [zhV]
       by_cases e : f xs[i] ys[i] = 0
       · rw [if_pos e]; simp only [zEN e]
       · rw [if_neg e]; simp only [zz0 e, if_neg e]
     · refine ⟨i, ?_⟩
       have : ys.drop i = [] := List.drop_eq_nil_of_le (by omega)
       have e : zhV f (xs.drop i) (ys.drop i) = 0 := by rw [this]; cases xs.drop i <;> rfl
       simp [hy, e]
   · refine ⟨i, ?_⟩
     have : xs.drop i = [] := List.drop_eq_nil_of_le (by omega)
     have e : zhV f (xs.drop i) (ys.drop i) = 0 := by rw [this]; cases ys.drop i <;> rfl
     simp [hx, e]
theorem zyE (kk : Nat) (a b : Int) : znh kk a b = some (zfG a b) := by
 unfold znh zfG
 by_cases h : a < b
 · simp [h]
 · by_cases k : b < a <;> simp [h, k]
theorem zB1 (kk : Nat) (a : Bool) : zvR kk a = some (sgn a) := by cases a <;> rfl
theorem zth (kk : Nat) (a b : zbw) : ziY kk a b = some (zok a b) := by
 unfold ziY zok orI
 by_cases h : zfG a.table b.table = 0 <;> simp [h]
theorem zGE {a b : Int} (h : a ≠ b) : sgn (decide (a < b)) = zfG a b := by
 unfold sgn zfG
 by_cases k : a < b
 · simp [k]
 · have : b < a := by omega
   simp [k, this]
theorem zKr {a b : Int} (h : a ≠ b) : zfG a b ≠ 0 := by
 unfold zfG
 by_cases k : a < b
 · simp [k]
 · have : b < a := by omega
   simp [k, this]
theorem zMk {a b : Str} (h : a ≠ b) : sgn (zda a b) = zFk a b := by
 unfold sgn zFk
 cases k : zda a b
 · simp [zFr h k]
 · simp
theorem zDE (a : Str) : zFk a a = 0 := by simp [zFk, zzp]
theorem zwO (kk : Nat) (a b : Val) : zlI kk a b = some (zgW a b) := by
 unfold zlI zgW
 by_cases h1 : a.kind = b.kind
 · by_cases h2 : a.int = b.int
   · by_cases h3 : a.text = b.text
     · simp [h1, h2, h3, ziN, zDE, orI]
     · simp [h1, h2, h3, ziN, zMk h3, orI]
   · simp [h1, h2, ziN, zGE h2, zEN, zz0 (zKr h2)]
 · simp [h1, zGE h1, zz0 (zKr h1)]
theorem zNj {α : Type} {L : Nat → Int → Option (Out Int Int)} {xs ys : List α} {f : α → α → Int} {kk : Nat} (hk : xs.length < kk) (g : Option Int)
 (h : ∃ j : Int, L kk ((0 : Nat) : Int) = if zhV f (xs.drop 0) (ys.drop 0) = 0 then some (.done j) else some (.ret (zhV f (xs.drop 0) (ys.drop 0)))) (G : Int → Option Int)
 (hG : ∀ q, G q = some (zfG (xs.length : Int) (ys.length : Int))) : zhy (L kk 0) (fun r => some r) G = some (zwC f xs ys) := by
 obtain ⟨j, hj⟩ := h
 simp only [List.drop_zero] at hj
 have h0 : L kk 0 = L kk ((0 : Nat) : Int) := rfl
 rw [h0, hj, zFn]
 by_cases e : zhV f xs ys = 0
 · rw [if_pos e, zbE, hG, zEN e]
 · rw [if_neg e, zo2, zz0 e]
theorem zpI {kk sz : Nat} {a b : Sl zai} (hs : zaB a.l + zaB b.l ≤ sz) (hb : sz < big) (hk : sz < kk) : zgJ kk sz a b = some (zbF a b) := by
 have hl := zbM a.l
 unfold zgJ zbF
 rw [zug]
 refine zNj (f := zcs) (by omega) none (zLr (f := zcs) (fun x y R => bnd (okP (zbx x.atom + zbx y.atom < sz)) fun _ =>
  sel (some (.ret (zb0 x.atom y.atom))) (sel (some (.ret (zfG x.exp y.exp))) R (zfG x.exp y.exp != 0)) (zb0 x.atom y.atom != 0)) (fun k i => rfl) ?_ (by omega) kk 0 (Nat.zero_le _) (Nat.zero_le _) (by omega)) _ (fun q => rfl)
 intro i x y R hx hy
 have h1 := zcQ hx
 have h2 := zcQ hy
 rw [zcA] at h1 h2
 rw [zat (by omega), zm9]
 by_cases e : zb0 x.atom y.atom = 0
 · by_cases e2 : zfG x.exp y.exp = 0 <;> simp [e, e2, orI]
 · simp [e, orI]
theorem zrx {kk sz : Nat} {a b : Sl zad} (hs : za9 a.l + za9 b.l ≤ sz) (hb : sz < big) (hk : sz < kk) : zhB kk sz a b = some (zcG a b) := by
 have hl := zcz a.l
 unfold zhB zcG
 rw [zyd]
 refine zNj (f := zcS) (by omega) none (zLr (f := zcS) (fun x y R => sel (some (.ret (zgW x.value y.value))) (bnd (okP (zak x.ann.l + zak y.ann.l < sz)) fun _ =>
  sel (some (.ret (zcH x.ann y.ann))) R (zcH x.ann y.ann != 0)) (zgW x.value y.value != 0)) (fun k i => rfl) ?_ (by omega) kk 0 (Nat.zero_le _) (Nat.zero_le _) (by omega)) _ (fun q => rfl)
 intro i x y R hx hy
 have h1 := zhJ hx
 have h2 := zhJ hy
 rw [ziG] at h1 h2
 rw [zat (by omega), zlS]
 by_cases e : zgW x.value y.value = 0
 · by_cases e2 : zcH x.ann y.ann = 0 <;> simp [e, e2, orI]
 · simp [e, orI]
theorem zwM {kk sz : Nat} {a b : Sl zal} (hs : zak a.l + zak b.l ≤ sz) (hb : sz < big) (hk : sz < kk) : zlG kk sz a b = some (zcH a b) := by
 have hl := zb3 a.l
 unfold zlG zcH
 rw [zyc]
 refine zNj (f := zfa) (by omega) none (zLr (f := zfa) (fun x y R => bnd (okP (zaB x.factors.l + zaB y.factors.l < sz)) fun _ =>
  sel (some (.ret (zbF x.factors y.factors))) (sel (some (.ret (zfG x.coeff y.coeff))) R (zfG x.coeff y.coeff != 0)) (zbF x.factors y.factors != 0)) (fun k i => rfl) ?_ (by omega) kk 0 (Nat.zero_le _) (Nat.zero_le _) (by omega)) _ (fun q => rfl)
 intro i x y R hx hy
 have h1 := zdh hx
 have h2 := zdh hy
 rw [zdm] at h1 h2
 rw [zat (by omega), zlR]
 unfold zbF
 by_cases e : zbV x.factors.l y.factors.l = 0
 · by_cases e2 : zfG x.coeff y.coeff = 0 <;> simp [e, e2, orI]
 · simp [e, orI]
theorem zsi {kk sz : Nat} {a b : zan} (hs : zbx a + zbx b ≤ sz) (hb : sz < big) (hk : sz < kk) : zir kk sz a b = some (zb0 a b) := by
 rw [zcq, zcq] at hs
 have hl := zd2 a.args.l
 obtain ⟨j, hj⟩ := zLr (L := zdk a b sz kk) (f := zcH) (fun x y R => bnd (okP (zak x.l + zak y.l < sz)) fun _ => sel (some (.ret (zcH x y))) R (zcH x y != 0)) (fun k i => rfl) (by
  intro i x y R hx hy
  have h1 := zfy hx
  have h2 := zfy hy
  rw [zat (by omega)]
  by_cases e : zcH x y = 0 <;> simp [e]) (by omega) kk 0 (Nat.zero_le _) (Nat.zero_le _) (by omega)
 simp only [List.drop_zero] at hj
 have h0 : zdk a b sz kk kk 0 = zdk a b sz kk kk ((0 : Nat) : Int) := rfl
 unfold zir
 rw [zlT, zjd, zFn, h0, hj, zat (by omega)]
 unfold zcG
 by_cases e1 : zfG a.kind b.kind = 0
 · by_cases e2 : zok a.row b.row = 0
   · by_cases e3 : zhV zcH a.args.l b.args.l = 0
     · by_cases e4 : zfG (a.args.l.length : Int) (b.args.l.length : Int) = 0
       · by_cases e5 : zfG a.func b.func = 0
         · by_cases e6 : zcR a.items.l b.items.l = 0
           · by_cases e7 : zfG a.op b.op = 0 <;> simp [e1, e2, e3, e4, e5, e6, e7, orI]
           · simp [e1, e2, e3, e4, e5, e6, orI]
         · simp [e1, e2, e3, e4, e5, orI]
       · simp [e1, e2, e3, e4, orI]
     · simp [e1, e2, e3, orI]
   · simp [e1, e2, orI]
 · simp [e1, orI]
end Go.Ev
namespace Go.Ev
theorem zFS {α : Type} {L : Nat → Int → Option (Out Int Int)} {xs ys : List α} {f : α → α → Int} (T : α → α → Option (Out Int Int) → Option (Out Int Int))
 (hL : ∀ k i, L (k + 1) i = sel (bnd (ix xs i) fun x => sel (some (.ret 1)) (bnd (ix ys i) fun y => T x y (L k (IntKind.wrap .i64 (i + 1)))) (decide ((ys.length : Int) ≤ i))) (some (.done i)) (decide (i < (xs.length : Int))))
 (hT : ∀ (i : Nat) x y R, xs[i]? = some x → ys[i]? = some y → T x y R = if f x y = 0 then R else some (.ret (f x y))) (hb : xs.length < big) :
 ∀ (k i : Nat), i ≤ xs.length → i ≤ ys.length → xs.length - i < k → (∃ j : Int, L k i = some (.done j) ∧ xs.length ≤ ys.length ∧ zhV f (xs.drop i) (ys.drop i) = 0) ∨ L k i = some (.ret (zwC f (xs.drop i) (ys.drop i))) := by
 intro k
 induction k with
 | zero => intro i _ _ h; omega
 | succ k ih =>
   intro i h1 h2 h3
   rw [hL, zdL]
   by_cases hx : i < xs.length
   · have ex := List.getElem?_eq_getElem hx
     by_cases hy : i < ys.length
     · have ey := List.getElem?_eq_getElem hy
       have hle : decide ((ys.length : Int) ≤ (i : Int)) = false := decide_eq_false (by omega)
       simp only [decide_eq_true hx, zaw, zbO, ex, ey, zaf, hle, zbD]
       rw [hT i _ _ _ ex ey, zaL (by omega), List.drop_eq_getElem_cons hx, List.drop_eq_getElem_cons hy]
       by_cases e : f xs[i] ys[i] = 0
       · rw [if_pos e]
         rcases ih (i + 1) (by omega) (by omega) (by omega) with ⟨j, a, b, c⟩ | a
         · exact .inl ⟨j, a, b, by simp only [zhV, zEN e, c]⟩
         · exact .inr (by simp only [a, zwC, zEN e])
       · rw [if_neg e]
         exact .inr (by simp only [zwC, zz0 e])
     · have hle : decide ((ys.length : Int) ≤ (i : Int)) = true := decide_eq_true (by omega)
       simp only [decide_eq_true hx, zaw, zbO, ex, zaf, hle]
       have : ys.drop i = [] := List.drop_eq_nil_of_le (by omega)
       exact .inr (by rw [this, List.drop_eq_getElem_cons hx]; rfl)
   · refine .inl ⟨i, by simp [hx], by omega, ?_⟩
     have : xs.drop i = [] := List.drop_eq_nil_of_le (by omega)
     rw [this]; cases ys.drop i <;> rfl
theorem zAF {α : Type} {L : Nat → Int → Option (Out Int Int)} {xs ys : List α} {f : α → α → Int} {kk : Nat}
 (h : (∃ j : Int, L kk ((0 : Nat) : Int) = some (.done j) ∧ xs.length ≤ ys.length ∧ zhV f (xs.drop 0) (ys.drop 0) = 0) ∨ L kk ((0 : Nat) : Int) = some (.ret (zwC f (xs.drop 0) (ys.drop 0)))) (G : Int → Option Int)
 (hG : ∀ q, G q = sel (some (-1)) (some 0) (decide ((xs.length : Int) < (ys.length : Int)))) : zhy (L kk 0) (fun r => some r) G = some (zwC f xs ys) := by
 have h0 : L kk 0 = L kk ((0 : Nat) : Int) := rfl
 simp only [List.drop_zero] at h
 rw [h0]
 rcases h with ⟨j, a, b, c⟩ | a
 · rw [a, zbE, hG, zFn, zEN c, zdL]
   unfold zfG
   by_cases e : xs.length < ys.length
   · simp [e]
   · have : xs.length = ys.length := by omega
     simp [this]
 · rw [a, zo2]
@[simp] theorem zRI (a : Int) : orI a 0 = a := by unfold orI; split <;> simp_all
@[simp] theorem zPU (a b c : Int) : orI (orI a b) c = orI a (orI b c) := by unfold orI; split <;> simp_all
theorem zuO (kk : Nat) (a : Int) : zjZ kk a = some (zHv a) := by simp [zjZ, zHv]
theorem zsj (kk : Nat) (a : Int) : zis kk a = some (zHv a) := by simp [zis, zHv]
theorem zll (kk : Nat) (a b : Int) : zit kk a b = some (zfG a b) := by
 unfold zit zfG zHv
 by_cases h : a < b
 · simp [h]
 · by_cases k : b < a <;> simp [h, k]
theorem zqv (kk : Nat) (a b : Int) : zi4 kk a b = some (zfG a b) := zll kk a b
theorem zHn {l : List Int} {i : Nat} (h : i < l.length) : zqS (l.drop i) = orI l[i] (zqS (l.drop (i + 1))) := by
 rw [List.drop_eq_getElem_cons h]; rfl
theorem zyK (kk : Nat) (a : Sl Int) (h : a.l.length < 100) : znn (kk + 100) a = some (orL a) := by
 have key : ∀ (k i : Nat), i ≤ a.l.length → a.l.length - i < k → (zqS (a.l.drop i) = 0 ∧ ∃ j, zee a (a.l.length : Int) (kk + 100) k i = some (.done j)) ∨ zee a (a.l.length : Int) (kk + 100) k i = some (.ret (zqS (a.l.drop i))) := by
  intro k
  induction k with
  | zero => intro i _ h; omega
  | succ k ih =>
    intro i h1 h3
    unfold zee
    rw [zdL]
    by_cases hx : i < a.l.length
    · have ex := List.getElem?_eq_getElem hx
      simp only [decide_eq_true hx, zaw, zbO, ex, zaf]
      rw [zaL (by unfold big; omega), zHn hx]
      by_cases e : a.l[i] = 0
      · rw [e]
        simp only [bne_self_eq_false, zbD, zEN rfl]
        exact ih (i + 1) (by omega) (by omega)
      · right
        simp [e, zz0 e]
    · left
      have : a.l.drop i = [] := List.drop_eq_nil_of_le (by omega)
      rw [this]
      exact ⟨rfl, i, by simp [hx]⟩
 unfold znn orL
 have h0 : zee a (a.l.length : Int) (kk + 100) (kk + 100) 0 = zee a (a.l.length : Int) (kk + 100) (kk + 100) ((0 : Nat) : Int) := rfl
 rw [h0]
 rcases key (kk + 100) 0 (Nat.zero_le _) (by omega) with ⟨a1, j, a2⟩ | a2
 · simp only [List.drop_zero] at a1; rw [a2, a1]; rfl
 · rw [a2]; simp
theorem zuJ (kk : Nat) (a b : Val) : zjV kk a b = some (zgW a b) := by
 unfold zjV
 rw [zat (by simp)]
 simp [orL, zqS, zgW]
theorem zfA {kk sz : Nat} {a b : Sl zal} (hs : 8 * (zak a.l + zak b.l) + 6 ≤ sz) (hb : sz < big) (hk : sz < kk) : zbz kk sz a b = some (zcH a b) := by
 have hl := zb3 a.l
 unfold zbz zcH
 rw [zyc]
 refine zAF (f := zfa) (zFS (f := zfa) (fun x y R => bnd (okP (8 * (zcF x + zcF y) + 5 < sz)) fun _ => sel (some (.ret (zfa x y))) R (zfa x y != 0)) (fun k i => rfl) ?_ (by omega) kk 0 (Nat.zero_le _) (Nat.zero_le _) (by omega)) _ (fun q => rfl)
 intro i x y R hx hy
 have h1 := zdh hx
 have h2 := zdh hy
 rw [zat (by omega)]
 by_cases e : zfa x y = 0 <;> simp [e]
theorem zd8 {kk sz : Nat} {a b : Sl zai} (hs : 8 * (zaB a.l + zaB b.l) + 7 ≤ sz) (hb : sz < big) (hk : sz < kk) : zbe kk sz a b = some (zbF a b) := by
 have hl := zbM a.l
 unfold zbe zbF
 rw [zug]
 refine zAF (f := zcs) (zFS (f := zcs) (fun x y R => bnd (okP (8 * (zc4 x + zc4 y) + 5 < sz)) fun _ => sel (some (.ret (zcs x y))) R (zcs x y != 0)) (fun k i => rfl) ?_ (by omega) kk 0 (Nat.zero_le _) (Nat.zero_le _) (by omega)) _ (fun q => rfl)
 intro i x y R hx hy
 have h1 := zcQ hx
 have h2 := zcQ hy
 rw [zat (by omega)]
 by_cases e : zcs x y = 0 <;> simp [e]
theorem zd7 {kk sz : Nat} {a b : Sl zad} (hs : 8 * (za9 a.l + za9 b.l) + 6 ≤ sz) (hb : sz < big) (hk : sz < kk) : zbd kk sz a b = some (zcG a b) := by
 have hl := zcz a.l
 unfold zbd zcG
 rw [zyd]
 refine zAF (f := zcS) (zFS (f := zcS) (fun x y R => bnd (okP (8 * (zec x + zec y) + 5 < sz)) fun _ => sel (some (.ret (zcS x y))) R (zcS x y != 0)) (fun k i => rfl) ?_ (by omega) kk 0 (Nat.zero_le _) (Nat.zero_le _) (by omega)) _ (fun q => rfl)
 intro i x y R hx hy
 have h1 := zhJ hx
 have h2 := zhJ hy
 rw [zat (by omega)]
 by_cases e : zcS x y = 0 <;> simp [e]
theorem zeF {kk sz : Nat} {a b : Sl (Sl zal)} (hs : 8 * (zcv a.l + zcv b.l) + 6 ≤ sz) (hb : sz < big) (hk : sz < kk) : zbp kk sz a b = some (zpo a b) := by
 have hl := zd2 a.l
 unfold zbp zpo
 rw [zjd]
 refine zAF (f := zcH) (zFS (f := zcH) (fun x y R => bnd (okP (8 * (zak x.l + zak y.l) + 7 < sz)) fun _ => sel (some (.ret (zcH x y))) R (zcH x y != 0)) (fun k i => rfl) ?_ (by omega) kk 0 (Nat.zero_le _) (Nat.zero_le _) (by omega)) _ (fun q => rfl)
 intro i x y R hx hy
 have h1 := zfy hx
 have h2 := zfy hy
 rw [zat (by omega)]
 by_cases e : zcH x y = 0 <;> simp [e]
theorem zpN {kk sz : Nat} {a b : Sl zal} (hs : 8 * (zak a.l + zak b.l) + 7 ≤ sz) (hb : sz < big) (hk : sz < kk) : zgN kk sz a b = some (zcH a b) := by
 unfold zgN; rw [zat (by omega)]; rfl
theorem znU {kk sz : Nat} {a b : zal} (hs : 8 * (zcF a + zcF b) + 5 ≤ sz) (hb : sz < big) (hk : sz < kk) : zfT kk sz a b = some (zfa a b) := by
 unfold zfT; rw [zat (by omega), zat (by simp), zlR]
 simp [orL, zqS, zeU]
theorem zlL {kk sz : Nat} {a b : zal} (hs : 8 * (zcF a + zcF b) + 4 ≤ sz) (hb : sz < big) (hk : sz < kk) : zei kk sz a b = some (zeU a b) := by
 rw [zdm, zdm] at hs
 unfold zei; rw [zat (by omega)]; rfl
theorem zkT {kk sz : Nat} {a b : zai} (hs : 8 * (zc4 a + zc4 b) + 5 ≤ sz) (hb : sz < big) (hk : sz < kk) : zdH kk sz a b = some (zcs a b) := by
 rw [zcA, zcA] at hs
 unfold zdH; rw [zat (by omega), zat (by simp), zm9]
 simp [orL, zqS]
theorem zlM {kk sz : Nat} {a b : zad} (hs : 8 * (zec a + zec b) + 5 ≤ sz) (hb : sz < big) (hk : sz < kk) : zej kk sz a b = some (zcS a b) := by
 rw [ziG, ziG] at hs
 unfold zej; rw [zat (by omega), zat (by simp), zlS]
 simp [orL, zqS]
theorem zlN {kk sz : Nat} {a b : zan} (hs : 8 * (zbx a + zbx b) + 7 ≤ sz) (hb : sz < big) (hk : sz < kk) : zek kk sz a b = some (zb0 a b) := by
 rw [zcq, zcq] at hs
 unfold zek; rw [zat (by omega), zat (by omega), zat (by simp), zlT]
 simp [orL, zqS, zpo, zcG, zok]
end Go.Ev
namespace Go.Ev
mutual
def zks : zal → Nat
 | .mk _ ⟨_, fs⟩ => 1 + zdi fs
def zdi : List zai → Nat
 | [] => 0
 | x :: xs => 1 + zeK x + zdi xs
def zeK : zai → Nat
 | .mk a _ => zmW a
def zmW : zan → Nat
 | .mk _ _ ⟨_, as⟩ _ ⟨_, is⟩ _ _ => zhw as + zfD is
def zhw : List (Sl zal) → Nat
 | [] => 0
 | ⟨_, x⟩ :: xs => zdW x + zhw xs
def zdW : List zal → Nat
 | [] => 0
 | x :: xs => zks x + zdW xs
def zfD : List zad → Nat
 | [] => 0
 | x :: xs => zkt x + zfD xs
def zkt : zad → Nat
 | .mk _ ⟨_, l⟩ => 1 + zdW l
end
def zlq (a : Sl zal) : Int := (zdW a.l : Nat)
mutual
def ziU : zal → Nat
 | .mk _ ⟨_, fs⟩ => zd4 fs
def zd4 : List zai → Nat
 | [] => 0
 | x :: xs => max (zf5 x) (zd4 xs)
def zf5 : zai → Nat
 | .mk a _ => zlt a
def zlt : zan → Nat
 | .mk k _ ⟨_, as⟩ _ ⟨_, is⟩ _ _ => if k = 0 then 0 else 1 + max (zif as) (zgb is)
def zif : List (Sl zal) → Nat
 | [] => 0
 | ⟨_, x⟩ :: xs => max (zcd x) (zif xs)
def zcd : List zal → Nat
 | [] => 0
 | x :: xs => max (ziU x) (zcd xs)
def zgb : List zad → Nat
 | [] => 0
 | x :: xs => max (zie x) (zgb xs)
def zie : zad → Nat
 | .mk _ ⟨_, l⟩ => zcd l
end
def zjs (a : Sl zal) : Int := (zcd a.l : Nat)
theorem zoN (x : zal) : zks x = 1 + zdi x.factors.l := by rcases x with ⟨c, ⟨f, l⟩⟩; simp only [zks, zal.factors]
theorem ztE (x : zai) : zeK x = zmW x.atom := by cases x; simp only [zeK, zai.atom]
theorem zoO (x : zad) : zkt x = 1 + zdW x.ann.l := by rcases x with ⟨v, ⟨f, l⟩⟩; simp only [zkt, zad.ann]
theorem zoP (x : zan) : zmW x = zhw x.args.l + zfD x.items.l := by
 rcases x with ⟨k, r, ⟨f, a⟩, fn, ⟨g, i⟩, o, b⟩; simp only [zmW, zan.args, zan.items]
theorem zl3 (x : zal) : ziU x = zd4 x.factors.l := by rcases x with ⟨c, ⟨f, l⟩⟩; simp only [ziU, zal.factors]
theorem zo7 (x : zai) : zf5 x = zlt x.atom := by cases x; simp only [zf5, zai.atom]
theorem zl4 (x : zad) : zie x = zcd x.ann.l := by rcases x with ⟨v, ⟨f, l⟩⟩; simp only [zie, zad.ann]
theorem zkg (x : zan) : zlt x = if x.kind = 0 then 0 else 1 + max (zif x.args.l) (zgb x.items.l) := by
 rcases x with ⟨k, r, ⟨f, a⟩, fn, ⟨g, i⟩, o, b⟩; simp only [zlt, zan.args, zan.items, zan.kind]; rfl
mutual
theorem zCv (x : zal) : zks x ≤ zcF x := by
 rcases x with ⟨c, ⟨f, l⟩⟩; simp only [zks, zcF]; have := zqM l; omega
theorem zqM (l : List zai) : zdi l ≤ zaB l := by
 cases l with
 | nil => simp [zdi]
 | cons x l => simp only [zdi, zaB]; have := zy0 x; have := zqM l; omega
theorem zy0 (x : zai) : zeK x ≤ zc4 x := by
 cases x with | mk a e => simp only [zeK, zc4]; have := zCx a; omega
theorem zCx (x : zan) : zmW x ≤ zbx x := by
 rcases x with ⟨k, r, ⟨f, a⟩, fn, ⟨g, i⟩, o, b⟩; simp only [zmW, zbx]; have := zv1 a; have := ztB i; omega
theorem zv1 (l : List (Sl zal)) : zhw l ≤ zcv l := by
 rcases l with _ | ⟨⟨f, x⟩, l⟩
 · simp [zhw]
 · simp only [zhw, zcv]; have := zjk x; have := zv1 l; omega
theorem zjk (l : List zal) : zdW l ≤ zak l := by
 cases l with
 | nil => simp [zdW]
 | cons x l => simp only [zdW, zak]; have := zCv x; have := zjk l; omega
theorem ztB (l : List zad) : zfD l ≤ za9 l := by
 cases l with
 | nil => simp [zfD]
 | cons x l => simp only [zfD, za9]; have := zCw x; have := ztB l; omega
theorem zCw (x : zad) : zkt x ≤ zec x := by
 rcases x with ⟨v, ⟨f, l⟩⟩; simp only [zkt, zec]; have := zjk l; omega
end
mutual
theorem zC4 (x : zal) : ziU x ≤ zcF x := by
 rcases x with ⟨c, ⟨f, l⟩⟩; simp only [ziU, zcF]; have := zqV l; omega
theorem zqV (l : List zai) : zd4 l ≤ zaB l := by
 cases l with
 | nil => simp [zd4]
 | cons x l => simp only [zd4, zaB]; have := zy9 x; have := zqV l; omega
theorem zy9 (x : zai) : zf5 x ≤ zc4 x := by
 cases x with | mk a e => simp only [zf5, zc4]; have := zC6 a; omega
theorem zC6 (x : zan) : zlt x ≤ zbx x := by
 rcases x with ⟨k, r, ⟨f, a⟩, fn, ⟨g, i⟩, o, b⟩; simp only [zlt, zbx]; have := zqW a; have := zo4 i; split <;> omega
theorem zqW (l : List (Sl zal)) : zif l ≤ zcv l := by
 rcases l with _ | ⟨⟨f, x⟩, l⟩
 · simp [zif]
 · simp only [zif, zcv]; have := zjr x; have := zqW l; omega
theorem zjr (l : List zal) : zcd l ≤ zak l := by
 cases l with
 | nil => simp [zcd]
 | cons x l => simp only [zcd, zak]; have := zC4 x; have := zjr l; omega
theorem zo4 (l : List zad) : zgb l ≤ za9 l := by
 cases l with
 | nil => simp [zgb]
 | cons x l => simp only [zgb, za9]; have := zC5 x; have := zo4 l; omega
theorem zC5 (x : zad) : zie x ≤ zec x := by
 rcases x with ⟨v, ⟨f, l⟩⟩; simp only [zie, zec]; have := zjr l; omega
end
theorem ztC (l : List zal) : zdW l = zgx zks l := by
 induction l with
 | nil => rfl
 | cons x l ih => simp only [zdW, zgx, ih]
theorem zxq (l : List zai) : zdi l = zgx (fun x => 1 + zeK x) l := by
 induction l with
 | nil => rfl
 | cons x l ih => simp only [zdi, zgx, ih]
theorem ztD (l : List zad) : zfD l = zgx zkt l := by
 induction l with
 | nil => rfl
 | cons x l ih => simp only [zfD, zgx, ih]
theorem zi5 (l : List (Sl zal)) : zhw l = zgx (fun x => zdW x.l) l := by
 induction l with
 | nil => rfl
 | cons x l ih => cases x; simp only [zhw, zgx, ih]
def ziA {α : Type} (f : α → Nat) : List α → Nat
 | [] => 0
 | x :: l => max (f x) (ziA f l)
theorem zo5 (l : List zal) : zcd l = ziA ziU l := by
 induction l with
 | nil => rfl
 | cons x l ih => simp only [zcd, ziA, ih]
theorem zl5 (l : List zai) : zd4 l = ziA zf5 l := by
 induction l with
 | nil => rfl
 | cons x l ih => simp only [zd4, ziA, ih]
theorem zo6 (l : List zad) : zgb l = ziA zie l := by
 induction l with
 | nil => rfl
 | cons x l ih => simp only [zgb, ziA, ih]
theorem zhP (l : List (Sl zal)) : zif l = ziA (fun x => zcd x.l) l := by
 induction l with
 | nil => rfl
 | cons x l ih => cases x; simp only [zif, ziA, ih]
theorem ztx {α : Type} (f : α → Nat) (a b : List α) : zgx f (a ++ b) = zgx f a + zgx f b := by
 induction a with
 | nil => simp [zgx]
 | cons x a ih => simp only [List.cons_append, zgx, ih]; omega
theorem zu3 {α : Type} (f : α → Nat) {l : List α} {i : Nat} {x : α} (h : l[i]? = some x) : zgx f (l.take (i + 1)) = zgx f (l.take i) + f x := by
 have e : l.take (i + 1) = l.take i ++ [x] := by rw [List.take_add_one, h]; rfl
 rw [e, ztx]; simp [zgx]
theorem ztw {α : Type} (f : α → Nat) (l : List α) (i : Nat) : zgx f (l.take i) ≤ zgx f l := by
 have := ztx f (l.take i) (l.drop i)
 rw [List.take_append_drop] at this; omega
theorem zwd {α : Type} (f : α → Nat) (a b : List α) : ziA f (a ++ b) = max (ziA f a) (ziA f b) := by
 induction a with
 | nil => simp [ziA]
 | cons x a ih => simp only [List.cons_append, ziA, ih]; omega
theorem zHx {α : Type} (f : α → Nat) {l : List α} {i : Nat} {x : α} (h : l[i]? = some x) : ziA f (l.take (i + 1)) = max (ziA f (l.take i)) (f x) := by
 have e : l.take (i + 1) = l.take i ++ [x] := by rw [List.take_add_one, h]; rfl
 rw [e, zwd]; simp [ziA]
theorem zA7 {α : Type} (f : α → Nat) (l : List α) (i : Nat) : ziA f (l.take i) ≤ ziA f l := by
 have := zwd f (l.take i) (l.drop i)
 rw [List.take_append_drop] at this; omega
def zdV (r : zbw) : Bool := decide (1 ≤ r.table) && decide (1 ≤ r.seq)
def zbS (v : Val) : Bool :=
 if v.kind = 0 then v.text == []
 else if v.kind = 1 then (v.int == 0) && decide ((v.text.length : Int) ≤ 255)
 else if v.kind = 2 then ((v.int == 0) || (v.int == 1)) && (v.text == [])
 else false
def zj5 (a : zan) : Bool := (((a.func == 0) && ((a.items.l.length : Int) == 0)) && (a.op == 0)) && ((a.bound.kind == 0) && ((a.bound.int == 0) && (a.bound.text == [])))
def zem (a : Sl zal) : Bool := a.l.any fun t => (t.factors.l.length : Int) == 0
def zC1 {α : Type} : List α → Option α
 | [x] => some x
 | _ => none
def zk5 (a : Sl zal) : Bool := match zC1 a.l with
 | some t => (t.coeff == 1) && (match zC1 t.factors.l with
   | some f => (f.exp == 1) && decide (2 ≤ f.atom.kind)
   | none => false)
 | none => false
def zhR (a : Sl zal) : Bool := match zC1 a.l with
 | some t => (t.factors.l.length : Int) == 0
 | none => false
def zvj (a : zan) : Bool := (a.kind == 3) || (a.kind == 4)
def zq4 (a : Sl zal) : Bool := match zC1 a.l with
 | some t => (t.coeff == 1) && (match zC1 t.factors.l with
   | some f => (f.exp == 1) && ((f.atom.kind == 2) || zvj f.atom)
   | none => false)
 | none => false
theorem zJV {R S : Type} {L : Nat → S → Int → Option (Out R (S × Int))} {n : Nat} (acc : Nat → S)
 (hend : ∀ k s, L (k + 1) s n = some (.done (s, (n : Int))))
 (hstep : ∀ k i, i < n → L (k + 1) (acc i) (i : Int) = L k (acc (i + 1)) ((i + 1 : Nat) : Int)) :
 ∀ k i, i ≤ n → n - i < k → L k (acc i) (i : Int) = some (.done (acc n, (n : Int))) := by
 intro k
 induction k with
 | zero => intro i _ h; omega
 | succ k ih =>
   intro i h1 h2
   by_cases e : i = n
   · subst e; exact hend k _
   · rw [hstep k i (by omega), ih (i + 1) (by omega) (by omega)]
theorem zoe {R S : Type} {L : Nat → S → Int → Option (Out R (S × Int))} {n k : Nat} (acc : Nat → S) (s0 : S)
 (hend : ∀ k s, L (k + 1) s n = some (.done (s, (n : Int))))
 (hstep : ∀ k i, i < n → L (k + 1) (acc i) (i : Int) = L k (acc (i + 1)) ((i + 1 : Nat) : Int)) (h0 : acc 0 = s0) (hk : n < k) :
 L k s0 0 = some (.done (acc n, (n : Int))) := by
 have := zJV acc hend hstep k 0 (by omega) (by omega)
 rw [← h0]; exact this
theorem zmU {α R : Type} {L : Nat → Int → Int → Option (Out R (Int × Int))} {xs : List α} {k : Nat} (f : α → Nat) (s : Nat)
 (hend : ∀ k s, L (k + 1) s xs.length = some (.done (s, (xs.length : Int))))
 (hstep : ∀ k (i m : Nat) x, i < xs.length → xs[i]? = some x → m + f x ≤ s + zgx f xs → L (k + 1) (m : Int) (i : Int) = L k ((m + f x : Nat) : Int) ((i + 1 : Nat) : Int))
 (hk : xs.length < k) : L k (s : Int) 0 = some (.done (((s + zgx f xs : Nat) : Int), (xs.length : Int))) := by
 have := zoe (L := L) (n := xs.length) (k := k) (fun i => ((s + zgx f (xs.take i) : Nat) : Int)) (s : Int) hend (fun k i hi => ?_) (by simp [zgx]) hk
 · simpa using this
 · have ex := List.getElem?_eq_getElem hi
   have h1 := zu3 f ex
   have h2 := ztw f xs (i + 1)
   have := hstep k i (s + zgx f (xs.take i)) _ hi ex (by omega)
   rw [this, h1, Nat.add_assoc]
theorem zm1 {α R : Type} {L : Nat → Int → Int → Option (Out R (Int × Int))} {xs : List α} {k : Nat} (f : α → Nat) (s : Nat)
 (hend : ∀ k s, L (k + 1) s xs.length = some (.done (s, (xs.length : Int))))
 (hstep : ∀ k (i m : Nat) x, i < xs.length → xs[i]? = some x → s ≤ m → m ≤ max s (ziA f xs) → L (k + 1) (m : Int) (i : Int) = L k ((max m (f x) : Nat) : Int) ((i + 1 : Nat) : Int))
 (hk : xs.length < k) : L k (s : Int) 0 = some (.done (((max s (ziA f xs) : Nat) : Int), (xs.length : Int))) := by
 have := zoe (L := L) (n := xs.length) (k := k) (fun i => ((max s (ziA f (xs.take i)) : Nat) : Int)) (s : Int) hend (fun k i hi => ?_) (by simp [ziA]) hk
 · simpa using this
 · have ex := List.getElem?_eq_getElem hi
   have h1 := zHx f ex
   have h2 := zA7 f xs i
   have := hstep k i (max s (ziA f (xs.take i))) _ hi ex (by omega) (by omega)
   rw [this, h1, Nat.max_assoc]
end Go.Ev
set_option linter.unusedVariables false
namespace Go.Ev
noncomputable def znO (kk : Nat) (a : zbw) : Option (Bool) :=
 some ((decide (1 ≤ a.table)) && (decide (1 ≤ a.seq)))
noncomputable def zlC (kk : Nat) (a : Val) : Option (Bool) :=
 sel (
  some (a.text == [])) (
  sel (
   some ((a.int == 0) && (decide ((a.text.length : Int) ≤ 255)))) (
   sel (
    some (((a.int == 0) || (a.int == 1)) && (a.text == []))) (
    some false) (a.kind == 2)) (a.kind == 1)) (a.kind == 0)
noncomputable def zpJ (kk : Nat) (a : Val) : Option (Bool) :=
 sel (
  some (a.text == [])) (
  sel (
   some ((a.int == 0) && (decide ((a.text.length : Int) ≤ 255)))) (
   sel (
    some ((a.text == []) && ((a.int == 0) || (a.int == 1)))) (
    some false) (a.kind == 2)) (a.kind == 1)) (a.kind == 0)
noncomputable def ztg (kk : Nat) (a : zan) : Option (Bool) :=
 some ((((a.func == 0) && ((a.items.l.length : Int) == 0)) && (a.op == 0)) && ((a.bound.kind == 0) && ((a.bound.int == 0) && (a.bound.text == []))))
noncomputable def zni (kk : Nat) (a : (Sl zal)) : Option (Bool) :=
 sel (
  bnd (a.l[0]?) fun (y1 : zal) =>
  sel (
   sel (
    bnd (y1.factors.l[0]?) fun (y2 : zai) =>
    sel (
     some (y2.exp == 1)) (
     some false) (decide (2 ≤ y2.atom.kind))) (
    some false) ((y1.factors.l.length : Int) == 1)) (
   some false) (y1.coeff == 1)) (
  some false) ((a.l.length : Int) == 1)
noncomputable def zhg (kk : Nat) (a : zan) : Option (Bool) :=
 some ((a.kind == 3) || (a.kind == 4))
noncomputable def zfm (kk : Nat) (a : (Sl zal)) : Option (Bool) :=
 sel (
  bnd (a.l[0]?) fun (y1 : zal) =>
  some ((y1.factors.l.length : Int) == 0)) (
  some false) ((a.l.length : Int) == 1)
noncomputable def zhf (kk : Nat) (a : (Sl zal)) : Option (Bool) :=
 sel (
  bnd (a.l[0]?) fun (y1 : zal) =>
  sel (
   sel (
    some false) (
    bnd (y1.factors.l[0]?) fun (y2 : zai) =>
    some ((y2.exp == 1) && ((y2.atom.kind == 2) || ((zvj y2.atom))))) ((y1.factors.l.length : Int) != 1)) (
   some false) (!(y1.coeff != 1))) (
  some false) (!((a.l.length : Int) != 1))
noncomputable def zeW (c1 : Sl zal) (kk : Nat) : Nat → Int → Option (Out (Bool) (Int))
 | 0, _ => none
 | k + 1, s2 =>
   sel (
    bnd (ix c1.l s2) fun (y3 : zal) =>
    sel (
     some (.ret true)) (
     zeW c1 kk k (IntKind.wrap .i64 (s2 + 1))) ((y3.factors.l.length : Int) == 0)) (
    some (.done s2)) (decide (s2 < (c1.l.length : Int)))
noncomputable def zkA (kk : Nat) (a : (Sl zal)) : Option (Bool) :=
 zhy (zeW a kk kk 0) (fun r => some r) fun (q4 : Int) =>
  some false
noncomputable def zcL (c29 : Sl zal) (c30 : Int) (c31 : Int) (c32 : Sl zai) (c33 : Int) (c34 : Int) (c35 : Sl zad) (c36 : Int) (sz : Nat) (kk : Nat) : Nat → Int → Int → Option (Out (Int) (Int × Int))
 | 0, _, _ => none
 | k + 1, s28, s37 =>
   sel (
    bnd (ix c35.l s37) fun (y38 : zad) =>
    bnd (okP (zak y38.ann.l < sz)) fun _ =>
    zcL c29 c30 c31 c32 c33 c34 c35 c36 sz kk k (IntKind.wrap .i64 (s28 + (IntKind.wrap .i64 (1 + (zlq y38.ann))))) (IntKind.wrap .i64 (s37 + 1))) (
    some (.done (s28, s37))) (decide (s37 < c36))
noncomputable def zcM (c15 : Sl zal) (c16 : Int) (c17 : Int) (c18 : Sl zai) (c19 : Int) (c20 : Int) (c21 : Sl (Sl zal)) (c22 : Int) (c24 : zai) (sz : Nat) (kk : Nat) : Nat → Int → Int → Option (Out (Int) (Int × Int))
 | 0, _, _ => none
 | k + 1, s14, s23 =>
   sel (
    bnd (ix c21.l s23) fun (y25 : (Sl zal)) =>
    bnd (okP (zak y25.l < sz)) fun _ =>
    zcM c15 c16 c17 c18 c19 c20 c21 c22 c24 sz kk k (IntKind.wrap .i64 (s14 + (zlq y25))) (IntKind.wrap .i64 (s23 + 1))) (
    some (.done (s14, s23))) (decide (s23 < c22))
noncomputable def zcN (c7 : Sl zal) (c8 : Int) (c9 : Int) (c10 : Sl zai) (c11 : Int) (sz : Nat) (kk : Nat) : Nat → Int → Int → Option (Out (Int) (Int × Int))
 | 0, _, _ => none
 | k + 1, s6, s12 =>
   sel (
    bnd (ix c10.l s12) fun (y13 : zai) =>
    zhy (zcM c7 c8 c9 c10 c11 s12 y13.atom.args (y13.atom.args.l.length : Int) y13 sz kk kk s6 0) (fun r => some (.ret r)) fun (q27 : Int × Int) =>
     zhy (zcL c7 c8 c9 c10 c11 s12 y13.atom.items (y13.atom.items.l.length : Int) sz kk kk q27.1 0) (fun r => some (.ret r)) fun (q40 : Int × Int) =>
      zcN c7 c8 c9 c10 c11 sz kk k q40.1 (IntKind.wrap .i64 (s12 + 1))) (
    some (.done (s6, s12))) (decide (s12 < c11))
noncomputable def zcO (c2 : Sl zal) (c3 : Int) (sz : Nat) (kk : Nat) : Nat → Int → Int → Option (Out (Int) (Int × Int))
 | 0, _, _ => none
 | k + 1, s1, s4 =>
   sel (
    bnd (ix c2.l s4) fun (y5 : zal) =>
    zhy (zcN c2 c3 s4 y5.factors (y5.factors.l.length : Int) sz kk kk (IntKind.wrap .i64 (s1 + (IntKind.wrap .i64 (1 + (y5.factors.l.length : Int))))) 0) (fun r => some (.ret r)) fun (q41 : Int × Int) =>
     zcO c2 c3 sz kk k q41.1 (IntKind.wrap .i64 (s4 + 1))) (
    some (.done (s1, s4))) (decide (s4 < c3))
noncomputable def ziv (kk : Nat) (sz : Nat) (a : (Sl zal)) : Option (Int) :=
 zhy (zcO a (a.l.length : Int) sz kk kk 0 0) (fun r => some r) fun (q42 : Int × Int) =>
  some q42.1
noncomputable def zb9 (c29 : Int) (c31 : Sl zal) (c32 : Int) (c33 : Int) (c34 : Sl zai) (c35 : Int) (c36 : Int) (c37 : Sl zad) (c38 : Int) (sz : Nat) (kk : Nat) : Nat → Int → Int → Option (Out (Int) (Int × Int))
 | 0, _, _ => none
 | k + 1, s30, s39 =>
   sel (
    bnd (ix c37.l s39) fun (y40 : zad) =>
    bnd (okP (zak y40.ann.l < sz)) fun _ =>
    zb9 c29 c31 c32 c33 c34 c35 c36 c37 c38 sz kk k (if s30 < (zjs y40.ann) then (zjs y40.ann) else s30) (IntKind.wrap .i64 (s39 + 1))) (
    some (.done (s30, s39))) (decide (s39 < c38))
noncomputable def zbT (c14 : Int) (c16 : Sl zal) (c17 : Int) (c18 : Int) (c19 : Sl zai) (c20 : Int) (c21 : Int) (c22 : Sl (Sl zal)) (c23 : Int) (c25 : zai) (sz : Nat) (kk : Nat) : Nat → Int → Int → Option (Out (Int) (Int × Int))
 | 0, _, _ => none
 | k + 1, s15, s24 =>
   sel (
    bnd (ix c22.l s24) fun (y26 : (Sl zal)) =>
    bnd (okP (zak y26.l < sz)) fun _ =>
    zbT c14 c16 c17 c18 c19 c20 c21 c22 c23 c25 sz kk k (if s15 < (zjs y26) then (zjs y26) else s15) (IntKind.wrap .i64 (s24 + 1))) (
    some (.done (s15, s24))) (decide (s24 < c23))
noncomputable def zbU (c7 : Sl zal) (c8 : Int) (c9 : Int) (c10 : Sl zai) (c11 : Int) (sz : Nat) (kk : Nat) : Nat → Int → Int → Option (Out (Int) (Int × Int))
 | 0, _, _ => none
 | k + 1, s6, s12 =>
   sel (
    bnd (ix c10.l s12) fun (y13 : zai) =>
    sel (
     zbU c7 c8 c9 c10 c11 sz kk k s6 (IntKind.wrap .i64 (s12 + 1))) (
     zhy (zbT s6 c7 c8 c9 c10 c11 s12 y13.atom.args (y13.atom.args.l.length : Int) y13 sz kk kk 0 0) (fun r => some (.ret r)) fun (q28 : Int × Int) =>
      zhy (zb9 s6 c7 c8 c9 c10 c11 s12 y13.atom.items (y13.atom.items.l.length : Int) sz kk kk q28.1 0) (fun r => some (.ret r)) fun (q42 : Int × Int) =>
       zbU c7 c8 c9 c10 c11 sz kk k (if s6 < (IntKind.wrap .i64 (1 + q42.1)) then (IntKind.wrap .i64 (1 + q42.1)) else s6) (IntKind.wrap .i64 (s12 + 1))) (y13.atom.kind == 0)) (
    some (.done (s6, s12))) (decide (s12 < c11))
noncomputable def zca (c2 : Sl zal) (c3 : Int) (sz : Nat) (kk : Nat) : Nat → Int → Int → Option (Out (Int) (Int × Int))
 | 0, _, _ => none
 | k + 1, s1, s4 =>
   sel (
    bnd (ix c2.l s4) fun (y5 : zal) =>
    zhy (zbU c2 c3 s4 y5.factors (y5.factors.l.length : Int) sz kk kk s1 0) (fun r => some (.ret r)) fun (q43 : Int × Int) =>
     zca c2 c3 sz kk k q43.1 (IntKind.wrap .i64 (s4 + 1))) (
    some (.done (s1, s4))) (decide (s4 < c3))
noncomputable def zgK (kk : Nat) (sz : Nat) (a : (Sl zal)) : Option (Int) :=
 zhy (zca a (a.l.length : Int) sz kk kk 0 0) (fun r => some r) fun (q44 : Int × Int) =>
  some q44.1
noncomputable def zgY (c19 : Sl zal) (c21 : Int) (c22 : Int) (c24 : zan) (sz : Nat) (kk : Nat) : Nat → Int → Int → Option (Out (Int) (Int × Int))
 | 0, _, _ => none
 | k + 1, s20, s23 =>
   sel (
    bnd (ix c24.items.l s23) fun (y25 : zad) =>
    bnd (okP (zak y25.ann.l < sz)) fun _ =>
    zgY c19 c21 c22 c24 sz kk k (IntKind.wrap .i64 ((IntKind.wrap .i64 (s20 + 1)) + (zlq y25.ann))) (IntKind.wrap .i64 (s23 + 1))) (
    some (.done (s20, s23))) (decide (s23 < (c24.items.l.length : Int)))
noncomputable def zgZ (c10 : Sl zal) (c12 : Int) (c13 : Int) (c15 : zan) (sz : Nat) (kk : Nat) : Nat → Int → Int → Option (Out (Int) (Int × Int))
 | 0, _, _ => none
 | k + 1, s11, s14 =>
   sel (
    bnd (ix c15.args.l s14) fun (y16 : (Sl zal)) =>
    bnd (okP (zak y16.l < sz)) fun _ =>
    zgZ c10 c12 c13 c15 sz kk k (IntKind.wrap .i64 (s11 + (zlq y16))) (IntKind.wrap .i64 (s14 + 1))) (
    some (.done (s11, s14))) (decide (s14 < (c15.args.l.length : Int)))
noncomputable def zg0 (c4 : Sl zal) (c6 : Int) (sz : Nat) (kk : Nat) : Nat → Int → Int → Option (Out (Int) (Int × Int))
 | 0, _, _ => none
 | k + 1, s5, s7 =>
   bnd (ix c4.l c6) fun (y8 : zal) =>
   sel (
    bnd (ix y8.factors.l s7) fun (y9 : zai) =>
    zhy (zgZ c4 c6 s7 y9.atom sz kk kk (IntKind.wrap .i64 (s5 + 1)) 0) (fun r => some (.ret r)) fun (q18 : Int × Int) =>
     zhy (zgY c4 c6 s7 y9.atom sz kk kk q18.1 0) (fun r => some (.ret r)) fun (q27 : Int × Int) =>
      zg0 c4 c6 sz kk k q27.1 (IntKind.wrap .i64 (s7 + 1))) (
    some (.done (s5, s7))) (decide (s7 < (y8.factors.l.length : Int)))
noncomputable def zg1 (c1 : Sl zal) (sz : Nat) (kk : Nat) : Nat → Int → Int → Option (Out (Int) (Int × Int))
 | 0, _, _ => none
 | k + 1, s2, s3 =>
   sel (
    zhy (zg0 c1 s3 sz kk kk (IntKind.wrap .i64 (s2 + 1)) 0) (fun r => some (.ret r)) fun (q28 : Int × Int) =>
     zg1 c1 sz kk k q28.1 (IntKind.wrap .i64 (s3 + 1))) (
    some (.done (s2, s3))) (decide (s3 < (c1.l.length : Int)))
noncomputable def zr1 (kk : Nat) (sz : Nat) (a : (Sl zal)) : Option (Int) :=
 zhy (zg1 a sz kk kk 0 0) (fun r => some r) fun (q29 : Int × Int) =>
  some q29.1
noncomputable def zes (c20 : Sl zal) (c21 : Int) (c22 : Int) (c23 : Int) (c26 : zan) (sz : Nat) (kk : Nat) : Nat → Int → Int → Option (Out (Int) (Int × Int))
 | 0, _, _ => none
 | k + 1, s24, s25 =>
   sel (
    bnd (ix c26.items.l s25) fun (y27 : zad) =>
    bnd (okP (zak y27.ann.l < sz)) fun _ =>
    zes c20 c21 c22 c23 c26 sz kk k (if s24 < (IntKind.wrap .i64 (1 + (zjs y27.ann))) then (IntKind.wrap .i64 (1 + (zjs y27.ann))) else s24) (IntKind.wrap .i64 (s25 + 1))) (
    some (.done (s24, s25))) (decide (s25 < (c26.items.l.length : Int)))
noncomputable def zdE (c10 : Sl zal) (c11 : Int) (c12 : Int) (c13 : Int) (c16 : zan) (sz : Nat) (kk : Nat) : Nat → Int → Int → Option (Out (Int) (Int × Int))
 | 0, _, _ => none
 | k + 1, s14, s15 =>
   sel (
    bnd (ix c16.args.l s15) fun (y17 : (Sl zal)) =>
    bnd (okP (zak y17.l < sz)) fun _ =>
    zdE c10 c11 c12 c13 c16 sz kk k (if s14 < (IntKind.wrap .i64 (1 + (zjs y17))) then (IntKind.wrap .i64 (1 + (zjs y17))) else s14) (IntKind.wrap .i64 (s15 + 1))) (
    some (.done (s14, s15))) (decide (s15 < (c16.args.l.length : Int)))
noncomputable def zdF (c4 : Sl zal) (c6 : Int) (sz : Nat) (kk : Nat) : Nat → Int → Int → Option (Out (Int) (Int × Int))
 | 0, _, _ => none
 | k + 1, s5, s7 =>
   bnd (ix c4.l c6) fun (y8 : zal) =>
   sel (
    bnd (ix y8.factors.l s7) fun (y9 : zai) =>
    sel (
     zdF c4 c6 sz kk k s5 (IntKind.wrap .i64 (s7 + 1))) (
     zhy (zdE c4 s5 c6 s7 y9.atom sz kk kk 1 0) (fun r => some (.ret r)) fun (q19 : Int × Int) =>
      zhy (zes c4 s5 c6 s7 y9.atom sz kk kk q19.1 0) (fun r => some (.ret r)) fun (q29 : Int × Int) =>
       zdF c4 c6 sz kk k (if s5 < q29.1 then q29.1 else s5) (IntKind.wrap .i64 (s7 + 1))) (y9.atom.kind == 0)) (
    some (.done (s5, s7))) (decide (s7 < (y8.factors.l.length : Int)))
noncomputable def zet (c1 : Sl zal) (sz : Nat) (kk : Nat) : Nat → Int → Int → Option (Out (Int) (Int × Int))
 | 0, _, _ => none
 | k + 1, s2, s3 =>
   sel (
    zhy (zdF c1 s3 sz kk kk s2 0) (fun r => some (.ret r)) fun (q30 : Int × Int) =>
     zet c1 sz kk k q30.1 (IntKind.wrap .i64 (s3 + 1))) (
    some (.done (s2, s3))) (decide (s3 < (c1.l.length : Int)))
noncomputable def zlF (kk : Nat) (sz : Nat) (a : (Sl zal)) : Option (Int) :=
 zhy (zet a sz kk kk 0 0) (fun r => some r) fun (q31 : Int × Int) =>
  some q31.1
end Go.Ev
namespace Go.Ev
theorem zh8 {n : Nat} (h : n < 2 * big) : IntKind.wrap .i64 ((n : Nat) : Int) = (n : Nat) := by
 have : big = 1152921504606846976 := rfl
 exact zc3 (by omega) (by omega)
theorem zFq (x : Nat) : ((x : Int) + 1) = ((x + 1 : Nat) : Int) := by omega
theorem zDK (x : Nat) : (1 + (x : Int)) = ((1 + x : Nat) : Int) := by omega
theorem zKu (x y : Nat) : ((x : Int) + (y : Int)) = ((x + y : Nat) : Int) := by omega
theorem zn4 {l : List zad} {i : Nat} {x : zad} (h : l[i]? = some x) : zak x.ann.l + 1 < za9 l := by
 have := zhJ h; rw [ziG] at this; omega
theorem zvM (kk : Nat) (a : zbw) : znO kk a = some (zdV a) := rfl
theorem zwI (kk : Nat) (a : Val) : zlC kk a = some (zbS a) := by
 unfold zlC zbS
 simp only [zcr]
 split
 · rfl
 · split
   · rfl
   · split <;> rfl
theorem zzC (kk : Nat) (a : Val) : zpJ kk a = some (zbS a) := by
 unfold zpJ zbS
 simp only [zcr]
 split
 · rfl
 · split
   · rfl
   · split
     · rw [Bool.and_comm]
     · rfl
theorem zzz (kk : Nat) (a : zan) : ztg kk a = some (zj5 a) := rfl
theorem zmM (kk : Nat) (a : zan) : zhg kk a = some (zvj a) := rfl
theorem zCY {α : Type} (x : α) : zC1 [x] = some x := rfl
theorem zCZ {α : Type} {l : List α} (h : ((l.length : Nat) : Int) ≠ 1) : zC1 l = none := by
 rcases l with _ | ⟨x, _ | ⟨y, l⟩⟩
 · rfl
 · simp at h
 · rfl
theorem zp4 {α : Type} {l : List α} (h : ((l.length : Nat) : Int) = 1) : ∃ x, l = [x] := by
 rcases l with _ | ⟨x, _ | ⟨y, l⟩⟩
 · simp at h
 · exact ⟨x, rfl⟩
 · simp at h; omega
theorem zyF (kk : Nat) (a : Sl zal) : zni kk a = some (zk5 a) := by
 unfold zni zk5
 rw [zcr]
 by_cases h : ((a.l.length : Nat) : Int) = 1
 · rw [if_pos h]
   obtain ⟨t, e⟩ := zp4 h
   rw [e]
   simp only [List.getElem?_cons_zero, zaf, zCY]
   by_cases hc : t.coeff = 1
   · simp only [hc, beq_self_eq_true, zaw, Bool.true_and]
     by_cases hf : ((t.factors.l.length : Nat) : Int) = 1
     · obtain ⟨f, e2⟩ := zp4 hf
       rw [e2]
       simp [zCY, zdK]
       split <;> simp_all
     · rw [zCZ hf]; simp [zdK, hf]
   · simp [hc, zdK]
 · rw [if_neg h, zCZ h]
theorem zmL (kk : Nat) (a : Sl zal) : zfm kk a = some (zhR a) := by
 unfold zfm zhR
 rw [zcr]
 by_cases h : ((a.l.length : Nat) : Int) = 1
 · rw [if_pos h]
   obtain ⟨t, e⟩ := zp4 h
   rw [e]
   simp only [List.getElem?_cons_zero, zaf, zCY]
 · rw [if_neg h, zCZ h]
theorem zqx (kk : Nat) (a : Sl zal) : zhf kk a = some (zq4 a) := by
 unfold zhf zq4
 rw [zdv, zAE]
 by_cases h : ((a.l.length : Nat) : Int) = 1
 · rw [if_pos h]
   obtain ⟨t, e⟩ := zp4 h
   rw [e]
   simp only [List.getElem?_cons_zero, zaf, zCY, zdv, zAE]
   by_cases hc : t.coeff = 1
   · simp only [hc, beq_self_eq_true, if_true, Bool.true_and]
     by_cases hf : ((t.factors.l.length : Nat) : Int) = 1
     · obtain ⟨f, e2⟩ := zp4 hf
       rw [e2]
       simp [zCY]
     · rw [zCZ hf]; simp [hf]
   · simp [hc]
 · rw [if_neg h, zCZ h]
theorem zMu {α : Type} {L : Nat → Int → Option (Out Bool Int)} {xs : List α} (p : α → Bool) (v : Bool)
 (hend : ∀ k, L (k + 1) xs.length = some (.done (xs.length : Int)))
 (hstep : ∀ k (i : Nat) x, i < xs.length → xs[i]? = some x → L (k + 1) (i : Int) = if p x then some (.ret v) else L k ((i + 1 : Nat) : Int)) :
 ∀ k i, i ≤ xs.length → xs.length - i < k → L k (i : Int) = if (xs.drop i).any p then some (.ret v) else some (.done (xs.length : Int)) := by
 intro k
 induction k with
 | zero => intro i _ h; omega
 | succ k ih =>
   intro i h1 h2
   by_cases e : i = xs.length
   · subst e; rw [hend]; simp
   · have hi : i < xs.length := by omega
     rw [hstep k i _ hi (List.getElem?_eq_getElem hi), ih (i + 1) (by omega) (by omega), List.drop_eq_getElem_cons hi, List.any_cons]
     by_cases hp : p xs[i] = true
     · simp [hp]
     · simp [hp]
theorem zol {α : Type} {L : Nat → Int → Option (Out Bool Int)} {xs : List α} {k : Nat} (p : α → Bool) (v : Bool)
 (hend : ∀ k, L (k + 1) xs.length = some (.done (xs.length : Int)))
 (hstep : ∀ k (i : Nat) x, i < xs.length → xs[i]? = some x → L (k + 1) (i : Int) = if p x then some (.ret v) else L k ((i + 1 : Nat) : Int))
 (hk : xs.length < k) : L k 0 = if xs.any p then some (.ret v) else some (.done (xs.length : Int)) := by
 have := zMu p v hend hstep k 0 (by omega) (by omega)
 simpa using this
theorem zvO {kk : Nat} (a : Sl zal) (h : a.l.length < big - 1) (hk : a.l.length < kk) : zkA kk a = some (zem a) := by
 unfold zkA zem
 rw [zol (xs := a.l) (L := zeW a kk) (fun t => (t.factors.l.length : Int) == 0) true (fun k => by simp [zeW]) (fun k i x hi ex => ?_) hk]
 · cases a.l.any _ <;> rfl
 · simp only [zeW, zdL, decide_eq_true hi, zaw, zbO, ex, zaf]
   rw [zaL (by omega)]
   exact zdK _ _ _
theorem zyv {c1 : Sl zal} {c2 c3 : Int} {a : zan} {sz kk k s : Nat} (h : zbx a < sz + 1) (hk : sz < k) (hs : s + zfD a.items.l < big) (hb : sz < big) :
 zgY c1 c2 c3 a sz kk k s 0 = some (.done (((s + zfD a.items.l : Nat) : Int), (a.items.l.length : Int))) := by
 have hz := zcq a
 have hl := zcz a.items.l
 rw [ztD] at hs ⊢
 refine zmU (xs := a.items.l) (L := zgY c1 c2 c3 a sz kk) zkt s (fun k s => by simp [zgY]) (fun k i m x hi ex hm => ?_) (by omega)
 have hx := zn4 ex
 have he := zoO x
 simp only [zgY, zdL, decide_eq_true hi, zaw, zbO, ex, zaf]
 rw [zat (by omega), zaf, zaL (by omega), zFq, zh8 (by omega)]
 unfold zlq
 rw [zKu, zh8 (by omega)]
 congr 2; omega
theorem zyw {c1 : Sl zal} {c2 c3 : Int} {a : zan} {sz kk k s : Nat} (h : zbx a < sz + 1) (hk : sz < k) (hs : s + zhw a.args.l < big) (hb : sz < big) :
 zgZ c1 c2 c3 a sz kk k s 0 = some (.done (((s + zhw a.args.l : Nat) : Int), (a.args.l.length : Int))) := by
 have hz := zcq a
 have hl := zd2 a.args.l
 rw [zi5] at hs ⊢
 refine zmU (xs := a.args.l) (L := zgZ c1 c2 c3 a sz kk) (fun x : Sl zal => zdW x.l) s (fun k s => by simp [zgZ]) (fun k i m x hi ex hm => ?_) (by omega)
 have hx := zfy ex
 simp only [zgZ, zdL, decide_eq_true hi, zaw, zbO, ex, zaf]
 rw [zat (by omega), zaf, zaL (by omega)]
 unfold zlq
 rw [zKu, zh8 (by omega)]
theorem zyx {a : Sl zal} {j : Nat} {t : zal} {sz kk k s : Nat} (ht : a.l[j]? = some t) (h : zcF t < sz + 1) (hk : sz < k) (hkk : sz < kk) (hs : s + zdi t.factors.l < big) (hb : sz < big) :
 zg0 a j sz kk k s 0 = some (.done (((s + zdi t.factors.l : Nat) : Int), (t.factors.l.length : Int))) := by
 have hz := zdm t
 have hl := zbM t.factors.l
 rw [zxq] at hs ⊢
 refine zmU (xs := t.factors.l) (L := zg0 a j sz kk) (fun x => 1 + zeK x) s (fun k s => by simp [zg0, zbO, ht]) (fun k i m x hi ex hm => ?_) (by omega)
 have hx := zcQ ex
 have e1 := zcA x
 have e2 := ztE x
 have e3 := zoP x.atom
 simp only [zg0, zdL, zbO, ht, zaf, decide_eq_true hi, zaw, ex]
 rw [zFq, zh8 (by omega), zyw (by omega) (by omega) (by omega) (by omega), zbE]
 simp only
 rw [zyv (by omega) (by omega) (by omega) (by omega), zbE, ← zFq, zaL (by omega)]
 congr 2; omega
theorem zyy {a : Sl zal} {sz kk k : Nat} (h : zak a.l < sz + 1) (hk : sz < k) (hkk : sz < kk) (hb : sz < big) :
 zg1 a sz kk k (0 : Nat) 0 = some (.done (((0 + zdW a.l : Nat) : Int), (a.l.length : Int))) := by
 have hl := zb3 a.l
 have hs := zjk a.l
 rw [ztC] at hs ⊢
 refine zmU (xs := a.l) (L := zg1 a sz kk) zks 0 (fun k s => by simp [zg1]) (fun k i m x hi ex hm => ?_) (by omega)
 have hx := zdh ex
 have e2 := zoN x
 simp only [zg1, zdL, decide_eq_true hi, zaw]
 rw [zFq, zh8 (by omega), zyx ex (by omega) (by omega) (by omega) (by omega) (by omega), zbE]
 simp only
 rw [← zFq, zaL (by omega)]
 congr 2; omega
theorem zBY {kk sz : Nat} {a : Sl zal} (h : zak a.l < sz + 1) (hk : sz < kk) (hb : sz < big) : zr1 kk sz a = some (zlq a) := by
 unfold zr1
 have := zyy h hk hk hb
 rw [show (0 : Int) = ((0 : Nat) : Int) from rfl] at *
 rw [this]
 simp [zlq]
theorem zqp {c1 : Sl zal} {c2 c3 c5 c6 : Int} {c4 : Sl zai} {its : Sl zad} {sz kk k s : Nat} (h : za9 its.l < sz + 1) (hk : sz < k) (hs : s + zfD its.l < big) (hb : sz < big) :
 zcL c1 c2 c3 c4 c5 c6 its its.l.length sz kk k s 0 = some (.done (((s + zfD its.l : Nat) : Int), (its.l.length : Int))) := by
 have hl := zcz its.l
 rw [ztD] at hs ⊢
 refine zmU (xs := its.l) (L := zcL c1 c2 c3 c4 c5 c6 its its.l.length sz kk) zkt s (fun k s => by simp [zcL]) (fun k i m x hi ex hm => ?_) (by omega)
 have hx := zn4 ex
 have he := zoO x
 simp only [zcL, zdL, decide_eq_true hi, zaw, zbO, ex, zaf]
 rw [zat (by omega), zaf, zaL (by omega)]
 unfold zlq
 rw [zDK, zh8 (by omega), zKu, zh8 (by omega), he]
theorem zqq {c1 : Sl zal} {c2 c3 c5 c6 : Int} {c4 : Sl zai} {fa : zai} {as : Sl (Sl zal)} {sz kk k s : Nat} (h : zcv as.l < sz + 1) (hk : sz < k) (hs : s + zhw as.l < big) (hb : sz < big) :
 zcM c1 c2 c3 c4 c5 c6 as as.l.length fa sz kk k s 0 = some (.done (((s + zhw as.l : Nat) : Int), (as.l.length : Int))) := by
 have hl := zd2 as.l
 rw [zi5] at hs ⊢
 refine zmU (xs := as.l) (L := zcM c1 c2 c3 c4 c5 c6 as as.l.length fa sz kk) (fun x : Sl zal => zdW x.l) s (fun k s => by simp [zcM]) (fun k i m x hi ex hm => ?_) (by omega)
 have hx := zfy ex
 simp only [zcM, zdL, decide_eq_true hi, zaw, zbO, ex, zaf]
 rw [zat (by omega), zaf, zaL (by omega)]
 unfold zlq
 rw [zKu, zh8 (by omega)]
theorem zqr {c1 : Sl zal} {c2 c3 : Int} {fs : Sl zai} {sz kk k s : Nat} (h : zaB fs.l < sz + 1) (hk : sz < k) (hkk : sz < kk) (hs : s + zgx zeK fs.l < big) (hb : sz < big) :
 zcN c1 c2 c3 fs fs.l.length sz kk k s 0 = some (.done (((s + zgx zeK fs.l : Nat) : Int), (fs.l.length : Int))) := by
 have hl := zbM fs.l
 refine zmU (xs := fs.l) (L := zcN c1 c2 c3 fs fs.l.length sz kk) zeK s (fun k s => by simp [zcN]) (fun k i m x hi ex hm => ?_) (by omega)
 have hx := zcQ ex
 have e1 := zcA x
 have e2 := ztE x
 have e3 := zoP x.atom
 have e4 := zcq x.atom
 simp only [zcN, zdL, zbO, zaf, decide_eq_true hi, zaw, ex]
 rw [zqq (by omega) (by omega) (by omega) (by omega), zbE]
 simp only
 rw [zqp (by omega) (by omega) (by omega) (by omega), zbE, ← zFq, zaL (by omega)]
 congr 2; omega
theorem zxr (l : List zai) : zdi l = l.length + zgx zeK l := by
 induction l with
 | nil => rfl
 | cons x l ih => simp only [zdi, zgx, List.length_cons, ih]; omega
theorem zqs {a : Sl zal} {sz kk k : Nat} (h : zak a.l < sz + 1) (hk : sz < k) (hkk : sz < kk) (hb : sz < big) :
 zcO a a.l.length sz kk k (0 : Nat) 0 = some (.done (((0 + zdW a.l : Nat) : Int), (a.l.length : Int))) := by
 have hl := zb3 a.l
 have hs := zjk a.l
 rw [ztC] at hs ⊢
 refine zmU (xs := a.l) (L := zcO a a.l.length sz kk) zks 0 (fun k s => by simp [zcO]) (fun k i m x hi ex hm => ?_) (by omega)
 have hx := zdh ex
 have e1 := zdm x
 have e2 := zoN x
 have e3 := zxr x.factors.l
 simp only [zcO, zdL, decide_eq_true hi, zaw, zbO, ex, zaf]
 rw [zDK, zh8 (by omega), zKu, zh8 (by omega), zqr (by omega) (by omega) (by omega) (by omega) (by omega), zbE]
 simp only
 rw [← zFq, zaL (by omega)]
 congr 2; omega
theorem zsl {kk sz : Nat} {a : Sl zal} (h : zak a.l < sz + 1) (hk : sz < kk) (hb : sz < big) : ziv kk sz a = some (zlq a) := by
 unfold ziv
 have := zqs h hk hk hb
 rw [show (0 : Int) = ((0 : Nat) : Int) from rfl] at *
 rw [this]
 simp [zlq]
theorem zvh (m n : Nat) : (if ((m : Nat) : Int) < ((n : Nat) : Int) then ((n : Nat) : Int) else ((m : Nat) : Int)) = ((max m n : Nat) : Int) := by
 split <;> omega
theorem znK {c0 : Int} {c1 : Sl zal} {c2 c3 c5 c6 : Int} {c4 : Sl zai} {its : Sl zad} {sz kk k s : Nat} (h : za9 its.l < sz + 1) (hk : sz < k) (hb : sz < big) :
 zb9 c0 c1 c2 c3 c4 c5 c6 its its.l.length sz kk k s 0 = some (.done (((max s (zgb its.l) : Nat) : Int), (its.l.length : Int))) := by
 have hl := zcz its.l
 rw [zo6]
 refine zm1 (xs := its.l) (L := zb9 c0 c1 c2 c3 c4 c5 c6 its its.l.length sz kk) zie s (fun k s => by simp [zb9]) (fun k i m x hi ex hm hm2 => ?_) (by omega)
 have hx := zn4 ex
 have he := zl4 x
 simp only [zb9, zdL, decide_eq_true hi, zaw, zbO, ex, zaf]
 rw [zat (by omega), zaf, zaL (by omega)]
 unfold zjs
 rw [zvh, he]
theorem znL {c0 : Int} {c1 : Sl zal} {c2 c3 c5 c6 : Int} {c4 : Sl zai} {fa : zai} {as : Sl (Sl zal)} {sz kk k s : Nat} (h : zcv as.l < sz + 1) (hk : sz < k) (hb : sz < big) :
 zbT c0 c1 c2 c3 c4 c5 c6 as as.l.length fa sz kk k s 0 = some (.done (((max s (zif as.l) : Nat) : Int), (as.l.length : Int))) := by
 have hl := zd2 as.l
 rw [zhP]
 refine zm1 (xs := as.l) (L := zbT c0 c1 c2 c3 c4 c5 c6 as as.l.length fa sz kk) (fun x : Sl zal => zcd x.l) s (fun k s => by simp [zbT]) (fun k i m x hi ex hm hm2 => ?_) (by omega)
 have hx := zfy ex
 simp only [zbT, zdL, decide_eq_true hi, zaw, zbO, ex, zaf]
 rw [zat (by omega), zaf, zaL (by omega)]
 unfold zjs
 rw [zvh]
theorem znM {c1 : Sl zal} {c2 c3 : Int} {fs : Sl zai} {sz kk k s : Nat} (h : zaB fs.l < sz + 1) (hk : sz < k) (hkk : sz < kk) (hb : sz < big) :
 zbU c1 c2 c3 fs fs.l.length sz kk k s 0 = some (.done (((max s (zd4 fs.l) : Nat) : Int), (fs.l.length : Int))) := by
 have hl := zbM fs.l
 rw [zl5]
 refine zm1 (xs := fs.l) (L := zbU c1 c2 c3 fs fs.l.length sz kk) zf5 s (fun k s => by simp [zbU]) (fun k i m x hi ex hm hm2 => ?_) (by omega)
 have hx := zcQ ex
 have e1 := zcA x
 have e2 := zo7 x
 have e3 := zkg x.atom
 have e4 := zcq x.atom
 have e5 := zqW x.atom.args.l
 have e6 := zo4 x.atom.items.l
 simp only [zbU, zdL, zbO, zaf, decide_eq_true hi, zaw, ex, zcr]
 by_cases hz : x.atom.kind = 0
 · rw [if_pos hz] at e3 ⊢
   rw [zaL (by omega)]
   congr 2; omega
 · rw [if_neg hz] at e3 ⊢
   have h2 : zbT m c1 c2 c3 fs fs.l.length i x.atom.args x.atom.args.l.length x sz kk kk 0 0 = _ := @znL m c1 c2 c3 fs.l.length i fs x x.atom.args sz kk kk 0 (by omega) (by omega) (by omega)
   rw [h2, zbE]
   simp only
   rw [znK (by omega) (by omega) (by omega), zbE]
   simp only
   rw [zaL (by omega), zDK, zh8 (by omega), zvh]
   congr 2; omega
theorem znN {a : Sl zal} {sz kk k : Nat} (h : zak a.l < sz + 1) (hk : sz < k) (hkk : sz < kk) (hb : sz < big) :
 zca a a.l.length sz kk k (0 : Nat) 0 = some (.done (((max 0 (zcd a.l) : Nat) : Int), (a.l.length : Int))) := by
 have hl := zb3 a.l
 rw [zo5]
 refine zm1 (xs := a.l) (L := zca a a.l.length sz kk) ziU 0 (fun k s => by simp [zca]) (fun k i m x hi ex hm hm2 => ?_) (by omega)
 have hx := zdh ex
 have e1 := zdm x
 have e2 := zl3 x
 simp only [zca, zdL, decide_eq_true hi, zaw, zbO, ex, zaf]
 rw [znM (by omega) (by omega) (by omega) (by omega), zbE]
 simp only
 rw [zaL (by omega), e2]
theorem zpK {kk sz : Nat} {a : Sl zal} (h : zak a.l < sz + 1) (hk : sz < kk) (hb : sz < big) : zgK kk sz a = some (zjs a) := by
 unfold zgK
 have := znN h hk hk hb
 rw [show (0 : Int) = ((0 : Nat) : Int) from rfl] at *
 rw [this]
 simp [zjs]
theorem zuD {c1 : Sl zal} {c2 c3 c4 : Int} {a : zan} {sz kk k s : Nat} (h : zbx a < sz + 1) (hk : sz < k) (h1 : 1 ≤ s) (hb : sz < big) :
 zes c1 c2 c3 c4 a sz kk k s 0 = some (.done (((max s (1 + zgb a.items.l) : Nat) : Int), (a.items.l.length : Int))) := by
 have hz := zcq a
 have hl := zcz a.items.l
 have := zm1 (R := Int) (k := k) (xs := a.items.l) (L := zes c1 c2 c3 c4 a sz kk) (fun x => 1 + zie x) s (fun k s => by simp [zes]) (fun k i m x hi ex hm hm2 => ?_) (by omega)
 · rw [this, zo6]
   congr 4
   generalize a.items.l = l
   have : ∀ l : List zad, max 1 (ziA (fun x => 1 + zie x) l) = 1 + ziA zie l := by
    intro l; induction l with
    | nil => rfl
    | cons x l ih => simp only [ziA]; omega
   have := this l; omega
 · have hx := zn4 ex
   have he := zl4 x
   have hn := zjr x.ann.l
   simp only [zes, zdL, decide_eq_true hi, zaw, zbO, ex, zaf]
   rw [zat (by omega), zaf, zaL (by omega)]
   unfold zjs
   rw [zDK, zh8 (by omega), zvh, he]
theorem zuE {c1 : Sl zal} {c2 c3 c4 : Int} {a : zan} {sz kk k s : Nat} (h : zbx a < sz + 1) (hk : sz < k) (h1 : 1 ≤ s) (hb : sz < big) :
 zdE c1 c2 c3 c4 a sz kk k s 0 = some (.done (((max s (1 + zif a.args.l) : Nat) : Int), (a.args.l.length : Int))) := by
 have hz := zcq a
 have hl := zd2 a.args.l
 have := zm1 (R := Int) (k := k) (xs := a.args.l) (L := zdE c1 c2 c3 c4 a sz kk) (fun x : Sl zal => 1 + zcd x.l) s (fun k s => by simp [zdE]) (fun k i m x hi ex hm hm2 => ?_) (by omega)
 · rw [this, zhP]
   congr 4
   generalize a.args.l = l
   have : ∀ l : List (Sl zal), max 1 (ziA (fun x : Sl zal => 1 + zcd x.l) l) = 1 + ziA (fun x : Sl zal => zcd x.l) l := by
    intro l; induction l with
    | nil => rfl
    | cons x l ih => simp only [ziA]; omega
   have := this l; omega
 · have hx := zfy ex
   have hn := zjr x.l
   simp only [zdE, zdL, decide_eq_true hi, zaw, zbO, ex, zaf]
   rw [zat (by omega), zaf, zaL (by omega)]
   unfold zjs
   rw [zDK, zh8 (by omega), zvh]
theorem zuF {a : Sl zal} {j : Nat} {t : zal} {sz kk k s : Nat} (ht : a.l[j]? = some t) (h : zcF t < sz + 1) (hk : sz < k) (hkk : sz < kk) (hb : sz < big) :
 zdF a j sz kk k s 0 = some (.done (((max s (zd4 t.factors.l) : Nat) : Int), (t.factors.l.length : Int))) := by
 have hz := zdm t
 have hl := zbM t.factors.l
 rw [zl5]
 refine zm1 (xs := t.factors.l) (L := zdF a j sz kk) zf5 s (fun k s => by simp [zdF, zbO, ht]) (fun k i m x hi ex hm hm2 => ?_) (by omega)
 have hx := zcQ ex
 have e1 := zcA x
 have e2 := zo7 x
 have e3 := zkg x.atom
 simp only [zdF, zdL, zbO, ht, zaf, decide_eq_true hi, zaw, ex, zcr]
 by_cases hz0 : x.atom.kind = 0
 · rw [if_pos hz0] at e3 ⊢
   rw [zaL (by omega)]
   congr 2; omega
 · rw [if_neg hz0] at e3 ⊢
   have h2 : zdE a m j i x.atom sz kk kk 1 0 = _ := @zuE a m j i x.atom sz kk kk 1 (by omega) (by omega) (by omega) (by omega)
   rw [h2, zbE]
   simp only
   rw [zuD (by omega) (by omega) (by omega) (by omega), zbE]
   simp only
   rw [zaL (by omega), zvh]
   congr 2; omega
theorem zuG {a : Sl zal} {sz kk k : Nat} (h : zak a.l < sz + 1) (hk : sz < k) (hkk : sz < kk) (hb : sz < big) :
 zet a sz kk k (0 : Nat) 0 = some (.done (((max 0 (zcd a.l) : Nat) : Int), (a.l.length : Int))) := by
 have hl := zb3 a.l
 rw [zo5]
 refine zm1 (xs := a.l) (L := zet a sz kk) ziU 0 (fun k s => by simp [zet]) (fun k i m x hi ex hm hm2 => ?_) (by omega)
 have hx := zdh ex
 have e2 := zl3 x
 simp only [zet, zdL, decide_eq_true hi, zaw]
 rw [zuF ex (by omega) (by omega) (by omega) (by omega), zbE]
 simp only
 rw [zaL (by omega), e2]
theorem zwL {kk sz : Nat} {a : Sl zal} (h : zak a.l < sz + 1) (hk : sz < kk) (hb : sz < big) : zlF kk sz a = some (zjs a) := by
 unfold zlF
 have := zuG h hk hk hb
 rw [show (0 : Int) = ((0 : Nat) : Int) from rfl] at *
 rw [this]
 simp [zjs]
end Go.Ev
namespace Go.Ev
def zn7 (a b : Sl zal) : Bool := zcH a b == 0
def zd5 (f : zai) : Bool := decide (f.exp ≤ 64) && decide ((f.atom.items.l.length : Int) ≤ 1024)
def zfE (t : zal) : Bool := decide ((t.factors.l.length : Int) ≤ 64) && t.factors.l.all zd5
def zof (a : Sl zal) : Bool := decide ((a.l.length : Int) ≤ 512) && decide (zjs a ≤ 8) && decide (zlq a ≤ 4096) && a.l.all zfE
def zr6 (fn : Int) (d : Val) (w : zad) : Bool := !(((!(zbS w.value)) || (w.value.kind != d.kind)) || ((fn == 0) && (w.value.int != 1)))
def zj6 (fn : Int) (its : Sl zad) (op : Int) (d : Val) : Bool :=
 !((((((decide (fn < 0)) || (decide (3 < fn))) || (decide (op < 5))) || (decide (10 < op))) || (!((zbS d)))) || ((decide (fn ≤ 1)) && (d.kind != 0))) && its.l.all (zr6 fn d)
end Go.Ev
set_option linter.unusedVariables false
namespace Go.Ev
noncomputable def zr2 (kk : Nat) (a : (Sl zal)) (b : (Sl zal)) : Option (Bool) :=
 bnd (okP (zak a.l + zak b.l < big - 1)) fun _ =>
 some ((zcH a b) == 0)
noncomputable def zhE (kk : Nat) (a : (Sl zal)) (b : (Sl zal)) : Option (Bool) :=
 bnd (okP (8 * (zak a.l + zak b.l) + 7 < big - 1)) fun _ =>
 some ((zcH a b) == 0)
noncomputable def zg2 (c6 : Sl zal) (c7 : Int) (kk : Nat) : Nat → Int → Option (Out (Bool) (Int))
 | 0, _ => none
 | k + 1, s8 =>
   bnd (ix c6.l c7) fun (y9 : zal) =>
   sel (
    bnd (ix y9.factors.l s8) fun (y10 : zai) =>
    sel (
     sel (
      some (.ret false)) (
      zg2 c6 c7 kk k (IntKind.wrap .i64 (s8 + 1))) (decide (1024 < (y10.atom.items.l.length : Int)))) (
     some (.ret false)) (!(decide (64 < y10.exp)))) (
    some (.done s8)) (decide (s8 < (y9.factors.l.length : Int)))
noncomputable def zg3 (c3 : Sl zal) (kk : Nat) : Nat → Int → Option (Out (Bool) (Int))
 | 0, _ => none
 | k + 1, s4 =>
   sel (
    bnd (ix c3.l s4) fun (y5 : zal) =>
    sel (
     some (.ret false)) (
     zhy (zg2 c3 s4 kk kk 0) (fun r => some (.ret r)) fun (q11 : Int) =>
      zg3 c3 kk k (IntKind.wrap .i64 (s4 + 1))) (decide (64 < (y5.factors.l.length : Int)))) (
    some (.done s4)) (decide (s4 < (c3.l.length : Int)))
noncomputable def zr3 (kk : Nat) (a : (Sl zal)) : Option (Bool) :=
 sel (
  bnd (okP (zak a.l < big - 1)) fun _ =>
  sel (
   bnd (okP (zak a.l < big - 1)) fun _ =>
   sel (
    some false) (
    zhy (zg3 a kk kk 0) (fun r => some r) fun (q12 : Int) =>
     some true) (decide (4096 < (zlq a)))) (
   some false) (!(decide (8 < (zjs a))))) (
  some false) (!(decide (512 < (a.l.length : Int))))
noncomputable def zhb (c1 : Int) (c2 : Sl zad) (c4 : Val) (kk : Nat) : Nat → Int → Option (Out (Bool) (Int))
 | 0, _ => none
 | k + 1, s3 =>
   sel (
    bnd (ix c2.l s3) fun (y5 : zad) =>
    sel (
     some (.ret false)) (
     zhb c1 c2 c4 kk k (IntKind.wrap .i64 (s3 + 1))) (((!((zbS y5.value))) || (y5.value.kind != c4.kind)) || ((c1 == 0) && (y5.value.int != 1)))) (
    some (.done s3)) (decide (s3 < (c2.l.length : Int)))
noncomputable def zpG (kk : Nat) (a : Int) (b : (Sl zad)) (c : Int) (d : Val) : Option (Bool) :=
 sel (
  some false) (
  zhy (zhb a b d kk kk 0) (fun r => some r) fun (q6 : Int) =>
   some true) ((((((decide (a < 0)) || (decide (3 < a))) || (decide (c < 5))) || (decide (10 < c))) || (!((zbS d)))) || ((decide (a ≤ 1)) && (d.kind != 0)))
end Go.Ev
namespace Go.Ev
theorem zBZ {kk : Nat} (a b : Sl zal) (h : zak a.l + zak b.l < big - 1) (_hk : 0 < big) : zr2 kk a b = some (zn7 a b) := by
 unfold zr2; rw [zat h]; rfl
theorem zrA {kk : Nat} (a b : Sl zal) (h : 8 * (zak a.l + zak b.l) + 7 < big - 1) (_hk : 0 < big) : zhE kk a b = some (zn7 a b) := by
 unfold zhE; rw [zat h]; rfl
theorem zps {α : Type} (p : α → Bool) (l : List α) : (l.any fun x => !p x) = !l.all p := by
 induction l with
 | nil => rfl
 | cons x l ih => simp only [List.any_cons, List.all_cons, ih, Bool.not_and]
theorem zzA {kk : Nat} (a : Int) (b : Sl zad) (c : Int) (d : Val) (h : b.l.length < big - 1) (hk : b.l.length < kk) : zpG kk a b c d = some (zj6 a b c d) := by
 unfold zpG zj6
 rw [zol (xs := b.l) (L := zhb a b d kk) (fun x => !zr6 a d x) false (fun k => by simp [zhb]) (fun k i x hi ex => ?_) hk, zps]
 · generalize ((((((decide (a < 0)) || (decide (3 < a))) || (decide (c < 5))) || (decide (10 < c))) || (!((zbS d)))) || ((decide (a ≤ 1)) && (d.kind != 0))) = u
   cases u <;> cases b.l.all (zr6 a d) <;> rfl
 · simp only [zhb, zdL, decide_eq_true hi, zaw, zbO, ex, zaf]
   rw [zaL (by omega), zdK]
   simp only [zr6, Bool.not_not]
theorem zyz {a : Sl zal} {j : Nat} {t : zal} {kk k : Nat} (ht : a.l[j]? = some t) (h : t.factors.l.length < big - 1) (hk : t.factors.l.length < k) :
 zg2 a j kk k 0 = if t.factors.l.all zd5 then some (.done (t.factors.l.length : Int)) else some (.ret false) := by
 rw [zol (xs := t.factors.l) (L := zg2 a j kk) (fun x => !zd5 x) false (fun k => by simp [zg2, zbO, ht]) (fun k i x hi ex => ?_) hk, zps]
 · cases t.factors.l.all zd5 <;> rfl
 · simp only [zg2, zdL, zbO, ht, zaf, decide_eq_true hi, zaw, ex]
   rw [zaL (by omega)]
   unfold zd5
   simp only [zdK, Bool.not_eq_true', decide_eq_false_iff_not, decide_eq_true_eq, Bool.and_eq_false_iff]
   by_cases h1 : x.exp ≤ 64
   · by_cases h2 : (x.atom.items.l.length : Int) ≤ 1024
     · rw [if_pos (by omega), if_neg (by omega), if_neg (by omega)]
     · rw [if_pos (by omega), if_pos (by omega), if_pos (by omega)]
   · rw [if_neg (by omega), if_pos (by omega)]
theorem zyA {a : Sl zal} {kk k : Nat} (h : zak a.l < big - 1) (hk : a.l.length < k) (hkk : zak a.l < kk) :
 zg3 a kk k 0 = if a.l.all zfE then some (.done (a.l.length : Int)) else some (.ret false) := by
 have hl := zb3 a.l
 rw [zol (xs := a.l) (L := zg3 a kk) (fun x => !zfE x) false (fun k => by simp [zg3]) (fun k i x hi ex => ?_) hk, zps]
 · cases a.l.all zfE <;> rfl
 · have h1 := zdh ex
   have h2 := zdm x
   have h3 := zbM x.factors.l
   simp only [zg3, zdL, decide_eq_true hi, zaw, zbO, ex, zaf]
   rw [zaL (by omega), zyz ex (by omega) (by omega)]
   unfold zfE
   by_cases h4 : (x.factors.l.length : Int) ≤ 64
   · rw [decide_eq_true h4, decide_eq_false (show ¬ (64 : Int) < x.factors.l.length by omega)]
     cases x.factors.l.all zd5 <;> rfl
   · rw [decide_eq_false h4, decide_eq_true (show (64 : Int) < x.factors.l.length by omega)]
     rfl
theorem zB0 {kk : Nat} (a : Sl zal) (h : zak a.l < big - 1) (hk : zak a.l < kk) : zr3 kk a = some (zof a) := by
 have hl := zb3 a.l
 unfold zr3 zof
 rw [zat h, zyA h (by omega) hk]
 simp only [zaf, zdv, zjl]
 by_cases h1 : (a.l.length : Int) ≤ 512
 · rw [if_neg (by omega), decide_eq_true h1]
   by_cases h2 : zjs a ≤ 8
   · rw [if_neg (by omega), decide_eq_true h2]
     by_cases h3 : zlq a ≤ 4096
     · rw [if_neg (by omega), decide_eq_true h3]
       cases a.l.all zfE <;> rfl
     · rw [if_pos (by omega), decide_eq_false h3]; rfl
   · rw [if_pos (by omega), decide_eq_false h2]; rfl
 · rw [if_pos (by omega), decide_eq_false h1]; rfl
end Go.Ev
namespace Go.Ev
def adj {α : Type} (f : α → α → Bool) : List α → Bool
 | x :: y :: l => f x y && adj f (y :: l)
 | _ => true
def zo1 (fn : Int) (il : Nat) (op : Int) (b : Val) : Bool := (((fn == 0) && ((il : Int) == 0)) && (op == 0)) && ((b.kind == 0) && ((b.int == 0) && (b.text == [])))
def zqU (a : Sl zal) : Bool := if (a.l.length : Int) = 1 then !(zem a) && !(zk5 a) else !(zk5 a)
mutual
def ztq : zal → Bool
 | .mk c ⟨_, fs⟩ => !(decide (c < 1)) && !(decide (1152921504606846976 < c)) && zlm fs && adj (fun x y => decide (zb0 x.atom y.atom < 0)) fs
def zlm : List zai → Bool
 | [] => true
 | x :: xs => zgj x && zlm xs
def zgj : zai → Bool
 | .mk a e => !((decide (e < 1)) || ((decide (1 < e)) && (decide (3 ≤ a.kind)))) && zgw a
def zgw : zan → Bool
 | .mk k r ⟨f1, as⟩ fn ⟨f2, is⟩ op b =>
   if k = 0 then zdV r && ((as.length : Int) == 0) && zo1 fn is.length op b
   else (r.table == 0) && (r.seq == 0) && zww as &&
    (if k = 1 then ((as.length : Int) == 2) && zo1 fn is.length op b && (match as with | [x, y] => !(zn7 x y) | _ => false)
    else if k = 2 then ((as.length : Int) == 1) && zo1 fn is.length op b && (match as with | [x] => zqU x | _ => false)
    else if k = 3 then ((as.length : Int) == 1) && zo1 fn is.length op b && (match as with | [x] => !(zem x) | _ => false)
    else if k = 4 then ((as.length : Int) == 0) && !((is.length : Int) == 0) && !(decide (1024 < (is.length : Int))) && zj6 fn ⟨f2, is⟩ op b && zsy is && adj (fun x y => decide (zcG ⟨.any, [x]⟩ ⟨.any, [y]⟩ ≤ 0)) is
    else false)
def zww : List (Sl zal) → Bool
 | [] => true
 | ⟨f, x⟩ :: xs => !((x.length : Int) == 0) && (zof ⟨f, x⟩ && zdl x && adj (fun x y => decide (zbF x.factors y.factors < 0)) x) && zww xs
def zdl : List zal → Bool
 | [] => true
 | x :: xs => ztq x && zdl xs
def zsy : List zad → Bool
 | [] => true
 | x :: xs => zAw x && zsy xs
def zAw : zad → Bool
 | .mk _ ⟨f, x⟩ => !((x.length : Int) == 0) && (zof ⟨f, x⟩ && zdl x && adj (fun x y => decide (zbF x.factors y.factors < 0)) x)
end
def zbZ (a : Sl zal) : Bool := zof a && zdl a.l && adj (fun x y => decide (zbF x.factors y.factors < 0)) a.l
theorem zoH (x : zal) : ztq x = (!(decide (x.coeff < 1)) && !(decide (1152921504606846976 < x.coeff)) && zlm x.factors.l && adj (fun x y => decide (zb0 x.atom y.atom < 0)) x.factors.l) := by
 rcases x with ⟨c, ⟨f, l⟩⟩; simp only [ztq, zal.coeff, zal.factors]; first | done | rfl
theorem zh9 (x : zai) : zgj x = (!((decide (x.exp < 1)) || ((decide (1 < x.exp)) && (decide (3 ≤ x.atom.kind)))) && zgw x.atom) := by cases x; simp only [zgj, zai.atom, zai.exp]; first | done | rfl
theorem zrJ (x : zad) : zAw x = (!((x.ann.l.length : Int) == 0) && zbZ x.ann) := by rcases x with ⟨v, ⟨f, l⟩⟩; simp only [zAw, zad.ann, zbZ]; first | done | rfl
theorem zmS (l : List zai) : zlm l = l.all zgj := by
 induction l with
 | nil => rfl
 | cons x l ih => simp only [zlm, List.all_cons, ih]
theorem zn0 (l : List zal) : zdl l = l.all ztq := by
 induction l with
 | nil => rfl
 | cons x l ih => simp only [zdl, List.all_cons, ih]
theorem zu2 (l : List zad) : zsy l = l.all zAw := by
 induction l with
 | nil => rfl
 | cons x l ih => simp only [zsy, List.all_cons, ih]
theorem zn1 (l : List (Sl zal)) : zww l = l.all fun x => !((x.l.length : Int) == 0) && zbZ x := by
 induction l with
 | nil => rfl
 | cons x l ih => cases x; simp only [zww, List.all_cons, ih, zbZ]
def zsA {α : Type} (p : α → Bool) (f : α → α → Bool) (l : List α) (i : Nat) : Bool :=
 match l[i]? with
 | some y => p y && (match i with
   | 0 => true
   | j + 1 => match l[j]? with
     | some x => f x y
     | none => true)
 | none => true
def zra {α : Type} (p : α → Bool) (f : α → α → Bool) (l : List α) : Nat → Nat → Bool
 | 0, _ => true
 | k + 1, i => zsA p f l i && zra p f l k (i + 1)
theorem zIV {α : Type} {L : Nat → Int → Option (Out Bool Int)} {xs : List α} (p : α → Bool) (f : α → α → Bool) (v : Bool)
 (hend : ∀ k, L (k + 1) xs.length = some (.done (xs.length : Int)))
 (hstep : ∀ k (i : Nat), i < xs.length → L (k + 1) (i : Int) = if zsA p f xs i then L k ((i + 1 : Nat) : Int) else some (.ret v)) :
 ∀ k i, i ≤ xs.length → xs.length - i < k → L k (i : Int) = if zra p f xs (xs.length - i) i then some (.done (xs.length : Int)) else some (.ret v) := by
 intro k
 induction k with
 | zero => intro i _ h; omega
 | succ k ih =>
   intro i h1 h2
   by_cases e : i = xs.length
   · subst e; rw [hend, Nat.sub_self]; simp [zra]
   · rw [hstep k i (by omega), show xs.length - i = (xs.length - (i + 1)) + 1 by omega, zra]
     cases hs : zsA p f xs i
     · simp
     · rw [if_pos rfl, ih (i + 1) (by omega) (by omega)]; simp
theorem zE2 {α : Type} (p : α → Bool) (f : α → α → Bool) (x y : α) (l : List α) (k i : Nat) :
 zra p f (x :: y :: l) k (i + 2) = zra p f (y :: l) k (i + 1) := by
 induction k generalizing i with
 | zero => rfl
 | succ k ih =>
   simp only [zra]
   rw [ih (i + 1)]
   congr 1
theorem zHG {α : Type} (p : α → Bool) (f : α → α → Bool) (l : List α) : zra p f l l.length 0 = (l.all p && adj f l) := by
 have key : ∀ (l : List α) (x : α), zra p f (x :: l) l.length 1 = (l.all p && adj f (x :: l)) := by
  intro l
  induction l with
  | nil => intro x; rfl
  | cons y l ih =>
    intro x
    have := zE2 p f x y l l.length 0
    simp only [List.length_cons, zra]
    rw [this, ih y]
    simp only [zsA, List.getElem?_cons_succ, List.getElem?_cons_zero, List.all_cons, adj]
    cases p y <;> cases f x y <;> cases l.all p <;> rfl
 cases l with
 | nil => rfl
 | cons x l =>
   simp only [List.length_cons, zra]
   rw [key l x]
   simp [zsA, Bool.and_assoc]
theorem zn6 {α : Type} {L : Nat → Int → Option (Out Bool Int)} {xs : List α} {k : Nat} (p : α → Bool) (f : α → α → Bool) (v : Bool)
 (hend : ∀ k, L (k + 1) xs.length = some (.done (xs.length : Int)))
 (hstep : ∀ k (i : Nat), i < xs.length → L (k + 1) (i : Int) = if zsA p f xs i then L k ((i + 1 : Nat) : Int) else some (.ret v))
 (hk : xs.length < k) : L k 0 = if xs.all p && adj f xs then some (.done (xs.length : Int)) else some (.ret v) := by
 have := zIV p f v hend hstep k 0 (by omega) (by omega)
 rw [Nat.sub_zero, zHG] at this
 exact this
end Go.Ev
set_option linter.unusedVariables false
namespace Go.Ev
noncomputable def zdD (c16 : Sl zal) (c17 : Int) (c19 : zal) (sz : Nat) (kk : Nat) : Nat → Int → Option (Out (Bool) (Int))
 | 0, _ => none
 | k + 1, s18 =>
   sel (
    bnd (ix c19.factors.l s18) fun (y20 : zai) =>
    sel (
     bnd (okP (zbx y20.atom < sz)) fun _ =>
     sel (
      bnd (ix c19.factors.l (IntKind.wrap .i64 (s18 - 1))) fun (y22 : zai) =>
      bnd (okP (zbx y22.atom + zbx y20.atom < big - 1)) fun _ =>
      sel (
       some (.ret false)) (
       zdD c16 c17 c19 sz kk k (IntKind.wrap .i64 (s18 + 1))) ((!((zgw y20.atom))) || (decide (0 ≤ (zb0 y22.atom y20.atom))))) (
      sel (
       zdD c16 c17 c19 sz kk k (IntKind.wrap .i64 (s18 + 1))) (
       some (.ret false)) (!(!((zgw y20.atom))))) (decide (0 < s18))) (
     some (.ret false)) (!((decide (y20.exp < 1)) || ((decide (1 < y20.exp)) && (decide (3 ≤ y20.atom.kind)))))) (
    some (.done s18)) (decide (s18 < (c19.factors.l.length : Int)))
noncomputable def zhc (c7 : Sl zal) (c8 : Int) (c10 : zal) (sz : Nat) (kk : Nat) : Nat → Int → Option (Out (Bool) (Int))
 | 0, _ => none
 | k + 1, s9 =>
   sel (
    bnd (ix c10.factors.l s9) fun (y11 : zai) =>
    sel (
     bnd (okP (zbx y11.atom < sz)) fun _ =>
     sel (
      bnd (ix c10.factors.l (IntKind.wrap .i64 (s9 - 1))) fun (y13 : zai) =>
      bnd (okP (zbx y13.atom + zbx y11.atom < big - 1)) fun _ =>
      sel (
       some (.ret false)) (
       zhc c7 c8 c10 sz kk k (IntKind.wrap .i64 (s9 + 1))) ((!((zgw y11.atom))) || (decide (0 ≤ (zb0 y13.atom y11.atom))))) (
      sel (
       zhc c7 c8 c10 sz kk k (IntKind.wrap .i64 (s9 + 1))) (
       some (.ret false)) (!(!((zgw y11.atom))))) (decide (0 < s9))) (
     some (.ret false)) (!((decide (y11.exp < 1)) || ((decide (1 < y11.exp)) && (decide (3 ≤ y11.atom.kind)))))) (
    some (.done s9)) (decide (s9 < (c10.factors.l.length : Int)))
noncomputable def zfj (c2 : Sl zal) (sz : Nat) (kk : Nat) : Nat → Int → Option (Out (Bool) (Int))
 | 0, _ => none
 | k + 1, s3 =>
   sel (
    bnd (ix c2.l s3) fun (y4 : zal) =>
    sel (
     bnd (ix c2.l (IntKind.wrap .i64 (s3 - 1))) fun (y5 : zal) =>
     bnd (okP (zaB y5.factors.l + zaB y4.factors.l < big - 1)) fun _ =>
     sel (
      some (.ret false)) (
      zhy (zhc c2 s3 y4 sz kk kk 0) (fun r => some (.ret r)) fun (q15 : Int) =>
       zfj c2 sz kk k (IntKind.wrap .i64 (s3 + 1))) (((decide (y4.coeff < 1)) || (decide (1152921504606846976 < y4.coeff))) || (decide (0 ≤ (zbF y5.factors y4.factors))))) (
     sel (
      zhy (zdD c2 s3 y4 sz kk kk 0) (fun r => some (.ret r)) fun (q24 : Int) =>
       zfj c2 sz kk k (IntKind.wrap .i64 (s3 + 1))) (
      some (.ret false)) (!((decide (y4.coeff < 1)) || (decide (1152921504606846976 < y4.coeff))))) (decide (0 < s3))) (
    some (.done s3)) (decide (s3 < (c2.l.length : Int)))
noncomputable def zpH (kk : Nat) (sz : Nat) (a : (Sl zal)) : Option (Bool) :=
 bnd (okP (zak a.l < big - 1)) fun _ =>
 sel (
  some false) (
  zhy (zfj a sz kk kk 0) (fun r => some r) fun (q25 : Int) =>
   some true) (!((zof a)))
noncomputable def zcV (c15 : zan) (sz : Nat) (kk : Nat) : Nat → Int → Option (Out (Bool) (Int))
 | 0, _ => none
 | k + 1, s14 =>
   sel (
    bnd (ix c15.items.l s14) fun (y16 : zad) =>
    sel (
     bnd (okP (zak y16.ann.l < sz)) fun _ =>
     sel (
      bnd (zOj c15.items (some (IntKind.wrap .i64 (s14 - 1))) (some s14)) fun (y18 : Sl zad) =>
      bnd (zOj c15.items (some s14) (some (IntKind.wrap .i64 (s14 + 1)))) fun (y19 : Sl zad) =>
      bnd (okP (za9 y18.l + za9 y19.l < big - 1)) fun _ =>
      sel (
       some (.ret false)) (
       zcV c15 sz kk k (IntKind.wrap .i64 (s14 + 1))) ((!((zbZ y16.ann))) || (decide (0 < (zcG y18 y19))))) (
      sel (
       zcV c15 sz kk k (IntKind.wrap .i64 (s14 + 1))) (
       some (.ret false)) (!(!((zbZ y16.ann))))) (decide (0 < s14))) (
     some (.ret false)) (!((y16.ann.l.length : Int) == 0))) (
    some (.done s14)) (decide (s14 < (c15.items.l.length : Int)))
noncomputable def zdq (c2 : zan) (sz : Nat) (kk : Nat) : Nat → Int → Option (Out (Bool) (Int))
 | 0, _ => none
 | k + 1, s1 =>
   sel (
    bnd (ix c2.args.l s1) fun (y3 : (Sl zal)) =>
    sel (
     bnd (okP (zak y3.l < sz)) fun _ =>
     sel (
      some (.ret false)) (
      zdq c2 sz kk k (IntKind.wrap .i64 (s1 + 1))) (!((zbZ y3)))) (
     some (.ret false)) (!((y3.l.length : Int) == 0))) (
    some (.done s1)) (decide (s1 < (c2.args.l.length : Int)))
noncomputable def zjY (kk : Nat) (sz : Nat) (a : zan) : Option (Bool) :=
 sel (
  some ((((decide (1 ≤ a.row.table)) && (decide (1 ≤ a.row.seq))) && ((a.args.l.length : Int) == 0)) && ((zj5 a)))) (
  sel (
   some false) (
   zhy (zdq a sz kk kk 0) (fun r => some r) fun (q5 : Int) =>
    sel (
     sel (
      bnd (a.args.l[0]?) fun (y6 : (Sl zal)) =>
      bnd (a.args.l[1]?) fun (y7 : (Sl zal)) =>
      bnd (okP (zak y6.l + zak y7.l < big - 1)) fun _ =>
      some (!((zn7 y6 y7)))) (
      some false) (((a.args.l.length : Int) == 2) && ((zj5 a)))) (
     sel (
      sel (
       bnd (a.args.l[0]?) fun (y9 : (Sl zal)) =>
       sel (
        bnd (okP (y9.l.length < big - 1)) fun _ =>
        sel (
         some (!((zk5 y9)))) (
         some false) (!((zem y9)))) (
        some (!((zk5 y9)))) ((y9.l.length : Int) == 1)) (
       some false) (((a.args.l.length : Int) == 1) && ((zj5 a)))) (
      sel (
       sel (
        bnd (a.args.l[0]?) fun (y11 : (Sl zal)) =>
        bnd (okP (y11.l.length < big - 1)) fun _ =>
        some (!((zem y11)))) (
        some false) (((a.args.l.length : Int) == 1) && ((zj5 a)))) (
       sel (
        sel (
         bnd (okP (a.items.l.length < big - 1)) fun _ =>
         sel (
          some false) (
          zhy (zcV a sz kk kk 0) (fun r => some r) fun (q21 : Int) =>
           some true) (!((zj6 a.func a.items a.op a.bound)))) (
         some false) (!((((a.args.l.length : Int) != 0) || ((a.items.l.length : Int) == 0)) || (decide (1024 < (a.items.l.length : Int)))))) (
        some false) (a.kind == 4)) (a.kind == 3)) (a.kind == 2)) (a.kind == 1)) (!((a.row.table == 0) && (a.row.seq == 0)))) (a.kind == 0)
end Go.Ev
namespace Go.Ev
theorem zlO {α : Type} (f : α → Nat) {l : List α} {i : Nat} {x y : α} (h : l[i]? = some x) (h' : l[i + 1]? = some y) : f x + f y ≤ zgx f l := by
 have h1 := zu3 f h
 have h2 := zu3 f h'
 have h3 := ztw f l (i + 1 + 1)
 omega
theorem znZ {i : Nat} (h : i < big) : IntKind.wrap .i64 (((i + 1 : Nat) : Int) - 1) = ((i : Nat) : Int) := by
 have : big = 1152921504606846976 := rfl
 rw [zc3 (by omega) (by omega)]; omega
theorem zxp {α : Type} {p : α → Bool} {f : α → α → Bool} {l : List α} {i : Nat} {x y : α} (h : l[i]? = some x) (h' : l[i + 1]? = some y) : zsA p f l (i + 1) = (p y && f x y) := by
 simp only [zsA, h, h']
theorem zCu {α : Type} {p : α → Bool} {f : α → α → Bool} {l : List α} {y : α} (h' : l[0]? = some y) : zsA p f l 0 = p y := by
 simp only [zsA, h', Bool.and_true]
def zm3 (x y : zai) : Bool := decide (zb0 x.atom y.atom < 0)
def ziI (x y : zal) : Bool := decide (zbF x.factors y.factors < 0)
theorem zwF {c7 : Sl zal} {c8 : Int} {t : zal} {sz kk k : Nat} (h : zaB t.factors.l < sz) (hb : sz < big) (hk : t.factors.l.length < k) :
 zdD c7 c8 t sz kk k 0 = if t.factors.l.all zgj && adj zm3 t.factors.l then some (.done (t.factors.l.length : Int)) else some (.ret false) := by
 have hl := zbM t.factors.l
 refine zn6 (xs := t.factors.l) (L := zdD c7 c8 t sz kk) zgj zm3 false (fun k => by simp [zdD]) (fun k i hi => ?_) hk
 have ey := List.getElem?_eq_getElem hi
 have hy := zcQ ey
 have hy1 := zcA t.factors.l[i]
 revert ey hy hy1
 generalize t.factors.l[i] = y
 intro ey hy hy1
 simp only [zdD, zdL, decide_eq_true hi, zaw, zbO, ey, zaf]
 rw [zat (show zbx y.atom < sz by omega), zaL (by omega)]
 simp only [zaf]
 cases i with
 | zero =>
   rw [zCu ey, zh9]
   generalize ((decide (y.exp < 1)) || ((decide (1 < y.exp)) && (decide (3 ≤ y.atom.kind)))) = u
   cases u <;> cases zgw y.atom <;> simp
 | succ j =>
   have hj : j < t.factors.l.length := by omega
   have ex := List.getElem?_eq_getElem hj
   have h2 := zlO (fun x => zc4 x + 1) ex ey
   rw [← zoJ] at h2
   have hx1 := zcA t.factors.l[j]
   revert ex h2 hx1
   generalize t.factors.l[j] = x
   intro ex h2 hx1
   have hb1 : big = 1152921504606846976 := rfl
   rw [zxp ex ey, znZ (by omega), zh9]
   simp only [zbO, ex, zaf]
   rw [zat (show zbx x.atom + zbx y.atom < big - 1 by omega)]
   unfold zm3
   generalize ((decide (y.exp < 1)) || ((decide (1 < y.exp)) && (decide (3 ≤ y.atom.kind)))) = u
   have e : decide (0 < ((j + 1 : Nat) : Int)) = true := by simp
   rw [e]
   by_cases hc : zb0 x.atom y.atom < 0
   · rw [decide_eq_true hc, decide_eq_false (show ¬ 0 ≤ zb0 x.atom y.atom by omega)]
     cases u <;> cases zgw y.atom <;> simp
   · rw [decide_eq_false hc, decide_eq_true (show 0 ≤ zb0 x.atom y.atom by omega)]
     cases u <;> cases zgw y.atom <;> simp
theorem zzx (c7 : Sl zal) (c8 : Int) (t : zal) (sz kk : Nat) : zhc c7 c8 t sz kk = zdD c7 c8 t sz kk := by
 funext k s
 induction k generalizing s with
 | zero => rfl
 | succ k ih => simp only [zhc, zdD, ih]
theorem zwG {a : Sl zal} {sz kk k : Nat} (h : zak a.l < sz + 1) (hb : sz < big) (hk : a.l.length < k) (hkk : sz < kk) :
 zfj a sz kk k 0 = if a.l.all ztq && adj ziI a.l then some (.done (a.l.length : Int)) else some (.ret false) := by
 have hl := zb3 a.l
 refine zn6 (xs := a.l) (L := zfj a sz kk) ztq ziI false (fun k => by simp [zfj]) (fun k i hi => ?_) hk
 have ey := List.getElem?_eq_getElem hi
 have hy := zdh ey
 have hy1 := zdm a.l[i]
 have hy2 := zbM a.l[i].factors.l
 have hv := zoH a.l[i]
 revert ey hy hy1 hy2 hv
 generalize a.l[i] = y
 intro ey hy hy1 hy2 hv
 rw [show (fun x y : zai => decide (zb0 x.atom y.atom < 0)) = zm3 from rfl, zmS] at hv
 simp only [zfj, zdL, decide_eq_true hi, zaw, zbO, ey, zaf, zzx]
 rw [zaL (by omega), zwF (by omega) hb (by omega)]
 cases i with
 | zero =>
   rw [zCu ey, hv]
   generalize (decide (y.coeff < 1)) = u
   generalize (decide (1152921504606846976 < y.coeff)) = u'
   cases u <;> cases u' <;> cases y.factors.l.all zgj <;> cases adj zm3 y.factors.l <;> simp
 | succ j =>
   have hj : j < a.l.length := by omega
   have ex := List.getElem?_eq_getElem hj
   have h2 := zlO (fun x => zcF x + 1) ex ey
   rw [← zsR] at h2
   have hx1 := zdm a.l[j]
   revert ex h2 hx1
   generalize a.l[j] = x
   intro ex h2 hx1
   have hb1 : big = 1152921504606846976 := rfl
   rw [zxp ex ey, znZ (by omega), hv]
   simp only [zbO, ex, zaf]
   rw [zat (show zaB x.factors.l + zaB y.factors.l < big - 1 by omega)]
   unfold ziI
   generalize (decide (y.coeff < 1)) = u
   generalize (decide (1152921504606846976 < y.coeff)) = u'
   have e : decide (0 < ((j + 1 : Nat) : Int)) = true := by simp
   rw [e]
   by_cases hc : zbF x.factors y.factors < 0
   · rw [decide_eq_true hc, decide_eq_false (show ¬ 0 ≤ zbF x.factors y.factors by omega)]
     cases u <;> cases u' <;> cases y.factors.l.all zgj <;> cases adj zm3 y.factors.l <;> simp
   · rw [decide_eq_false hc, decide_eq_true (show 0 ≤ zbF x.factors y.factors by omega)]
     cases u <;> cases u' <;> cases y.factors.l.all zgj <;> cases adj zm3 y.factors.l <;> simp
theorem zzB {kk sz : Nat} {a : Sl zal} (h : zak a.l < sz + 1) (hk : sz < kk) (hb : sz + 1 < big) : zpH kk sz a = some (zbZ a) := by
 have hl := zb3 a.l
 unfold zpH zbZ
 rw [zat (by omega), zwG h (by omega) (by omega) hk, zn0]
 rw [show (fun x y : zal => decide (zbF x.factors y.factors < 0)) = ziI from rfl]
 cases zof a <;> cases a.l.all ztq <;> cases adj ziI a.l <;> rfl
theorem zKk {α : Type} {l : List α} {i : Nat} {x : α} (h : l[i]? = some x) : cut l i 1 = [x] := by
 have hi := (List.getElem?_eq_some_iff.1 h).1
 have e : l[i] = x := (List.getElem?_eq_some_iff.1 h).2
 unfold cut
 split
 · next hc =>
   obtain ⟨h1, h2⟩ := hc
   subst h1
   rcases l with _ | ⟨a, _ | ⟨b, l⟩⟩
   · simp at hi
   · simp at e; rw [e]
   · simp at h2
 · rw [List.drop_eq_getElem_cons hi, e]; rfl
theorem zFQ {α : Type} (s : Sl α) {i : Nat} {x : α} (h : s.l[i]? = some x) : ∃ f, zOj s (some (i : Int)) (some ((i + 1 : Nat) : Int)) = some ⟨f, [x]⟩ := by
 have hi := (List.getElem?_eq_some_iff.1 h).1
 refine ⟨zk4 s.fl (i + 1 == s.l.length), ?_⟩
 unfold zOj
 simp only [Option.getD_some, Int.toNat_natCast]
 rw [if_pos ⟨by omega, by omega, by omega, by omega⟩, show i + 1 - i = 1 by omega, zKk h]
def zq1 (x y : zad) : Bool := decide (zcG ⟨.any, [x]⟩ ⟨.any, [y]⟩ ≤ 0)
theorem zxm (x : zad) : za9 [x] = zec x + 1 := by simp [za9]
theorem zse {a : zan} {sz kk k : Nat} (h : zbx a < sz + 1) (hb : sz + 1 < big) (hk : a.items.l.length < k) :
 zcV a sz kk k 0 = if a.items.l.all zAw && adj zq1 a.items.l then some (.done (a.items.l.length : Int)) else some (.ret false) := by
 have hl := zcz a.items.l
 have hz := zcq a
 refine zn6 (xs := a.items.l) (L := zcV a sz kk) zAw zq1 false (fun k => by simp [zcV]) (fun k i hi => ?_) hk
 have ey := List.getElem?_eq_getElem hi
 have hy := zn4 ey
 revert ey hy
 generalize a.items.l[i] = y
 intro ey hy
 obtain ⟨f2, e2⟩ := zFQ a.items ey
 simp only [zcV, zdL, decide_eq_true hi, zaw, zbO, ey, zaf]
 rw [zat (show zak y.ann.l < sz by omega), zaL (by omega)]
 simp only [zaf]
 cases i with
 | zero =>
   rw [zCu ey, zrJ]
   generalize ((y.ann.l.length : Int) == 0) = u
   cases u <;> cases zbZ y.ann <;> simp
 | succ j =>
   have hj : j < a.items.l.length := by omega
   have ex := List.getElem?_eq_getElem hj
   have h2 := zlO (fun x => zec x + 1) ex ey
   rw [← zsS] at h2
   revert ex h2
   generalize a.items.l[j] = x
   intro ex h2
   obtain ⟨f1, e1⟩ := zFQ a.items ex
   have hb1 : big = 1152921504606846976 := rfl
   rw [zxp ex ey, znZ (by omega), zrJ, e1, e2]
   simp only [zaf]
   rw [zat (show za9 [x] + za9 [y] < big - 1 by rw [zxm, zxm]; omega)]
   rw [show zcG ⟨f1, [x]⟩ ⟨f2, [y]⟩ = zcG ⟨.any, [x]⟩ ⟨.any, [y]⟩ from rfl]
   unfold zq1
   generalize ((y.ann.l.length : Int) == 0) = u
   have e : decide (0 < ((j + 1 : Nat) : Int)) = true := by simp
   rw [e]
   generalize zcG ⟨.any, [x]⟩ ⟨.any, [y]⟩ = c
   by_cases hc : c ≤ 0
   · rw [decide_eq_true hc, decide_eq_false (show ¬ 0 < c by omega)]
     cases u <;> cases zbZ y.ann <;> simp
   · rw [decide_eq_false hc, decide_eq_true (show 0 < c by omega)]
     cases u <;> cases zbZ y.ann <;> simp
theorem zsf {a : zan} {sz kk k : Nat} (h : zbx a < sz + 1) (hb : sz + 1 < big) (hk : a.args.l.length < k) :
 zdq a sz kk k 0 = if zww a.args.l then some (.done (a.args.l.length : Int)) else some (.ret false) := by
 have hl := zd2 a.args.l
 have hz := zcq a
 rw [zn1, zol (xs := a.args.l) (L := zdq a sz kk) (fun x => !(!((x.l.length : Int) == 0) && zbZ x)) false (fun k => by simp [zdq]) (fun k i x hi ex => ?_) hk, zps]
 · generalize a.args.l.all _ = u; cases u <;> rfl
 · have hx := zfy ex
   simp only [zdq, zdL, decide_eq_true hi, zaw, zbO, ex, zaf]
   rw [zat (show zak x.l < sz by omega), zaL (by omega)]
   generalize ((x.l.length : Int) == 0) = u
   cases u <;> cases zbZ x <;> simp
theorem zIK {α : Type} {l : List α} (h : ((l.length : Nat) : Int) = 2) : ∃ x y, l = [x, y] := by
 rcases l with _ | ⟨x, _ | ⟨y, _ | ⟨z, l⟩⟩⟩
 · simp at h
 · simp at h
 · exact ⟨x, y, rfl⟩
 · simp at h; omega
def k1B (a : zan) : Bool := ((a.args.l.length : Int) == 2) && zj5 a && (match a.args.l with | [x, y] => !(zn7 x y) | _ => false)
def k2B (a : zan) : Bool := ((a.args.l.length : Int) == 1) && zj5 a && (match a.args.l with | [x] => zqU x | _ => false)
def k3B (a : zan) : Bool := ((a.args.l.length : Int) == 1) && zj5 a && (match a.args.l with | [x] => !(zem x) | _ => false)
def k4B (a : zan) : Bool := ((a.args.l.length : Int) == 0) && !((a.items.l.length : Int) == 0) && !(decide (1024 < (a.items.l.length : Int))) && zj6 a.func a.items a.op a.bound && zsy a.items.l && adj zq1 a.items.l
theorem zln (a : zan) : zgw a = (if a.kind = 0 then zdV a.row && ((a.args.l.length : Int) == 0) && zj5 a
 else (a.row.table == 0) && (a.row.seq == 0) && zww a.args.l && (if a.kind = 1 then k1B a else if a.kind = 2 then k2B a else if a.kind = 3 then k3B a else if a.kind = 4 then k4B a else false)) := by
 rcases a with ⟨k, r, ⟨f1, as⟩, fn, ⟨f2, is⟩, op, b⟩
 simp only [zgw, zan.kind, zan.row, zan.args]
 rfl
theorem zuM {kk sz : Nat} {a : zan} (h : zbx a < sz + 1) (hk : sz < kk) (hb : sz + 1 < big) : zjY kk sz a = some (zgw a) := by
 have hz := zcq a
 have h1 := zd2 a.args.l
 have h2 := zcz a.items.l
 unfold zjY
 rw [zln, zsf h hb (by omega), zse h hb (by omega), zcr, zcr, zcr, zcr, zcr, zdv]
 by_cases c0 : a.kind = 0
 · rw [if_pos c0, if_pos c0]; rfl
 rw [if_neg c0, if_neg c0]
 cases hrow : ((a.row.table == 0) && (a.row.seq == 0))
 · rfl
 rw [zaw]
 cases hv : zww a.args.l
 · rfl
 simp only [Bool.true_and, if_true, zbE]
 by_cases c1 : a.kind = 1
 · rw [if_pos c1, if_pos c1]
   unfold k1B
   cases hp : (((a.args.l.length : Int) == 2) && zj5 a)
   · rfl
   · simp only [Bool.and_eq_true, beq_iff_eq] at hp
     obtain ⟨x, y, e⟩ := zIK hp.1
     rw [e] at hz ⊢
     simp only [zcv] at hz
     simp only [List.getElem?_cons_zero, List.getElem?_cons_succ, zaf, zaw]
     rw [zat (by cases x; cases y; simp only at hz ⊢; omega)]
     rfl
 rw [if_neg c1, if_neg c1]
 by_cases c2 : a.kind = 2
 · rw [if_pos c2, if_pos c2]
   unfold k2B
   cases hp : (((a.args.l.length : Int) == 1) && zj5 a)
   · rfl
   · simp only [Bool.and_eq_true, beq_iff_eq] at hp
     obtain ⟨x, e⟩ := zp4 hp.1
     rw [e] at hz ⊢
     simp only [zcv] at hz
     have hx := zb3 x.l
     simp only [List.getElem?_cons_zero, zaf, zaw]
     rw [zat (show x.l.length < big - 1 by cases x; simp only at hz hx ⊢; omega)]
     unfold zqU
     rw [zcr]
     by_cases c : (x.l.length : Int) = 1
     · rw [if_pos c, if_pos c]; cases zem x <;> rfl
     · rw [if_neg c, if_neg c]; rfl
 rw [if_neg c2, if_neg c2]
 by_cases c3 : a.kind = 3
 · rw [if_pos c3, if_pos c3]
   unfold k3B
   cases hp : (((a.args.l.length : Int) == 1) && zj5 a)
   · rfl
   · simp only [Bool.and_eq_true, beq_iff_eq] at hp
     obtain ⟨x, e⟩ := zp4 hp.1
     rw [e] at hz ⊢
     simp only [zcv] at hz
     have hx := zb3 x.l
     simp only [List.getElem?_cons_zero, zaf, zaw]
     rw [zat (show x.l.length < big - 1 by cases x; simp only at hz hx ⊢; omega)]
     rfl
 rw [if_neg c3, if_neg c3]
 by_cases c4 : a.kind = 4
 · rw [if_pos c4, if_pos c4, zat (by omega), zaf]
   unfold k4B
   rw [zu2]
   have e : ((a.args.l.length : Int) != 0) = !((a.args.l.length : Int) == 0) := rfl
   rw [e]
   cases ((a.args.l.length : Int) == 0) <;> cases ((a.items.l.length : Int) == 0) <;> cases (decide (1024 < (a.items.l.length : Int))) <;> cases zj6 a.func a.items a.op a.bound <;> cases a.items.l.all zAw <;> cases adj zq1 a.items.l <;> rfl
 rw [if_neg c4, if_neg c4]
end Go.Ev
namespace Go.Ev
def zp6 (f : zai) : Bool := (decide (64 < f.exp)) || (decide (1024 < (f.atom.items.l.length : Int)))
def zp5 (t : zal) : Bool := !zfE t
def zy8 (t : zal) : Bool := (t.factors.l.length : Int) == 0
def ziC {α : Type} (p : α → Bool) : List α → Nat → Int
 | [], _ => -1
 | x :: l, i => if p x then (i : Int) else ziC p l (i + 1)
def zwy {α : Type} (p : α → Bool) (a : Sl α) : Int := ziC p a.l 0
def zuY {α : Type} (p : α → Bool) (a : Sl α) : Bool := a.l.any p
theorem zEZ {α : Type} (p : α → Bool) (l : List α) (i : Nat) : 0 ≤ ziC p l i ↔ l.any p = true := by
 induction l generalizing i with
 | nil => simp [ziC]
 | cons x l ih =>
   by_cases h : p x = true
   · simp [ziC, h]
   · have e : ziC p (x :: l) i = ziC p l (i + 1) := by simp [ziC, h]
     rw [e, ih]; simp [h]
theorem zkh {α : Type} (p : α → Bool) (l : List α) (i : Nat) : decide (0 ≤ ziC p l i) = l.any p := by
 have h := zEZ p l i
 cases e : l.any p
 · exact decide_eq_false (fun k => by rw [h.1 k] at e; cases e)
 · exact decide_eq_true (h.2 e)
theorem zDa {α : Type} (p : α → Bool) (l : List α) (i : Nat) (h : l.any p = false) : ziC p l i = -1 := by
 induction l generalizing i with
 | nil => rfl
 | cons x l ih =>
   simp only [List.any_cons, Bool.or_eq_false_iff] at h
   simp only [ziC, h.1]
   rw [if_neg (by simp), ih _ h.2]
theorem zJX {α : Type} {L : Nat → Int → Option (Out Int Int)} {xs : List α} (p : α → Bool)
 (hend : ∀ k, L (k + 1) xs.length = some (.done (xs.length : Int)))
 (hstep : ∀ k (i : Nat) x, i < xs.length → xs[i]? = some x → L (k + 1) (i : Int) = if p x then some (.ret (i : Int)) else L k ((i + 1 : Nat) : Int)) :
 ∀ k i, i ≤ xs.length → xs.length - i < k → L k (i : Int) = if (xs.drop i).any p then some (.ret (ziC p (xs.drop i) i)) else some (.done (xs.length : Int)) := by
 intro k
 induction k with
 | zero => intro i _ h; omega
 | succ k ih =>
   intro i h1 h2
   by_cases e : i = xs.length
   · subst e; rw [hend]; simp
   · have hi : i < xs.length := by omega
     rw [hstep k i _ hi (List.getElem?_eq_getElem hi), ih (i + 1) (by omega) (by omega), List.drop_eq_getElem_cons hi]
     simp only [List.any_cons, ziC]
     by_cases h : p xs[i] = true <;> simp [h]
theorem zt7 {α : Type} {L : Nat → Int → Option (Out Int Int)} {xs : List α} {k : Nat} (p : α → Bool)
 (hend : ∀ k, L (k + 1) xs.length = some (.done (xs.length : Int)))
 (hstep : ∀ k (i : Nat) x, i < xs.length → xs[i]? = some x → L (k + 1) (i : Int) = if p x then some (.ret (i : Int)) else L k ((i + 1 : Nat) : Int))
 (hk : xs.length < k) : zhy (L k 0) (fun r => some r) (fun (_ : Int) => some (-1)) = some (ziC p xs 0) := by
 have := zJX p hend hstep k 0 (by omega) (by omega)
 simp only [List.drop_zero] at this
 rw [show ((0 : Nat) : Int) = 0 from rfl] at this
 rw [this]
 cases h : xs.any p
 · rw [zDa p xs 0 h]; rfl
 · rfl
end Go.Ev
set_option linter.unusedVariables false
namespace Go.Ev
noncomputable def zhd (kk : Nat) (a : zai) : Option (Bool) :=
 some ((decide (64 < a.exp)) || (decide (1024 < (a.atom.items.l.length : Int))))
noncomputable def zf1 (kk : Nat) (a : zal) : Option (Bool) :=
 some ((a.factors.l.length : Int) == 0)
noncomputable def zaJ (c1 : Sl zai) (c2 : Int) (kk : Nat) : Nat → Int → Option (Out (Int) (Int))
 | 0, _ => none
 | k + 1, s3 =>
   sel (
    bnd (ix c1.l s3) fun (y4 : zai) =>
    sel (
     some (.ret s3)) (
     zaJ c1 c2 kk k (IntKind.wrap .i64 (s3 + 1))) ((zp6 y4))) (
    some (.done s3)) (decide (s3 < c2))
noncomputable def zbu (kk : Nat) (a : (Sl zai)) : Option (Int) :=
 zhy (zaJ a (a.l.length : Int) kk kk 0) (fun r => some r) fun (q5 : Int) =>
  some (-1)
noncomputable def zbo (kk : Nat) (a : (Sl zai)) : Option (Bool) :=
 bnd (okP (a.l.length < big - 1)) fun _ =>
 some (decide (0 ≤ (zwy zp6 a)))
noncomputable def zgi (kk : Nat) (a : zal) : Option (Bool) :=
 sel (
  bnd (okP (a.factors.l.length < big - 1)) fun _ =>
  some ((zuY zp6 a.factors))) (
  some true) (!(decide (64 < (a.factors.l.length : Int))))
noncomputable def zaY (c1 : Sl zal) (c2 : Int) (kk : Nat) : Nat → Int → Option (Out (Int) (Int))
 | 0, _ => none
 | k + 1, s3 =>
   sel (
    bnd (ix c1.l s3) fun (y4 : zal) =>
    bnd (okP (zcF y4 < big - 1)) fun _ =>
    sel (
     some (.ret s3)) (
     zaY c1 c2 kk k (IntKind.wrap .i64 (s3 + 1))) ((zp5 y4))) (
    some (.done s3)) (decide (s3 < c2))
noncomputable def zbG (kk : Nat) (a : (Sl zal)) : Option (Int) :=
 zhy (zaY a (a.l.length : Int) kk kk 0) (fun r => some r) fun (q6 : Int) =>
  some (-1)
noncomputable def zby (kk : Nat) (a : (Sl zal)) : Option (Bool) :=
 bnd (okP (zak a.l < big - 1)) fun _ =>
 some (decide (0 ≤ (zwy zp5 a)))
noncomputable def zhe (kk : Nat) (a : (Sl zal)) : Option (Bool) :=
 sel (
  bnd (okP (zak a.l < big - 1)) fun _ =>
  sel (
   bnd (okP (zak a.l < big - 1)) fun _ =>
   sel (
    some false) (
    bnd (okP (zak a.l < big - 1)) fun _ =>
    some (!((zuY zp5 a)))) (decide (4096 < (zlq a)))) (
   some false) (!(decide (8 < (zjs a))))) (
  some false) (!(decide (512 < (a.l.length : Int))))
noncomputable def zaH (c1 : Sl zal) (c2 : Int) (kk : Nat) : Nat → Int → Option (Out (Int) (Int))
 | 0, _ => none
 | k + 1, s3 =>
   sel (
    bnd (ix c1.l s3) fun (y4 : zal) =>
    sel (
     some (.ret s3)) (
     zaH c1 c2 kk k (IntKind.wrap .i64 (s3 + 1))) ((zy8 y4))) (
    some (.done s3)) (decide (s3 < c2))
noncomputable def zbt (kk : Nat) (a : (Sl zal)) : Option (Int) :=
 zhy (zaH a (a.l.length : Int) kk kk 0) (fun r => some r) fun (q5 : Int) =>
  some (-1)
noncomputable def zbi (kk : Nat) (a : (Sl zal)) : Option (Bool) :=
 bnd (okP (a.l.length < big - 1)) fun _ =>
 some (decide (0 ≤ (zwy zy8 a)))
noncomputable def zeS (kk : Nat) (a : (Sl zal)) : Option (Bool) :=
 bnd (okP (a.l.length < big - 1)) fun _ =>
 some ((zuY zy8 a))
end Go.Ev
namespace Go.Ev
theorem zmJ (kk : Nat) (a : zai) : zhd kk a = some (zp6 a) := rfl
theorem zk9 (kk : Nat) (a : zal) : zf1 kk a = some (zy8 a) := rfl
theorem zfk {kk : Nat} (a : Sl zai) (h : a.l.length < big - 1) (hk : a.l.length < kk) : zbu kk a = some (zwy zp6 a) := by
 unfold zbu zwy
 refine zt7 (xs := a.l) zp6 (fun k => by simp [zaJ]) (fun k i x hi ex => ?_) hk
 simp only [zaJ, zdL, decide_eq_true hi, zaw, zbO, ex, zaf]
 rw [zaL (by omega), zdK]
theorem zeE {kk : Nat} (a : Sl zai) (h : a.l.length < big - 1) (_hk : a.l.length < big) : zbo kk a = some (zuY zp6 a) := by
 unfold zbo zwy zuY
 rw [zat h, zkh]; rfl
theorem zHs (l : List zai) : l.any zp6 = !l.all zd5 := by
 rw [← zps]
 congr 1
 funext f
 unfold zp6 zd5
 by_cases h1 : f.exp ≤ 64
 · by_cases h2 : (f.atom.items.l.length : Int) ≤ 1024
   · rw [decide_eq_true h1, decide_eq_true h2, decide_eq_false (show ¬ (64 : Int) < f.exp by omega), decide_eq_false (show ¬ (1024 : Int) < f.atom.items.l.length by omega)]; rfl
   · rw [decide_eq_true h1, decide_eq_false h2, decide_eq_false (show ¬ (64 : Int) < f.exp by omega), decide_eq_true (show (1024 : Int) < f.atom.items.l.length by omega)]; rfl
 · rw [decide_eq_false h1, decide_eq_true (show (64 : Int) < f.exp by omega)]; rfl
theorem zow {kk : Nat} (a : zal) (h : zcF a < big - 1) (_hk : zcF a < big) : zgi kk a = some (zp5 a) := by
 have h1 := zdm a
 have h2 := zbM a.factors.l
 unfold zgi zp5 zfE zuY
 rw [zat (by omega), zHs]
 by_cases h3 : (a.factors.l.length : Int) ≤ 64
 · rw [decide_eq_true h3, decide_eq_false (show ¬ (64 : Int) < a.factors.l.length by omega)]; rfl
 · rw [decide_eq_false h3, decide_eq_true (show (64 : Int) < a.factors.l.length by omega)]; rfl
theorem zf0 {kk : Nat} (a : Sl zal) (h : zak a.l < big - 1) (hk : zak a.l < kk) : zbG kk a = some (zwy zp5 a) := by
 have hl := zb3 a.l
 unfold zbG zwy
 refine zt7 (xs := a.l) zp5 (fun k => by simp [zaY]) (fun k i x hi ex => ?_) (by omega)
 have hx := zdh ex
 simp only [zaY, zdL, decide_eq_true hi, zaw, zbO, ex, zaf]
 rw [zat (by omega), zaf, zaL (by omega), zdK]
theorem zfz {kk : Nat} (a : Sl zal) (h : zak a.l < big - 1) (_hk : zak a.l < big) : zby kk a = some (zuY zp5 a) := by
 unfold zby zwy zuY
 rw [zat h, zkh]; rfl
theorem zqw {kk : Nat} (a : Sl zal) (h : zak a.l < big - 1) (_hk : zak a.l < big) : zhe kk a = some (zof a) := by
 unfold zhe zof zuY
 rw [zat h, show a.l.any zp5 = !a.l.all zfE from zps _ _]
 simp only [zaf, zdv, zjl]
 by_cases h1 : (a.l.length : Int) ≤ 512
 · rw [if_neg (by omega), decide_eq_true h1]
   by_cases h2 : zjs a ≤ 8
   · rw [if_neg (by omega), decide_eq_true h2]
     by_cases h3 : zlq a ≤ 4096
     · rw [if_neg (by omega), decide_eq_true h3]
       cases a.l.all zfE <;> rfl
     · rw [if_pos (by omega), decide_eq_false h3]; rfl
   · rw [if_pos (by omega), decide_eq_false h2]; rfl
 · rw [if_pos (by omega), decide_eq_false h1]; rfl
theorem ze4 {kk : Nat} (a : Sl zal) (h : a.l.length < big - 1) (hk : a.l.length < kk) : zbt kk a = some (zwy zy8 a) := by
 unfold zbt zwy
 refine zt7 (xs := a.l) zy8 (fun k => by simp [zaH]) (fun k i x hi ex => ?_) hk
 simp only [zaH, zdL, decide_eq_true hi, zaw, zbO, ex, zaf]
 rw [zaL (by omega), zdK]
theorem zeu {kk : Nat} (a : Sl zal) (h : a.l.length < big - 1) (_hk : a.l.length < big) : zbi kk a = some (zuY zy8 a) := by
 unfold zbi zwy zuY
 rw [zat h, zkh]; rfl
theorem zmw {kk : Nat} (a : Sl zal) (h : a.l.length < big - 1) (_hk : a.l.length < big) : zeS kk a = some (zem a) := by
 unfold zeS
 rw [zat h]; rfl
end Go.Ev
namespace Go.Ev
theorem zMy {α : Type} (f : α → α → Bool) {l : List α} {i : Nat} {x y : α} (h : l[i]? = some x) (h' : l[i + 1]? = some y) :
 adj f (l.take (i + 2)) = (adj f (l.take (i + 1)) && f x y) := by
 induction i generalizing l with
 | zero =>
   rcases l with _ | ⟨a, _ | ⟨b, l⟩⟩
   · simp at h
   · simp at h'
   · simp at h h'; subst h; subst h'; simp [adj]
 | succ i ih =>
   rcases l with _ | ⟨a, _ | ⟨b, l⟩⟩
   · simp at h
   · simp at h'
   · have := @ih (b :: l) (by simpa using h) (by simpa using h')
     rw [show (a :: b :: l).take (i + 1 + 2) = a :: b :: l.take (i + 1) from rfl, show (a :: b :: l).take (i + 1 + 1) = a :: b :: l.take i from rfl]
     rw [show (b :: l).take (i + 2) = b :: l.take (i + 1) from rfl, show (b :: l).take (i + 1) = b :: l.take i from rfl] at this
     simp only [adj, this, Bool.and_assoc]
theorem zKy {α : Type} {L : Nat → Int → Option (Out Bool Int)} {xs : List α} (f : α → α → Bool)
 (hend : ∀ k, L (k + 1) 0 = some (.done 0))
 (hstep : ∀ k (i : Nat) x y, i + 1 < xs.length → xs[i]? = some x → xs[i + 1]? = some y → L (k + 1) ((i + 1 : Nat) : Int) = if f x y then L k (i : Int) else some (.ret false)) :
 ∀ k i, i < xs.length → i < k → L k (i : Int) = if adj f (xs.take (i + 1)) then some (.done 0) else some (.ret false) := by
 intro k
 induction k with
 | zero => intro i _ h; omega
 | succ k ih =>
   intro i h1 h2
   cases i with
   | zero =>
     rw [show ((0 : Nat) : Int) = 0 from rfl, hend]
     rcases xs with _ | ⟨a, l⟩
     · simp at h1
     · simp [adj]
   | succ i =>
     have hi : i < xs.length := by omega
     have ex := List.getElem?_eq_getElem hi
     have ey := List.getElem?_eq_getElem h1
     rw [hstep k i _ _ h1 ex ey, ih i hi (by omega), zMy f ex ey]
     cases f xs[i] xs[i + 1] <;> simp
end Go.Ev
set_option linter.unusedVariables false
namespace Go.Ev
def zqL (a : Sl zad) : Bool := adj (fun x y => !decide (zcS y x < 0)) a.l
noncomputable def zas (c1 : Sl zad) (kk : Nat) : Nat → Int → Option (Out (Bool) (Int))
 | 0, _ => none
 | k + 1, s2 =>
   sel (
    bnd (ix c1.l s2) fun (y3 : zad) =>
    bnd (ix c1.l (IntKind.wrap .i64 (s2 - 1))) fun (y4 : zad) =>
    bnd (okP (8 * (zec y3 + zec y4) + 5 < big - 1)) fun _ =>
    sel (
     some (.ret false)) (
     zas c1 kk k (IntKind.wrap .i64 (s2 - 1))) (decide ((zcS y3 y4) < 0))) (
    some (.done s2)) (decide (0 < s2))
noncomputable def zba (kk : Nat) (a : (Sl zad)) : Option (Bool) :=
 zhy (zas a kk kk (IntKind.wrap .i64 ((a.l.length : Int) - 1))) (fun r => some r) fun (q6 : Int) =>
  some true
end Go.Ev
namespace Go.Ev
theorem zdY {kk : Nat} (a : Sl zad) (h : 8 * za9 a.l + 5 < big - 1) (hk : za9 a.l < kk) :
 zba kk a = some (zqL a) := by
 have hl := zcz a.l
 have hb1 : big = 1152921504606846976 := rfl
 unfold zba zqL
 have hend : ∀ k, zas a kk (k + 1) 0 = some (.done 0) := fun k => by simp [zas]
 by_cases h0 : a.l = []
 · obtain ⟨k, rfl⟩ : ∃ k, kk = k + 1 := ⟨kk - 1, by omega⟩
   rw [h0, show IntKind.wrap .i64 ((([] : List zad).length : Int) - 1) = -1 from zc3 (by decide) (by decide)]
   simp [zas, adj]
 · have hpos : 0 < a.l.length := List.length_pos_iff.2 h0
   have := zKy (xs := a.l) (L := zas a kk) (fun x y => !decide (zcS y x < 0)) hend (fun k i x y hi ex ey => ?_) kk (a.l.length - 1) (by omega) (by omega)
   · rw [zc3 (by omega) (by omega), show ((a.l.length : Int) - 1) = ((a.l.length - 1 : Nat) : Int) by omega, this, show a.l.length - 1 + 1 = a.l.length by omega, List.take_length]
     cases adj (fun x y => !decide (zcS y x < 0)) a.l <;> rfl
   · have h2 := zlO (fun x => zec x + 1) ex ey
     rw [← zsS] at h2
     simp only [zas, zbO, ey, zaf, znZ (show i < big by omega), ex]
     rw [zat (by omega), decide_eq_true (show (0 : Int) < ((i + 1 : Nat) : Int) by omega)]
     cases decide (zcS y x < 0) <;> rfl
end Go.Ev
set_option linter.unusedVariables false
namespace Go.Ev
noncomputable def zdZ (kk : Nat) (a : zad) (u0 : Val) (u1 : Int) : Option (Bool × Val × Int) :=
 some ((((!((zbS a.value))) || (a.value.kind != u0.kind)) || ((u1 == 0) && (a.value.int != 1))), u0, u1)
noncomputable def zaA (c1 : Sl zad) (c2 : Int) (kk : Nat) : Nat → Int → Val → Int → Option (Out (Int × Val × Int) (Int × Val × Int))
 | 0, _, _, _ => none
 | k + 1, s3, s4, s5 =>
   sel (
    bnd (ix c1.l s3) fun (y6 : zad) =>
    bnd (zdZ kk y6 s4 s5) fun (r7 : Bool × Val × Int) =>
    sel (
     some (.ret (s3, r7.2.1, r7.2.2))) (
     zaA c1 c2 kk k (IntKind.wrap .i64 (s3 + 1)) r7.2.1 r7.2.2) (r7.1)) (
    some (.done (s3, s4, s5))) (decide (s3 < c2))
noncomputable def zbs (kk : Nat) (a : (Sl zad)) (u0 : Val) (u1 : Int) : Option (Int × Val × Int) :=
 zhy (zaA a (a.l.length : Int) kk kk 0 u0 u1) (fun r => some r) fun (q8 : Int × Val × Int) =>
  some ((-1), q8.2.1, q8.2.2)
noncomputable def za1 (kk : Nat) (a : (Sl zad)) (u0 : Val) (u1 : Int) : Option (Bool × Val × Int) :=
 bnd (zbs kk a u0 u1) fun (r1 : Int × Val × Int) =>
 some ((decide (0 ≤ r1.1)), r1.2.1, r1.2.2)
noncomputable def zgL (kk : Nat) (a : Int) (b : (Sl zad)) (c : Int) (d : Val) : Option (Bool) :=
 sel (
  some false) (
  sel (
   some false) (
   bnd (za1 kk b d a) fun (r1 : Bool × Val × Int) =>
   some (!(r1.1))) (((a == 0) || (a == 1)) && (d.kind != 0))) (((((decide (a < 0)) || (decide (3 < a))) || (decide (c < 5))) || (decide (10 < c))) || (!((zbS d))))
end Go.Ev
namespace Go.Ev
theorem znT (kk : Nat) (a : zad) (u0 : Val) (u1 : Int) : zdZ kk a u0 u1 = some (!zr6 u1 u0 a, u0, u1) := by
 unfold zdZ zr6; rw [Bool.not_not]
theorem zD1 (a : Sl zad) (kk : Nat) (u0 : Val) (u1 : Int) (hb : a.l.length < big - 1) : ∀ k i, i ≤ a.l.length → a.l.length - i < k →
 zaA a a.l.length kk k (i : Int) u0 u1 = if (a.l.drop i).any (fun w => !zr6 u1 u0 w) then some (.ret (ziC (fun w => !zr6 u1 u0 w) (a.l.drop i) i, u0, u1)) else some (.done ((a.l.length : Int), u0, u1)) := by
 intro k
 induction k with
 | zero => intro i _ h; omega
 | succ k ih =>
   intro i h1 h2
   by_cases e : i = a.l.length
   · subst e; simp [zaA]
   · have hi : i < a.l.length := by omega
     simp only [zaA, zdL, decide_eq_true hi, zaw, zbO, List.getElem?_eq_getElem hi, zaf, znT]
     rw [zaL (by omega), ih (i + 1) (by omega) (by omega), List.drop_eq_getElem_cons hi]
     simp only [List.any_cons, ziC]
     by_cases h : zr6 u1 u0 a.l[i] = true <;> simp [h]
theorem zpL {kk : Nat} (a : Int) (b : Sl zad) (c : Int) (d : Val) (h : b.l.length < big - 1) (hk : b.l.length < kk) : zgL kk a b c d = some (zj6 a b c d) := by
 have := zD1 b kk d a h kk 0 (by omega) (by omega)
 rw [show ((0 : Nat) : Int) = 0 from rfl, List.drop_zero, zps] at this
 have e : za1 kk b d a = some (!b.l.all (zr6 a d), d, a) := by
  unfold za1 zbs
  rw [this]
  cases hv : b.l.all (zr6 a d)
  · have := zkh (fun w => !zr6 a d w) b.l 0
    rw [zps, hv] at this
    simp only [Bool.not_false, if_true, zo2, zaf, this]
  · rfl
 unfold zgL zj6
 rw [e]
 have e1 : decide (a ≤ 1) = true → decide (a < 0) = false → ((a == 0) || (a == 1)) = true := by
  intro h1 h2
  simp only [decide_eq_true_eq, decide_eq_false_iff_not] at h1 h2
  have : a = 0 ∨ a = 1 := by omega
  rcases this with rfl | rfl <;> rfl
 have e2 : decide (a ≤ 1) = false → ((a == 0) || (a == 1)) = false := by
  intro h1
  simp only [decide_eq_false_iff_not] at h1
  simp only [Bool.or_eq_false_iff, beq_eq_false_iff_ne]
  exact ⟨by omega, by omega⟩
 revert e1 e2
 generalize ((a == 0) || (a == 1)) = u
 generalize decide (a ≤ 1) = v
 generalize decide (a < 0) = w
 generalize b.l.all (zr6 a d) = z
 generalize (d.kind != 0) = y
 generalize decide (3 < a) = x1
 generalize decide (c < 5) = x2
 generalize decide (10 < c) = x3
 generalize zbS d = x4
 intro e1 e2
 cases w <;> cases v <;> simp_all <;> cases x1 <;> cases x2 <;> cases x3 <;> cases x4 <;> cases y <;> cases z <;> rfl
end Go.Ev
namespace Go.Ev
theorem zjy (a b : Int) : zfG b a = -zfG a b := by unfold zfG; split <;> split <;> first | rfl | omega
theorem zNB (a b : Int) : orI (-a) (-b) = -orI a b := by unfold orI; split <;> split <;> first | rfl | omega
theorem zgB {a b a' b' : Int} (h : a' = -a) (k : b' = -b) : orI a' b' = -orI a b := by rw [h, k, zNB]
theorem zDN {a b : Str} (h : zda a b = true) : zda b a = false := by
 induction a generalizing b with
 | nil => cases b <;> simp [zda]
 | cons x a ih => cases b with
   | nil => simp [zda] at h
   | cons y b =>
     simp only [zda, Bool.or_eq_true, Bool.and_eq_true, decide_eq_true_eq, beq_iff_eq] at h
     rcases h with h | ⟨rfl, h⟩
     · have h1 : ¬ y < x := by rw [UInt8.lt_iff_toNat_lt] at h ⊢; omega
       have h2 : (y == x) = false := by simp; intro e; subst e; rw [UInt8.lt_iff_toNat_lt] at h; omega
       simp [zda, h1, h2]
     · have h1 : ¬ x < x := by rw [UInt8.lt_iff_toNat_lt]; omega
       simp [zda, h1, ih h]
theorem zKq (a b : Str) : zFk b a = -zFk a b := by
 unfold zFk
 cases h : zda a b
 · cases h2 : zda b a <;> rfl
 · rw [zDN h]; rfl
theorem zFl (a b : zbw) : zok b a = -zok a b := zgB (zjy _ _) (zjy _ _)
theorem zya (a b : Val) : zgW b a = -zgW a b := zgB (zjy _ _) (zgB (zjy _ _) (zKq _ _))
mutual
theorem zDC : ∀ x y : zal, zfa y x = -zfa x y
 | .mk c ⟨f, fs⟩, y => by rw [zlR, zlR]; exact zgB (zrh fs _) (zjy _ _)
theorem zrh : ∀ l m : List zai, zbV m l = -zbV l m
 | [], [] => by simp only [zbV]; rfl
 | [], _ :: _ => by simp only [zbV]; rfl
 | _ :: _, [] => by simp only [zbV]
 | x :: xs, y :: ys => by simp only [zbV]; exact zgB (zzm x y) (zrh xs ys)
theorem zzm : ∀ x y : zai, zcs y x = -zcs x y
 | .mk a e, y => by rw [zm9, zm9]; exact zgB (zDH a _) (zjy _ _)
theorem zDH : ∀ x y : zan, zb0 y x = -zb0 x y
 | .mk k r ⟨f1, as⟩ f ⟨f2, is⟩ o b, y => by
   rw [zlT, zlT]
   exact zgB (zjy _ _) (zgB (zFl _ _) (zgB (zwj as _) (zgB (zjy _ _) (zgB (zue is _) (zgB (zjy _ _) (zya _ _))))))
theorem zwj : ∀ l m : List (Sl zal), zfX m l = -zfX l m
 | [], [] => by simp only [zfX]; rfl
 | [], ⟨_, _⟩ :: _ => by simp only [zfX]; rfl
 | ⟨_, _⟩ :: _, [] => by simp only [zfX]
 | ⟨_, x⟩ :: xs, ⟨_, y⟩ :: ys => by simp only [zfX]; exact zgB (zpm x y) (zwj xs ys)
theorem zpm : ∀ l m : List zal, zdu m l = -zdu l m
 | [], [] => by simp only [zdu]; rfl
 | [], _ :: _ => by simp only [zdu]; rfl
 | _ :: _, [] => by simp only [zdu]
 | x :: xs, y :: ys => by simp only [zdu]; exact zgB (zDC x y) (zpm xs ys)
theorem zue : ∀ l m : List zad, zcR m l = -zcR l m
 | [], [] => by simp only [zcR]; rfl
 | [], _ :: _ => by simp only [zcR]; rfl
 | _ :: _, [] => by simp only [zcR]
 | x :: xs, y :: ys => by simp only [zcR]; exact zgB (zwi x y) (zue xs ys)
theorem zwi : ∀ x y : zad, zcS y x = -zcS x y
 | .mk v ⟨f, l⟩, y => by rw [zlS, zlS]; exact zgB (zya _ _) (zpm l _)
end
end Go.Ev
namespace Go.Ev
def zna (a : Sl zal) : Bool := (!((zbZ a))) || ((a.l.length : Int) == 0)
def zjB (a : zad) : Bool := (!((zbZ a.ann))) || ((a.ann.l.length : Int) == 0)
def zAx (a : zan) : Bool := (((a.kind != 4) && ((((a.func != 0) || ((a.items.l.length : Int) != 0)) || (a.op != 0)) || (!((a.bound.kind == 0) && ((a.bound.int == 0) && (a.bound.text == [])))))) || ((a.kind != 0) && (!((a.row.table == 0) && (a.row.seq == 0)))))
def pk1 (a : zan) : Bool := match a.args.l with | [x, y] => !(zn7 x y) | _ => false
def pk2 (a : zan) : Bool := match a.args.l with | [x] => !(zhR x) && !(zq4 x) | _ => false
def pk3 (a : zan) : Bool := match a.args.l with | [x] => !(zem x) | _ => false
def pk4 (a : zan) : Bool := (((a.args.l.length : Int) == 0) && (decide (0 < (a.items.l.length : Int)))) && (!((zuY zjB a.items))) && zqL a.items && zj6 a.func a.items a.op a.bound
def zqR (a : zan) : Bool :=
 if zAx a then false else if zuY zna a.args then false
 else if a.kind = 0 then zdV a.row && ((a.args.l.length : Int) == 0)
 else if a.kind = 1 then pk1 a else if a.kind = 2 then pk2 a else if a.kind = 3 then pk3 a else if a.kind = 4 then pk4 a else false
def zjo (f : zai) : Bool := !((decide (f.exp < 1)) || (((zvj f.atom)) && (f.exp != 1))) && zqR f.atom
def ztL (x : zal) : Bool := !(decide (x.coeff < 1)) && !(decide (1152921504606846976 < x.coeff)) && x.factors.l.all zjo && adj zm3 x.factors.l
theorem zOe (l : List (Sl zal)) : l.any zna = !zww l := by
 rw [zn1]
 induction l with
 | nil => rfl
 | cons x l ih =>
   simp only [List.any_cons, List.all_cons, ih, zna]
   cases zbZ x <;> cases ((x.l.length : Int) == 0) <;> rfl
theorem zFw (l : List zad) : l.any zjB = !zsy l := by
 rw [zu2]
 induction l with
 | nil => rfl
 | cons x l ih =>
   simp only [List.any_cons, List.all_cons, ih, zjB, zrJ]
   cases zbZ x.ann <;> cases ((x.ann.l.length : Int) == 0) <;> rfl
theorem zvf {x : zan} (h : zgw x = true) : x.kind = 0 ∨ x.kind = 1 ∨ x.kind = 2 ∨ x.kind = 3 ∨ x.kind = 4 := by
 rw [zln] at h
 by_cases c0 : x.kind = 0; exact .inl c0
 by_cases c1 : x.kind = 1; exact .inr (.inl c1)
 by_cases c2 : x.kind = 2; exact .inr (.inr (.inl c2))
 by_cases c3 : x.kind = 3; exact .inr (.inr (.inr (.inl c3)))
 by_cases c4 : x.kind = 4; exact .inr (.inr (.inr (.inr c4)))
 rw [if_neg c0, if_neg c1, if_neg c2, if_neg c3, if_neg c4, Bool.and_false] at h; cases h
theorem zA4 {α : Type} {l : List α} {x : α} (h : zC1 l = some x) : l = [x] := by
 match l, h with
 | [y], h => simp only [zC1, Option.some.injEq] at h; rw [h]
theorem zEj {x : Sl zal} (h : zbZ x = true) : zq4 x = zk5 x := by
 unfold zq4 zk5
 cases e : zC1 x.l with
 | none => rfl
 | some t =>
   simp only
   cases e2 : zC1 t.factors.l with
   | none => rfl
   | some f =>
     simp only
     unfold zbZ at h
     simp only [Bool.and_eq_true] at h
     have h := h.1.2
     rw [zA4 e] at h
     simp only [zdl, Bool.and_true, zoH, Bool.and_eq_true] at h
     have h := h.1.2
     rw [zA4 e2] at h
     simp only [zlm, Bool.and_true, zh9, Bool.and_eq_true] at h
     have h := zvf h.2
     unfold zvj
     rcases h with h | h | h | h | h <;> rw [h] <;> simp
theorem zHq {x : Sl zal} (h : zbZ x = true) : (!(zhR x) && !(zq4 x)) = zqU x := by
 rw [zEj h]
 unfold zqU zhR zem
 cases e : zC1 x.l with
 | none =>
   rw [if_neg]; rfl
   intro hl
   obtain ⟨y, e2⟩ := zp4 hl
   rw [e2] at e; simp [zC1] at e
 | some t =>
   rw [zA4 e, if_pos (by simp)]
   simp
theorem zIW (a : Sl zad) : zqL a = adj zq1 a.l := by
 unfold zqL zq1
 congr 1
 funext x y
 have e : zcG ⟨.any, [x]⟩ ⟨.any, [y]⟩ = zcS x y := by
  simp only [zcG, zcR]; unfold orI; split
  · rename_i h; rw [h]
  · rfl
 rw [e, zwi x y]
 by_cases h : zcS x y ≤ 0
 · rw [decide_eq_true h, decide_eq_false (by omega)]; rfl
 · rw [decide_eq_false h, decide_eq_true (by omega)]; rfl
theorem zCP (a : zan) : zj5 a = !(((((a.func != 0) || ((a.items.l.length : Int) != 0)) || (a.op != 0)) || (!((a.bound.kind == 0) && ((a.bound.int == 0) && (a.bound.text == [])))))) := by
 unfold zj5
 have e : ∀ {α : Type} [BEq α] (x y : α), (x != y) = !(x == y) := fun _ _ => rfl
 rw [e, e, e]
 cases (a.func == 0) <;> cases ((a.items.l.length : Int) == 0) <;> cases (a.op == 0) <;> simp
theorem zLD {a : zan} (hi : (a.items.l.length : Int) ≤ 1024) : zqR a = zgw a := by
 rw [zln]
 unfold zqR zAx zuY
 rw [zOe, show ∀ b : Bool, (!((a.bound.kind == 0) && b)) = !((a.bound.kind == 0) && b) from fun _ => rfl]
 have hp := zCP a
 generalize hu : ((((a.func != 0) || ((a.items.l.length : Int) != 0)) || (a.op != 0)) || (!((a.bound.kind == 0) && ((a.bound.int == 0) && (a.bound.text == []))))) = u at hp ⊢
 by_cases c0 : a.kind = 0
 · rw [if_pos c0, if_pos c0, hp, c0]
   cases u
   · simp only [Bool.and_false, Bool.false_or, Bool.false_eq_true, if_false, show ((0 : Int) != 0) = false from rfl, Bool.false_and, Bool.not_false, Bool.and_true]
     cases hl : ((a.args.l.length : Int) == 0)
     · simp
     · have : a.args.l = [] := List.length_eq_zero_iff.1 (by have := eq_of_beq hl; omega)
       rw [this]; simp [zww]
   · simp
 rw [if_neg c0, if_neg c0, show (a.kind != 0) = true by simpa using c0]
 cases hrow : ((a.row.table == 0) && (a.row.seq == 0))
 · simp
 cases hv : zww a.args.l
 · simp
 simp only [Bool.not_true, Bool.and_false, Bool.or_false, Bool.false_eq_true, if_false, Bool.true_and]
 have hva : ∀ x ∈ a.args.l, zbZ x = true := fun x hx => by
  rw [zn1] at hv
  have := List.all_eq_true.1 hv x hx
  simp only [Bool.and_eq_true] at this; exact this.2
 by_cases c1 : a.kind = 1
 · rw [if_pos c1, if_pos c1, c1, show ((1 : Int) != 4) = true from rfl, Bool.true_and]
   unfold k1B pk1
   rw [hp]
   cases u
   · simp only [Bool.false_eq_true, if_false, Bool.not_false, Bool.and_true]
     match a.args.l with
     | [] => rfl
     | [_] => rfl
     | [_, _] => simp
     | _ :: _ :: _ :: _ => simp
   · simp
 rw [if_neg c1, if_neg c1]
 by_cases c2 : a.kind = 2
 · rw [if_pos c2, if_pos c2, c2, show ((2 : Int) != 4) = true from rfl, Bool.true_and]
   unfold k2B pk2
   rw [hp]
   cases u
   · simp only [Bool.false_eq_true, if_false, Bool.not_false, Bool.and_true]
     match hl : a.args.l with
     | [] => rfl
     | [x] =>
       simp only
       rw [zHq (hva x (by rw [hl]; simp))]; simp
     | _ :: _ :: _ => simp
   · simp
 rw [if_neg c2, if_neg c2]
 by_cases c3 : a.kind = 3
 · rw [if_pos c3, if_pos c3, c3, show ((3 : Int) != 4) = true from rfl, Bool.true_and]
   unfold k3B pk3
   rw [hp]
   cases u
   · simp only [Bool.false_eq_true, if_false, Bool.not_false, Bool.and_true]
     match a.args.l with
     | [] => rfl
     | [x] => simp
     | _ :: _ :: _ => simp
   · simp
 rw [if_neg c3, if_neg c3]
 by_cases c4 : a.kind = 4
 · rw [if_pos c4, if_pos c4, c4, show ((4 : Int) != 4) = false from rfl, Bool.false_and]
   unfold k4B pk4 zuY
   rw [zFw, zIW, decide_eq_false (show ¬ (1024 : Int) < a.items.l.length by omega)]
   have e : decide (0 < (a.items.l.length : Int)) = !((a.items.l.length : Int) == 0) := by
    cases a.items.l with
    | nil => rfl
    | cons x l => simp; omega
   rw [e]
   cases ((a.args.l.length : Int) == 0) <;> cases ((a.items.l.length : Int) == 0) <;> cases zsy a.items.l <;> cases adj zq1 a.items.l <;> cases zj6 a.func a.items a.op a.bound <;> rfl
 · rw [if_neg c4, if_neg c4]; simp
theorem zxB {f : zai} (hi : zd5 f = true) : zjo f = zgj f := by
 unfold zd5 at hi
 simp only [Bool.and_eq_true, decide_eq_true_eq] at hi
 unfold zjo
 rw [zh9, zLD hi.2]
 cases hv : zgw f.atom
 · simp
 · have hk := zvf hv
   unfold zvj
   by_cases h1 : f.exp < 1
   · rw [decide_eq_true h1]; rfl
   · rw [decide_eq_false h1]
     by_cases h2 : f.exp = 1
     · rw [h2]; simp
     · rw [show (f.exp != 1) = true by simpa using h2, decide_eq_true (show 1 < f.exp by omega)]
       rcases hk with h | h | h | h | h <;> rw [h] <;> rfl
theorem zCI {x : zal} (hi : zfE x = true) : ztL x = ztq x := by
 unfold zfE at hi
 simp only [Bool.and_eq_true] at hi
 have hf := List.all_eq_true.1 hi.2
 rw [zoH, zmS]
 unfold ztL
 have e : x.factors.l.all zjo = x.factors.l.all zgj := by
  rw [Bool.eq_iff_iff, List.all_eq_true, List.all_eq_true]
  exact ⟨fun h f m => by rw [← zxB (hf f m)]; exact h f m, fun h f m => by rw [zxB (hf f m)]; exact h f m⟩
 rw [e]; rfl
theorem zLc (a : Sl zal) : zbZ a = (zof a && (a.l.all ztL && adj ziI a.l)) := by
 unfold zbZ
 rw [zn0, Bool.and_assoc]
 cases hf : zof a
 · rfl
 · unfold zof at hf
   simp only [Bool.and_eq_true] at hf
   have ht := List.all_eq_true.1 hf.2
   have e : a.l.all ztL = a.l.all ztq := by
    rw [Bool.eq_iff_iff, List.all_eq_true, List.all_eq_true]
    exact ⟨fun h f m => by rw [← zCI (ht f m)]; exact h f m, fun h f m => by rw [zCI (ht f m)]; exact h f m⟩
   rw [e]; rfl
end Go.Ev
set_option linter.unusedVariables false
namespace Go.Ev
noncomputable def zcc (c16 : Sl zal) (c17 : Sl zal) (c18 : Int) (c19 : Int) (c20 : Sl zai) (c21 : Int) (c23 : zal) (sz : Nat) (kk : Nat) : Nat → Int → Option (Out (Bool) (Int))
 | 0, _ => none
 | k + 1, s22 =>
   sel (
    bnd (ix c20.l s22) fun (y24 : zai) =>
    sel (
     bnd (ix c23.factors.l (IntKind.wrap .i64 (s22 - 1))) fun (y25 : zai) =>
     bnd (okP (8 * (zbx y25.atom + zbx y24.atom) + 7 < big - 1)) fun _ =>
     sel (
      bnd (okP (20 * zbx y24.atom < sz)) fun _ =>
      sel (
       some (.ret false)) (
       zcc c16 c17 c18 c19 c20 c21 c23 sz kk k (IntKind.wrap .i64 (s22 + 1))) (!((zqR y24.atom)))) (
      some (.ret false)) (!(((decide (y24.exp < 1)) || (((zvj y24.atom)) && (y24.exp != 1))) || (decide (0 ≤ (zb0 y25.atom y24.atom)))))) (
     sel (
      bnd (okP (20 * zbx y24.atom < sz)) fun _ =>
      sel (
       some (.ret false)) (
       zcc c16 c17 c18 c19 c20 c21 c23 sz kk k (IntKind.wrap .i64 (s22 + 1))) (!((zqR y24.atom)))) (
      some (.ret false)) (!((decide (y24.exp < 1)) || (((zvj y24.atom)) && (y24.exp != 1))))) (decide (0 < s22))) (
    some (.done s22)) (decide (s22 < c21))
noncomputable def zgI (c7 : Sl zal) (c8 : Int) (c9 : Sl zal) (c10 : Int) (c11 : Int) (c12 : zal) (sz : Nat) (kk : Nat) : Option (Bool) :=
 sel (
  bnd (ix c7.l (IntKind.wrap .i64 (c8 - 1))) fun (y13 : zal) =>
  bnd (okP (8 * (zcF y13 + zcF c12) + 4 < big - 1)) fun _ =>
  some (((decide (c12.coeff < 1)) || (decide (1152921504606846976 < c12.coeff))) || (decide (0 ≤ (zeU y13 c12))))) (
  sel (
   some false) (
   some true) (!((decide (c12.coeff < 1)) || (decide (1152921504606846976 < c12.coeff))))) (decide (0 < c8))
noncomputable def zcy (c2 : Sl zal) (c3 : Sl zal) (c4 : Int) (sz : Nat) (kk : Nat) : Nat → Int → Option (Out (Bool) (Int))
 | 0, _ => none
 | k + 1, s5 =>
   sel (
    bnd (ix c3.l s5) fun (y6 : zal) =>
    bnd (zgI c2 s5 c3 c4 s5 y6 sz kk) fun (q15 : Bool) =>
    sel (
     some (.ret false)) (
     zhy (zcc c2 c3 c4 s5 y6.factors (y6.factors.l.length : Int) y6 sz kk kk 0) (fun r => some (.ret r)) fun (q29 : Int) =>
      zcy c2 c3 c4 sz kk k (IntKind.wrap .i64 (s5 + 1))) (q15)) (
    some (.done s5)) (decide (s5 < c4))
noncomputable def zhC (kk : Nat) (sz : Nat) (a : (Sl zal)) : Option (Bool) :=
 bnd (okP (zak a.l < big - 1)) fun _ =>
 sel (
  some false) (
  zhy (zcy a a (a.l.length : Int) sz kk kk 0) (fun r => some r) fun (q30 : Int) =>
   some true) (!((zof a)))
noncomputable def zeM (c3 : Bool) (c4 : zan) (sz : Nat) (kk : Nat) : Option (Bool) :=
 sel (
  bnd (okP (20 * zcv c4.args.l + 1 < sz)) fun _ =>
  some ((zuY zna c4.args))) (
  some true) (!((c3) || ((c4.kind != 0) && (!((c4.row.table == 0) && (c4.row.seq == 0))))))
noncomputable def zeN (c1 : zan) (sz : Nat) (kk : Nat) : Option (Bool) :=
 some ((c1.kind != 4) && ((((c1.func != 0) || ((c1.items.l.length : Int) != 0)) || (c1.op != 0)) || (!((c1.bound.kind == 0) && ((c1.bound.int == 0) && (c1.bound.text == []))))))
noncomputable def zfS (kk : Nat) (sz : Nat) (a : zan) : Option (Bool) :=
 bnd (zeN a sz kk) fun (q2 : Bool) =>
 bnd (zeM (q2) a sz kk) fun (q6 : Bool) =>
 sel (
  some false) (
  sel (
   some (((zdV a.row)) && ((a.args.l.length : Int) == 0))) (
   sel (
    sel (
     bnd (a.args.l[0]?) fun (y7 : (Sl zal)) =>
     bnd (a.args.l[1]?) fun (y8 : (Sl zal)) =>
     bnd (okP (8 * (zak y7.l + zak y8.l) + 7 < big - 1)) fun _ =>
     some (!((zn7 y7 y8)))) (
     some false) ((a.args.l.length : Int) == 2)) (
    sel (
     sel (
      bnd (a.args.l[0]?) fun (y10 : (Sl zal)) =>
      some ((!((zhR y10))) && (!((zq4 y10))))) (
      some false) ((a.args.l.length : Int) == 1)) (
     sel (
      sel (
       bnd (a.args.l[0]?) fun (y11 : (Sl zal)) =>
       bnd (okP (y11.l.length < big - 1)) fun _ =>
       some (!((zem y11)))) (
       some false) ((a.args.l.length : Int) == 1)) (
      sel (
       bnd (okP (20 * za9 a.items.l + 1 < sz)) fun _ =>
       sel (
        bnd (okP (8 * za9 a.items.l + 5 < big - 1)) fun _ =>
        sel (
         bnd (okP (a.items.l.length < big - 1)) fun _ =>
         some ((zj6 a.func a.items a.op a.bound))) (
         some false) ((zqL a.items))) (
        some false) ((((a.args.l.length : Int) == 0) && (decide (0 < (a.items.l.length : Int)))) && (!((zuY zjB a.items))))) (
       some false) (a.kind == 4)) (a.kind == 3)) (a.kind == 2)) (a.kind == 1)) (a.kind == 0)) (q6)
noncomputable def zeP (kk : Nat) (sz : Nat) (a : (Sl zal)) : Option (Bool) :=
 bnd (okP (20 * zak a.l + 1 < sz)) fun _ =>
 some ((!((zbZ a))) || ((a.l.length : Int) == 0))
noncomputable def zaD (c1 : Sl (Sl zal)) (c2 : Int) (sz : Nat) (kk : Nat) : Nat → Int → Option (Out (Int) (Int))
 | 0, _ => none
 | k + 1, s3 =>
   sel (
    bnd (ix c1.l s3) fun (y4 : (Sl zal)) =>
    bnd (okP (20 * zak y4.l + 2 < sz)) fun _ =>
    sel (
     some (.ret s3)) (
     zaD c1 c2 sz kk k (IntKind.wrap .i64 (s3 + 1))) ((zna y4))) (
    some (.done s3)) (decide (s3 < c2))
noncomputable def zbg (kk : Nat) (sz : Nat) (a : (Sl (Sl zal))) : Option (Int) :=
 zhy (zaD a (a.l.length : Int) sz kk kk 0) (fun r => some r) fun (q6 : Int) =>
  some (-1)
noncomputable def za7 (kk : Nat) (sz : Nat) (a : (Sl (Sl zal))) : Option (Bool) :=
 bnd (okP (20 * zcv a.l < sz)) fun _ =>
 some (decide (0 ≤ (zwy zna a)))
noncomputable def zeO (kk : Nat) (sz : Nat) (a : zad) : Option (Bool) :=
 bnd (okP (20 * zak a.ann.l + 1 < sz)) fun _ =>
 some ((!((zbZ a.ann))) || ((a.ann.l.length : Int) == 0))
noncomputable def zaG (c1 : Sl zad) (c2 : Int) (sz : Nat) (kk : Nat) : Nat → Int → Option (Out (Int) (Int))
 | 0, _ => none
 | k + 1, s3 =>
   sel (
    bnd (ix c1.l s3) fun (y4 : zad) =>
    bnd (okP (20 * zec y4 < sz)) fun _ =>
    sel (
     some (.ret s3)) (
     zaG c1 c2 sz kk k (IntKind.wrap .i64 (s3 + 1))) ((zjB y4))) (
    some (.done s3)) (decide (s3 < c2))
noncomputable def zbn (kk : Nat) (sz : Nat) (a : (Sl zad)) : Option (Int) :=
 zhy (zaG a (a.l.length : Int) sz kk kk 0) (fun r => some r) fun (q6 : Int) =>
  some (-1)
noncomputable def zbc (kk : Nat) (sz : Nat) (a : (Sl zad)) : Option (Bool) :=
 bnd (okP (20 * za9 a.l < sz)) fun _ =>
 some (decide (0 ≤ (zwy zjB a)))
end Go.Ev
namespace Go.Ev
theorem zpD {c23 c24 : Sl zal} {c25 c26 : Int} {t : zal} {sz kk k : Nat} (h : 20 * zaB t.factors.l < sz) (hb : sz < big) (hk : t.factors.l.length < k) :
 zcc c23 c24 c25 c26 t.factors (t.factors.l.length : Int) t sz kk k 0 = if t.factors.l.all zjo && adj zm3 t.factors.l then some (.done (t.factors.l.length : Int)) else some (.ret false) := by
 have hl := zbM t.factors.l
 have hb1 : big = 1152921504606846976 := rfl
 refine zn6 (xs := t.factors.l) (L := zcc c23 c24 c25 c26 t.factors (t.factors.l.length : Int) t sz kk) zjo zm3 false (fun k => by simp [zcc]) (fun k i hi => ?_) hk
 have ey := List.getElem?_eq_getElem hi
 have hy := zcQ ey
 have hy1 := zcA t.factors.l[i]
 revert ey hy hy1
 generalize t.factors.l[i] = y
 intro ey hy hy1
 simp only [zcc, zdL, decide_eq_true hi, zaw, zbO, ey, zaf]
 rw [zat (show 20 * zbx y.atom < sz by omega), zaL (by omega)]
 simp only [zaf]
 cases i with
 | zero =>
   rw [zCu ey]
   unfold zjo
   generalize ((decide (y.exp < 1)) || (((zvj y.atom)) && (y.exp != 1))) = u
   cases u <;> cases zqR y.atom <;> simp
 | succ j =>
   have hj : j < t.factors.l.length := by omega
   have ex := List.getElem?_eq_getElem hj
   have h2 := zlO (fun x => zc4 x + 1) ex ey
   rw [← zoJ] at h2
   have hx1 := zcA t.factors.l[j]
   revert ex h2 hx1
   generalize t.factors.l[j] = x
   intro ex h2 hx1
   rw [zxp ex ey, znZ (by omega)]
   simp only [zbO, ex, zaf]
   rw [zat (show 8 * (zbx x.atom + zbx y.atom) + 7 < big - 1 by omega)]
   unfold zm3 zjo
   generalize ((decide (y.exp < 1)) || (((zvj y.atom)) && (y.exp != 1))) = u
   have e : decide (0 < ((j + 1 : Nat) : Int)) = true := by simp
   rw [e]
   by_cases hc : zb0 x.atom y.atom < 0
   · rw [decide_eq_true hc, decide_eq_false (show ¬ 0 ≤ zb0 x.atom y.atom by omega)]
     cases u <;> cases zqR y.atom <;> simp
   · rw [decide_eq_false hc, decide_eq_true (show 0 ≤ zb0 x.atom y.atom by omega)]
     cases u <;> cases zqR y.atom <;> simp
theorem zpE {a : Sl zal} {sz kk k : Nat} (h : 20 * zak a.l + 1 < sz + 1) (hb : sz + 1 < big) (hk : a.l.length < k) (hkk : sz < kk) :
 zcy a a (a.l.length : Int) sz kk k 0 = if a.l.all ztL && adj ziI a.l then some (.done (a.l.length : Int)) else some (.ret false) := by
 have hl := zb3 a.l
 have hb1 : big = 1152921504606846976 := rfl
 refine zn6 (xs := a.l) (L := zcy a a (a.l.length : Int) sz kk) ztL ziI false (fun k => by simp [zcy]) (fun k i hi => ?_) hk
 have ey := List.getElem?_eq_getElem hi
 have hy := zdh ey
 have hy1 := zdm a.l[i]
 have hy2 := zbM a.l[i].factors.l
 revert ey hy hy1 hy2
 generalize a.l[i] = y
 intro ey hy hy1 hy2
 simp only [zcy, zdL, decide_eq_true hi, zaw, zbO, ey, zaf]
 rw [zaL (by omega), zpD (by omega) (by omega) (by omega)]
 unfold zgI
 cases i with
 | zero =>
   rw [zCu ey]
   unfold ztL
   generalize (decide (y.coeff < 1)) = u
   generalize (decide (1152921504606846976 < y.coeff)) = u'
   cases u <;> cases u' <;> cases y.factors.l.all zjo <;> cases adj zm3 y.factors.l <;> simp
 | succ j =>
   have hj : j < a.l.length := by omega
   have ex := List.getElem?_eq_getElem hj
   have h2 := zlO (fun x => zcF x + 1) ex ey
   rw [← zsR] at h2
   revert ex h2
   generalize a.l[j] = x
   intro ex h2
   rw [zxp ex ey, znZ (by omega)]
   simp only [zbO, ex, zaf]
   rw [zat (show 8 * (zcF x + zcF y) + 4 < big - 1 by omega)]
   unfold ziI ztL
   rw [show zbF x.factors y.factors = zeU x y from rfl]
   generalize (decide (y.coeff < 1)) = u
   generalize (decide (1152921504606846976 < y.coeff)) = u'
   have e : decide (0 < ((j + 1 : Nat) : Int)) = true := by simp
   rw [e]
   simp only [zaf, zaw]
   by_cases hc : zeU x y < 0
   · rw [decide_eq_true hc, decide_eq_false (show ¬ 0 ≤ zeU x y by omega)]
     cases u <;> cases u' <;> cases y.factors.l.all zjo <;> cases adj zm3 y.factors.l <;> simp
   · rw [decide_eq_false hc, decide_eq_true (show 0 ≤ zeU x y by omega)]
     cases u <;> cases u' <;> cases y.factors.l.all zjo <;> cases adj zm3 y.factors.l <;> simp
theorem zry {kk sz : Nat} {a : Sl zal} (h : 20 * zak a.l + 1 < sz + 1) (hk : sz < kk) (hb : sz + 1 < big) : zhC kk sz a = some (zbZ a) := by
 have hl := zb3 a.l
 have hb1 : big = 1152921504606846976 := rfl
 unfold zhC
 rw [zat (by omega), zpE h hb (by omega) hk, zLc]
 cases zof a <;> cases a.l.all ztL <;> cases adj ziI a.l <;> rfl
theorem znQ {kk sz : Nat} {a : zan} (h : 20 * zbx a < sz + 1) (hk : sz < kk) (hb : sz + 1 < big) : zfS kk sz a = some (zqR a) := by
 have hz := zcq a
 have hb1 : big = 1152921504606846976 := rfl
 have h1 := zd2 a.args.l
 have h2 := zcz a.items.l
 unfold zfS zqR zeN
 rw [zaf]
 unfold zeM
 rw [zat (show 20 * zcv a.args.l + 1 < sz by omega), zaf, zdv, show (((a.kind != 4) && ((((a.func != 0) || ((a.items.l.length : Int) != 0)) || (a.op != 0)) || (!((a.bound.kind == 0) && ((a.bound.int == 0) && (a.bound.text == [])))))) || ((a.kind != 0) && (!((a.row.table == 0) && (a.row.seq == 0))))) = zAx a from rfl]
 cases zAx a
 · rw [zbD]
   cases zuY zna a.args
   · simp only [zaf, zbD, Bool.false_eq_true, if_false]
     simp only [zcr]
     by_cases c0 : a.kind = 0
     · rw [if_pos c0, if_pos c0]
     rw [if_neg c0, if_neg c0]
     by_cases c1 : a.kind = 1
     · rw [if_pos c1, if_pos c1]
       unfold pk1
       by_cases c : (a.args.l.length : Int) = 2
       · obtain ⟨x, y, e⟩ := zIK c
         rw [if_pos c]
         rw [e] at hz ⊢
         simp only [zcv] at hz
         simp only [List.getElem?_cons_zero, List.getElem?_cons_succ, zaf]
         rw [zat (by cases x; cases y; simp only at hz ⊢; omega)]
         rfl
       · rw [if_neg c]
         match hl : a.args.l with
         | [] => rfl
         | [_] => rfl
         | [_, _] => rw [hl] at c; exact absurd rfl c
         | _ :: _ :: _ :: _ => rfl
     rw [if_neg c1, if_neg c1]
     by_cases c2 : a.kind = 2
     · rw [if_pos c2, if_pos c2]
       unfold pk2
       by_cases c : (a.args.l.length : Int) = 1
       · obtain ⟨x, e⟩ := zp4 c
         rw [if_pos c, e]
         simp only [List.getElem?_cons_zero, zaf]
       · rw [if_neg c]
         match hl : a.args.l with
         | [] => rfl
         | [_] => rw [hl] at c; exact absurd rfl c
         | _ :: _ :: _ => rfl
     rw [if_neg c2, if_neg c2]
     by_cases c3 : a.kind = 3
     · rw [if_pos c3, if_pos c3]
       unfold pk3
       by_cases c : (a.args.l.length : Int) = 1
       · obtain ⟨x, e⟩ := zp4 c
         rw [if_pos c]
         rw [e] at hz ⊢
         simp only [zcv] at hz
         have hx := zb3 x.l
         simp only [List.getElem?_cons_zero, zaf]
         rw [zat (show x.l.length < big - 1 by cases x; simp only at hz hx ⊢; omega)]
         rfl
       · rw [if_neg c]
         match hl : a.args.l with
         | [] => rfl
         | [_] => rw [hl] at c; exact absurd rfl c
         | _ :: _ :: _ => rfl
     rw [if_neg c3, if_neg c3]
     by_cases c4 : a.kind = 4
     · rw [if_pos c4, if_pos c4, zat (show 20 * za9 a.items.l + 1 < sz by omega), zaf, zat (show 8 * za9 a.items.l + 5 < big - 1 by omega), zaf, zat (show a.items.l.length < big - 1 by omega), zaf]
       unfold pk4
       cases ((a.args.l.length : Int) == 0) <;> cases decide (0 < (a.items.l.length : Int)) <;> cases zuY zjB a.items <;> cases zqL a.items <;> rfl
     rw [if_neg c4, if_neg c4]
   · rfl
 · rfl
theorem zmr {kk sz : Nat} {a : Sl zal} (h : 20 * zak a.l + 2 < sz + 1) (hk : sz < kk) (hb : sz + 1 < big) : zeP kk sz a = some (zna a) := by
 unfold zeP
 rw [zat (show 20 * zak a.l + 1 < sz by omega)]; rfl
theorem zmq {kk sz : Nat} {a : zad} (h : 20 * zec a < sz + 1) (hk : sz < kk) (hb : sz + 1 < big) : zeO kk sz a = some (zjB a) := by
 have := ziG a
 unfold zeO
 rw [zat (show 20 * zak a.ann.l + 1 < sz by omega)]; rfl
theorem zef {kk sz : Nat} {a : Sl (Sl zal)} (h : 20 * zcv a.l < sz + 1) (hk : sz < kk) (hb : sz + 1 < big) : zbg kk sz a = some (zwy zna a) := by
 have hl := zd2 a.l
 unfold zbg zwy
 refine zt7 (xs := a.l) zna (fun k => by simp [zaD]) (fun k i x hi ex => ?_) (by omega)
 have hx := zfy ex
 simp only [zaD, zdL, decide_eq_true hi, zaw, zbO, ex, zaf]
 rw [zat (by omega), zaf, zaL (by omega), zdK]
theorem zeD {kk sz : Nat} {a : Sl zad} (h : 20 * za9 a.l < sz + 1) (hk : sz < kk) (hb : sz + 1 < big) : zbn kk sz a = some (zwy zjB a) := by
 have hl := zcz a.l
 unfold zbn zwy
 refine zt7 (xs := a.l) zjB (fun k => by simp [zaG]) (fun k i x hi ex => ?_) (by omega)
 have hx := zhJ ex
 simp only [zaG, zdL, decide_eq_true hi, zaw, zbO, ex, zaf]
 rw [zat (by omega), zaf, zaL (by omega), zdK]
theorem zdM {kk sz : Nat} {a : Sl (Sl zal)} (h : 20 * zcv a.l + 1 < sz + 1) (hk : sz < kk) (hb : sz + 1 < big) : za7 kk sz a = some (zuY zna a) := by
 unfold za7 zwy zuY
 rw [zat (by omega), zkh]; rfl
theorem zd6 {kk sz : Nat} {a : Sl zad} (h : 20 * za9 a.l + 1 < sz + 1) (hk : sz < kk) (hb : sz + 1 < big) : zbc kk sz a = some (zuY zjB a) := by
 unfold zbc zwy zuY
 rw [zat (by omega), zkh]; rfl
end Go.Ev
