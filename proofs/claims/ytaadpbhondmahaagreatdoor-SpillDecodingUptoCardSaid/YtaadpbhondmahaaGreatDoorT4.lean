/- Part of a proof. -/
import Derived.IntWalk
import Derived.Test.YtaadpbhondmahaaGreatDoorT2
set_option linter.all false
namespace Go.Ev
@[simp] theorem zaI {α : Type} (A B : Option α) : sel A B true = A := rfl
@[simp] theorem zaV {α : Type} (A B : Option α) : sel A B false = B := rfl
theorem zey {α : Type} (A B : Option α) (b : Bool) : sel A B b = if b = true then A else B := by cases b <;> rfl
@[simp] theorem zvl {α β : Type} [BEq β] [LawfulBEq β] [DecidableEq β] (A B : Option α) (a b : β) : sel A B (a != b) = if a = b then B else A := by
  by_cases h : a = b <;> simp [h, zey]
@[simp] theorem zfD {α β : Type} [BEq β] [LawfulBEq β] [DecidableEq β] (A B : Option α) (a b : β) : sel A B (a == b) = if a = b then A else B := by
  by_cases h : a = b <;> simp [h, zey]
@[simp] theorem zdf {α : Type} (A B : Option α) (b : Bool) : sel A B (!b) = sel B A b := by cases b <;> rfl
@[simp] theorem zjp {α : Type} (A B : Option α) (p : Prop) [Decidable p] : sel A B (decide p) = if p then A else B := by
  by_cases h : p <;> simp [h, zey]
attribute [simp] zad
@[simp] theorem zlc {R S β : Type} (r : R) (f : R → Option β) (g : S → Option β) : zkl (some (.ret r)) f g = f r := rfl
@[simp] theorem zb9 {R S β : Type} (s : S) (f : R → Option β) (g : S → Option β) : zkl (some (.done s)) f g = g s := rfl
def big : Nat := 1152921504606846976
theorem zgz {n : Int} (h1 : -9223372036854775808 ≤ n) (h2 : n ≤ 9223372036854775807) : IntKind.wrap .i64 n = n := by
 exact IntWalk.i64_in n ⟨h1, h2⟩
theorem zbz {i : Nat} (h : i < big) : IntKind.wrap .i64 ((i : Int) + 1) = ((i + 1 : Nat) : Int) := by
 have : big = 1152921504606846976 := rfl
 rw [zgz (by omega) (by omega)]; rfl
theorem zdV {α : Type} (l : List α) (i : Nat) : ix l (i : Int) = l[i]? := by
 unfold ix; rw [if_pos (by omega)]; simp
def zn1 {α : Type} (f : α → α → Int) : List α → List α → Int
 | x :: xs, y :: ys => orI (f x y) (zn1 f xs ys)
 | _, _ => 0
theorem zHd {α : Type} (f : α → α → Int) (xs ys : List α) : ztZ f xs ys = orI (zn1 f xs ys) (ziw xs.length ys.length) := by
 induction xs generalizing ys with
 | nil => cases ys <;> simp [ztZ, zn1, orI, ziw]
 | cons x xs ih =>
   cases ys with
   | nil => simp [ztZ, zn1, orI, ziw]; omega
   | cons y ys =>
     have e : ziw ((xs.length : Int) + 1) ((ys.length : Int) + 1) = ziw xs.length ys.length := by simp [ziw]
     simp only [ztZ, zn1, ih, List.length_cons, Int.natCast_add, Int.natCast_one, e, orI]
     by_cases h : f x y = 0 <;> simp [h]
theorem zFL {a b : Int} (h : a ≠ 0) : orI a b = a := by simp [orI, h]
theorem zEK {a b : Int} (h : a = 0) : orI a b = b := by simp [orI, h]
end Go.Ev
namespace Go.Ev
theorem zh4 (i n : Nat) : decide ((i : Int) < (n : Int)) = decide (i < n) := by
 by_cases h : i < n <;> simp [h]
end Go.Ev
namespace Go.Ev
theorem zzt {α : Type} {L : Nat → Int → Option (Out Int Int)} {xs ys : List α} {f : α → α → Int} (T : α → α → Option (Out Int Int) → Option (Out Int Int))
 (hL : ∀ k i, L (k + 1) i = sel (bnd (ix xs i) fun x => sel (some (.ret 1)) (bnd (ix ys i) fun y => T x y (L k (IntKind.wrap .i64 (i + 1)))) (decide ((ys.length : Int) ≤ i))) (some (.done i)) (decide (i < (xs.length : Int))))
 (hT : ∀ (i : Nat) x y R, xs[i]? = some x → ys[i]? = some y → T x y R = if f x y = 0 then R else some (.ret (f x y))) (hb : xs.length < big) :
 ∀ (k i : Nat), i ≤ xs.length → i ≤ ys.length → xs.length - i < k → (∃ j : Int, L k i = some (.done j) ∧ xs.length ≤ ys.length ∧ zn1 f (xs.drop i) (ys.drop i) = 0) ∨ L k i = some (.ret (ztZ f (xs.drop i) (ys.drop i))) := by
 intro k
 induction k with
 | zero => intro i _ _ h; omega
 | succ k ih =>
   intro i h1 h2 h3
   rw [hL, zh4]
   by_cases hx : i < xs.length
   · have ex := List.getElem?_eq_getElem hx
     by_cases hy : i < ys.length
     · have ey := List.getElem?_eq_getElem hy
       have hle : decide ((ys.length : Int) ≤ (i : Int)) = false := decide_eq_false (by omega)
       simp only [decide_eq_true hx, zaI, zdV, ex, ey, zad, hle, zaV]
       rw [hT i _ _ _ ex ey, zbz (by omega), List.drop_eq_getElem_cons hx, List.drop_eq_getElem_cons hy]
       by_cases e : f xs[i] ys[i] = 0
       · rw [if_pos e]
         rcases ih (i + 1) (by omega) (by omega) (by omega) with ⟨j, a, b, c⟩ | a
         · exact .inl ⟨j, a, b, by simp only [zn1, zEK e, c]⟩
         · exact .inr (by simp only [a, ztZ, zEK e])
       · rw [if_neg e]
         exact .inr (by simp only [ztZ, zFL e])
     · have hle : decide ((ys.length : Int) ≤ (i : Int)) = true := decide_eq_true (by omega)
       simp only [decide_eq_true hx, zaI, zdV, ex, zad, hle]
       have : ys.drop i = [] := List.drop_eq_nil_of_le (by omega)
       exact .inr (by rw [this, List.drop_eq_getElem_cons hx]; rfl)
   · refine .inl ⟨i, by simp [hx], by omega, ?_⟩
     have : xs.drop i = [] := List.drop_eq_nil_of_le (by omega)
     rw [this]; cases ys.drop i <;> rfl
theorem zvm {α : Type} {L : Nat → Int → Option (Out Int Int)} {xs ys : List α} {f : α → α → Int} {kk : Nat}
 (h : (∃ j : Int, L kk ((0 : Nat) : Int) = some (.done j) ∧ xs.length ≤ ys.length ∧ zn1 f (xs.drop 0) (ys.drop 0) = 0) ∨ L kk ((0 : Nat) : Int) = some (.ret (ztZ f (xs.drop 0) (ys.drop 0)))) (G : Int → Option Int)
 (hG : ∀ q, G q = sel (some (-1)) (some 0) (decide ((xs.length : Int) < (ys.length : Int)))) : zkl (L kk 0) (fun r => some r) G = some (ztZ f xs ys) := by
 have h0 : L kk 0 = L kk ((0 : Nat) : Int) := rfl
 simp only [List.drop_zero] at h
 rw [h0]
 rcases h with ⟨j, a, b, c⟩ | a
 · rw [a, zb9, hG, zHd, zEK c, zh4]
   unfold ziw
   by_cases e : xs.length < ys.length
   · simp [e]
   · have : xs.length = ys.length := by omega
     simp [this]
 · rw [a, zlc]
@[simp] theorem zNA (a : Int) : orI a 0 = a := by unfold orI; split <;> simp_all
@[simp] theorem zIS (a b c : Int) : orI (orI a b) c = orI a (orI b c) := by unfold orI; split <;> simp_all
theorem zqS (kk : Nat) (a : Int) : zip kk a = some (zAQ a) := by simp [zip, zAQ]
theorem zoZ (kk : Nat) (a : Int) : zhg kk a = some (zAQ a) := by simp [zhg, zAQ]
theorem zjL (kk : Nat) (a b : Int) : zhh kk a b = some (ziw a b) := by
 unfold zhh ziw zAQ
 by_cases h : a < b
 · simp [h]
 · by_cases k : b < a <;> simp [h, k]
theorem znC (kk : Nat) (a b : Int) : zhP kk a b = some (ziw a b) := zjL kk a b
theorem zAI {l : List Int} {i : Nat} (h : i < l.length) : znS (l.drop i) = orI l[i] (znS (l.drop (i + 1))) := by
 rw [List.drop_eq_getElem_cons h]; rfl
theorem ztT (kk : Nat) (a : Sl Int) (h : a.l.length < 100) : zli (kk + 100) a = some (orL a) := by
 have key : ∀ (k i : Nat), i ≤ a.l.length → a.l.length - i < k → (znS (a.l.drop i) = 0 ∧ ∃ j, zdv a (a.l.length : Int) (kk + 100) k i = some (.done j)) ∨ zdv a (a.l.length : Int) (kk + 100) k i = some (.ret (znS (a.l.drop i))) := by
  intro k
  induction k with
  | zero => intro i _ h; omega
  | succ k ih =>
    intro i h1 h3
    unfold zdv
    rw [zh4]
    by_cases hx : i < a.l.length
    · have ex := List.getElem?_eq_getElem hx
      simp only [decide_eq_true hx, zaI, zdV, ex, zad]
      rw [zbz (by unfold big; omega), zAI hx]
      by_cases e : a.l[i] = 0
      · rw [e]
        simp only [bne_self_eq_false, zaV, zEK rfl]
        exact ih (i + 1) (by omega) (by omega)
      · right
        simp [e, zFL e]
    · left
      have : a.l.drop i = [] := List.drop_eq_nil_of_le (by omega)
      rw [this]
      exact ⟨rfl, i, by simp [hx]⟩
 unfold zli orL
 have h0 : zdv a (a.l.length : Int) (kk + 100) (kk + 100) 0 = zdv a (a.l.length : Int) (kk + 100) (kk + 100) ((0 : Nat) : Int) := rfl
 rw [h0]
 rcases key (kk + 100) 0 (Nat.zero_le _) (by omega) with ⟨a1, j, a2⟩ | a2
 · simp only [List.drop_zero] at a1; rw [a2, a1]; rfl
 · rw [a2]; simp
theorem zqP (kk : Nat) (a b : Val) : zim kk a b = some (zkt a b) := by
 unfold zim
 rw [zav (by simp)]
 simp [orL, znS, zkt]
theorem zeA {kk sz : Nat} {a b : Sl zam} (hs : 8 * (zal a.l + zal b.l) + 6 ≤ sz) (hb : sz < big) (hk : sz < kk) : zbp kk sz a b = some (zgM a b) := by
 have hl := zfU a.l
 unfold zbp zgM
 rw [zy3]
 refine zvm (f := zhL) (zzt (f := zhL) (fun x y R => bnd (okP (8 * (zcY x + zcY y) + 5 < sz)) fun _ => sel (some (.ret (zhL x y))) R (zhL x y != 0)) (fun k i => rfl) ?_ (by omega) kk 0 (Nat.zero_le _) (Nat.zero_le _) (by omega)) _ (fun q => rfl)
 intro i x y R hx hy
 have h1 := zhG hx
 have h2 := zhG hy
 rw [zav (by omega)]
 by_cases e : zhL x y = 0 <;> simp [e]
theorem zdl {kk sz : Nat} {a b : Sl zaj} (hs : 8 * (za1 a.l + za1 b.l) + 7 ≤ sz) (hb : sz < big) (hk : sz < kk) : za6 kk sz a b = some (zf3 a b) := by
 have hl := ze3 a.l
 unfold za6 zf3
 rw [zwe]
 refine zvm (f := zeE) (zzt (f := zeE) (fun x y R => bnd (okP (8 * (zds x + zds y) + 5 < sz)) fun _ => sel (some (.ret (zeE x y))) R (zeE x y != 0)) (fun k i => rfl) ?_ (by omega) kk 0 (Nat.zero_le _) (Nat.zero_le _) (by omega)) _ (fun q => rfl)
 intro i x y R hx hy
 have h1 := zg0 hx
 have h2 := zg0 hy
 rw [zav (by omega)]
 by_cases e : zeE x y = 0 <;> simp [e]
theorem zdk {kk sz : Nat} {a b : Sl zaf} (hs : 8 * (zbB a.l + zbB b.l) + 6 ≤ sz) (hb : sz < big) (hk : sz < kk) : za5 kk sz a b = some (zgL a b) := by
 have hl := zgE a.l
 unfold za5 zgL
 rw [zy5]
 refine zvm (f := zeD) (zzt (f := zeD) (fun x y R => bnd (okP (8 * (zeV x + zeV y) + 5 < sz)) fun _ => sel (some (.ret (zeD x y))) R (zeD x y != 0)) (fun k i => rfl) ?_ (by omega) kk 0 (Nat.zero_le _) (Nat.zero_le _) (by omega)) _ (fun q => rfl)
 intro i x y R hx hy
 have h1 := zkd hx
 have h2 := zkd hy
 rw [zav (by omega)]
 by_cases e : zeD x y = 0 <;> simp [e]
theorem zdQ {kk sz : Nat} {a b : Sl (Sl zam)} (hs : 8 * (zdq a.l + zdq b.l) + 6 ≤ sz) (hb : sz < big) (hk : sz < kk) : zbi kk sz a b = some (zmP a b) := by
 have hl := zlU a.l
 unfold zbi zmP
 rw [zBk]
 refine zvm (f := zgM) (zzt (f := zgM) (fun x y R => bnd (okP (8 * (zal x.l + zal y.l) + 7 < sz)) fun _ => sel (some (.ret (zgM x y))) R (zgM x y != 0)) (fun k i => rfl) ?_ (by omega) kk 0 (Nat.zero_le _) (Nat.zero_le _) (by omega)) _ (fun q => rfl)
 intro i x y R hx hy
 have h1 := zka hx
 have h2 := zka hy
 rw [zav (by omega)]
 by_cases e : zgM x y = 0 <;> simp [e]
theorem zm6 {kk sz : Nat} {a b : Sl zam} (hs : 8 * (zal a.l + zal b.l) + 7 ≤ sz) (hb : sz < big) (hk : sz < kk) : zfA kk sz a b = some (zgM a b) := by
 unfold zfA; rw [zav (by omega)]; rfl
theorem zlM {kk sz : Nat} {a b : zam} (hs : 8 * (zcY a + zcY b) + 5 ≤ sz) (hb : sz < big) (hk : sz < kk) : zeR kk sz a b = some (zhL a b) := by
 unfold zeR; rw [zav (by omega), zav (by simp), zrq]
 simp [orL, znS, zd6]
theorem zj7 {kk sz : Nat} {a b : zam} (hs : 8 * (zcY a + zcY b) + 4 ≤ sz) (hb : sz < big) (hk : sz < kk) : zdz kk sz a b = some (zd6 a b) := by
 rw [zhs, zhs] at hs
 unfold zdz; rw [zav (by omega)]; rfl
theorem zji {kk sz : Nat} {a b : zaj} (hs : 8 * (zds a + zds b) + 5 ≤ sz) (hb : sz < big) (hk : sz < kk) : zcU kk sz a b = some (zeE a b) := by
 rw [zfa, zfa] at hs
 unfold zcU; rw [zav (by omega), zav (by simp), zn8]
 simp [orL, znS]
theorem zj8 {kk sz : Nat} {a b : zaf} (hs : 8 * (zeV a + zeV b) + 5 ≤ sz) (hb : sz < big) (hk : sz < kk) : zdA kk sz a b = some (zeD a b) := by
 rw [zlT, zlT] at hs
 unfold zdA; rw [zav (by omega), zav (by simp), zrr]
 simp [orL, znS]
theorem zj9 {kk sz : Nat} {a b : zap} (hs : 8 * (zdp a + zdp b) + 7 ≤ sz) (hb : sz < big) (hk : sz < kk) : zdB kk sz a b = some (zf4 a b) := by
 rw [zgf, zgf] at hs
 unfold zdB; rw [zav (by omega), zav (by omega), zav (by simp), zrs]
 simp [orL, znS, zmP, zgL, zxF]
end Go.Ev
namespace Go.Ev
mutual
def zmr : zam → Nat
 | .mk _ ⟨_, fs⟩ => 1 + zgF fs
def zgF : List zaj → Nat
 | [] => 0
 | x :: xs => 1 + zg2 x + zgF xs
def zg2 : zaj → Nat
 | .mk a _ => zoy a
def zoy : zap → Nat
 | .mk _ _ ⟨_, as⟩ _ ⟨_, is⟩ _ _ => ziU as + zht is
def ziU : List (Sl zam) → Nat
 | [] => 0
 | ⟨_, x⟩ :: xs => zfC x + ziU xs
def zfC : List zam → Nat
 | [] => 0
 | x :: xs => zmr x + zfC xs
def zht : List zaf → Nat
 | [] => 0
 | x :: xs => zms x + zht xs
def zms : zaf → Nat
 | .mk _ ⟨_, l⟩ => 1 + zfC l
end
def zs0 (a : Sl zam) : Int := (zfC a.l : Nat)
mutual
def zmE : zam → Nat
 | .mk _ ⟨_, fs⟩ => zfW fs
def zfW : List zaj → Nat
 | [] => 0
 | x :: xs => max (ziG x) (zfW xs)
def ziG : zaj → Nat
 | .mk a _ => zoC a
def zoC : zap → Nat
 | .mk k _ ⟨_, as⟩ _ ⟨_, is⟩ _ _ => if k = 0 then 0 else 1 + max (zjT as) (zh2 is)
def zjT : List (Sl zam) → Nat
 | [] => 0
 | ⟨_, x⟩ :: xs => max (zfF x) (zjT xs)
def zfF : List zam → Nat
 | [] => 0
 | x :: xs => max (zmE x) (zfF xs)
def zh2 : List zaf → Nat
 | [] => 0
 | x :: xs => max (zmF x) (zh2 xs)
def zmF : zaf → Nat
 | .mk _ ⟨_, l⟩ => zfF l
end
def zra (a : Sl zam) : Int := (zfF a.l : Nat)
theorem zyj (x : zam) : zmr x = 1 + zgF x.factors.l := by rcases x with ⟨c, ⟨f, l⟩⟩; simp only [zmr, zam.factors]
theorem zvk (x : zaj) : zg2 x = zoy x.atom := by cases x; simp only [zg2, zaj.atom]
theorem zyk (x : zaf) : zms x = 1 + zfC x.ann.l := by rcases x with ⟨v, ⟨f, l⟩⟩; simp only [zms, zaf.ann]
theorem zyl (x : zap) : zoy x = ziU x.args.l + zht x.items.l := by
 rcases x with ⟨k, r, ⟨f, a⟩, fn, ⟨g, i⟩, o, b⟩; simp only [zoy, zap.args, zap.items]
theorem zyD (x : zam) : zmE x = zfW x.factors.l := by rcases x with ⟨c, ⟨f, l⟩⟩; simp only [zmE, zam.factors]
theorem zvM (x : zaj) : ziG x = zoC x.atom := by cases x; simp only [ziG, zaj.atom]
theorem zyE (x : zaf) : zmF x = zfF x.ann.l := by rcases x with ⟨v, ⟨f, l⟩⟩; simp only [zmF, zaf.ann]
theorem zyF (x : zap) : zoC x = if x.kind = 0 then 0 else 1 + max (zjT x.args.l) (zh2 x.items.l) := by
 rcases x with ⟨k, r, ⟨f, a⟩, fn, ⟨g, i⟩, o, b⟩; simp only [zoC, zap.args, zap.items, zap.kind]; rfl
mutual
theorem zwF (x : zam) : zmr x ≤ zcY x := by
 rcases x with ⟨c, ⟨f, l⟩⟩; simp only [zmr, zcY]; have := znM l; omega
theorem znM (l : List zaj) : zgF l ≤ za1 l := by
 cases l with
 | nil => simp [zgF]
 | cons x l => simp only [zgF, za1]; have := zt1 x; have := znM l; omega
theorem zt1 (x : zaj) : zg2 x ≤ zds x := by
 cases x with | mk a e => simp only [zg2, zds]; have := zwH a; omega
theorem zwH (x : zap) : zoy x ≤ zdp x := by
 rcases x with ⟨k, r, ⟨f, a⟩, fn, ⟨g, i⟩, o, b⟩; simp only [zoy, zdp]; have := zrV a; have := zp7 i; omega
theorem zrV (l : List (Sl zam)) : ziU l ≤ zdq l := by
 rcases l with _ | ⟨⟨f, x⟩, l⟩
 · simp [ziU]
 · simp only [ziU, zdq]; have := zjQ x; have := zrV l; omega
theorem zjQ (l : List zam) : zfC l ≤ zal l := by
 cases l with
 | nil => simp [zfC]
 | cons x l => simp only [zfC, zal]; have := zwF x; have := zjQ l; omega
theorem zp7 (l : List zaf) : zht l ≤ zbB l := by
 cases l with
 | nil => simp [zht]
 | cons x l => simp only [zht, zbB]; have := zwG x; have := zp7 l; omega
theorem zwG (x : zaf) : zms x ≤ zeV x := by
 rcases x with ⟨v, ⟨f, l⟩⟩; simp only [zms, zeV]; have := zjQ l; omega
end
mutual
theorem zw4 (x : zam) : zmE x ≤ zcY x := by
 rcases x with ⟨c, ⟨f, l⟩⟩; simp only [zmE, zcY]; have := znU l; omega
theorem znU (l : List zaj) : zfW l ≤ za1 l := by
 cases l with
 | nil => simp [zfW]
 | cons x l => simp only [zfW, za1]; have := zt7 x; have := znU l; omega
theorem zt7 (x : zaj) : ziG x ≤ zds x := by
 cases x with | mk a e => simp only [ziG, zds]; have := zw6 a; omega
theorem zw6 (x : zap) : zoC x ≤ zdp x := by
 rcases x with ⟨k, r, ⟨f, a⟩, fn, ⟨g, i⟩, o, b⟩; simp only [zoC, zdp]; have := znV a; have := zmD i; split <;> omega
theorem znV (l : List (Sl zam)) : zjT l ≤ zdq l := by
 rcases l with _ | ⟨⟨f, x⟩, l⟩
 · simp [zjT]
 · simp only [zjT, zdq]; have := zmC x; have := znV l; omega
theorem zmC (l : List zam) : zfF l ≤ zal l := by
 cases l with
 | nil => simp [zfF]
 | cons x l => simp only [zfF, zal]; have := zw4 x; have := zmC l; omega
theorem zmD (l : List zaf) : zh2 l ≤ zbB l := by
 cases l with
 | nil => simp [zh2]
 | cons x l => simp only [zh2, zbB]; have := zw5 x; have := zmD l; omega
theorem zw5 (x : zaf) : zmF x ≤ zeV x := by
 rcases x with ⟨v, ⟨f, l⟩⟩; simp only [zmF, zeV]; have := zmC l; omega
end
theorem zvi (l : List zam) : zfC l = zfB zmr l := by
 induction l with
 | nil => rfl
 | cons x l ih => simp only [zfC, zfB, ih]
theorem zvj (l : List zaf) : zht l = zfB zms l := by
 induction l with
 | nil => rfl
 | cons x l ih => simp only [zht, zfB, ih]
theorem zwI (l : List (Sl zam)) : ziU l = zfB (fun x => zfC x.l) l := by
 induction l with
 | nil => rfl
 | cons x l ih => cases x; simp only [ziU, zfB, ih]
def zjU {α : Type} (f : α → Nat) : List α → Nat
 | [] => 0
 | x :: l => max (f x) (zjU f l)
theorem zvK (l : List zam) : zfF l = zjU zmE l := by
 induction l with
 | nil => rfl
 | cons x l ih => simp only [zfF, zjU, ih]
theorem ztf (l : List zaj) : zfW l = zjU ziG l := by
 induction l with
 | nil => rfl
 | cons x l ih => simp only [zfW, zjU, ih]
theorem zvL (l : List zaf) : zh2 l = zjU zmF l := by
 induction l with
 | nil => rfl
 | cons x l ih => simp only [zh2, zjU, ih]
theorem zw7 (l : List (Sl zam)) : zjT l = zjU (fun x => zfF x.l) l := by
 induction l with
 | nil => rfl
 | cons x l ih => cases x; simp only [zjT, zjU, ih]
theorem zp5 {α : Type} (f : α → Nat) (a b : List α) : zfB f (a ++ b) = zfB f a + zfB f b := by
 induction a with
 | nil => simp [zfB]
 | cons x a ih => simp only [List.cons_append, zfB, ih]; omega
theorem zq2 {α : Type} (f : α → Nat) {l : List α} {i : Nat} {x : α} (h : l[i]? = some x) : zfB f (l.take (i + 1)) = zfB f (l.take i) + f x := by
 have e : l.take (i + 1) = l.take i ++ [x] := by rw [List.take_add_one, h]; rfl
 rw [e, zp5]; simp [zfB]
theorem zp4 {α : Type} (f : α → Nat) (l : List α) (i : Nat) : zfB f (l.take i) ≤ zfB f l := by
 have := zp5 f (l.take i) (l.drop i)
 rw [List.take_append_drop] at this; omega
theorem zr3 {α : Type} (f : α → Nat) (a b : List α) : zjU f (a ++ b) = max (zjU f a) (zjU f b) := by
 induction a with
 | nil => simp [zjU]
 | cons x a ih => simp only [List.cons_append, zjU, ih]; omega
theorem zAS {α : Type} (f : α → Nat) {l : List α} {i : Nat} {x : α} (h : l[i]? = some x) : zjU f (l.take (i + 1)) = max (zjU f (l.take i)) (f x) := by
 have e : l.take (i + 1) = l.take i ++ [x] := by rw [List.take_add_one, h]; rfl
 rw [e, zr3]; simp [zjU]
theorem zvN {α : Type} (f : α → Nat) (l : List α) (i : Nat) : zjU f (l.take i) ≤ zjU f l := by
 have := zr3 f (l.take i) (l.drop i)
 rw [List.take_append_drop] at this; omega
def zhr (r : zcc) : Bool := decide (1 ≤ r.table) && decide (1 ≤ r.seq)
def zbb (v : Val) : Bool :=
 if v.kind = 0 then v.text == []
 else if v.kind = 1 then (v.int == 0) && decide ((v.text.length : Int) ≤ 255)
 else if v.kind = 2 then ((v.int == 0) || (v.int == 1)) && (v.text == [])
 else false
def zuN (a : zap) : Bool := (((a.func == 0) && ((a.items.l.length : Int) == 0)) && (a.op == 0)) && ((a.bound.kind == 0) && ((a.bound.int == 0) && (a.bound.text == [])))
def zja (a : Sl zam) : Bool := a.l.any fun t => (t.factors.l.length : Int) == 0
def zAK {α : Type} : List α → Option α
 | [x] => some x
 | _ => none
def zwj (a : Sl zam) : Bool := match zAK a.l with
 | some t => (t.coeff == 1) && (match zAK t.factors.l with
   | some f => (f.exp == 1) && decide (2 ≤ f.atom.kind)
   | none => false)
 | none => false
def zgI (a : Sl zam) : Bool := match zAK a.l with
 | some t => (t.factors.l.length : Int) == 0
 | none => false
def zrf (a : zap) : Bool := (a.kind == 3) || (a.kind == 4)
def znX (a : Sl zam) : Bool := match zAK a.l with
 | some t => (t.coeff == 1) && (match zAK t.factors.l with
   | some f => (f.exp == 1) && ((f.atom.kind == 2) || zrf f.atom)
   | none => false)
 | none => false
theorem zCX {R S : Type} {L : Nat → S → Int → Option (Out R (S × Int))} {n : Nat} (acc : Nat → S)
 (hend : ∀ k s, L (k + 1) s n = some (.done (s, (n : Int))))
 (hstep : ∀ k i, i < n → L (k + 1) (acc i) (i : Int) = L k (acc (i + 1)) ((i + 1 : Nat) : Int)) :
 ∀ k i, i ≤ n → n - i < k → L k (acc i) (i : Int) = some (.done (acc n, (n : Int))) := by
 intro k
 induction k with
 | zero => intro i _ h; omega
 | succ k ih =>
   intro i h1 h2
   by_cases e : i = n
   · subst e; exact hend k _
   · rw [hstep k i (by omega), ih (i + 1) (by omega) (by omega)]
theorem zri {R S : Type} {L : Nat → S → Int → Option (Out R (S × Int))} {n k : Nat} (acc : Nat → S) (s0 : S)
 (hend : ∀ k s, L (k + 1) s n = some (.done (s, (n : Int))))
 (hstep : ∀ k i, i < n → L (k + 1) (acc i) (i : Int) = L k (acc (i + 1)) ((i + 1 : Nat) : Int)) (h0 : acc 0 = s0) (hk : n < k) :
 L k s0 0 = some (.done (acc n, (n : Int))) := by
 have := zCX acc hend hstep k 0 (by omega) (by omega)
 rw [← h0]; exact this
theorem zsw {α R : Type} {L : Nat → Int → Int → Option (Out R (Int × Int))} {xs : List α} {k : Nat} (f : α → Nat) (s : Nat)
 (hend : ∀ k s, L (k + 1) s xs.length = some (.done (s, (xs.length : Int))))
 (hstep : ∀ k (i m : Nat) x, i < xs.length → xs[i]? = some x → m + f x ≤ s + zfB f xs → L (k + 1) (m : Int) (i : Int) = L k ((m + f x : Nat) : Int) ((i + 1 : Nat) : Int))
 (hk : xs.length < k) : L k (s : Int) 0 = some (.done (((s + zfB f xs : Nat) : Int), (xs.length : Int))) := by
 have := zri (L := L) (n := xs.length) (k := k) (fun i => ((s + zfB f (xs.take i) : Nat) : Int)) (s : Int) hend (fun k i hi => ?_) (by simp [zfB]) hk
 · simpa using this
 · have ex := List.getElem?_eq_getElem hi
   have h1 := zq2 f ex
   have h2 := zp4 f xs (i + 1)
   have := hstep k i (s + zfB f (xs.take i)) _ hi ex (by omega)
   rw [this, h1, Nat.add_assoc]
theorem zsy {α R : Type} {L : Nat → Int → Int → Option (Out R (Int × Int))} {xs : List α} {k : Nat} (f : α → Nat) (s : Nat)
 (hend : ∀ k s, L (k + 1) s xs.length = some (.done (s, (xs.length : Int))))
 (hstep : ∀ k (i m : Nat) x, i < xs.length → xs[i]? = some x → s ≤ m → m ≤ max s (zjU f xs) → L (k + 1) (m : Int) (i : Int) = L k ((max m (f x) : Nat) : Int) ((i + 1 : Nat) : Int))
 (hk : xs.length < k) : L k (s : Int) 0 = some (.done (((max s (zjU f xs) : Nat) : Int), (xs.length : Int))) := by
 have := zri (L := L) (n := xs.length) (k := k) (fun i => ((max s (zjU f (xs.take i)) : Nat) : Int)) (s : Int) hend (fun k i hi => ?_) (by simp [zjU]) hk
 · simpa using this
 · have ex := List.getElem?_eq_getElem hi
   have h1 := zAS f ex
   have h2 := zvN f xs i
   have := hstep k i (max s (zjU f (xs.take i))) _ hi ex (by omega) (by omega)
   rw [this, h1, Nat.max_assoc]
end Go.Ev
set_option linter.unusedVariables false
namespace Go.Ev
noncomputable def zlH (kk : Nat) (a : zcc) : Option (Bool) :=
 some ((decide (1 ≤ a.table)) && (decide (1 ≤ a.seq)))
noncomputable def zj3 (kk : Nat) (a : Val) : Option (Bool) :=
 sel (
  some (a.text == [])) (
  sel (
   some ((a.int == 0) && (decide ((a.text.length : Int) ≤ 255)))) (
   sel (
    some (((a.int == 0) || (a.int == 1)) && (a.text == []))) (
    some false) (a.kind == 2)) (a.kind == 1)) (a.kind == 0)
noncomputable def zgb (kk : Nat) (a : zap) : Option (Bool) :=
 some ((a.kind == 3) || (a.kind == 4))
noncomputable def zes (kk : Nat) (a : (Sl zam)) : Option (Bool) :=
 sel (
  bnd (a.l[0]?) fun (y1 : zam) =>
  some ((y1.factors.l.length : Int) == 0)) (
  some false) ((a.l.length : Int) == 1)
noncomputable def zga (kk : Nat) (a : (Sl zam)) : Option (Bool) :=
 sel (
  bnd (a.l[0]?) fun (y1 : zam) =>
  sel (
   sel (
    some false) (
    bnd (y1.factors.l[0]?) fun (y2 : zaj) =>
    some ((y2.exp == 1) && ((y2.atom.kind == 2) || ((zrf y2.atom))))) ((y1.factors.l.length : Int) != 1)) (
   some false) (!(y1.coeff != 1))) (
  some false) (!((a.l.length : Int) != 1))
noncomputable def zch (c29 : Sl zam) (c30 : Int) (c31 : Int) (c32 : Sl zaj) (c33 : Int) (c34 : Int) (c35 : Sl zaf) (c36 : Int) (sz : Nat) (kk : Nat) : Nat → Int → Int → Option (Out (Int) (Int × Int))
 | 0, _, _ => none
 | k + 1, s28, s37 =>
   sel (
    bnd (ix c35.l s37) fun (y38 : zaf) =>
    bnd (okP (zal y38.ann.l < sz)) fun _ =>
    zch c29 c30 c31 c32 c33 c34 c35 c36 sz kk k (IntKind.wrap .i64 (s28 + (IntKind.wrap .i64 (1 + (zs0 y38.ann))))) (IntKind.wrap .i64 (s37 + 1))) (
    some (.done (s28, s37))) (decide (s37 < c36))
noncomputable def zci (c15 : Sl zam) (c16 : Int) (c17 : Int) (c18 : Sl zaj) (c19 : Int) (c20 : Int) (c21 : Sl (Sl zam)) (c22 : Int) (c24 : zaj) (sz : Nat) (kk : Nat) : Nat → Int → Int → Option (Out (Int) (Int × Int))
 | 0, _, _ => none
 | k + 1, s14, s23 =>
   sel (
    bnd (ix c21.l s23) fun (y25 : (Sl zam)) =>
    bnd (okP (zal y25.l < sz)) fun _ =>
    zci c15 c16 c17 c18 c19 c20 c21 c22 c24 sz kk k (IntKind.wrap .i64 (s14 + (zs0 y25))) (IntKind.wrap .i64 (s23 + 1))) (
    some (.done (s14, s23))) (decide (s23 < c22))
noncomputable def zcj (c7 : Sl zam) (c8 : Int) (c9 : Int) (c10 : Sl zaj) (c11 : Int) (sz : Nat) (kk : Nat) : Nat → Int → Int → Option (Out (Int) (Int × Int))
 | 0, _, _ => none
 | k + 1, s6, s12 =>
   sel (
    bnd (ix c10.l s12) fun (y13 : zaj) =>
    zkl (zci c7 c8 c9 c10 c11 s12 y13.atom.args (y13.atom.args.l.length : Int) y13 sz kk kk s6 0) (fun r => some (.ret r)) fun (q27 : Int × Int) =>
     zkl (zch c7 c8 c9 c10 c11 s12 y13.atom.items (y13.atom.items.l.length : Int) sz kk kk q27.1 0) (fun r => some (.ret r)) fun (q40 : Int × Int) =>
      zcj c7 c8 c9 c10 c11 sz kk k q40.1 (IntKind.wrap .i64 (s12 + 1))) (
    some (.done (s6, s12))) (decide (s12 < c11))
noncomputable def zck (c2 : Sl zam) (c3 : Int) (sz : Nat) (kk : Nat) : Nat → Int → Int → Option (Out (Int) (Int × Int))
 | 0, _, _ => none
 | k + 1, s1, s4 =>
   sel (
    bnd (ix c2.l s4) fun (y5 : zam) =>
    zkl (zcj c2 c3 s4 y5.factors (y5.factors.l.length : Int) sz kk kk (IntKind.wrap .i64 (s1 + (IntKind.wrap .i64 (1 + (y5.factors.l.length : Int))))) 0) (fun r => some (.ret r)) fun (q41 : Int × Int) =>
     zck c2 c3 sz kk k q41.1 (IntKind.wrap .i64 (s4 + 1))) (
    some (.done (s1, s4))) (decide (s4 < c3))
noncomputable def zhj (kk : Nat) (sz : Nat) (a : (Sl zam)) : Option (Int) :=
 zkl (zck a (a.l.length : Int) sz kk kk 0 0) (fun r => some r) fun (q42 : Int × Int) =>
  some q42.1
noncomputable def zbP (c29 : Int) (c31 : Sl zam) (c32 : Int) (c33 : Int) (c34 : Sl zaj) (c35 : Int) (c36 : Int) (c37 : Sl zaf) (c38 : Int) (sz : Nat) (kk : Nat) : Nat → Int → Int → Option (Out (Int) (Int × Int))
 | 0, _, _ => none
 | k + 1, s30, s39 =>
   sel (
    bnd (ix c37.l s39) fun (y40 : zaf) =>
    bnd (okP (zal y40.ann.l < sz)) fun _ =>
    zbP c29 c31 c32 c33 c34 c35 c36 c37 c38 sz kk k (if s30 < (zra y40.ann) then (zra y40.ann) else s30) (IntKind.wrap .i64 (s39 + 1))) (
    some (.done (s30, s39))) (decide (s39 < c38))
noncomputable def zbF (c14 : Int) (c16 : Sl zam) (c17 : Int) (c18 : Int) (c19 : Sl zaj) (c20 : Int) (c21 : Int) (c22 : Sl (Sl zam)) (c23 : Int) (c25 : zaj) (sz : Nat) (kk : Nat) : Nat → Int → Int → Option (Out (Int) (Int × Int))
 | 0, _, _ => none
 | k + 1, s15, s24 =>
   sel (
    bnd (ix c22.l s24) fun (y26 : (Sl zam)) =>
    bnd (okP (zal y26.l < sz)) fun _ =>
    zbF c14 c16 c17 c18 c19 c20 c21 c22 c23 c25 sz kk k (if s15 < (zra y26) then (zra y26) else s15) (IntKind.wrap .i64 (s24 + 1))) (
    some (.done (s15, s24))) (decide (s24 < c23))
noncomputable def zbG (c7 : Sl zam) (c8 : Int) (c9 : Int) (c10 : Sl zaj) (c11 : Int) (sz : Nat) (kk : Nat) : Nat → Int → Int → Option (Out (Int) (Int × Int))
 | 0, _, _ => none
 | k + 1, s6, s12 =>
   sel (
    bnd (ix c10.l s12) fun (y13 : zaj) =>
    sel (
     zbG c7 c8 c9 c10 c11 sz kk k s6 (IntKind.wrap .i64 (s12 + 1))) (
     zkl (zbF s6 c7 c8 c9 c10 c11 s12 y13.atom.args (y13.atom.args.l.length : Int) y13 sz kk kk 0 0) (fun r => some (.ret r)) fun (q28 : Int × Int) =>
      zkl (zbP s6 c7 c8 c9 c10 c11 s12 y13.atom.items (y13.atom.items.l.length : Int) sz kk kk q28.1 0) (fun r => some (.ret r)) fun (q42 : Int × Int) =>
       zbG c7 c8 c9 c10 c11 sz kk k (if s6 < (IntKind.wrap .i64 (1 + q42.1)) then (IntKind.wrap .i64 (1 + q42.1)) else s6) (IntKind.wrap .i64 (s12 + 1))) (y13.atom.kind == 0)) (
    some (.done (s6, s12))) (decide (s12 < c11))
noncomputable def zbQ (c2 : Sl zam) (c3 : Int) (sz : Nat) (kk : Nat) : Nat → Int → Int → Option (Out (Int) (Int × Int))
 | 0, _, _ => none
 | k + 1, s1, s4 =>
   sel (
    bnd (ix c2.l s4) fun (y5 : zam) =>
    zkl (zbG c2 c3 s4 y5.factors (y5.factors.l.length : Int) sz kk kk s1 0) (fun r => some (.ret r)) fun (q43 : Int × Int) =>
     zbQ c2 c3 sz kk k q43.1 (IntKind.wrap .i64 (s4 + 1))) (
    some (.done (s1, s4))) (decide (s4 < c3))
noncomputable def zfx (kk : Nat) (sz : Nat) (a : (Sl zam)) : Option (Int) :=
 zkl (zbQ a (a.l.length : Int) sz kk kk 0 0) (fun r => some r) fun (q44 : Int × Int) =>
  some q44.1
end Go.Ev
namespace Go.Ev
theorem zou {n : Nat} (h : n < 2 * big) : IntKind.wrap .i64 ((n : Nat) : Int) = (n : Nat) := by
 have : big = 1152921504606846976 := rfl
 exact zgz (by omega) (by omega)
theorem zNk (x : Nat) : ((x : Int) + 1) = ((x + 1 : Nat) : Int) := by omega
theorem zDs (x : Nat) : (1 + (x : Int)) = ((1 + x : Nat) : Int) := by omega
theorem zHf (x y : Nat) : ((x : Int) + (y : Int)) = ((x + y : Nat) : Int) := by omega
theorem zuB {l : List zaf} {i : Nat} {x : zaf} (h : l[i]? = some x) : zal x.ann.l + 1 < zbB l := by
 have := zkd h; rw [zlT] at this; omega
theorem zrM (kk : Nat) (a : zcc) : zlH kk a = some (zhr a) := rfl
theorem zst (kk : Nat) (a : Val) : zj3 kk a = some (zbb a) := by
 unfold zj3 zbb
 simp only [zfD]
 split
 · rfl
 · split
   · rfl
   · split <;> rfl
theorem zkY (kk : Nat) (a : zap) : zgb kk a = some (zrf a) := rfl
theorem zCt {α : Type} (x : α) : zAK [x] = some x := rfl
theorem zCu {α : Type} {l : List α} (h : ((l.length : Nat) : Int) ≠ 1) : zAK l = none := by
 rcases l with _ | ⟨x, _ | ⟨y, l⟩⟩
 · rfl
 · simp at h
 · rfl
theorem zrZ {α : Type} {l : List α} (h : ((l.length : Nat) : Int) = 1) : ∃ x, l = [x] := by
 rcases l with _ | ⟨x, _ | ⟨y, l⟩⟩
 · simp at h
 · exact ⟨x, rfl⟩
 · simp at h; omega
theorem zkX (kk : Nat) (a : Sl zam) : zes kk a = some (zgI a) := by
 unfold zes zgI
 rw [zfD]
 by_cases h : ((a.l.length : Nat) : Int) = 1
 · rw [if_pos h]
   obtain ⟨t, e⟩ := zrZ h
   rw [e]
   simp only [List.getElem?_cons_zero, zad, zCt]
 · rw [if_neg h, zCu h]
theorem znE (kk : Nat) (a : Sl zam) : zga kk a = some (znX a) := by
 unfold zga znX
 rw [zdf, zvl]
 by_cases h : ((a.l.length : Nat) : Int) = 1
 · rw [if_pos h]
   obtain ⟨t, e⟩ := zrZ h
   rw [e]
   simp only [List.getElem?_cons_zero, zad, zCt, zdf, zvl]
   by_cases hc : t.coeff = 1
   · simp only [hc, beq_self_eq_true, if_true, Bool.true_and]
     by_cases hf : ((t.factors.l.length : Nat) : Int) = 1
     · obtain ⟨f, e2⟩ := zrZ hf
       rw [e2]
       simp [zCt]
     · rw [zCu hf]; simp [hf]
   · simp [hc]
 · rw [if_neg h, zCu h]
theorem zFn {α : Type} {L : Nat → Int → Option (Out Bool Int)} {xs : List α} (p : α → Bool) (v : Bool)
 (hend : ∀ k, L (k + 1) xs.length = some (.done (xs.length : Int)))
 (hstep : ∀ k (i : Nat) x, i < xs.length → xs[i]? = some x → L (k + 1) (i : Int) = if p x then some (.ret v) else L k ((i + 1 : Nat) : Int)) :
 ∀ k i, i ≤ xs.length → xs.length - i < k → L k (i : Int) = if (xs.drop i).any p then some (.ret v) else some (.done (xs.length : Int)) := by
 intro k
 induction k with
 | zero => intro i _ h; omega
 | succ k ih =>
   intro i h1 h2
   by_cases e : i = xs.length
   · subst e; rw [hend]; simp
   · have hi : i < xs.length := by omega
     rw [hstep k i _ hi (List.getElem?_eq_getElem hi), ih (i + 1) (by omega) (by omega), List.drop_eq_getElem_cons hi, List.any_cons]
     by_cases hp : p xs[i] = true
     · simp [hp]
     · simp [hp]
theorem zDD {α : Type} {L : Nat → Int → Option (Out Bool Int)} {xs : List α} {k : Nat} (p : α → Bool) (v : Bool)
 (hend : ∀ k, L (k + 1) xs.length = some (.done (xs.length : Int)))
 (hstep : ∀ k (i : Nat) x, i < xs.length → xs[i]? = some x → L (k + 1) (i : Int) = if p x then some (.ret v) else L k ((i + 1 : Nat) : Int))
 (hk : xs.length < k) : L k 0 = if xs.any p then some (.ret v) else some (.done (xs.length : Int)) := by
 have := zFn p v hend hstep k 0 (by omega) (by omega)
 simpa using this
theorem znw {c1 : Sl zam} {c2 c3 c5 c6 : Int} {c4 : Sl zaj} {its : Sl zaf} {sz kk k s : Nat} (h : zbB its.l < sz + 1) (hk : sz < k) (hs : s + zht its.l < big) (hb : sz < big) :
 zch c1 c2 c3 c4 c5 c6 its its.l.length sz kk k s 0 = some (.done (((s + zht its.l : Nat) : Int), (its.l.length : Int))) := by
 have hl := zgE its.l
 rw [zvj] at hs ⊢
 refine zsw (xs := its.l) (L := zch c1 c2 c3 c4 c5 c6 its its.l.length sz kk) zms s (fun k s => by simp [zch]) (fun k i m x hi ex hm => ?_) (by omega)
 have hx := zuB ex
 have he := zyk x
 simp only [zch, zh4, decide_eq_true hi, zaI, zdV, ex, zad]
 rw [zav (by omega), zad, zbz (by omega)]
 unfold zs0
 rw [zDs, zou (by omega), zHf, zou (by omega), he]
theorem znx {c1 : Sl zam} {c2 c3 c5 c6 : Int} {c4 : Sl zaj} {fa : zaj} {as : Sl (Sl zam)} {sz kk k s : Nat} (h : zdq as.l < sz + 1) (hk : sz < k) (hs : s + ziU as.l < big) (hb : sz < big) :
 zci c1 c2 c3 c4 c5 c6 as as.l.length fa sz kk k s 0 = some (.done (((s + ziU as.l : Nat) : Int), (as.l.length : Int))) := by
 have hl := zlU as.l
 rw [zwI] at hs ⊢
 refine zsw (xs := as.l) (L := zci c1 c2 c3 c4 c5 c6 as as.l.length fa sz kk) (fun x : Sl zam => zfC x.l) s (fun k s => by simp [zci]) (fun k i m x hi ex hm => ?_) (by omega)
 have hx := zka ex
 simp only [zci, zh4, decide_eq_true hi, zaI, zdV, ex, zad]
 rw [zav (by omega), zad, zbz (by omega)]
 unfold zs0
 rw [zHf, zou (by omega)]
theorem zny {c1 : Sl zam} {c2 c3 : Int} {fs : Sl zaj} {sz kk k s : Nat} (h : za1 fs.l < sz + 1) (hk : sz < k) (hkk : sz < kk) (hs : s + zfB zg2 fs.l < big) (hb : sz < big) :
 zcj c1 c2 c3 fs fs.l.length sz kk k s 0 = some (.done (((s + zfB zg2 fs.l : Nat) : Int), (fs.l.length : Int))) := by
 have hl := ze3 fs.l
 refine zsw (xs := fs.l) (L := zcj c1 c2 c3 fs fs.l.length sz kk) zg2 s (fun k s => by simp [zcj]) (fun k i m x hi ex hm => ?_) (by omega)
 have hx := zg0 ex
 have e1 := zfa x
 have e2 := zvk x
 have e3 := zyl x.atom
 have e4 := zgf x.atom
 simp only [zcj, zh4, zdV, zad, decide_eq_true hi, zaI, ex]
 rw [znx (by omega) (by omega) (by omega) (by omega), zb9]
 simp only
 rw [znw (by omega) (by omega) (by omega) (by omega), zb9, ← zNk, zbz (by omega)]
 congr 2; omega
theorem zsZ (l : List zaj) : zgF l = l.length + zfB zg2 l := by
 induction l with
 | nil => rfl
 | cons x l ih => simp only [zgF, zfB, List.length_cons, ih]; omega
theorem znz {a : Sl zam} {sz kk k : Nat} (h : zal a.l < sz + 1) (hk : sz < k) (hkk : sz < kk) (hb : sz < big) :
 zck a a.l.length sz kk k (0 : Nat) 0 = some (.done (((0 + zfC a.l : Nat) : Int), (a.l.length : Int))) := by
 have hl := zfU a.l
 have hs := zjQ a.l
 rw [zvi] at hs ⊢
 refine zsw (xs := a.l) (L := zck a a.l.length sz kk) zmr 0 (fun k s => by simp [zck]) (fun k i m x hi ex hm => ?_) (by omega)
 have hx := zhG ex
 have e1 := zhs x
 have e2 := zyj x
 have e3 := zsZ x.factors.l
 simp only [zck, zh4, decide_eq_true hi, zaI, zdV, ex, zad]
 rw [zDs, zou (by omega), zHf, zou (by omega), zny (by omega) (by omega) (by omega) (by omega) (by omega), zb9]
 simp only
 rw [← zNk, zbz (by omega)]
 congr 2; omega
theorem zo1 {kk sz : Nat} {a : Sl zam} (h : zal a.l < sz + 1) (hk : sz < kk) (hb : sz < big) : zhj kk sz a = some (zs0 a) := by
 unfold zhj
 have := znz h hk hk hb
 rw [show (0 : Int) = ((0 : Nat) : Int) from rfl] at *
 rw [this]
 simp [zs0]
theorem zyL (m n : Nat) : (if ((m : Nat) : Int) < ((n : Nat) : Int) then ((n : Nat) : Int) else ((m : Nat) : Int)) = ((max m n : Nat) : Int) := by
 split <;> omega
theorem zlD {c0 : Int} {c1 : Sl zam} {c2 c3 c5 c6 : Int} {c4 : Sl zaj} {its : Sl zaf} {sz kk k s : Nat} (h : zbB its.l < sz + 1) (hk : sz < k) (hb : sz < big) :
 zbP c0 c1 c2 c3 c4 c5 c6 its its.l.length sz kk k s 0 = some (.done (((max s (zh2 its.l) : Nat) : Int), (its.l.length : Int))) := by
 have hl := zgE its.l
 rw [zvL]
 refine zsy (xs := its.l) (L := zbP c0 c1 c2 c3 c4 c5 c6 its its.l.length sz kk) zmF s (fun k s => by simp [zbP]) (fun k i m x hi ex hm hm2 => ?_) (by omega)
 have hx := zuB ex
 have he := zyE x
 simp only [zbP, zh4, decide_eq_true hi, zaI, zdV, ex, zad]
 rw [zav (by omega), zad, zbz (by omega)]
 unfold zra
 rw [zyL, he]
theorem zlE {c0 : Int} {c1 : Sl zam} {c2 c3 c5 c6 : Int} {c4 : Sl zaj} {fa : zaj} {as : Sl (Sl zam)} {sz kk k s : Nat} (h : zdq as.l < sz + 1) (hk : sz < k) (hb : sz < big) :
 zbF c0 c1 c2 c3 c4 c5 c6 as as.l.length fa sz kk k s 0 = some (.done (((max s (zjT as.l) : Nat) : Int), (as.l.length : Int))) := by
 have hl := zlU as.l
 rw [zw7]
 refine zsy (xs := as.l) (L := zbF c0 c1 c2 c3 c4 c5 c6 as as.l.length fa sz kk) (fun x : Sl zam => zfF x.l) s (fun k s => by simp [zbF]) (fun k i m x hi ex hm hm2 => ?_) (by omega)
 have hx := zka ex
 simp only [zbF, zh4, decide_eq_true hi, zaI, zdV, ex, zad]
 rw [zav (by omega), zad, zbz (by omega)]
 unfold zra
 rw [zyL]
theorem zlF {c1 : Sl zam} {c2 c3 : Int} {fs : Sl zaj} {sz kk k s : Nat} (h : za1 fs.l < sz + 1) (hk : sz < k) (hkk : sz < kk) (hb : sz < big) :
 zbG c1 c2 c3 fs fs.l.length sz kk k s 0 = some (.done (((max s (zfW fs.l) : Nat) : Int), (fs.l.length : Int))) := by
 have hl := ze3 fs.l
 rw [ztf]
 refine zsy (xs := fs.l) (L := zbG c1 c2 c3 fs fs.l.length sz kk) ziG s (fun k s => by simp [zbG]) (fun k i m x hi ex hm hm2 => ?_) (by omega)
 have hx := zg0 ex
 have e1 := zfa x
 have e2 := zvM x
 have e3 := zyF x.atom
 have e4 := zgf x.atom
 have e5 := znV x.atom.args.l
 have e6 := zmD x.atom.items.l
 simp only [zbG, zh4, zdV, zad, decide_eq_true hi, zaI, ex, zfD]
 by_cases hz : x.atom.kind = 0
 · rw [if_pos hz] at e3 ⊢
   rw [zbz (by omega)]
   congr 2; omega
 · rw [if_neg hz] at e3 ⊢
   have h2 : zbF m c1 c2 c3 fs fs.l.length i x.atom.args x.atom.args.l.length x sz kk kk 0 0 = _ := @zlE m c1 c2 c3 fs.l.length i fs x x.atom.args sz kk kk 0 (by omega) (by omega) (by omega)
   rw [h2, zb9]
   simp only
   rw [zlD (by omega) (by omega) (by omega), zb9]
   simp only
   rw [zbz (by omega), zDs, zou (by omega), zyL]
   congr 2; omega
theorem zlG {a : Sl zam} {sz kk k : Nat} (h : zal a.l < sz + 1) (hk : sz < k) (hkk : sz < kk) (hb : sz < big) :
 zbQ a a.l.length sz kk k (0 : Nat) 0 = some (.done (((max 0 (zfF a.l) : Nat) : Int), (a.l.length : Int))) := by
 have hl := zfU a.l
 rw [zvK]
 refine zsy (xs := a.l) (L := zbQ a a.l.length sz kk) zmE 0 (fun k s => by simp [zbQ]) (fun k i m x hi ex hm hm2 => ?_) (by omega)
 have hx := zhG ex
 have e1 := zhs x
 have e2 := zyD x
 simp only [zbQ, zh4, decide_eq_true hi, zaI, zdV, ex, zad]
 rw [zlF (by omega) (by omega) (by omega) (by omega), zb9]
 simp only
 rw [zbz (by omega), e2]
theorem zm3 {kk sz : Nat} {a : Sl zam} (h : zal a.l < sz + 1) (hk : sz < kk) (hb : sz < big) : zfx kk sz a = some (zra a) := by
 unfold zfx
 have := zlG h hk hk hb
 rw [show (0 : Int) = ((0 : Nat) : Int) from rfl] at *
 rw [this]
 simp [zra]
end Go.Ev
namespace Go.Ev
def zuF (a b : Sl zam) : Bool := zgM a b == 0
def zkp (f : zaj) : Bool := decide (f.exp ≤ 64) && decide ((f.atom.items.l.length : Int) ≤ 1024)
def zko (t : zam) : Bool := decide ((t.factors.l.length : Int) ≤ 64) && t.factors.l.all zkp
def ztr (a : Sl zam) : Bool := decide ((a.l.length : Int) ≤ 512) && decide (zra a ≤ 8) && decide (zs0 a ≤ 4096) && a.l.all zko
def zsh (fn : Int) (d : Val) (w : zaf) : Bool := !(((!(zbb w.value)) || (w.value.kind != d.kind)) || ((fn == 0) && (w.value.int != 1)))
def zpk (fn : Int) (its : Sl zaf) (op : Int) (d : Val) : Bool :=
 !((((((decide (fn < 0)) || (decide (3 < fn))) || (decide (op < 5))) || (decide (10 < op))) || (!((zbb d)))) || ((decide (fn ≤ 1)) && (d.kind != 0))) && its.l.all (zsh fn d)
end Go.Ev
set_option linter.unusedVariables false
namespace Go.Ev
noncomputable def zgD (kk : Nat) (a : (Sl zam)) (b : (Sl zam)) : Option (Bool) :=
 bnd (okP (8 * (zal a.l + zal b.l) + 7 < big - 1)) fun _ =>
 some ((zgM a b) == 0)
end Go.Ev
namespace Go.Ev
theorem zom {kk : Nat} (a b : Sl zam) (h : 8 * (zal a.l + zal b.l) + 7 < big - 1) (_hk : 0 < big) : zgD kk a b = some (zuF a b) := by
 unfold zgD; rw [zav h]; rfl
theorem zry {α : Type} (p : α → Bool) (l : List α) : (l.any fun x => !p x) = !l.all p := by
 induction l with
 | nil => rfl
 | cons x l ih => simp only [List.any_cons, List.all_cons, ih, Bool.not_and]
end Go.Ev
namespace Go.Ev
def adj {α : Type} (f : α → α → Bool) : List α → Bool
 | x :: y :: l => f x y && adj f (y :: l)
 | _ => true
def zmA (fn : Int) (il : Nat) (op : Int) (b : Val) : Bool := (((fn == 0) && ((il : Int) == 0)) && (op == 0)) && ((b.kind == 0) && ((b.int == 0) && (b.text == [])))
def zvI (a : Sl zam) : Bool := if (a.l.length : Int) = 1 then !(zja a) && !(zwj a) else !(zwj a)
mutual
def zx4 : zam → Bool
 | .mk c ⟨_, fs⟩ => !(decide (c < 1)) && !(decide (1152921504606846976 < c)) && zov fs && adj (fun x y => decide (zf4 x.atom y.atom < 0)) fs
def zov : List zaj → Bool
 | [] => true
 | x :: xs => ziA x && zov xs
def ziA : zaj → Bool
 | .mk a e => !((decide (e < 1)) || ((decide (1 < e)) && (decide (3 ≤ a.kind)))) && zmk a
def zmk : zap → Bool
 | .mk k r ⟨f1, as⟩ fn ⟨f2, is⟩ op b =>
   if k = 0 then zhr r && ((as.length : Int) == 0) && zmA fn is.length op b
   else (r.table == 0) && (r.seq == 0) && zwy as &&
    (if k = 1 then ((as.length : Int) == 2) && zmA fn is.length op b && (match as with | [x, y] => !(zuF x y) | _ => false)
    else if k = 2 then ((as.length : Int) == 1) && zmA fn is.length op b && (match as with | [x] => zvI x | _ => false)
    else if k = 3 then ((as.length : Int) == 1) && zmA fn is.length op b && (match as with | [x] => !(zja x) | _ => false)
    else if k = 4 then ((as.length : Int) == 0) && !((is.length : Int) == 0) && !(decide (1024 < (is.length : Int))) && zpk fn ⟨f2, is⟩ op b && zsQ is && adj (fun x y => decide (zgL ⟨.any, [x]⟩ ⟨.any, [y]⟩ ≤ 0)) is
    else false)
def zwy : List (Sl zam) → Bool
 | [] => true
 | ⟨f, x⟩ :: xs => !((x.length : Int) == 0) && (ztr ⟨f, x⟩ && zhl x && adj (fun x y => decide (zf3 x.factors y.factors < 0)) x) && zwy xs
def zhl : List zam → Bool
 | [] => true
 | x :: xs => zx4 x && zhl xs
def zsQ : List zaf → Bool
 | [] => true
 | x :: xs => zEa x && zsQ xs
def zEa : zaf → Bool
 | .mk _ ⟨f, x⟩ => !((x.length : Int) == 0) && (ztr ⟨f, x⟩ && zhl x && adj (fun x y => decide (zf3 x.factors y.factors < 0)) x)
end
def zdD (a : Sl zam) : Bool := ztr a && zhl a.l && adj (fun x y => decide (zf3 x.factors y.factors < 0)) a.l
theorem zva (x : zam) : zx4 x = (!(decide (x.coeff < 1)) && !(decide (1152921504606846976 < x.coeff)) && zov x.factors.l && adj (fun x y => decide (zf4 x.atom y.atom < 0)) x.factors.l) := by
 rcases x with ⟨c, ⟨f, l⟩⟩; simp only [zx4, zam.coeff, zam.factors]; first | done | rfl
theorem zqZ (x : zaj) : ziA x = (!((decide (x.exp < 1)) || ((decide (1 < x.exp)) && (decide (3 ≤ x.atom.kind)))) && zmk x.atom) := by cases x; simp only [ziA, zaj.atom, zaj.exp]; first | done | rfl
theorem zzl (x : zaf) : zEa x = (!((x.ann.l.length : Int) == 0) && zdD x.ann) := by rcases x with ⟨v, ⟨f, l⟩⟩; simp only [zEa, zaf.ann, zdD]; first | done | rfl
theorem zrU (l : List zaj) : zov l = l.all ziA := by
 induction l with
 | nil => rfl
 | cons x l ih => simp only [zov, List.all_cons, ih]
theorem zuw (l : List zam) : zhl l = l.all zx4 := by
 induction l with
 | nil => rfl
 | cons x l ih => simp only [zhl, List.all_cons, ih]
theorem zux (l : List zaf) : zsQ l = l.all zEa := by
 induction l with
 | nil => rfl
 | cons x l ih => simp only [zsQ, List.all_cons, ih]
theorem zsS (l : List (Sl zam)) : zwy l = l.all fun x => !((x.l.length : Int) == 0) && zdD x := by
 induction l with
 | nil => rfl
 | cons x l ih => cases x; simp only [zwy, List.all_cons, ih, zdD]
def zpf {α : Type} (p : α → Bool) (f : α → α → Bool) (l : List α) (i : Nat) : Bool :=
 match l[i]? with
 | some y => p y && (match i with
   | 0 => true
   | j + 1 => match l[j]? with
     | some x => f x y
     | none => true)
 | none => true
def zn0 {α : Type} (p : α → Bool) (f : α → α → Bool) (l : List α) : Nat → Nat → Bool
 | 0, _ => true
 | k + 1, i => zpf p f l i && zn0 p f l k (i + 1)
theorem zBX {α : Type} {L : Nat → Int → Option (Out Bool Int)} {xs : List α} (p : α → Bool) (f : α → α → Bool) (v : Bool)
 (hend : ∀ k, L (k + 1) xs.length = some (.done (xs.length : Int)))
 (hstep : ∀ k (i : Nat), i < xs.length → L (k + 1) (i : Int) = if zpf p f xs i then L k ((i + 1 : Nat) : Int) else some (.ret v)) :
 ∀ k i, i ≤ xs.length → xs.length - i < k → L k (i : Int) = if zn0 p f xs (xs.length - i) i then some (.done (xs.length : Int)) else some (.ret v) := by
 intro k
 induction k with
 | zero => intro i _ h; omega
 | succ k ih =>
   intro i h1 h2
   by_cases e : i = xs.length
   · subst e; rw [hend, Nat.sub_self]; simp [zn0]
   · rw [hstep k i (by omega), show xs.length - i = (xs.length - (i + 1)) + 1 by omega, zn0]
     cases hs : zpf p f xs i
     · simp
     · rw [if_pos rfl, ih (i + 1) (by omega) (by omega)]; simp
theorem zyR {α : Type} (p : α → Bool) (f : α → α → Bool) (x y : α) (l : List α) (k i : Nat) :
 zn0 p f (x :: y :: l) k (i + 2) = zn0 p f (y :: l) k (i + 1) := by
 induction k generalizing i with
 | zero => rfl
 | succ k ih =>
   simp only [zn0]
   rw [ih (i + 1)]
   congr 1
theorem zA1 {α : Type} (p : α → Bool) (f : α → α → Bool) (l : List α) : zn0 p f l l.length 0 = (l.all p && adj f l) := by
 have key : ∀ (l : List α) (x : α), zn0 p f (x :: l) l.length 1 = (l.all p && adj f (x :: l)) := by
  intro l
  induction l with
  | nil => intro x; rfl
  | cons y l ih =>
    intro x
    have := zyR p f x y l l.length 0
    simp only [List.length_cons, zn0]
    rw [this, ih y]
    simp only [zpf, List.getElem?_cons_succ, List.getElem?_cons_zero, List.all_cons, adj]
    cases p y <;> cases f x y <;> cases l.all p <;> rfl
 cases l with
 | nil => rfl
 | cons x l =>
   simp only [List.length_cons, zn0]
   rw [key l x]
   simp [zpf, Bool.and_assoc]
theorem zuD {α : Type} {L : Nat → Int → Option (Out Bool Int)} {xs : List α} {k : Nat} (p : α → Bool) (f : α → α → Bool) (v : Bool)
 (hend : ∀ k, L (k + 1) xs.length = some (.done (xs.length : Int)))
 (hstep : ∀ k (i : Nat), i < xs.length → L (k + 1) (i : Int) = if zpf p f xs i then L k ((i + 1 : Nat) : Int) else some (.ret v))
 (hk : xs.length < k) : L k 0 = if xs.all p && adj f xs then some (.done (xs.length : Int)) else some (.ret v) := by
 have := zBX p f v hend hstep k 0 (by omega) (by omega)
 rw [Nat.sub_zero, zA1] at this
 exact this
end Go.Ev
set_option linter.unusedVariables false
namespace Go.Ev
end Go.Ev
namespace Go.Ev
theorem zq3 {α : Type} (f : α → Nat) {l : List α} {i : Nat} {x y : α} (h : l[i]? = some x) (h' : l[i + 1]? = some y) : f x + f y ≤ zfB f l := by
 have h1 := zq2 f h
 have h2 := zq2 f h'
 have h3 := zp4 f l (i + 1 + 1)
 omega
theorem zsK {i : Nat} (h : i < big) : IntKind.wrap .i64 (((i + 1 : Nat) : Int) - 1) = ((i : Nat) : Int) := by
 have : big = 1152921504606846976 := rfl
 rw [zgz (by omega) (by omega)]; omega
theorem zBZ {α : Type} {p : α → Bool} {f : α → α → Bool} {l : List α} {i : Nat} {x y : α} (h : l[i]? = some x) (h' : l[i + 1]? = some y) : zpf p f l (i + 1) = (p y && f x y) := by
 simp only [zpf, h, h']
theorem zFz {α : Type} {p : α → Bool} {f : α → α → Bool} {l : List α} {y : α} (h' : l[0]? = some y) : zpf p f l 0 = p y := by
 simp only [zpf, h', Bool.and_true]
def zti (x y : zaj) : Bool := decide (zf4 x.atom y.atom < 0)
def znW (x y : zam) : Bool := decide (zf3 x.factors y.factors < 0)
def zzH (x y : zaf) : Bool := decide (zgL ⟨.any, [x]⟩ ⟨.any, [y]⟩ ≤ 0)
def zUj {α : Type} : List α → Option (α × α)
 | [x, y] => some (x, y)
 | _ => none
theorem zFy {α : Type} {l : List α} (h : ((l.length : Nat) : Int) = 2) : ∃ x y, l = [x, y] := by
 rcases l with _ | ⟨x, _ | ⟨y, _ | ⟨z, l⟩⟩⟩
 · simp at h
 · simp at h
 · exact ⟨x, y, rfl⟩
 · simp at h; omega
def k1B (a : zap) : Bool := ((a.args.l.length : Int) == 2) && zuN a && (match a.args.l with | [x, y] => !(zuF x y) | _ => false)
def k2B (a : zap) : Bool := ((a.args.l.length : Int) == 1) && zuN a && (match a.args.l with | [x] => zvI x | _ => false)
def k3B (a : zap) : Bool := ((a.args.l.length : Int) == 1) && zuN a && (match a.args.l with | [x] => !(zja x) | _ => false)
def k4B (a : zap) : Bool := ((a.args.l.length : Int) == 0) && !((a.items.l.length : Int) == 0) && !(decide (1024 < (a.items.l.length : Int))) && zpk a.func a.items a.op a.bound && zsQ a.items.l && adj zzH a.items.l
theorem zpZ (a : zap) : zmk a = (if a.kind = 0 then zhr a.row && ((a.args.l.length : Int) == 0) && zuN a
 else (a.row.table == 0) && (a.row.seq == 0) && zwy a.args.l && (if a.kind = 1 then k1B a else if a.kind = 2 then k2B a else if a.kind = 3 then k3B a else if a.kind = 4 then k4B a else false)) := by
 rcases a with ⟨k, r, ⟨f1, as⟩, fn, ⟨f2, is⟩, op, b⟩
 simp only [zmk, zap.kind, zap.row, zap.args]
 rfl
end Go.Ev
namespace Go.Ev
def znl (f : zaj) : Bool := (decide (64 < f.exp)) || (decide (1024 < (f.atom.items.l.length : Int)))
def znk (t : zam) : Bool := !zko t
def zt6 (t : zam) : Bool := (t.factors.l.length : Int) == 0
def zhp {α : Type} (p : α → Bool) : List α → Nat → Int
 | [], _ => -1
 | x :: l, i => if p x then (i : Int) else zhp p l (i + 1)
def zsi {α : Type} (p : α → Bool) (a : Sl α) : Int := zhp p a.l 0
def zqX {α : Type} (p : α → Bool) (a : Sl α) : Bool := a.l.any p
theorem zyN {α : Type} (p : α → Bool) (l : List α) (i : Nat) : 0 ≤ zhp p l i ↔ l.any p = true := by
 induction l generalizing i with
 | nil => simp [zhp]
 | cons x l ih =>
   by_cases h : p x = true
   · simp [zhp, h]
   · have e : zhp p (x :: l) i = zhp p l (i + 1) := by simp [zhp, h]
     rw [e, ih]; simp [h]
theorem zhJ {α : Type} (p : α → Bool) (l : List α) (i : Nat) : decide (0 ≤ zhp p l i) = l.any p := by
 have h := zyN p l i
 cases e : l.any p
 · exact decide_eq_false (fun k => by rw [h.1 k] at e; cases e)
 · exact decide_eq_true (h.2 e)
theorem zxc {α : Type} (p : α → Bool) (l : List α) (i : Nat) (h : l.any p = false) : zhp p l i = -1 := by
 induction l generalizing i with
 | nil => rfl
 | cons x l ih =>
   simp only [List.any_cons, Bool.or_eq_false_iff] at h
   simp only [zhp, h.1]
   rw [if_neg (by simp), ih _ h.2]
theorem zCY {α : Type} {L : Nat → Int → Option (Out Int Int)} {xs : List α} (p : α → Bool)
 (hend : ∀ k, L (k + 1) xs.length = some (.done (xs.length : Int)))
 (hstep : ∀ k (i : Nat) x, i < xs.length → xs[i]? = some x → L (k + 1) (i : Int) = if p x then some (.ret (i : Int)) else L k ((i + 1 : Nat) : Int)) :
 ∀ k i, i ≤ xs.length → xs.length - i < k → L k (i : Int) = if (xs.drop i).any p then some (.ret (zhp p (xs.drop i) i)) else some (.done (xs.length : Int)) := by
 intro k
 induction k with
 | zero => intro i _ h; omega
 | succ k ih =>
   intro i h1 h2
   by_cases e : i = xs.length
   · subst e; rw [hend]; simp
   · have hi : i < xs.length := by omega
     rw [hstep k i _ hi (List.getElem?_eq_getElem hi), ih (i + 1) (by omega) (by omega), List.drop_eq_getElem_cons hi]
     simp only [List.any_cons, zhp]
     by_cases h : p xs[i] = true <;> simp [h]
theorem zoF {α : Type} {L : Nat → Int → Option (Out Int Int)} {xs : List α} {k : Nat} (p : α → Bool)
 (hend : ∀ k, L (k + 1) xs.length = some (.done (xs.length : Int)))
 (hstep : ∀ k (i : Nat) x, i < xs.length → xs[i]? = some x → L (k + 1) (i : Int) = if p x then some (.ret (i : Int)) else L k ((i + 1 : Nat) : Int))
 (hk : xs.length < k) : zkl (L k 0) (fun r => some r) (fun (_ : Int) => some (-1)) = some (zhp p xs 0) := by
 have := zCY p hend hstep k 0 (by omega) (by omega)
 simp only [List.drop_zero] at this
 rw [show ((0 : Nat) : Int) = 0 from rfl] at this
 rw [this]
 cases h : xs.any p
 · rw [zxc p xs 0 h]; rfl
 · rfl
end Go.Ev
set_option linter.unusedVariables false
namespace Go.Ev
noncomputable def zf8 (kk : Nat) (a : zaj) : Option (Bool) :=
 some ((decide (64 < a.exp)) || (decide (1024 < (a.atom.items.l.length : Int))))
noncomputable def ze0 (kk : Nat) (a : zam) : Option (Bool) :=
 some ((a.factors.l.length : Int) == 0)
noncomputable def zaC (c1 : Sl zaj) (c2 : Int) (kk : Nat) : Nat → Int → Option (Out (Int) (Int))
 | 0, _ => none
 | k + 1, s3 =>
   sel (
    bnd (ix c1.l s3) fun (y4 : zaj) =>
    sel (
     some (.ret s3)) (
     zaC c1 c2 kk k (IntKind.wrap .i64 (s3 + 1))) ((znl y4))) (
    some (.done s3)) (decide (s3 < c2))
noncomputable def zbn (kk : Nat) (a : (Sl zaj)) : Option (Int) :=
 zkl (zaC a (a.l.length : Int) kk kk 0) (fun r => some r) fun (q5 : Int) =>
  some (-1)
noncomputable def zbh (kk : Nat) (a : (Sl zaj)) : Option (Bool) :=
 bnd (okP (a.l.length < big - 1)) fun _ =>
 some (decide (0 ≤ (zsi znl a)))
noncomputable def ze9 (kk : Nat) (a : zam) : Option (Bool) :=
 sel (
  bnd (okP (a.factors.l.length < big - 1)) fun _ =>
  some ((zqX znl a.factors))) (
  some true) (!(decide (64 < (a.factors.l.length : Int))))
noncomputable def zaO (c1 : Sl zam) (c2 : Int) (kk : Nat) : Nat → Int → Option (Out (Int) (Int))
 | 0, _ => none
 | k + 1, s3 =>
   sel (
    bnd (ix c1.l s3) fun (y4 : zam) =>
    bnd (okP (zcY y4 < big - 1)) fun _ =>
    sel (
     some (.ret s3)) (
     zaO c1 c2 kk k (IntKind.wrap .i64 (s3 + 1))) ((znk y4))) (
    some (.done s3)) (decide (s3 < c2))
noncomputable def zbt (kk : Nat) (a : (Sl zam)) : Option (Int) :=
 zkl (zaO a (a.l.length : Int) kk kk 0) (fun r => some r) fun (q6 : Int) =>
  some (-1)
noncomputable def zbo (kk : Nat) (a : (Sl zam)) : Option (Bool) :=
 bnd (okP (zal a.l < big - 1)) fun _ =>
 some (decide (0 ≤ (zsi znk a)))
noncomputable def zf9 (kk : Nat) (a : (Sl zam)) : Option (Bool) :=
 sel (
  bnd (okP (zal a.l < big - 1)) fun _ =>
  sel (
   bnd (okP (zal a.l < big - 1)) fun _ =>
   sel (
    some false) (
    bnd (okP (zal a.l < big - 1)) fun _ =>
    some (!((zqX znk a)))) (decide (4096 < (zs0 a)))) (
   some false) (!(decide (8 < (zra a))))) (
  some false) (!(decide (512 < (a.l.length : Int))))
noncomputable def zaA (c1 : Sl zam) (c2 : Int) (kk : Nat) : Nat → Int → Option (Out (Int) (Int))
 | 0, _ => none
 | k + 1, s3 =>
   sel (
    bnd (ix c1.l s3) fun (y4 : zam) =>
    sel (
     some (.ret s3)) (
     zaA c1 c2 kk k (IntKind.wrap .i64 (s3 + 1))) ((zt6 y4))) (
    some (.done s3)) (decide (s3 < c2))
noncomputable def zbm (kk : Nat) (a : (Sl zam)) : Option (Int) :=
 zkl (zaA a (a.l.length : Int) kk kk 0) (fun r => some r) fun (q5 : Int) =>
  some (-1)
noncomputable def zba (kk : Nat) (a : (Sl zam)) : Option (Bool) :=
 bnd (okP (a.l.length < big - 1)) fun _ =>
 some (decide (0 ≤ (zsi zt6 a)))
noncomputable def zd4 (kk : Nat) (a : (Sl zam)) : Option (Bool) :=
 bnd (okP (a.l.length < big - 1)) fun _ =>
 some ((zqX zt6 a))
end Go.Ev
namespace Go.Ev
theorem zkV (kk : Nat) (a : zaj) : zf8 kk a = some (znl a) := rfl
theorem zjx (kk : Nat) (a : zam) : ze0 kk a = some (zt6 a) := rfl
theorem zeq {kk : Nat} (a : Sl zaj) (h : a.l.length < big - 1) (hk : a.l.length < kk) : zbn kk a = some (zsi znl a) := by
 unfold zbn zsi
 refine zoF (xs := a.l) znl (fun k => by simp [zaC]) (fun k i x hi ex => ?_) hk
 simp only [zaC, zh4, decide_eq_true hi, zaI, zdV, ex, zad]
 rw [zbz (by omega), zey]
theorem zdP {kk : Nat} (a : Sl zaj) (h : a.l.length < big - 1) (_hk : a.l.length < big) : zbh kk a = some (zqX znl a) := by
 unfold zbh zsi zqX
 rw [zav h, zhJ]; rfl
theorem zAN (l : List zaj) : l.any znl = !l.all zkp := by
 rw [← zry]
 congr 1
 funext f
 unfold znl zkp
 by_cases h1 : f.exp ≤ 64
 · by_cases h2 : (f.atom.items.l.length : Int) ≤ 1024
   · rw [decide_eq_true h1, decide_eq_true h2, decide_eq_false (show ¬ (64 : Int) < f.exp by omega), decide_eq_false (show ¬ (1024 : Int) < f.atom.items.l.length by omega)]; rfl
   · rw [decide_eq_true h1, decide_eq_false h2, decide_eq_false (show ¬ (64 : Int) < f.exp by omega), decide_eq_true (show (1024 : Int) < f.atom.items.l.length by omega)]; rfl
 · rw [decide_eq_false h1, decide_eq_true (show (64 : Int) < f.exp by omega)]; rfl
theorem zme {kk : Nat} (a : zam) (h : zcY a < big - 1) (_hk : zcY a < big) : ze9 kk a = some (znk a) := by
 have h1 := zhs a
 have h2 := ze3 a.factors.l
 unfold ze9 znk zko zqX
 rw [zav (by omega), zAN]
 by_cases h3 : (a.factors.l.length : Int) ≤ 64
 · rw [decide_eq_true h3, decide_eq_false (show ¬ (64 : Int) < a.factors.l.length by omega)]; rfl
 · rw [decide_eq_false h3, decide_eq_true (show (64 : Int) < a.factors.l.length by omega)]; rfl
theorem zeZ {kk : Nat} (a : Sl zam) (h : zal a.l < big - 1) (hk : zal a.l < kk) : zbt kk a = some (zsi znk a) := by
 have hl := zfU a.l
 unfold zbt zsi
 refine zoF (xs := a.l) znk (fun k => by simp [zaO]) (fun k i x hi ex => ?_) (by omega)
 have hx := zhG ex
 simp only [zaO, zh4, decide_eq_true hi, zaI, zdV, ex, zad]
 rw [zav (by omega), zad, zbz (by omega), zey]
theorem zez {kk : Nat} (a : Sl zam) (h : zal a.l < big - 1) (_hk : zal a.l < big) : zbo kk a = some (zqX znk a) := by
 unfold zbo zsi zqX
 rw [zav h, zhJ]; rfl
theorem znD {kk : Nat} (a : Sl zam) (h : zal a.l < big - 1) (_hk : zal a.l < big) : zf9 kk a = some (ztr a) := by
 unfold zf9 ztr zqX
 rw [zav h, show a.l.any znk = !a.l.all zko from zry _ _]
 simp only [zad, zdf, zjp]
 by_cases h1 : (a.l.length : Int) ≤ 512
 · rw [if_neg (by omega), decide_eq_true h1]
   by_cases h2 : zra a ≤ 8
   · rw [if_neg (by omega), decide_eq_true h2]
     by_cases h3 : zs0 a ≤ 4096
     · rw [if_neg (by omega), decide_eq_true h3]
       cases a.l.all zko <;> rfl
     · rw [if_pos (by omega), decide_eq_false h3]; rfl
   · rw [if_pos (by omega), decide_eq_false h2]; rfl
 · rw [if_pos (by omega), decide_eq_false h1]; rfl
theorem zed {kk : Nat} (a : Sl zam) (h : a.l.length < big - 1) (hk : a.l.length < kk) : zbm kk a = some (zsi zt6 a) := by
 unfold zbm zsi
 refine zoF (xs := a.l) zt6 (fun k => by simp [zaA]) (fun k i x hi ex => ?_) hk
 simp only [zaA, zh4, decide_eq_true hi, zaI, zdV, ex, zad]
 rw [zbz (by omega), zey]
theorem zdH {kk : Nat} (a : Sl zam) (h : a.l.length < big - 1) (_hk : a.l.length < big) : zba kk a = some (zqX zt6 a) := by
 unfold zba zsi zqX
 rw [zav h, zhJ]; rfl
theorem zkI {kk : Nat} (a : Sl zam) (h : a.l.length < big - 1) (_hk : a.l.length < big) : zd4 kk a = some (zja a) := by
 unfold zd4
 rw [zav h]; rfl
end Go.Ev
namespace Go.Ev
theorem zFs {α : Type} (f : α → α → Bool) {l : List α} {i : Nat} {x y : α} (h : l[i]? = some x) (h' : l[i + 1]? = some y) :
 adj f (l.take (i + 2)) = (adj f (l.take (i + 1)) && f x y) := by
 induction i generalizing l with
 | zero =>
   rcases l with _ | ⟨a, _ | ⟨b, l⟩⟩
   · simp at h
   · simp at h'
   · simp at h h'; subst h; subst h'; simp [adj]
 | succ i ih =>
   rcases l with _ | ⟨a, _ | ⟨b, l⟩⟩
   · simp at h
   · simp at h'
   · have := @ih (b :: l) (by simpa using h) (by simpa using h')
     rw [show (a :: b :: l).take (i + 1 + 2) = a :: b :: l.take (i + 1) from rfl, show (a :: b :: l).take (i + 1 + 1) = a :: b :: l.take i from rfl]
     rw [show (b :: l).take (i + 2) = b :: l.take (i + 1) from rfl, show (b :: l).take (i + 1) = b :: l.take i from rfl] at this
     simp only [adj, this, Bool.and_assoc]
theorem zDx {α : Type} {L : Nat → Int → Option (Out Bool Int)} {xs : List α} (f : α → α → Bool)
 (hend : ∀ k, L (k + 1) 0 = some (.done 0))
 (hstep : ∀ k (i : Nat) x y, i + 1 < xs.length → xs[i]? = some x → xs[i + 1]? = some y → L (k + 1) ((i + 1 : Nat) : Int) = if f x y then L k (i : Int) else some (.ret false)) :
 ∀ k i, i < xs.length → i < k → L k (i : Int) = if adj f (xs.take (i + 1)) then some (.done 0) else some (.ret false) := by
 intro k
 induction k with
 | zero => intro i _ h; omega
 | succ k ih =>
   intro i h1 h2
   cases i with
   | zero =>
     rw [show ((0 : Nat) : Int) = 0 from rfl, hend]
     rcases xs with _ | ⟨a, l⟩
     · simp at h1
     · simp [adj]
   | succ i =>
     have hi : i < xs.length := by omega
     have ex := List.getElem?_eq_getElem hi
     have ey := List.getElem?_eq_getElem h1
     rw [hstep k i _ _ h1 ex ey, ih i hi (by omega), zFs f ex ey]
     cases f xs[i] xs[i + 1] <;> simp
end Go.Ev
set_option linter.unusedVariables false
namespace Go.Ev
def znL (a : Sl zaf) : Bool := adj (fun x y => !decide (zeD y x < 0)) a.l
noncomputable def zak (c1 : Sl zaf) (kk : Nat) : Nat → Int → Option (Out (Bool) (Int))
 | 0, _ => none
 | k + 1, s2 =>
   sel (
    bnd (ix c1.l s2) fun (y3 : zaf) =>
    bnd (ix c1.l (IntKind.wrap .i64 (s2 - 1))) fun (y4 : zaf) =>
    bnd (okP (8 * (zeV y3 + zeV y4) + 5 < big - 1)) fun _ =>
    sel (
     some (.ret false)) (
     zak c1 kk k (IntKind.wrap .i64 (s2 - 1))) (decide ((zeD y3 y4) < 0))) (
    some (.done s2)) (decide (0 < s2))
noncomputable def za2 (kk : Nat) (a : (Sl zaf)) : Option (Bool) :=
 zkl (zak a kk kk (IntKind.wrap .i64 ((a.l.length : Int) - 1))) (fun r => some r) fun (q6 : Int) =>
  some true
end Go.Ev
namespace Go.Ev
theorem zdc {kk : Nat} (a : Sl zaf) (h : 8 * zbB a.l + 5 < big - 1) (hk : zbB a.l < kk) :
 za2 kk a = some (znL a) := by
 have hl := zgE a.l
 have hb1 : big = 1152921504606846976 := rfl
 unfold za2 znL
 have hend : ∀ k, zak a kk (k + 1) 0 = some (.done 0) := fun k => by simp [zak]
 by_cases h0 : a.l = []
 · obtain ⟨k, rfl⟩ : ∃ k, kk = k + 1 := ⟨kk - 1, by omega⟩
   rw [h0, show IntKind.wrap .i64 ((([] : List zaf).length : Int) - 1) = -1 from zgz (by decide) (by decide)]
   simp [zak, adj]
 · have hpos : 0 < a.l.length := List.length_pos_iff.2 h0
   have := zDx (xs := a.l) (L := zak a kk) (fun x y => !decide (zeD y x < 0)) hend (fun k i x y hi ex ey => ?_) kk (a.l.length - 1) (by omega) (by omega)
   · rw [zgz (by omega) (by omega), show ((a.l.length : Int) - 1) = ((a.l.length - 1 : Nat) : Int) by omega, this, show a.l.length - 1 + 1 = a.l.length by omega, List.take_length]
     cases adj (fun x y => !decide (zeD y x < 0)) a.l <;> rfl
   · have h2 := zq3 (fun x => zeV x + 1) ex ey
     rw [← zyg] at h2
     simp only [zak, zdV, ey, zad, zsK (show i < big by omega), ex]
     rw [zav (by omega), decide_eq_true (show (0 : Int) < ((i + 1 : Nat) : Int) by omega)]
     cases decide (zeD y x < 0) <;> rfl
end Go.Ev
set_option linter.unusedVariables false
namespace Go.Ev
noncomputable def zdd (kk : Nat) (a : zaf) (u0 : Val) (u1 : Int) : Option (Bool × Val × Int) :=
 some ((((!((zbb a.value))) || (a.value.kind != u0.kind)) || ((u1 == 0) && (a.value.int != 1))), u0, u1)
noncomputable def zat (c1 : Sl zaf) (c2 : Int) (kk : Nat) : Nat → Int → Val → Int → Option (Out (Int × Val × Int) (Int × Val × Int))
 | 0, _, _, _ => none
 | k + 1, s3, s4, s5 =>
   sel (
    bnd (ix c1.l s3) fun (y6 : zaf) =>
    bnd (zdd kk y6 s4 s5) fun (r7 : Bool × Val × Int) =>
    sel (
     some (.ret (s3, r7.2.1, r7.2.2))) (
     zat c1 c2 kk k (IntKind.wrap .i64 (s3 + 1)) r7.2.1 r7.2.2) (r7.1)) (
    some (.done (s3, s4, s5))) (decide (s3 < c2))
noncomputable def zbl (kk : Nat) (a : (Sl zaf)) (u0 : Val) (u1 : Int) : Option (Int × Val × Int) :=
 zkl (zat a (a.l.length : Int) kk kk 0 u0 u1) (fun r => some r) fun (q8 : Int × Val × Int) =>
  some ((-1), q8.2.1, q8.2.2)
noncomputable def zaS (kk : Nat) (a : (Sl zaf)) (u0 : Val) (u1 : Int) : Option (Bool × Val × Int) :=
 bnd (zbl kk a u0 u1) fun (r1 : Int × Val × Int) =>
 some ((decide (0 ≤ r1.1)), r1.2.1, r1.2.2)
noncomputable def zfy (kk : Nat) (a : Int) (b : (Sl zaf)) (c : Int) (d : Val) : Option (Bool) :=
 sel (
  some false) (
  sel (
   some false) (
   bnd (zaS kk b d a) fun (r1 : Bool × Val × Int) =>
   some (!(r1.1))) (((a == 0) || (a == 1)) && (d.kind != 0))) (((((decide (a < 0)) || (decide (3 < a))) || (decide (c < 5))) || (decide (10 < c))) || (!((zbb d))))
end Go.Ev
namespace Go.Ev
theorem zlL (kk : Nat) (a : zaf) (u0 : Val) (u1 : Int) : zdd kk a u0 u1 = some (!zsh u1 u0 a, u0, u1) := by
 unfold zdd zsh; rw [Bool.not_not]
theorem zxS (a : Sl zaf) (kk : Nat) (u0 : Val) (u1 : Int) (hb : a.l.length < big - 1) : ∀ k i, i ≤ a.l.length → a.l.length - i < k →
 zat a a.l.length kk k (i : Int) u0 u1 = if (a.l.drop i).any (fun w => !zsh u1 u0 w) then some (.ret (zhp (fun w => !zsh u1 u0 w) (a.l.drop i) i, u0, u1)) else some (.done ((a.l.length : Int), u0, u1)) := by
 intro k
 induction k with
 | zero => intro i _ h; omega
 | succ k ih =>
   intro i h1 h2
   by_cases e : i = a.l.length
   · subst e; simp [zat]
   · have hi : i < a.l.length := by omega
     simp only [zat, zh4, decide_eq_true hi, zaI, zdV, List.getElem?_eq_getElem hi, zad, zlL]
     rw [zbz (by omega), ih (i + 1) (by omega) (by omega), List.drop_eq_getElem_cons hi]
     simp only [List.any_cons, zhp]
     by_cases h : zsh u1 u0 a.l[i] = true <;> simp [h]
theorem zm4 {kk : Nat} (a : Int) (b : Sl zaf) (c : Int) (d : Val) (h : b.l.length < big - 1) (hk : b.l.length < kk) : zfy kk a b c d = some (zpk a b c d) := by
 have := zxS b kk d a h kk 0 (by omega) (by omega)
 rw [show ((0 : Nat) : Int) = 0 from rfl, List.drop_zero, zry] at this
 have e : zaS kk b d a = some (!b.l.all (zsh a d), d, a) := by
  unfold zaS zbl
  rw [this]
  cases hv : b.l.all (zsh a d)
  · have := zhJ (fun w => !zsh a d w) b.l 0
    rw [zry, hv] at this
    simp only [Bool.not_false, if_true, zlc, zad, this]
  · rfl
 unfold zfy zpk
 rw [e]
 have e1 : decide (a ≤ 1) = true → decide (a < 0) = false → ((a == 0) || (a == 1)) = true := by
  intro h1 h2
  simp only [decide_eq_true_eq, decide_eq_false_iff_not] at h1 h2
  have : a = 0 ∨ a = 1 := by omega
  rcases this with rfl | rfl <;> rfl
 have e2 : decide (a ≤ 1) = false → ((a == 0) || (a == 1)) = false := by
  intro h1
  simp only [decide_eq_false_iff_not] at h1
  simp only [Bool.or_eq_false_iff, beq_eq_false_iff_ne]
  exact ⟨by omega, by omega⟩
 revert e1 e2
 generalize ((a == 0) || (a == 1)) = u
 generalize decide (a ≤ 1) = v
 generalize decide (a < 0) = w
 generalize b.l.all (zsh a d) = z
 generalize (d.kind != 0) = y
 generalize decide (3 < a) = x1
 generalize decide (c < 5) = x2
 generalize decide (10 < c) = x3
 generalize zbb d = x4
 intro e1 e2
 cases w <;> cases v <;> simp_all <;> cases x1 <;> cases x2 <;> cases x3 <;> cases x4 <;> cases y <;> cases z <;> rfl
end Go.Ev
namespace Go.Ev
theorem zh6 (a b : Int) : ziw b a = -ziw a b := by unfold ziw; split <;> split <;> first | rfl | omega
theorem zGE (a b : Int) : orI (-a) (-b) = -orI a b := by unfold orI; split <;> split <;> first | rfl | omega
theorem zfq {a b a' b' : Int} (h : a' = -a) (k : b' = -b) : orI a' b' = -orI a b := by rw [h, k, zGE]
theorem zxK {a b : Str} (h : zfe a b = true) : zfe b a = false := by
 induction a generalizing b with
 | nil => cases b <;> simp [zfe]
 | cons x a ih => cases b with
   | nil => simp [zfe] at h
   | cons y b =>
     simp only [zfe, Bool.or_eq_true, Bool.and_eq_true, decide_eq_true_eq, beq_iff_eq] at h
     rcases h with h | ⟨rfl, h⟩
     · have h1 : ¬ y < x := by rw [UInt8.lt_iff_toNat_lt] at h ⊢; omega
       have h2 : (y == x) = false := by simp; intro e; subst e; rw [UInt8.lt_iff_toNat_lt] at h; omega
       simp [zfe, h1, h2]
     · have h1 : ¬ x < x := by rw [UInt8.lt_iff_toNat_lt]; omega
       simp [zfe, h1, ih h]
theorem zDo (a b : Str) : zDp b a = -zDp a b := by
 unfold zDp
 cases h : zfe a b
 · cases h2 : zfe b a <;> rfl
 · rw [zxK h]; rfl
theorem zy4 (a b : zcc) : zxF b a = -zxF a b := zfq (zh6 _ _) (zh6 _ _)
theorem ztD (a b : Val) : zkt b a = -zkt a b := zfq (zh6 _ _) (zfq (zh6 _ _) (zDo _ _))
mutual
theorem zxE : ∀ x y : zam, zhL y x = -zhL x y
 | .mk c ⟨f, fs⟩, y => by rw [zrq, zrq]; exact zfq (zn7 fs _) (zh6 _ _)
theorem zn7 : ∀ l m : List zaj, zdW m l = -zdW l m
 | [], [] => by simp only [zdW]; rfl
 | [], _ :: _ => by simp only [zdW]; rfl
 | _ :: _, [] => by simp only [zdW]
 | x :: xs, y :: ys => by simp only [zdW]; exact zfq (zug x y) (zn7 xs ys)
theorem zug : ∀ x y : zaj, zeE y x = -zeE x y
 | .mk a e, y => by rw [zn8, zn8]; exact zfq (zxG a _) (zh6 _ _)
theorem zxG : ∀ x y : zap, zf4 y x = -zf4 x y
 | .mk k r ⟨f1, as⟩ f ⟨f2, is⟩ o b, y => by
   rw [zrs, zrs]
   exact zfq (zh6 _ _) (zfq (zy4 _ _) (zfq (zr5 as _) (zfq (zh6 _ _) (zfq (zqA is _) (zfq (zh6 _ _) (ztD _ _))))))
theorem zr5 : ∀ l m : List (Sl zam), ziN m l = -ziN l m
 | [], [] => by simp only [ziN]; rfl
 | [], ⟨_, _⟩ :: _ => by simp only [ziN]; rfl
 | ⟨_, _⟩ :: _, [] => by simp only [ziN]
 | ⟨_, x⟩ :: xs, ⟨_, y⟩ :: ys => by simp only [ziN]; exact zfq (zmO x y) (zr5 xs ys)
theorem zmO : ∀ l m : List zam, zg7 m l = -zg7 l m
 | [], [] => by simp only [zg7]; rfl
 | [], _ :: _ => by simp only [zg7]; rfl
 | _ :: _, [] => by simp only [zg7]
 | x :: xs, y :: ys => by simp only [zg7]; exact zfq (zxE x y) (zmO xs ys)
theorem zqA : ∀ l m : List zaf, zgA m l = -zgA l m
 | [], [] => by simp only [zgA]; rfl
 | [], _ :: _ => by simp only [zgA]; rfl
 | _ :: _, [] => by simp only [zgA]
 | x :: xs, y :: ys => by simp only [zgA]; exact zfq (zr4 x y) (zqA xs ys)
theorem zr4 : ∀ x y : zaf, zeD y x = -zeD x y
 | .mk v ⟨f, l⟩, y => by rw [zrr, zrr]; exact zfq (ztD _ _) (zmO l _)
end
end Go.Ev
namespace Go.Ev
def zlh (a : Sl zam) : Bool := (!((zdD a))) || ((a.l.length : Int) == 0)
def zia (a : zaf) : Bool := (!((zdD a.ann))) || ((a.ann.l.length : Int) == 0)
def zvc (a : zap) : Bool := (((a.kind != 4) && ((((a.func != 0) || ((a.items.l.length : Int) != 0)) || (a.op != 0)) || (!((a.bound.kind == 0) && ((a.bound.int == 0) && (a.bound.text == [])))))) || ((a.kind != 0) && (!((a.row.table == 0) && (a.row.seq == 0)))))
def pk1 (a : zap) : Bool := match a.args.l with | [x, y] => !(zuF x y) | _ => false
def pk2 (a : zap) : Bool := match a.args.l with | [x] => !(zgI x) && !(znX x) | _ => false
def pk3 (a : zap) : Bool := match a.args.l with | [x] => !(zja x) | _ => false
def pk4 (a : zap) : Bool := (((a.args.l.length : Int) == 0) && (decide (0 < (a.items.l.length : Int)))) && (!((zqX zia a.items))) && znL a.items && zpk a.func a.items a.op a.bound
def znQ (a : zap) : Bool :=
 if zvc a then false else if zqX zlh a.args then false
 else if a.kind = 0 then zhr a.row && ((a.args.l.length : Int) == 0)
 else if a.kind = 1 then pk1 a else if a.kind = 2 then pk2 a else if a.kind = 3 then pk3 a else if a.kind = 4 then pk4 a else false
def zh0 (f : zaj) : Bool := !((decide (f.exp < 1)) || (((zrf f.atom)) && (f.exp != 1))) && znQ f.atom
def zqe (x : zam) : Bool := !(decide (x.coeff < 1)) && !(decide (1152921504606846976 < x.coeff)) && x.factors.l.all zh0 && adj zti x.factors.l
theorem zHk (l : List (Sl zam)) : l.any zlh = !zwy l := by
 rw [zsS]
 induction l with
 | nil => rfl
 | cons x l ih =>
   simp only [List.any_cons, List.all_cons, ih, zlh]
   cases zdD x <;> cases ((x.l.length : Int) == 0) <;> rfl
theorem zzb (l : List zaf) : l.any zia = !zsQ l := by
 rw [zux]
 induction l with
 | nil => rfl
 | cons x l ih =>
   simp only [List.any_cons, List.all_cons, ih, zia, zzl]
   cases zdD x.ann <;> cases ((x.ann.l.length : Int) == 0) <;> rfl
theorem zrd {x : zap} (h : zmk x = true) : x.kind = 0 ∨ x.kind = 1 ∨ x.kind = 2 ∨ x.kind = 3 ∨ x.kind = 4 := by
 rw [zpZ] at h
 by_cases c0 : x.kind = 0; exact .inl c0
 by_cases c1 : x.kind = 1; exact .inr (.inl c1)
 by_cases c2 : x.kind = 2; exact .inr (.inr (.inl c2))
 by_cases c3 : x.kind = 3; exact .inr (.inr (.inr (.inl c3)))
 by_cases c4 : x.kind = 4; exact .inr (.inr (.inr (.inr c4)))
 rw [if_neg c0, if_neg c1, if_neg c2, if_neg c3, if_neg c4, Bool.and_false] at h; cases h
theorem zvH {α : Type} {l : List α} {x : α} (h : zAK l = some x) : l = [x] := by
 match l, h with
 | [y], h => simp only [zAK, Option.some.injEq] at h; rw [h]
theorem zx6 {x : Sl zam} (h : zdD x = true) : znX x = zwj x := by
 unfold znX zwj
 cases e : zAK x.l with
 | none => rfl
 | some t =>
   simp only
   cases e2 : zAK t.factors.l with
   | none => rfl
   | some f =>
     simp only
     unfold zdD at h
     simp only [Bool.and_eq_true] at h
     have h := h.1.2
     rw [zvH e] at h
     simp only [zhl, Bool.and_true, zva, Bool.and_eq_true] at h
     have h := h.1.2
     rw [zvH e2] at h
     simp only [zov, Bool.and_true, zqZ, Bool.and_eq_true] at h
     have h := zrd h.2
     unfold zrf
     rcases h with h | h | h | h | h <;> rw [h] <;> simp
theorem zAM {x : Sl zam} (h : zdD x = true) : (!(zgI x) && !(znX x)) = zvI x := by
 rw [zx6 h]
 unfold zvI zgI zja
 cases e : zAK x.l with
 | none =>
   rw [if_neg]; rfl
   intro hl
   obtain ⟨y, e2⟩ := zrZ hl
   rw [e2] at e; simp [zAK] at e
 | some t =>
   rw [zvH e, if_pos (by simp)]
   simp
theorem zB0 (a : Sl zaf) : znL a = adj zzH a.l := by
 unfold znL zzH
 congr 1
 funext x y
 have e : zgL ⟨.any, [x]⟩ ⟨.any, [y]⟩ = zeD x y := by
  simp only [zgL, zgA]; unfold orI; split
  · rename_i h; rw [h]
  · rfl
 rw [e, zr4 x y]
 by_cases h : zeD x y ≤ 0
 · rw [decide_eq_true h, decide_eq_false (by omega)]; rfl
 · rw [decide_eq_false h, decide_eq_true (by omega)]; rfl
theorem zwW (a : zap) : zuN a = !(((((a.func != 0) || ((a.items.l.length : Int) != 0)) || (a.op != 0)) || (!((a.bound.kind == 0) && ((a.bound.int == 0) && (a.bound.text == [])))))) := by
 unfold zuN
 have e : ∀ {α : Type} [BEq α] (x y : α), (x != y) = !(x == y) := fun _ _ => rfl
 rw [e, e, e]
 cases (a.func == 0) <;> cases ((a.items.l.length : Int) == 0) <;> cases (a.op == 0) <;> simp
theorem zEA {a : zap} (hi : (a.items.l.length : Int) ≤ 1024) : znQ a = zmk a := by
 rw [zpZ]
 unfold znQ zvc zqX
 rw [zHk, show ∀ b : Bool, (!((a.bound.kind == 0) && b)) = !((a.bound.kind == 0) && b) from fun _ => rfl]
 have hp := zwW a
 generalize hu : ((((a.func != 0) || ((a.items.l.length : Int) != 0)) || (a.op != 0)) || (!((a.bound.kind == 0) && ((a.bound.int == 0) && (a.bound.text == []))))) = u at hp ⊢
 by_cases c0 : a.kind = 0
 · rw [if_pos c0, if_pos c0, hp, c0]
   cases u
   · simp only [Bool.and_false, Bool.false_or, Bool.false_eq_true, if_false, show ((0 : Int) != 0) = false from rfl, Bool.false_and, Bool.not_false, Bool.and_true]
     cases hl : ((a.args.l.length : Int) == 0)
     · simp
     · have : a.args.l = [] := List.length_eq_zero_iff.1 (by have := eq_of_beq hl; omega)
       rw [this]; simp [zwy]
   · simp
 rw [if_neg c0, if_neg c0, show (a.kind != 0) = true by simpa using c0]
 cases hrow : ((a.row.table == 0) && (a.row.seq == 0))
 · simp
 cases hv : zwy a.args.l
 · simp
 simp only [Bool.not_true, Bool.and_false, Bool.or_false, Bool.false_eq_true, if_false, Bool.true_and]
 have hva : ∀ x ∈ a.args.l, zdD x = true := fun x hx => by
  rw [zsS] at hv
  have := List.all_eq_true.1 hv x hx
  simp only [Bool.and_eq_true] at this; exact this.2
 by_cases c1 : a.kind = 1
 · rw [if_pos c1, if_pos c1, c1, show ((1 : Int) != 4) = true from rfl, Bool.true_and]
   unfold k1B pk1
   rw [hp]
   cases u
   · simp only [Bool.false_eq_true, if_false, Bool.not_false, Bool.and_true]
     match a.args.l with
     | [] => rfl
     | [_] => rfl
     | [_, _] => simp
     | _ :: _ :: _ :: _ => simp
   · simp
 rw [if_neg c1, if_neg c1]
 by_cases c2 : a.kind = 2
 · rw [if_pos c2, if_pos c2, c2, show ((2 : Int) != 4) = true from rfl, Bool.true_and]
   unfold k2B pk2
   rw [hp]
   cases u
   · simp only [Bool.false_eq_true, if_false, Bool.not_false, Bool.and_true]
     match hl : a.args.l with
     | [] => rfl
     | [x] =>
       simp only
       rw [zAM (hva x (by rw [hl]; simp))]; simp
     | _ :: _ :: _ => simp
   · simp
 rw [if_neg c2, if_neg c2]
 by_cases c3 : a.kind = 3
 · rw [if_pos c3, if_pos c3, c3, show ((3 : Int) != 4) = true from rfl, Bool.true_and]
   unfold k3B pk3
   rw [hp]
   cases u
   · simp only [Bool.false_eq_true, if_false, Bool.not_false, Bool.and_true]
     match a.args.l with
     | [] => rfl
     | [x] => simp
     | _ :: _ :: _ => simp
   · simp
 rw [if_neg c3, if_neg c3]
 by_cases c4 : a.kind = 4
 · rw [if_pos c4, if_pos c4, c4, show ((4 : Int) != 4) = false from rfl, Bool.false_and]
   unfold k4B pk4 zqX
   rw [zzb, zB0, decide_eq_false (show ¬ (1024 : Int) < a.items.l.length by omega)]
   have e : decide (0 < (a.items.l.length : Int)) = !((a.items.l.length : Int) == 0) := by
    cases a.items.l with
    | nil => rfl
    | cons x l => simp; omega
   rw [e]
   cases ((a.args.l.length : Int) == 0) <;> cases ((a.items.l.length : Int) == 0) <;> cases zsQ a.items.l <;> cases adj zzH a.items.l <;> cases zpk a.func a.items a.op a.bound <;> rfl
 · rw [if_neg c4, if_neg c4]; simp
theorem zs8 {f : zaj} (hi : zkp f = true) : zh0 f = ziA f := by
 unfold zkp at hi
 simp only [Bool.and_eq_true, decide_eq_true_eq] at hi
 unfold zh0
 rw [zqZ, zEA hi.2]
 cases hv : zmk f.atom
 · simp
 · have hk := zrd hv
   unfold zrf
   by_cases h1 : f.exp < 1
   · rw [decide_eq_true h1]; rfl
   · rw [decide_eq_false h1]
     by_cases h2 : f.exp = 1
     · rw [h2]; simp
     · rw [show (f.exp != 1) = true by simpa using h2, decide_eq_true (show 1 < f.exp by omega)]
       rcases hk with h | h | h | h | h <;> rw [h] <;> rfl
theorem zwR {x : zam} (hi : zko x = true) : zqe x = zx4 x := by
 unfold zko at hi
 simp only [Bool.and_eq_true] at hi
 have hf := List.all_eq_true.1 hi.2
 rw [zva, zrU]
 unfold zqe
 have e : x.factors.l.all zh0 = x.factors.l.all ziA := by
  rw [Bool.eq_iff_iff, List.all_eq_true, List.all_eq_true]
  exact ⟨fun h f m => by rw [← zs8 (hf f m)]; exact h f m, fun h f m => by rw [zs8 (hf f m)]; exact h f m⟩
 rw [e]; rfl
theorem zD7 (a : Sl zam) : zdD a = (ztr a && (a.l.all zqe && adj znW a.l)) := by
 unfold zdD
 rw [zuw, Bool.and_assoc]
 cases hf : ztr a
 · rfl
 · unfold ztr at hf
   simp only [Bool.and_eq_true] at hf
   have ht := List.all_eq_true.1 hf.2
   have e : a.l.all zqe = a.l.all zx4 := by
    rw [Bool.eq_iff_iff, List.all_eq_true, List.all_eq_true]
    exact ⟨fun h f m => by rw [← zwR (ht f m)]; exact h f m, fun h f m => by rw [zwR (ht f m)]; exact h f m⟩
   rw [e]; rfl
end Go.Ev
set_option linter.unusedVariables false
namespace Go.Ev
noncomputable def zbR (c16 : Sl zam) (c17 : Sl zam) (c18 : Int) (c19 : Int) (c20 : Sl zaj) (c21 : Int) (c23 : zam) (sz : Nat) (kk : Nat) : Nat → Int → Option (Out (Bool) (Int))
 | 0, _ => none
 | k + 1, s22 =>
   sel (
    bnd (ix c20.l s22) fun (y24 : zaj) =>
    sel (
     bnd (ix c23.factors.l (IntKind.wrap .i64 (s22 - 1))) fun (y25 : zaj) =>
     bnd (okP (8 * (zdp y25.atom + zdp y24.atom) + 7 < big - 1)) fun _ =>
     sel (
      bnd (okP (20 * zdp y24.atom < sz)) fun _ =>
      sel (
       some (.ret false)) (
       zbR c16 c17 c18 c19 c20 c21 c23 sz kk k (IntKind.wrap .i64 (s22 + 1))) (!((znQ y24.atom)))) (
      some (.ret false)) (!(((decide (y24.exp < 1)) || (((zrf y24.atom)) && (y24.exp != 1))) || (decide (0 ≤ (zf4 y25.atom y24.atom)))))) (
     sel (
      bnd (okP (20 * zdp y24.atom < sz)) fun _ =>
      sel (
       some (.ret false)) (
       zbR c16 c17 c18 c19 c20 c21 c23 sz kk k (IntKind.wrap .i64 (s22 + 1))) (!((znQ y24.atom)))) (
      some (.ret false)) (!((decide (y24.exp < 1)) || (((zrf y24.atom)) && (y24.exp != 1))))) (decide (0 < s22))) (
    some (.done s22)) (decide (s22 < c21))
noncomputable def zfw (c7 : Sl zam) (c8 : Int) (c9 : Sl zam) (c10 : Int) (c11 : Int) (c12 : zam) (sz : Nat) (kk : Nat) : Option (Bool) :=
 sel (
  bnd (ix c7.l (IntKind.wrap .i64 (c8 - 1))) fun (y13 : zam) =>
  bnd (okP (8 * (zcY y13 + zcY c12) + 4 < big - 1)) fun _ =>
  some (((decide (c12.coeff < 1)) || (decide (1152921504606846976 < c12.coeff))) || (decide (0 ≤ (zd6 y13 c12))))) (
  sel (
   some false) (
   some true) (!((decide (c12.coeff < 1)) || (decide (1152921504606846976 < c12.coeff))))) (decide (0 < c8))
noncomputable def zb8 (c2 : Sl zam) (c3 : Sl zam) (c4 : Int) (sz : Nat) (kk : Nat) : Nat → Int → Option (Out (Bool) (Int))
 | 0, _ => none
 | k + 1, s5 =>
   sel (
    bnd (ix c3.l s5) fun (y6 : zam) =>
    bnd (zfw c2 s5 c3 c4 s5 y6 sz kk) fun (q15 : Bool) =>
    sel (
     some (.ret false)) (
     zkl (zbR c2 c3 c4 s5 y6.factors (y6.factors.l.length : Int) y6 sz kk kk 0) (fun r => some (.ret r)) fun (q29 : Int) =>
      zb8 c2 c3 c4 sz kk k (IntKind.wrap .i64 (s5 + 1))) (q15)) (
    some (.done s5)) (decide (s5 < c4))
noncomputable def zgB (kk : Nat) (sz : Nat) (a : (Sl zam)) : Option (Bool) :=
 bnd (okP (zal a.l < big - 1)) fun _ =>
 sel (
  some false) (
  zkl (zb8 a a (a.l.length : Int) sz kk kk 0) (fun r => some r) fun (q30 : Int) =>
   some true) (!((ztr a)))
noncomputable def zdY (c3 : Bool) (c4 : zap) (sz : Nat) (kk : Nat) : Option (Bool) :=
 sel (
  bnd (okP (20 * zdq c4.args.l + 1 < sz)) fun _ =>
  some ((zqX zlh c4.args))) (
  some true) (!((c3) || ((c4.kind != 0) && (!((c4.row.table == 0) && (c4.row.seq == 0))))))
noncomputable def zdZ (c1 : zap) (sz : Nat) (kk : Nat) : Option (Bool) :=
 some ((c1.kind != 4) && ((((c1.func != 0) || ((c1.items.l.length : Int) != 0)) || (c1.op != 0)) || (!((c1.bound.kind == 0) && ((c1.bound.int == 0) && (c1.bound.text == []))))))
noncomputable def zeQ (kk : Nat) (sz : Nat) (a : zap) : Option (Bool) :=
 bnd (zdZ a sz kk) fun (q2 : Bool) =>
 bnd (zdY (q2) a sz kk) fun (q6 : Bool) =>
 sel (
  some false) (
  sel (
   some (((zhr a.row)) && ((a.args.l.length : Int) == 0))) (
   sel (
    sel (
     bnd (a.args.l[0]?) fun (y7 : (Sl zam)) =>
     bnd (a.args.l[1]?) fun (y8 : (Sl zam)) =>
     bnd (okP (8 * (zal y7.l + zal y8.l) + 7 < big - 1)) fun _ =>
     some (!((zuF y7 y8)))) (
     some false) ((a.args.l.length : Int) == 2)) (
    sel (
     sel (
      bnd (a.args.l[0]?) fun (y10 : (Sl zam)) =>
      some ((!((zgI y10))) && (!((znX y10))))) (
      some false) ((a.args.l.length : Int) == 1)) (
     sel (
      sel (
       bnd (a.args.l[0]?) fun (y11 : (Sl zam)) =>
       bnd (okP (y11.l.length < big - 1)) fun _ =>
       some (!((zja y11)))) (
       some false) ((a.args.l.length : Int) == 1)) (
      sel (
       bnd (okP (20 * zbB a.items.l + 1 < sz)) fun _ =>
       sel (
        bnd (okP (8 * zbB a.items.l + 5 < big - 1)) fun _ =>
        sel (
         bnd (okP (a.items.l.length < big - 1)) fun _ =>
         some ((zpk a.func a.items a.op a.bound))) (
         some false) ((znL a.items))) (
        some false) ((((a.args.l.length : Int) == 0) && (decide (0 < (a.items.l.length : Int)))) && (!((zqX zia a.items))))) (
       some false) (a.kind == 4)) (a.kind == 3)) (a.kind == 2)) (a.kind == 1)) (a.kind == 0)) (q6)
noncomputable def zd1 (kk : Nat) (sz : Nat) (a : (Sl zam)) : Option (Bool) :=
 bnd (okP (20 * zal a.l + 1 < sz)) fun _ =>
 some ((!((zdD a))) || ((a.l.length : Int) == 0))
noncomputable def zaw (c1 : Sl (Sl zam)) (c2 : Int) (sz : Nat) (kk : Nat) : Nat → Int → Option (Out (Int) (Int))
 | 0, _ => none
 | k + 1, s3 =>
   sel (
    bnd (ix c1.l s3) fun (y4 : (Sl zam)) =>
    bnd (okP (20 * zal y4.l + 2 < sz)) fun _ =>
    sel (
     some (.ret s3)) (
     zaw c1 c2 sz kk k (IntKind.wrap .i64 (s3 + 1))) ((zlh y4))) (
    some (.done s3)) (decide (s3 < c2))
noncomputable def za8 (kk : Nat) (sz : Nat) (a : (Sl (Sl zam))) : Option (Int) :=
 zkl (zaw a (a.l.length : Int) sz kk kk 0) (fun r => some r) fun (q6 : Int) =>
  some (-1)
noncomputable def za0 (kk : Nat) (sz : Nat) (a : (Sl (Sl zam))) : Option (Bool) :=
 bnd (okP (20 * zdq a.l < sz)) fun _ =>
 some (decide (0 ≤ (zsi zlh a)))
noncomputable def zd0 (kk : Nat) (sz : Nat) (a : zaf) : Option (Bool) :=
 bnd (okP (20 * zal a.ann.l + 1 < sz)) fun _ =>
 some ((!((zdD a.ann))) || ((a.ann.l.length : Int) == 0))
noncomputable def zaz (c1 : Sl zaf) (c2 : Int) (sz : Nat) (kk : Nat) : Nat → Int → Option (Out (Int) (Int))
 | 0, _ => none
 | k + 1, s3 =>
   sel (
    bnd (ix c1.l s3) fun (y4 : zaf) =>
    bnd (okP (20 * zeV y4 < sz)) fun _ =>
    sel (
     some (.ret s3)) (
     zaz c1 c2 sz kk k (IntKind.wrap .i64 (s3 + 1))) ((zia y4))) (
    some (.done s3)) (decide (s3 < c2))
noncomputable def zbg (kk : Nat) (sz : Nat) (a : (Sl zaf)) : Option (Int) :=
 zkl (zaz a (a.l.length : Int) sz kk kk 0) (fun r => some r) fun (q6 : Int) =>
  some (-1)
noncomputable def za4 (kk : Nat) (sz : Nat) (a : (Sl zaf)) : Option (Bool) :=
 bnd (okP (20 * zbB a.l < sz)) fun _ =>
 some (decide (0 ≤ (zsi zia a)))
end Go.Ev
namespace Go.Ev
theorem zm0 {c23 c24 : Sl zam} {c25 c26 : Int} {t : zam} {sz kk k : Nat} (h : 20 * za1 t.factors.l < sz) (hb : sz < big) (hk : t.factors.l.length < k) :
 zbR c23 c24 c25 c26 t.factors (t.factors.l.length : Int) t sz kk k 0 = if t.factors.l.all zh0 && adj zti t.factors.l then some (.done (t.factors.l.length : Int)) else some (.ret false) := by
 have hl := ze3 t.factors.l
 have hb1 : big = 1152921504606846976 := rfl
 refine zuD (xs := t.factors.l) (L := zbR c23 c24 c25 c26 t.factors (t.factors.l.length : Int) t sz kk) zh0 zti false (fun k => by simp [zbR]) (fun k i hi => ?_) hk
 have ey := List.getElem?_eq_getElem hi
 have hy := zg0 ey
 have hy1 := zfa t.factors.l[i]
 revert ey hy hy1
 generalize t.factors.l[i] = y
 intro ey hy hy1
 simp only [zbR, zh4, decide_eq_true hi, zaI, zdV, ey, zad]
 rw [zav (show 20 * zdp y.atom < sz by omega), zbz (by omega)]
 simp only [zad]
 cases i with
 | zero =>
   rw [zFz ey]
   unfold zh0
   generalize ((decide (y.exp < 1)) || (((zrf y.atom)) && (y.exp != 1))) = u
   cases u <;> cases znQ y.atom <;> simp
 | succ j =>
   have hj : j < t.factors.l.length := by omega
   have ex := List.getElem?_eq_getElem hj
   have h2 := zq3 (fun x => zds x + 1) ex ey
   rw [← zvg] at h2
   have hx1 := zfa t.factors.l[j]
   revert ex h2 hx1
   generalize t.factors.l[j] = x
   intro ex h2 hx1
   rw [zBZ ex ey, zsK (by omega)]
   simp only [zdV, ex, zad]
   rw [zav (show 8 * (zdp x.atom + zdp y.atom) + 7 < big - 1 by omega)]
   unfold zti zh0
   generalize ((decide (y.exp < 1)) || (((zrf y.atom)) && (y.exp != 1))) = u
   have e : decide (0 < ((j + 1 : Nat) : Int)) = true := by simp
   rw [e]
   by_cases hc : zf4 x.atom y.atom < 0
   · rw [decide_eq_true hc, decide_eq_false (show ¬ 0 ≤ zf4 x.atom y.atom by omega)]
     cases u <;> cases znQ y.atom <;> simp
   · rw [decide_eq_false hc, decide_eq_true (show 0 ≤ zf4 x.atom y.atom by omega)]
     cases u <;> cases znQ y.atom <;> simp
theorem zm1 {a : Sl zam} {sz kk k : Nat} (h : 20 * zal a.l + 1 < sz + 1) (hb : sz + 1 < big) (hk : a.l.length < k) (hkk : sz < kk) :
 zb8 a a (a.l.length : Int) sz kk k 0 = if a.l.all zqe && adj znW a.l then some (.done (a.l.length : Int)) else some (.ret false) := by
 have hl := zfU a.l
 have hb1 : big = 1152921504606846976 := rfl
 refine zuD (xs := a.l) (L := zb8 a a (a.l.length : Int) sz kk) zqe znW false (fun k => by simp [zb8]) (fun k i hi => ?_) hk
 have ey := List.getElem?_eq_getElem hi
 have hy := zhG ey
 have hy1 := zhs a.l[i]
 have hy2 := ze3 a.l[i].factors.l
 revert ey hy hy1 hy2
 generalize a.l[i] = y
 intro ey hy hy1 hy2
 simp only [zb8, zh4, decide_eq_true hi, zaI, zdV, ey, zad]
 rw [zbz (by omega), zm0 (by omega) (by omega) (by omega)]
 unfold zfw
 cases i with
 | zero =>
   rw [zFz ey]
   unfold zqe
   generalize (decide (y.coeff < 1)) = u
   generalize (decide (1152921504606846976 < y.coeff)) = u'
   cases u <;> cases u' <;> cases y.factors.l.all zh0 <;> cases adj zti y.factors.l <;> simp
 | succ j =>
   have hj : j < a.l.length := by omega
   have ex := List.getElem?_eq_getElem hj
   have h2 := zq3 (fun x => zcY x + 1) ex ey
   rw [← zyf] at h2
   revert ex h2
   generalize a.l[j] = x
   intro ex h2
   rw [zBZ ex ey, zsK (by omega)]
   simp only [zdV, ex, zad]
   rw [zav (show 8 * (zcY x + zcY y) + 4 < big - 1 by omega)]
   unfold znW zqe
   rw [show zf3 x.factors y.factors = zd6 x y from rfl]
   generalize (decide (y.coeff < 1)) = u
   generalize (decide (1152921504606846976 < y.coeff)) = u'
   have e : decide (0 < ((j + 1 : Nat) : Int)) = true := by simp
   rw [e]
   simp only [zad, zaI]
   by_cases hc : zd6 x y < 0
   · rw [decide_eq_true hc, decide_eq_false (show ¬ 0 ≤ zd6 x y by omega)]
     cases u <;> cases u' <;> cases y.factors.l.all zh0 <;> cases adj zti y.factors.l <;> simp
   · rw [decide_eq_false hc, decide_eq_true (show 0 ≤ zd6 x y by omega)]
     cases u <;> cases u' <;> cases y.factors.l.all zh0 <;> cases adj zti y.factors.l <;> simp
theorem zok {kk sz : Nat} {a : Sl zam} (h : 20 * zal a.l + 1 < sz + 1) (hk : sz < kk) (hb : sz + 1 < big) : zgB kk sz a = some (zdD a) := by
 have hl := zfU a.l
 have hb1 : big = 1152921504606846976 := rfl
 unfold zgB
 rw [zav (by omega), zm1 h hb (by omega) hk, zD7]
 cases ztr a <;> cases a.l.all zqe <;> cases adj znW a.l <;> rfl
theorem zlI {kk sz : Nat} {a : zap} (h : 20 * zdp a < sz + 1) (hk : sz < kk) (hb : sz + 1 < big) : zeQ kk sz a = some (znQ a) := by
 have hz := zgf a
 have hb1 : big = 1152921504606846976 := rfl
 have h1 := zlU a.args.l
 have h2 := zgE a.items.l
 unfold zeQ znQ zdZ
 rw [zad]
 unfold zdY
 rw [zav (show 20 * zdq a.args.l + 1 < sz by omega), zad, zdf, show (((a.kind != 4) && ((((a.func != 0) || ((a.items.l.length : Int) != 0)) || (a.op != 0)) || (!((a.bound.kind == 0) && ((a.bound.int == 0) && (a.bound.text == [])))))) || ((a.kind != 0) && (!((a.row.table == 0) && (a.row.seq == 0))))) = zvc a from rfl]
 cases zvc a
 · rw [zaV]
   cases zqX zlh a.args
   · simp only [zad, zaV, Bool.false_eq_true, if_false]
     simp only [zfD]
     by_cases c0 : a.kind = 0
     · rw [if_pos c0, if_pos c0]
     rw [if_neg c0, if_neg c0]
     by_cases c1 : a.kind = 1
     · rw [if_pos c1, if_pos c1]
       unfold pk1
       by_cases c : (a.args.l.length : Int) = 2
       · obtain ⟨x, y, e⟩ := zFy c
         rw [if_pos c]
         rw [e] at hz ⊢
         simp only [zdq] at hz
         simp only [List.getElem?_cons_zero, List.getElem?_cons_succ, zad]
         rw [zav (by cases x; cases y; simp only at hz ⊢; omega)]
         rfl
       · rw [if_neg c]
         match hl : a.args.l with
         | [] => rfl
         | [_] => rfl
         | [_, _] => rw [hl] at c; exact absurd rfl c
         | _ :: _ :: _ :: _ => rfl
     rw [if_neg c1, if_neg c1]
     by_cases c2 : a.kind = 2
     · rw [if_pos c2, if_pos c2]
       unfold pk2
       by_cases c : (a.args.l.length : Int) = 1
       · obtain ⟨x, e⟩ := zrZ c
         rw [if_pos c, e]
         simp only [List.getElem?_cons_zero, zad]
       · rw [if_neg c]
         match hl : a.args.l with
         | [] => rfl
         | [_] => rw [hl] at c; exact absurd rfl c
         | _ :: _ :: _ => rfl
     rw [if_neg c2, if_neg c2]
     by_cases c3 : a.kind = 3
     · rw [if_pos c3, if_pos c3]
       unfold pk3
       by_cases c : (a.args.l.length : Int) = 1
       · obtain ⟨x, e⟩ := zrZ c
         rw [if_pos c]
         rw [e] at hz ⊢
         simp only [zdq] at hz
         have hx := zfU x.l
         simp only [List.getElem?_cons_zero, zad]
         rw [zav (show x.l.length < big - 1 by cases x; simp only at hz hx ⊢; omega)]
         rfl
       · rw [if_neg c]
         match hl : a.args.l with
         | [] => rfl
         | [_] => rw [hl] at c; exact absurd rfl c
         | _ :: _ :: _ => rfl
     rw [if_neg c3, if_neg c3]
     by_cases c4 : a.kind = 4
     · rw [if_pos c4, if_pos c4, zav (show 20 * zbB a.items.l + 1 < sz by omega), zad, zav (show 8 * zbB a.items.l + 5 < big - 1 by omega), zad, zav (show a.items.l.length < big - 1 by omega), zad]
       unfold pk4
       cases ((a.args.l.length : Int) == 0) <;> cases decide (0 < (a.items.l.length : Int)) <;> cases zqX zia a.items <;> cases znL a.items <;> rfl
     rw [if_neg c4, if_neg c4]
   · rfl
 · rfl
theorem zkD {kk sz : Nat} {a : Sl zam} (h : 20 * zal a.l + 2 < sz + 1) (hk : sz < kk) (hb : sz + 1 < big) : zd1 kk sz a = some (zlh a) := by
 unfold zd1
 rw [zav (show 20 * zal a.l + 1 < sz by omega)]; rfl
theorem zkC {kk sz : Nat} {a : zaf} (h : 20 * zeV a < sz + 1) (hk : sz < kk) (hb : sz + 1 < big) : zd0 kk sz a = some (zia a) := by
 have := zlT a
 unfold zd0
 rw [zav (show 20 * zal a.ann.l + 1 < sz by omega)]; rfl
theorem zdw {kk sz : Nat} {a : Sl (Sl zam)} (h : 20 * zdq a.l < sz + 1) (hk : sz < kk) (hb : sz + 1 < big) : za8 kk sz a = some (zsi zlh a) := by
 have hl := zlU a.l
 unfold za8 zsi
 refine zoF (xs := a.l) zlh (fun k => by simp [zaw]) (fun k i x hi ex => ?_) (by omega)
 have hx := zka ex
 simp only [zaw, zh4, decide_eq_true hi, zaI, zdV, ex, zad]
 rw [zav (by omega), zad, zbz (by omega), zey]
theorem zdO {kk sz : Nat} {a : Sl zaf} (h : 20 * zbB a.l < sz + 1) (hk : sz < kk) (hb : sz + 1 < big) : zbg kk sz a = some (zsi zia a) := by
 have hl := zgE a.l
 unfold zbg zsi
 refine zoF (xs := a.l) zia (fun k => by simp [zaz]) (fun k i x hi ex => ?_) (by omega)
 have hx := zkd ex
 simp only [zaz, zh4, decide_eq_true hi, zaI, zdV, ex, zad]
 rw [zav (by omega), zad, zbz (by omega), zey]
theorem zc1 {kk sz : Nat} {a : Sl (Sl zam)} (h : 20 * zdq a.l + 1 < sz + 1) (hk : sz < kk) (hb : sz + 1 < big) : za0 kk sz a = some (zqX zlh a) := by
 unfold za0 zsi zqX
 rw [zav (by omega), zhJ]; rfl
theorem zdj {kk sz : Nat} {a : Sl zaf} (h : 20 * zbB a.l + 1 < sz + 1) (hk : sz < kk) (hb : sz + 1 < big) : za4 kk sz a = some (zqX zia a) := by
 unfold za4 zsi zqX
 rw [zav (by omega), zhJ]; rfl
end Go.Ev
