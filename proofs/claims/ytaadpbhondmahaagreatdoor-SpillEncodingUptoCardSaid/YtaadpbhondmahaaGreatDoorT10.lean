/- Part of a proof. -/
import Derived.Laws.RangeAny
import Derived.Test.YtaadpbhondmahaaGreatDoorT8
set_option linter.all false
namespace Go.Ev
theorem zpo {s : Str} {i : Nat} (h : i <= s.length) : zCk s (some (i : Int)) none = some (s.drop i) := by
 unfold zCk
 simp only [yc, Option.getD_none]
 rw [if_pos ⟨by omega, by omega, by omega, by omega⟩]
 unfold cut
 simp only [Int.toNat_natCast]
 split
 · rename_i h2; obtain ⟨h3, h4⟩ := h2; subst h3; rfl
 · rw [List.take_of_length_le (by simp)]
theorem zzK {s : Str} {i : Nat} (h : i <= s.length) : zCk s none (some (i : Int)) = some (s.take i) := by
 unfold zCk
 simp only [yc, Option.getD_none]
 rw [if_pos ⟨by omega, by omega, by omega, by omega⟩]
 unfold cut
 simp only [Int.toNat_natCast, Int.toNat_zero]
 split
 · rename_i h2; rw [List.take_of_length_le YJ]
 · rfl
theorem zHt (a b : Str) : (b.isPrefixOf a) = (decide (b.length <= a.length) && (a.take b.length == b)) := by
 rw [Bool.eq_iff_iff, List.isPrefixOf_iff_prefix, yK, YG, beq_iff_eq]
 constructor
 · rintro ⟨t, rfl⟩; simp
 · rintro ⟨_, h⟩; exact ⟨a.drop b.length, by conv => lhs; lhs; rw [<- h]
                                             exact List.take_append_drop _ _⟩
theorem zmU (kk : Nat) (a b : Str) : zen kk a b = some (zk2 a b) := by
 unfold zen zk2
 rw [zjO, zHt]
 by_cases h : b.length <= a.length
 · rw [if_pos YJ, zzK h, zad, YH h]; rfl
 · rw [if_neg YJ, YI h]; rfl
theorem zrM (kk : Nat) (a b : Str) : zjX kk a b = some (zk2 a b) := rfl
theorem zPK {a b : Str} (h : b.isPrefixOf a = true) : b.length <= a.length := (List.isPrefixOf_iff_prefix.mp h).length_le
theorem zmV (kk : Nat) (a b : Str) : zeo kk a b = some (zho a b) := by
 unfold zeo zho zk2 zaQ
 rw [zc2, zdB]
 split
 · rename_i h; rw [zpo (zPK h)]; rfl
 · rfl
theorem zrN (kk : Nat) (a b : Str) : zjY kk a b = some (zho a b) := rfl
theorem zme (kk : Nat) (a b : Str) : zdT kk a b = some (zla a b) := by
 unfold zdT zla zk2 zaQ
 rw [zdB]
 split
 · rename_i h; rw [zpo (zPK h)]; rfl
 · rfl
theorem zq0 (kk : Nat) (a b : Str) : zjm kk a b = some (zla a b) := rfl
theorem z1l {s : Str} {p : Nat} {b : UInt8} (e : s[p]? = some b) : ∃ h : p < (⟨s.toArray⟩ : ByteArray).size, (⟨s.toArray⟩ : ByteArray)[p]'h = b := by
 obtain ⟨h, e⟩ := yW.mp e
 exact ⟨by simpa [ByteArray.size] using h, by rw [<- e]; rfl⟩
theorem zNc {s : Str} {p : Nat} {b : UInt8} (e : s[p]? = some b) (h : b.toNat < 128) : Utf8.decode ⟨s.toArray⟩ p = (b.toNat, 1) := by
 obtain ⟨hp, e⟩ := z1l e
 rw [decode_ascii _ _ hp (by rw [e]; exact h), e]
theorem zPW {s : Str} {p : Nat} {b : UInt8} (e : s[p]? = some b) (h : 128 <= b.toNat) : 128 <= (Utf8.decode ⟨s.toArray⟩ p).1 /\ 1 <= (Utf8.decode ⟨s.toArray⟩ p).2 := by
 obtain ⟨hp, e⟩ := z1l e
 exact decode_high _ _ hp (by rw [e]; exact h)
theorem zPp {s : Str} (h : zKZ s = true) {p : Nat} {b : UInt8} (e : s[p]? = some b) : b.toNat < 128 := by
 have := yl.mp h b (yL e); simpa using this
theorem zv2 {s : Str} {i : Nat} (h : i < s.length) : ∃ b, s[i]? = some b /\ s.drop i = b :: s.drop (i + 1) := ⟨s[i], by simp [h], yb h⟩
theorem zKO {c5 c6 c10 c12 : Str} {c7 c8 : Int} {kk : Nat} (hs : zKZ c12 = true) : ∀ (k i : Nat) (b : Bool) (j : Nat), c12.length - i < k -> i <= c12.length ->
 zdc c5 c6 c7 c8 c10 c12 kk k b j i = some (.done (b || (c12.drop i).any (fun d => c8 == (d.toNat : Int)), j, c12.length)) := by
 intro k
 induction k with
 | zero => intro i b j h; omega
 | succ k ih =>
   intro i b j h1 h2
   rw [zdc]
   by_cases h : i < c12.length
   · obtain ⟨d, e, e2⟩ := zv2 h
     rw [show ltn i c12.length = true from YH h, zat, zNc e (zPp hs e), ih (i + 1) _ _ YJ YJ, e2, List.any_cons, Bool.or_assoc]
   · rw [show ltn i c12.length = false from YI h, zaC, show i = c12.length by omega]; simp
theorem zPq {set : Str} {b : UInt8} : (set.any fun d => (b.toNat : Int) == (d.toNat : Int)) = set.contains b := by
 rw [List.contains_eq_any_beq]
 congr 1; funext d
 rw [Bool.eq_iff_iff, beq_iff_eq, beq_iff_eq, Int.natCast_inj, UInt8.toNat_inj]
theorem zPs {set : Str} (hs : zKZ set = true) {r : Nat} (h : 128 <= r) : (set.any fun d => (r : Int) == (d.toNat : Int)) = false := by
 rw [List.any_eq_false]; intro d hd
 have := yl.mp hs d hd
 simp only [YG] at this
 simp; omega
theorem zyl {set : Str} (hs : zKZ set = true) {b : UInt8} (h : 128 <= b.toNat) : set.contains b = false := by
 rw [List.contains_eq_any_beq, List.any_eq_false]; intro d hd
 have := yl.mp hs d hd
 simp only [YG] at this
 intro e; rw [beq_iff_eq] at e; subst e; omega
theorem zH6 {a set : Str} {kk : Nat} (hs : zKZ set = true) (hk : set.length < kk) : ∀ (k i : Nat), a.length - i < k -> i <= a.length ->
 zdd a set a kk k i = some (if (a.drop i).all (fun b => set.contains b) then .done a.length else .ret ((a.drop i).dropWhile fun b => set.contains b)) := by
 intro k
 induction k with
 | zero => intro i h; omega
 | succ k ih =>
   intro i h1 h2
   rw [zdd]
   by_cases h : i < a.length
   · obtain ⟨d, e, e2⟩ := zv2 h
     rw [show ltn i a.length = true from YH h, zat, zKO hs kk 0 _ _ YJ YJ, za5, yg, Bool.false_or, zc2, zdB, e2, List.all_cons, List.dropWhile_cons]
     by_cases hd : d.toNat < 128
     · rw [zNc e hd]; simp only [zPq]
       by_cases hc : set.contains d = true
       · rw [if_pos hc, ih (i + 1) YJ YJ, hc, yz, if_pos rfl]
       · rw [if_neg hc, zpo YJ, zad, if_neg hc, Bool.eq_false_iff.mpr hc, Bool.false_and, if_neg (by decide), e2]
     · obtain ⟨h3, h4⟩ := zPW e YJ
       have hc := zyl hs (b := d) YJ
       simp only [zPs hs h3, yF, if_false, hc, Bool.false_and]
       rw [zpo YJ, zad, e2]
   · rw [show ltn i a.length = false from YI h, zaC, show i = a.length by omega]; simp
theorem zTL {p : UInt8 -> Bool} {a : Str} (h : ∀ x ∈ a, p x = true) : a.dropWhile p = [] := by
 induction a with
 | nil => rfl
 | cons x a ih => rw [List.dropWhile_cons, if_pos (h x (by simp))]; exact ih fun y hy => h y (by simp [hy])
theorem zq8 {kk : Nat} (a b : Str) (h : a.length < lim /\ b.length < lim /\ zKZ b = true) (hk : lim < kk := by decide) : zg9 kk a b = some (zqB a b) := by
 obtain ⟨h1, h2, h3⟩ := h
 unfold zg9 zqB
 rw [zH6 h3 YJ kk 0 YJ YJ, yg]
 split
 · rename_i h; rw [za5]
   rw [zTL (yl.mp h)]
 · rfl
theorem znL (kk : Nat) (a : zab) (b : Str) : zhm kk a b = some (zaR a b) := by
 cases a; rfl
theorem zTK (a : Str) (p : UInt8 -> Bool) : (a.dropWhile p).length <= a.length := (List.dropWhile_suffix p).length_le
theorem ztz : lim = 4294967281 := rfl
theorem zn1 (kk : Nat) (a : zab) (b : Str) (h : a.rest.length < lim /\ b.length < lim /\ zKZ b = true) : zfD kk a b = some (zne a b) := by
 have h2 := zkd b a.rest
 have h3 := zIM b a.rest
 have h4 := h.1
 rw [ztz] at h4
 unfold zfD zne
 rw [zar h, zad]
 have e : zqB a.rest b = (zvB b a.rest).2 := rfl
 rw [e, zcG YJ YJ, show ((a.rest.length : Int) - ((zvB b a.rest).2.length : Int)) = ((zvB b a.rest).1.length : Int) by omega, zzK YJ, zad]
 cases a with | mk r =>
 simp only [zab.setRest] at *
 have e4 : r.take (zvB b r).1.length = (zvB b r).1 := by
  conv => lhs; arg 2; rw [<- h3]
  rw [List.take_left]
 rw [e4]
theorem zmf (kk : Nat) (a : zab) (h : a.rest.length < lim) : zdW kk a = some (zmb a) := by
 have h2 := zkd zcE a.rest
 unfold zdW
 rw [zar ⟨h, by decide, by decide⟩, zad, zar ⟨show (zvB zcE a.rest).1.length < lim by omega, rfl, rfl⟩]; rfl
theorem ztN (kk : Nat) (a : Int) : zlp kk a = some (zAm a) := rfl
theorem zKn (b : UInt8) : zAm (b.toNat : Int) = zcE.contains b := by
 rw [Bool.eq_iff_iff, zss]
 unfold zAm zsj
 rw [yK, YG, YG]; omega
theorem zHL {r : Nat} (h : 128 <= r) : zAm (r : Int) = false := by unfold zAm; rw [YI (show ¬ (r : Int) <= 57 by omega), Bool.and_false]
theorem zBy {a : Str} {kk : Nat} : ∀ (k i : Nat), a.length - i < k -> i <= a.length ->
 ∃ r, zbk true a kk k i = some r /\ (match r with | .ret n => 0 <= n /\ (a.drop i).any (fun b => !(zcE.contains b)) = true | .done _ => (a.drop i).any (fun b => !(zcE.contains b)) = false) := by
 intro k
 induction k with
 | zero => intro i h; omega
 | succ k ih =>
   intro i h1 h2
   rw [zbk]
   by_cases h : i < a.length
   · obtain ⟨d, e, e2⟩ := zv2 h
     rw [show ltn i a.length = true from YH h, zat, zi7, zad, e2, List.any_cons, zdB]
     simp only [Bool.and_true, ye, Bool.and_false, Bool.or_false]
     by_cases hd : d.toNat < 128
     · rw [zNc e hd]; simp only [zKn]
       by_cases hc : zcE.contains d = true
       · rw [hc]; exact ih (i + 1) YJ YJ
       · rw [Bool.eq_false_iff.mpr hc]; exact ⟨_, rfl, by omega, rfl⟩
     · obtain ⟨h3, h4⟩ := zPW e YJ
       rw [zHL h3, zyl (by decide) (b := d) YJ]
       exact ⟨_, rfl, by omega, rfl⟩
   · rw [show ltn i a.length = false from YI h, zaC, show i = a.length by omega]
     exact ⟨_, rfl, by simp⟩
theorem zAw {kk : Nat} {a : Str} (h : a.length < kk) : zbD kk a = some (a.any fun b => !(zcE.contains b)) := by
 unfold zbD zb7 zb6
 obtain ⟨r, e, h2⟩ := zBy (kk := kk) kk 0 YJ (yi a.length)
 rw [e]; rw [yg] at h2
 cases r with
 | ret n => simp only [zmC, zad, h2.2, YH h2.1]
 | done n => simp only [za5, zad]; rw [h2]; rfl
theorem zwd (b : UInt8) (n : Nat) (h : n < 256) : ((b.toNat : Int) == (n : Int)) = (b == UInt8.ofNat n) := by
 rw [Bool.eq_iff_iff, beq_iff_eq, beq_iff_eq, Int.natCast_inj, <- UInt8.toNat_inj, show (UInt8.ofNat n).toNat = n by simp [UInt8.toNat_ofNat', Nat.mod_eq_of_lt h]]
theorem zwD {kk : Nat} (a : Str) (h : a.length < lim) (hk : lim < kk := by decide) : zkP kk a = some (zim a) := by
 have ej : zhj a kk = some (decide (a = []) || ((a.head? == some 48) || a.any (fun b => !(zcE.contains b)))) := by
  unfold zhj
  rw [zc2, zcs]
  cases a with
  | nil => rfl
  | cons b s =>
    rw [if_neg (by simp), zAw YJ]
    simp only [yH, zad, zc2, List.head?_cons, zdB]
    rw [show ((b.toNat : Int) == 48) = (b == 48) from zwd b 48 (by decide), show (decide (b :: s = [])) = false from rfl, Bool.false_or]
    by_cases hb : b = 48
    · subst hb; rfl
    · rw [show (b == 48) = false by simp [hb], show (some b == some (48 : UInt8)) = false by simp [hb]]; rfl
 unfold zkP zim
 rw [ej, zad, zdB]
 by_cases h1 : a = []
 · subst h1; rfl
 · rw [if_neg h1, YI h1, Bool.false_or]
   split
   · rfl
   · rw [zar h, zad, zc2, zdB]
     unfold zj2
     cases Lib.atoiAll a <;> rfl
theorem zdg (p s : Str) : (zaQ p s).2.length <= s.length := by unfold zaQ; split <;> simp
theorem zNp (s : Str) : (zlP s).1.length <= s.length /\ (zlP s).2.1.length <= s.length := by
 unfold zlP
 constructor
 · exact (List.takeWhile_prefix _).length_le
 · have := zTK s (fun b => b != 46); simp; omega
theorem zxX {kk : Nat} (a : Str) (h : a.length < lim) (_hk : lim < kk := by decide) : zlC kk a = some (ziT a) := by
 have h1 := zdg [116] a
 have h2 := zNp (zaQ [116] a).2
 unfold zlC ziT zho
 simp only [zQ9]
 rw [zar YJ, zad, zar YJ, zad, zar YJ, zad]
 generalize zim (zlP (zaQ [116] a).2).1 = x
 generalize zim (zlP (zaQ [116] a).2).2.1 = y
 rcases x with ⟨x, e⟩; rcases y with ⟨y, f⟩
 simp only
 cases (zaQ [116] a).1 <;> cases (zlP (zaQ [116] a).2).2.2
 case true.true =>
  simp only [ye, Bool.or_false, zaC, Bool.and_true, if_true, zdB, Bool.or_eq_true, beq_iff_eq, bne_iff_ne]
  by_cases h3 : e = 3 ∨ f = 3
  · rw [if_pos h3, if_pos h3]; rfl
  · rw [if_neg h3, if_neg h3]
    by_cases h4 : e = 0 /\ f = 0
    · rw [if_neg (show ¬ (e ≠ 0 ∨ f ≠ 0) by omega), if_pos h4]; rfl
    · rw [if_pos (show e ≠ 0 ∨ f ≠ 0 by omega), if_neg h4]; rfl
 all_goals rfl
theorem zFe {s o n : Str} (h : s.length < lim) (h1 : 1 <= o.length) (h2 : n.length <= 2) : zyg s o n := by
 refine ⟨h, h1, ?_⟩
 have := Lib.count_le s o
 have h4 : Lib.count s o * n.length <= (s.length + 1) * 2 := Nat.mul_le_mul this h2
 unfold room; rw [ztz] at h; omega
theorem zOq {b : UInt8} {t : Str} (h : t ≠ []) : zCk (b :: t) (some 1) (some (((b :: t).length : Int) - 1)) = some t.dropLast := by
 have h1 := List.length_pos_iff.mpr h
 unfold zCk
 simp only [yc, yC]
 rw [if_pos ⟨by omega, by omega, by omega, by omega⟩]
 unfold cut
 rw [if_neg (by simp)]
 simp only [show ((1 : Int)).toNat = 1 from rfl, List.drop_succ_cons, yg, List.dropLast_eq_take]
 rw [show (((t.length + 1 : Nat) : Int) - 1).toNat - 1 = t.length - 1 by omega]
theorem zHo : ∀ (n : Nat) (s : Str), s.length <= n -> (zna s [39, 39] []).length <= s.length := by
 intro n
 induction n with
 | zero => intro s h; rw [ym.mp (Nat.le_zero.mp h), zta (by decide) (by decide)]; exact yP _
 | succ n ih =>
   intro s h
   cases s with
   | nil => rw [zta (by decide) (by decide)]; exact yP _
   | cons b s =>
     simp only [yC] at h
     cases hp : List.isPrefixOf ([39, 39] : Str) (b :: s) with
     | true =>
       rw [zDn (by decide) (by decide) hp, yZ]
       have := ih ((b :: s).drop ([39, 39] : Str).length) (by simp; omega)
       refine Nat.le_trans this ?_
       simp; omega
     | false =>
       rw [zvC (by decide) (by decide) hp]
       have := ih s YJ
       simp only [yC]; omega
theorem zwB (kk : Nat) (a : Str) (h : a.length < lim) : zkN kk a = some (zob a) := by
 have hl := ztz
 have ej : zhi a kk = some (!(decide (2 <= a.length) && (a.head? == some 39) && (a.getLast? == some 39))) := by
  unfold zhi
  rw [zc2, zjO]
  cases a with
  | nil => rfl
  | cons b t =>
    simp only [yC, yH, zad, zc2, zdB, List.head?_cons]
    by_cases ht : t = []
    · subst ht; rfl
    · have h1 := List.length_pos_iff.mpr ht
      simp only [yC] at h
      rw [if_neg YJ, YH (show 2 <= t.length + 1 by omega), yz, zcG YJ YJ, show (((t.length + 1 : Nat) : Int) - 1) = ((t.length : Nat) : Int) by omega, zbE]
      obtain ⟨c, ec⟩ : ∃ c, (b :: t).getLast? = some c := ⟨_, List.getLast?_eq_some_getLast (by simp)⟩
      have ec2 : (b :: t)[t.length]? = some c := by rw [<- ec, List.getLast?_eq_getElem?]; simp
      rw [ec, ec2, zad]
      have e1 : ((b.toNat : Int) != 39) = !(some b == some (39 : UInt8)) := congrArg (!·) (zwd b 39 (by decide))
      have e2 : ((c.toNat : Int) != 39) = !(some c == some (39 : UInt8)) := congrArg (!·) (zwd c 39 (by decide))
      rw [e1, e2]
      cases (some b == some (39 : UInt8)) <;> rfl
 unfold zkN zob
 rw [ej, zad, zc2, zdB]
 cases a with
 | nil => rfl
 | cons b t =>
   by_cases hc : 2 <= (b :: t).length /\ b = 39 /\ (b :: t).getLast? = some 39
   · obtain ⟨h1, h2, h3⟩ := hc
     subst h2
     have ht : t ≠ [] := by intro e; subst e; simp at h1
     have h3' : t.getLast? = some 39 := by rw [List.getLast?_cons_of_ne_nil ht] at h3; exact h3
     have hd : t.dropLast.length < lim := by simp only [List.length_dropLast, yC] at *; omega
     have hrl : (zna t.dropLast [39, 39] []).length < lim := by
      refine Nat.lt_of_le_of_lt ?_ hd
      exact zHo _ _ (yP _)
     rw [h3, YH h1]
     simp only [List.head?_cons, beq_self_eq_true, Bool.and_self, if_true]
     rw [zcG (by simp only [yC] at *; omega) (by simp only [yC] at *; omega), zOq ht, zad, zar (zFe hd (by decide) (by decide)), zad, zar (zFe hd (by decide) (by decide)), zad, zar hrl, zad, zJQ, zOY]
     unfold ziQ
     simp only [Bool.not_not]
     by_cases he : zxu t.dropLast = true
     · rw [if_pos ⟨trivial, ht, h3', he⟩, he]; rfl
     · rw [if_neg (by simp [he]), if_pos ⟨h1, trivial, trivial⟩, Bool.eq_false_iff.mpr he]; rfl
   · have hc2 : (decide (2 <= (b :: t).length) && ((b :: t).head? == some 39) && ((b :: t).getLast? == some 39)) = false := by
      rw [Bool.eq_false_iff]; intro e
      simp only [yK, YG, beq_iff_eq, List.head?_cons, yA] at e
      exact hc ⟨e.1.1, e.1.2, e.2⟩
     rw [hc2, if_neg (by decide)]
     have e1 : ziQ (b :: t) = none := by
      unfold ziQ
      simp only
      rw [if_neg]
      rintro ⟨h1, h2, h3, _⟩
      have := List.length_pos_iff.mpr h2
      exact hc ⟨by simp; omega, h1, by rw [List.getLast?_cons_of_ne_nil h2]; exact h3⟩
     rw [e1]
     simp only [Option.getD_none, Option.isSome_none]
     rw [if_neg]
     rintro ⟨h1, h2, h3⟩
     exact hc ⟨h1, by simpa using h2, h3⟩
theorem ztM (kk : Nat) (a : Str) (h : a.length < lim) : zi6 kk a = some (zyp a) := by
 have h1 := zdg [45] a
 unfold zi6 zyp zla
 rw [zc2, zcs]
 generalize he : (zaQ [45] a).2 = r at *
 cases r with
 | nil => rfl
 | cons b r =>
   rw [if_neg (by simp)]
   have e1 : ((b.toNat : Int) == 48) = (some b == some (48 : UInt8)) := zwd b 48 (by decide)
   simp only [yH, zad, List.head?_cons, List.isEmpty_cons, yx, yz]
   rw [e1, zdB, zar ⟨by simp, by omega, by decide, by decide, by decide⟩, zad]
   have e3 : (a != [48]) = !(a == [48]) := rfl
   rw [e3]
   rw [show (trimS (b :: r) [48, 49, 50, 51, 52, 53, 54, 55, 56, 57] == []) = (b :: r).all fun b => zcE.contains b from zHa]
   cases (some b == some (48 : UInt8)) && !(a == [48]) <;> simp
theorem zy1 (kk : Nat) (a : Str) (h : a.length < lim) : zmO kk a = some (zfn a) := by
 unfold zmO zfn
 have e1 : ([70, 65, 76, 83, 69] : Str) = zCm := rfl
 have e2 : ([84, 82, 85, 69] : Str) = zJL := rfl
 rw [e1, e2, zcs, zcs, zar h, zar (show zxf a (10 : Int) (64 : Int) from ⟨h, rfl, rfl⟩)]
 simp only [zad]
 split
 · rfl
 · split
   · rfl
   · unfold zob
     cases hu : ziQ a with
     | some t =>
       simp only [yc, Option.isSome_some, zat, zjO]
       by_cases ht : 255 < t.length
       · rw [if_pos YJ, if_pos ht]; rfl
       · rw [if_neg YJ, if_neg ht]; rfl
     | none =>
       simp only [Option.isSome_none, zaC, zc2, zdB]
       cases zyp a
       · rfl
       · cases hp : (zj2 a).2 <;> simp only [zoN, hp] <;> rfl
theorem zKq (s : Str) (b : UInt8) : zk2 s [b] = (s.head? == some b) := by
 unfold zk2
 cases s with
 | nil => rfl
 | cons c s => rw [Bool.eq_iff_iff]; simp [List.isPrefixOf]; exact eq_comm
theorem zFK {p : zab} {v : Val} {kk : Nat} (hl : p.rest.length < lim) : ∀ (k i : Nat), p.rest.length - i < k -> i <= p.rest.length ->
 ∃ e : Nat, zbK p v kk k (i : Int) = some (.done (e : Int)) /\ (match zCq (p.rest.drop i) with | none => p.rest.length <= e | some n => e = i + n /\ e < p.rest.length) := by
 intro k
 have hb1 : big = 1152921504606846976 := rfl
 rw [ztz] at hl
 induction k with
 | zero => intro i h; omega
 | succ k ih =>
   intro i h1 h2
   rw [zbK, zdi, zjO]
   by_cases h : i < p.rest.length
   · obtain ⟨d, e, e2⟩ := zv2 h
     have e1 : ((d.toNat : Int) == 39) = (d == 39) := zwd d 39 (by decide)
     have e1' : ((d.toNat : Int) != 39) = !(d == 39) := congrArg (!·) e1
     rw [if_pos YJ, zbE, e, zad, zpo YJ, zad, zad, zc2, zdB, e1', e1, zdB, e2]
     by_cases hd : d = 39
     · subst hd
       simp only [beq_self_eq_true, ye, yF, if_false, if_true, zad, zdB]
       cases hs : p.rest.drop (i + 1) with
       | nil => exact ⟨i, rfl, by rw [zCq, if_pos rfl]; exact ⟨rfl, h⟩⟩
       | cons c s =>
         have h3 : i + 1 < p.rest.length := by
          have := congrArg List.length hs; simp at this; omega
         obtain ⟨c', e4, e5⟩ := zv2 h3
         rw [e5] at hs
         obtain ⟨hcc, hs2⟩ := List.cons.inj hs
         subst hcc
         clear hs
         rw [zaF YJ, zaF YJ]
         by_cases hc : c' = 39
         · subst hc
           rw [show zk2 (39 :: 39 :: s) [39, 39] = true by unfold zk2; simp [List.isPrefixOf], if_pos rfl]
           obtain ⟨e6, e7, e8⟩ := ih (i + 1 + 1) YJ YJ
           refine ⟨e6, e7, ?_⟩
           rw [zCq, if_pos rfl, if_pos rfl]
           rw [hs2] at e8
           cases hq : zCq s with
           | none => rw [hq] at e8; exact e8
           | some n => rw [hq] at e8; exact ⟨by simp only at e8 ⊢; omega, e8.2⟩
         · rw [show zk2 (39 :: c' :: s) [39, 39] = false by unfold zk2; simp [List.isPrefixOf]; exact fun e => hc e.symm, if_neg (by decide)]
           exact ⟨i, rfl, by rw [zCq, if_pos rfl, if_neg hc]; exact ⟨rfl, h⟩⟩
     · rw [show (d == 39) = false by simp [hd]]
       simp only [yx, yF, if_false, if_true, zad, zdB]
       rw [zaF YJ]
       obtain ⟨e6, e7, e8⟩ := ih (i + 1) YJ YJ
       refine ⟨e6, e7, ?_⟩
       cases hs : p.rest.drop (i + 1) with
       | nil =>
         rw [zCq, if_neg hd]
         rw [hs] at e8; exact e8
       | cons c s =>
         rw [zCq, if_neg hd]
         rw [hs] at e8
         cases hq : zCq (c :: s) with
         | none => rw [hq] at e8; exact e8
         | some n => rw [hq] at e8; exact ⟨by simp only at e8 ⊢; omega, e8.2⟩
   · rw [if_neg YJ, zad, zaC, show i = p.rest.length by omega]
     exact ⟨_, rfl, by simp [zCq]⟩
theorem zl2 {kk : Nat} (a : zab) (h : a.rest.length < lim) (hk : lim < kk := by decide) : zdM kk a = some (zlK a) := by
 have hl := ztz
 unfold zdM zlK zfq
 rw [zKq, zcs]
 by_cases hq : a.rest.head? = some 39
 · rw [if_pos hq, if_pos hq]
   obtain ⟨b, s, hs⟩ : ∃ b s, a.rest = b :: s := by
    cases hs : a.rest with
    | nil => rw [hs] at hq; cases hq
    | cons b s => exact ⟨b, s, rfl⟩
   have h0 : 1 <= a.rest.length := by rw [hs]; simp
   obtain ⟨e, e1, e2⟩ := zFK (v := Val.zero) (kk := kk) h kk 1 YJ h0
   rw [show (1 : Int) = ((1 : Nat) : Int) from rfl, e1, za5, zjO]
   cases hn : zCq (a.rest.drop 1) with
   | none => rw [hn] at e2; rw [if_pos (by simp only at e2; omega)]; cases a; rfl
   | some n =>
     rw [hn] at e2
     obtain ⟨e2, e3⟩ := e2
     rw [if_neg YJ, show (((1 : Nat) : Int)) = 1 from rfl, zaF (by unfold big; omega), zzK YJ, zad, zpo YJ, zad, zar (by simp; omega), zad, show e + 1 = n + 2 by omega]
     cases a; rfl
 · rw [if_neg hq, if_neg hq, zar ⟨h, by decide, by decide⟩, zad]
   have h2 := zkd zJM a.rest
   have e : zne a [45, 48, 49, 50, 51, 52, 53, 54, 55, 56, 57, 84, 82, 85, 69, 70, 65, 76, 83, 69] = zne a zJM := rfl
   rw [e, zar (show (zne a zJM).1.length < lim from (show (zvB zJM a.rest).1.length < lim by omega)), zad]; rfl
theorem zI1 (z : UInt8) (c : Sl Str) {kk : Nat} (L : Nat -> Int -> zab -> Option (Out (Int × zab) (Int × zab)))
 (h0 : ∀ k (i : Nat) p, ¬ i < c.l.length -> L (k + 1) (i : Int) p = some (.done ((i : Int), p)))
 (h1 : ∀ k (i : Nat) p w, i < c.l.length -> c.l[i]? = some w -> L (k + 1) (i : Int) p = if (zaQ (w ++ [z]) p.rest).1 = true then some (.ret ((i : Int), ⟨(zaQ (w ++ [z]) p.rest).2⟩)) else L k ((i + 1 : Nat) : Int) ⟨(zaQ (w ++ [z]) p.rest).2⟩) :
 ∀ (k i : Nat) (p : zab), c.l.length - i < k -> i <= c.l.length ->
   zgD (L k (i : Int) p) (fun r => some r) (fun q => some ((-1), q.2)) = some ((zcj z (c.l.drop i) (i : Int) p.rest).1, ⟨(zcj z (c.l.drop i) (i : Int) p.rest).2⟩) := by
 intro k
 induction k with
 | zero => intro i p h; omega
 | succ k ih =>
   intro i p hk hi
   by_cases h : i < c.l.length
   · have e : c.l[i]? = some c.l[i] := yB h
     rw [h1 k i p _ h e, yb h, zcj]
     by_cases ht : (zaQ (c.l[i] ++ [z]) p.rest).1 = true
     · rw [if_pos ht, if_pos ht]; rfl
     · rw [if_neg ht, if_neg ht, ih (i + 1) _ YJ YJ]
       have e2 : (zaQ (c.l[i] ++ [z]) p.rest).2 = p.rest := by
        unfold zaQ at ht ⊢; split
        · rename_i h3; rw [if_pos h3] at ht; exact absurd rfl ht
        · rfl
       rw [e2]; rfl
   · rw [h0 k i p h, List.drop_eq_nil_of_le YJ]; rfl
theorem zeL {kk : Nat} (a : Sl Str) (u1 : zab) (h : zyf a) (hk : lim < kk := by decide) : zbp kk a u1 = some (zHN a u1) := by
 have hl := ztz
 obtain ⟨h1, h2⟩ := h
 unfold zbp zHN
 refine (zI1 123 a (kk := kk) _ (fun k i p hi => ?_) (fun k i p w hi e => ?_) kk 0 u1 YJ YJ)
 · rw [zaI, zjO, if_neg YJ]
 · have hw := h2 w (yL e)
   rw [zaI, zjO, if_pos YJ, zbE, e, zad, zdV, zar (by unfold room; simp; omega), zad, zad, zdB, zaF (by unfold big; omega)]; rfl
theorem zeK {kk : Nat} (a : Sl Str) (u1 : zab) (h : zyf a) (hk : lim < kk := by decide) : zbo kk a u1 = some (zxn a u1) := by
 have hl := ztz
 obtain ⟨h1, h2⟩ := h
 unfold zbo zxn
 refine (zI1 32 a (kk := kk) _ (fun k i p hi => ?_) (fun k i p w hi e => ?_) kk 0 u1 YJ YJ)
 · rw [zaH, zjO, if_neg YJ]
 · have hw := h2 w (yL e)
   rw [zaH, zjO, if_pos YJ, zbE, e, zad, zdU, zar (by unfold room; simp; omega), zad, zad, zdB, zaF (by unfold big; omega)]; rfl
def leA (ann : zow) : Prop := ∀ s, (ann s).2.2.length <= s.length
theorem zxi (s : Str) : (zfq s).2.2.length <= s.length := by
 unfold zfq
 split
 · split
   · exact yP _
   · simp
 · have := zkd zJM s; simp only; omega
theorem zvL (s : Str) : (zhy s).2.2.length <= s.length := by have := zkd zcE s; unfold zhy; simp only; omega
theorem zI2 (z : UInt8) : ∀ (l : List Str) (i : Int) (s : Str), (zcj z l i s).2.length <= s.length := by
 intro l
 induction l with
 | nil => intro i s; exact yP _
 | cons w l ih =>
   intro i s; rw [zcj]; split
   · exact zdg _ _
   · exact ih _ _
theorem zMK (s : Str) : (ziq s).2.length <= s.length := by
 unfold ziq
 split
 · exact zdg _ _
 · split
   · exact zdg _ _
   · split
     · exact zdg _ _
     · split
       · exact zdg _ _
       · exact yP _
theorem zIY {ann : zow} (h : leA ann) : ∀ (k : Nat) (acc : List zae) (s : Str), (zkf ann k acc s).2.2.length <= s.length := by
 intro k
 induction k with
 | zero => intro acc s; exact yP _
 | succ k ih =>
   intro acc s
   rw [zkf]
   have h1 := zxi s
   generalize zfq s = gx at *
   rcases gx with ⟨v, ok, s1⟩
   simp only at h1 ⊢
   cases ok
   · exact h1
   · have h2 := zdg zro s1
     generalize zaQ zro s1 = gx at *
     rcases gx with ⟨c, s2⟩
     simp only [if_true] at h2 ⊢
     cases c
     · simp only [yF, if_false]; omega
     · have h3 := h s2
       generalize ann s2 = gx at *
       rcases gx with ⟨a, is, s3⟩
       simp only [if_true] at h3 ⊢
       cases is
       · simp only [yF, if_false]; omega
       · have h4 := zdg zl9 s3
         generalize zaQ zl9 s3 = gx at *
         rcases gx with ⟨c, s4⟩
         simp only [if_true] at h4 ⊢
         cases c
         · simp only [yF, if_false]; omega
         · have := ih (acc ++ [.mk v a]) s4
           simp only [if_true]; omega
theorem zQi {ann : zow} (h : leA ann) (s : Str) : (zty ann s).2.2.length <= s.length := by
 unfold zty
 have h1 := zI2 123 zde 0 s
 generalize zcj 123 zde 0 s = gx at *
 rcases gx with ⟨fn, s1⟩
 simp only at h1 ⊢
 split
 · exact h1
 · have h2 := zIY h (s1.length + 1) [] s1
   generalize zkf ann (s1.length + 1) [] s1 = gx at *
   rcases gx with ⟨its, ok, s2⟩
   simp only at h2 ⊢
   cases ok
   · simp only [yF, if_false]; omega
   · have h3 := zdg zlJ s2
     generalize zaQ zlJ s2 = gx at *
     rcases gx with ⟨c, s3⟩
     simp only [if_true] at h3 ⊢
     cases c
     · simp only [yF, if_false]; omega
     · have h4 := zI2 32 zc5 0 s3
       generalize zcj 32 zc5 0 s3 = gx at *
       rcases gx with ⟨i, s4⟩
       have h5 := zxi s4
       generalize zfq s4 = gx at *
       rcases gx with ⟨v, ok, s5⟩
       simp only [if_true] at h4 h5 ⊢; omega
theorem zNF {ann : zow} (h : leA ann) (s : Str) : (zrA ann s).2.2.length <= s.length := by
 unfold zrA
 have h0 := zMK s
 generalize ziq s = gx at *
 rcases gx with ⟨k, s0⟩
 simp only at h0 ⊢
 split
 · have := zkd zIL s0; simp only; omega
 · split
   · have h1 := zQi h s0
     generalize zty ann s0 = gx at *
     rcases gx with ⟨x, ok, s1⟩
     have h2 := zdg [93] s1
     simp only at h1 ⊢
     cases ok
     · simp only [yF, if_false]; omega
     · simp only [if_true]; omega
   · have h1 := h s0
     generalize ann s0 = gx at *
     rcases gx with ⟨a, ok, s1⟩
     simp only at h1 ⊢
     have h2 := zdg [93] s1
     cases ok
     · simp only [yF, if_false]; omega
     · simp only [if_true]
       split
       · have h3 := zdg zrn s1
         generalize zaQ zrn s1 = gx at *
         rcases gx with ⟨c, s2⟩
         simp only at h3 ⊢
         cases c
         · simp only [yF, if_false]; omega
         · have h4 := h s2
           generalize ann s2 = gx at *
           rcases gx with ⟨b, ok2, s3⟩
           have h5 := zdg [93] s3
           simp only [if_true] at h4 ⊢
           cases ok2
           · simp only [yF, if_false]; omega
           · simp only [if_true]; omega
       · simp only; omega
theorem zMW {ann : zow} (h : leA ann) (s : Str) : (zoP ann s).2.2.length <= s.length := by
 unfold zoP
 have h1 := zNF h s
 generalize zrA ann s = gx at *
 rcases gx with ⟨x, ok, s1⟩
 simp only at h1 ⊢
 cases ok
 · exact h1
 · have h2 := zdg [94] s1
   generalize zaQ [94] s1 = gx at *
   rcases gx with ⟨c, s2⟩
   simp only [if_true] at h2 ⊢
   cases c
   · simp only [yF, if_false]; omega
   · have := zvL s2; simp only [if_true]; omega
theorem zCD {ann : zow} (h : leA ann) : ∀ (k : Nat) (acc : List zaj) (s : Str), (zic ann k acc s).2.2.length <= s.length := by
 intro k
 induction k with
 | zero => intro acc s; exact yP _
 | succ k ih =>
   intro acc s
   rw [zic]
   have h1 := zMW h s
   generalize zoP ann s = gx at *
   rcases gx with ⟨f, ok, s1⟩
   simp only at h1 ⊢
   cases ok
   · exact h1
   · have h2 := zdg [42] s1
     generalize zaQ [42] s1 = gx at *
     rcases gx with ⟨c, s2⟩
     simp only [if_true] at h2 ⊢
     cases c
     · simp only [yF, if_false]; omega
     · have := ih (acc ++ [f]) s2
       simp only [if_true]; omega
theorem zLD {ann : zow} (h : leA ann) (s : Str) : (zvH ann s).2.2.length <= s.length := by
 unfold zvH zyj
 split
 · have h1 := zvL s
   generalize zhy s = gx at *
   rcases gx with ⟨n, ok, s1⟩
   simp only at h1 ⊢
   cases ok
   · exact h1
   · have h2 := zdg [42] s1
     generalize zaQ [42] s1 = gx at *
     rcases gx with ⟨c, s2⟩
     simp only [if_true] at h2 ⊢
     cases c
     · simp only [yF, if_false]; omega
     · have := zCD h (s2.length + 1) [] s2
       simp only [if_true]; exact Nat.le_trans this YJ
 · exact zCD h _ _ _
theorem zOn {ann : zow} (h : leA ann) : ∀ (k : Nat) (acc : List zam) (s : Str), (znd ann k acc s).2.2.length <= s.length := by
 intro k
 induction k with
 | zero => intro acc s; exact yP _
 | succ k ih =>
   intro acc s
   rw [znd]
   have h1 := zLD h s
   generalize zvH ann s = gx at *
   rcases gx with ⟨f, ok, s1⟩
   simp only at h1 ⊢
   cases ok
   · exact h1
   · have h2 := zdg zma s1
     generalize zaQ zma s1 = gx at *
     rcases gx with ⟨c, s2⟩
     simp only [if_true] at h2 ⊢
     cases c
     · simp only [yF, if_false]; omega
     · have := ih (acc ++ [f]) s2
       simp only [if_true]; omega
theorem zGy : ∀ d, leA (zng d) := by
 intro d
 induction d with
 | zero => intro s; exact yP _
 | succ d ih =>
   intro s
   rw [zng]
   have h1 := zdg [48] s
   generalize zaQ [48] s = gx at *
   rcases gx with ⟨c, s1⟩
   simp only at h1 ⊢
   cases c
   · have := zOn ih (s1.length + 1) [] s1
     simp only [yF, if_false]; omega
   · exact h1
theorem zC9 {b : UInt8} {p s r : Str} (h : zaQ (b :: p) s = (true, r)) : r.length < s.length := by
 have := zEY h; simp at this; omega
theorem zMp {α : Type} (l : List α) (x : α) : Sl.of (l ++ [x]) = Sl.out (l ++ [x]) := by cases l <;> rfl
theorem zTc (t : zam) (a b : Sl zaj) : (t.setFactors a).setFactors b = t.setFactors b := by cases t; rfl
theorem zEX {c : Int} {c16 : zam} {sz kk : Nat} (hc : 0 <= c /\ c <= 8 /\ 4 * (c + 1).toNat + 1 < sz) : ∀ (k f : Nat) (p : zab) (t : zam) (acc : List zaj),
 p.rest.length < k -> p.rest.length < f -> p.rest.length + acc.length < lim ->
 zb1 c c16 sz kk k p t acc = some (.ret (t.setFactors (Sl.out (zic (zng c.toNat) f acc p.rest).1), (zic (zng c.toNat) f acc p.rest).2.1, ⟨(zic (zng c.toNat) f acc p.rest).2.2⟩)) := by
 intro k
 have hl := ztz
 induction k with
 | zero => intro f p t acc h; omega
 | succ k ih =>
   intro f p t acc h1 h2 h3
   obtain ⟨f, rfl⟩ : ∃ j, f = j + 1 := ⟨f - 1, by omega⟩
   have hlen := zNF (zGy c.toNat) p.rest
   rw [zb1, zic, zoP, zar ⟨by omega, hc⟩, zad]
   simp only [zgQ]
   generalize zrA (zng c.toNat) p.rest = gx at *
   rcases gx with ⟨x, ok, s1⟩
   simp only at hlen ⊢
   cases ok
   · rfl
   · simp only [if_true, zat, zaR]
     have h4 := zdg [94] s1
     rcases ht : zaQ [94] s1 with ⟨b, s2⟩
     rw [ht] at h4
     simp only at h4 ⊢
     have hr : (acc.length + 1) * 128 <= room := by unfold room; omega
     cases b
     · simp only [zaC, yF, if_false, if_true, zar hr, zad, zc2]
       rcases hm : zaQ [42] s2 with ⟨d, s3⟩
       cases d
       · simp only [zaC, yF, if_false, zTc, zMp]; rfl
       · have h5 := zC9 hm
         simp only [zat, if_true]
         exact ih f ⟨s3⟩ t _ (by simp only; omega) (by simp only; omega) (by simp only [yD, yC, yI]; omega)
     · simp only [zat, if_true, zmb]
       have h6 := zvL s2
       rw [zar YJ, zad]
       generalize zhy s2 = gx at *
       rcases gx with ⟨n, ok, s3⟩
       simp only at h6 ⊢
       cases ok
       · rfl
       · simp only [ye, zaC, zar hr, zad, zc2]
         rcases hm : zaQ [42] s3 with ⟨d, s4⟩
         cases d
         · simp only [zaC, yF, if_false, zTc, zMp]; rfl
         · have h5 := zC9 hm
           simp only [zat, if_true]
           exact ih f ⟨s4⟩ t _ (by simp only; omega) (by simp only; omega) (by simp only [yD, yC, yI]; omega)
theorem znK {kk sz : Nat} {a : zab} {b : Int} (h : a.rest.length < lim /\ 0 <= b /\ b <= 8 /\ 4 * (b + 1).toNat + 2 < sz + 1) (hk : lim < kk := by decide) : ze0 kk sz a b = some (zoj a b) := by
 obtain ⟨h1, h2⟩ := h
 have hl := ztz
 have e0 : zc1 b a zam.zero (zam.zero.setCoeff 1) sz kk = some (zno a.rest) := by
  unfold zc1
  rw [zc2, zcs]
  cases hs : a.rest with
  | nil => rfl
  | cons c s =>
    rw [if_neg (by simp)]
    simp only [yH, zad, zno]
    congr 2
    · rw [decide_eq_decide]; omega
    · rw [decide_eq_decide]; omega
 unfold ze0 zdR zoj zvH zyj
 rw [e0, zad]
 cases hd : zno a.rest
 · simp only [zaC, za5, yF, if_false]
   rw [zEX YJ kk (a.rest.length + 1) a _ [] YJ YJ (by simp; omega), zmC]; rfl
 · simp only [zat, if_true, zar h1, zad, zmb, Bool.not_not]
   have h6 := zvL a.rest
   generalize zhy a.rest = gx at *
   rcases gx with ⟨n, ok, s1⟩
   simp only at h6 ⊢
   cases ok
   · rfl
   · simp only [zat, if_true, zaR, zc2]
     have h4 := zdg [42] s1
     generalize zaQ [42] s1 = gx at *
     rcases gx with ⟨c, s2⟩
     simp only at h4 ⊢
     cases c
     · rfl
     · simp only [zat, za5, if_true]
       rw [zEX YJ kk (s2.length + 1) ⟨s2⟩ _ [] (by simp only; omega) (by simp only; omega) (by simp; omega), zmC]; rfl
theorem zPt {c : Int} {sz kk : Nat} (hc : 0 <= c /\ c <= 8 /\ 4 * (c + 1).toNat + 2 < sz) : ∀ (k f : Nat) (p : zab) (acc : List zam),
 p.rest.length < k -> p.rest.length < f -> p.rest.length + acc.length < lim ->
 zbN c sz kk k acc p = some (.ret ((znd (zng c.toNat) f acc p.rest).1, (znd (zng c.toNat) f acc p.rest).2.1, ⟨(znd (zng c.toNat) f acc p.rest).2.2⟩)) := by
 intro k
 have hl := ztz
 induction k with
 | zero => intro f p acc h; omega
 | succ k ih =>
   intro f p acc h1 h2 h3
   obtain ⟨f, rfl⟩ : ∃ j, f = j + 1 := ⟨f - 1, by omega⟩
   have hlen := zLD (zGy c.toNat) p.rest
   rw [zbN, znd, zar ⟨by omega, hc⟩, zad]
   simp only [zoj]
   generalize zvH (zng c.toNat) p.rest = gx at *
   rcases gx with ⟨x, ok, s1⟩
   simp only at hlen ⊢
   cases ok
   · rfl
   · have hr : (acc.length + 1) * 32 <= room := by unfold room; omega
     simp only [if_true, ye, zaC, zaR, zar hr, zad, zc2]
     rcases hm : zaQ [32, 43, 32] s1 with ⟨d, s4⟩
     rw [show zma = [32, 43, 32] from rfl, hm]
     cases d
     · simp only [zaC, yF, if_false, zMp]
     · have h5 := zC9 hm
       simp only [zat, if_true]
       exact ih f ⟨s4⟩ _ (by simp only; omega) (by simp only; omega) (by simp only [yD, yC, yI]; omega)
theorem zkT {kk sz : Nat} {a : zab} {b : Int} (h : a.rest.length < lim /\ -1 <= b /\ b <= 8 /\ 4 * (b + 1).toNat + 3 < sz + 1) (hk : lim < kk := by decide) : zdb kk sz a b = some (zc4 a b) := by
 obtain ⟨h1, h2⟩ := h
 unfold zdb zc4
 rw [zjO]
 by_cases hb : b < 0
 · rw [if_pos hb, show (b + 1).toNat = 0 by omega]; rfl
 · rw [if_neg hb, show (b + 1).toNat = b.toNat + 1 by omega]
   simp only [zng, zaR]
   have h4 := zdg [48] a.rest
   generalize zaQ [48] a.rest = gx at *
   rcases gx with ⟨c, s⟩
   simp only at h4 ⊢
   cases c
   · simp only [zaC, yF, if_false]
     rw [zPt YJ kk (s.length + 1) ⟨s⟩ [] (by simp only; omega) (by simp only; omega) (by simp; omega), zmC]
   · rfl
theorem zKl {c : Int} {sz kk : Nat} (hc : 0 <= c /\ c <= 8 /\ 4 * (c + 1).toNat < sz + 1) : ∀ (k f : Nat) (p : zab) (t : zas) (acc : List zae),
 0 <= t.func -> p.rest.length < k -> p.rest.length < f -> p.rest.length + acc.length < lim ->
 zb0 c sz kk k p t acc = if (zkf (zng c.toNat) f acc p.rest).2.1 = true then some (.done (⟨(zkf (zng c.toNat) f acc p.rest).2.2⟩, t, (zkf (zng c.toNat) f acc p.rest).1))
  else some (.ret (false, ⟨(zkf (zng c.toNat) f acc p.rest).2.2⟩, t.setItems (Sl.out (zkf (zng c.toNat) f acc p.rest).1))) := by
 intro k
 have hl := ztz
 induction k with
 | zero => intro f p t acc h0 h; omega
 | succ k ih =>
   intro f p t acc h0 h1 h2 h3
   obtain ⟨f, rfl⟩ : ∃ j, f = j + 1 := ⟨f - 1, by omega⟩
   have hlen := zxi p.rest
   rw [zb0, zkf, YH h0, zat, zar YJ, zad]
   simp only [zlK]
   generalize zfq p.rest = gx at *
   rcases gx with ⟨v, ok, s1⟩
   simp only at hlen ⊢
   cases ok
   · rfl
   · simp only [if_true, Bool.not_not, ye, yx, zat, zaR]
     have h4 := zdg [58, 32] s1
     rw [show zro = [58, 32] from rfl, show zl9 = [59, 32] from rfl]
     generalize zaQ [58, 32] s1 = gx at *
     rcases gx with ⟨b, s2⟩
     simp only at h4 ⊢
     cases b
     · rfl
     · have h5 := zGy c.toNat s2
       have hr : (acc.length + 1) * 56 <= room := by unfold room; omega
       have ew : IntKind.wrap .i64 (c - 1) = c - 1 := zcG YJ YJ
       simp only [ye, zaC, if_true, zc4, ew]
       rw [zar YJ, zad, show (c - 1 + 1).toNat = c.toNat by omega]
       generalize zng c.toNat s2 = gx at *
       rcases gx with ⟨a, is, s3⟩
       simp only at h5 ⊢
       cases is
       · rfl
       · simp only [ye, zaC, if_true, zar hr, zad, zc2]
         rcases hm : zaQ [59, 32] s3 with ⟨d, s4⟩
         cases d
         · rfl
         · have h6 := zC9 hm
           simp only [zat, if_true]
           exact ih f ⟨s4⟩ t _ h0 (by simp only; omega) (by simp only; omega) (by simp only [yD, yC, yI]; omega)
theorem zMG (z : UInt8) : ∀ (l : List Str) (i : Int) (s : Str), 0 <= i -> (zcj z l i s).1 = -1 ∨ (0 <= (zcj z l i s).1 /\ (zcj z l i s).1 < i + l.length) := by
 intro l
 induction l with
 | nil => intro i s _; exact .inl rfl
 | cons w l ih =>
   intro i s h; rw [zcj]; split
   · right; simp only [yC]; omega
   · rcases ih (i + 1) s YJ with h1 | h1
     · exact .inl h1
     · right; simp only [yC]; omega
theorem zOv : zyf zly := ⟨by decide, by decide⟩
theorem zOu : zyf zgZ := ⟨by decide, by decide⟩
theorem znJ {kk sz : Nat} {a : zab} {b : zas} {c : Int} (h : a.rest.length < lim /\ b = zas.zero.setKind 4 /\ 0 <= c /\ c <= 8 /\ 4 * (c + 1).toNat < sz + 1) (hk : lim < kk := by decide) : zdy kk sz a b c = some (zds a b c) := by
 obtain ⟨h1, rfl, h2⟩ := h
 have hl := ztz
 unfold zdy zds zty
 rw [zar zOv, zad]
 have h3 := zI2 123 zde 0 a.rest
 simp only [zHN, show (zly).l = zde from rfl]
 generalize zcj 123 zde 0 a.rest = gx at *
 rcases gx with ⟨fn, s1⟩
 simp only at h3 ⊢
 by_cases hf : fn < 0
 · obtain ⟨k, rfl⟩ : ∃ j, kk = j + 1 := ⟨kk - 1, by omega⟩
   rw [zb0, if_pos hf]
   have e : ((zas.zero.setKind 4).setFunc fn).func = fn := rfl
   simp only [e, YI (show ¬ (0 : Int) <= fn by omega), zaC, za5, YH hf, ye]
   rfl
 · rw [if_neg hf, zKl h2 kk (s1.length + 1) ⟨s1⟩ _ [] (by show 0 <= fn; omega) (by simp only; omega) (by simp only; omega) (by simp; omega)]
   have h5 := zIY (zGy c.toNat) (s1.length + 1) [] s1
   generalize zkf (zng c.toNat) (s1.length + 1) [] s1 = gx at *
   rcases gx with ⟨its, ok, s2⟩
   simp only at h5 ⊢
   cases ok
   · rfl
   · have e : ((zas.zero.setKind 4).setFunc fn).func = fn := rfl
     simp only [if_true, za5, e, YI hf, yx, zat, zaR]
     rw [show zlJ = [125, 32] from rfl]
     have h6 := zdg [125, 32] s2
     obtain ⟨d, s3, ht⟩ : ∃ d s3, zaQ [125, 32] s2 = (d, s3) := ⟨_, _, rfl⟩
     simp only [ht] at h6 ⊢
     cases d
     · rfl
     · simp only [ye, zaC, if_true, zxn, show (zgZ).l = zc5 from rfl]
       rw [zar zOu, zad]
       have h7 := zI2 32 zc5 0 s3
       have h8 := zMG 32 zc5 0 s3 YJ
       have h9 : (zc5.length : Int) = 6 := rfl
       generalize zcj 32 zc5 0 s3 = gx at *
       rcases gx with ⟨i, s4⟩
       simp only at h7 h8 ⊢
       rw [zar YJ, zad, zcG YJ YJ]
       rfl
theorem zJF (ann : zow) (s : Str) : Sl.out (zty ann s).1.items.l = (zty ann s).1.items := by
 unfold zty
 generalize zcj 123 zde 0 s = gx
 rcases gx with ⟨fn, s1⟩
 simp only
 split
 · rfl
 · generalize zkf ann (s1.length + 1) [] s1 = gx
   rcases gx with ⟨its, ok, s2⟩
   simp only
   cases ok
   · simp only [yF, if_false, zas.items, Sl.out_l]
   · generalize zaQ zlJ s2 = gx
     rcases gx with ⟨c, s3⟩
     simp only [if_true]
     cases c
     · simp only [yF, if_false, zas.items, Sl.out_l]
     · simp only [if_true, zas.items, Sl.out_l]
theorem znM {kk sz : Nat} {a : zab} {b : Int} (h : a.rest.length < lim /\ 0 <= b /\ b <= 8 /\ 4 * (b + 1).toNat + 1 < sz + 1) (hk : lim < kk := by decide) : ze1 kk sz a b = some (zgQ a b) := by
 obtain ⟨h1, h2⟩ := h
 have hl := ztz
 unfold ze1 zdS zsk zgQ zrA
 have h3 := zMK a.rest
 generalize ziq a.rest = gx at *
 rcases gx with ⟨k, s0⟩
 simp only [zad] at h3 ⊢
 have ek : (if k = 0 then zas.zero.kind else k) = k := by
  by_cases hz : k = 0
  · rw [if_pos hz, hz]; rfl
  · rw [if_neg hz]
 rw [ek]
 by_cases h0 : k = 0
 · subst h0
   have h4 := zkd zIL s0
   simp only [if_true, beq_self_eq_true, zat]
   rw [zar ⟨by omega, by decide, by decide⟩, zad, zar (show (zne ⟨s0⟩ [116, 46, 48, 49, 50, 51, 52, 53, 54, 55, 56, 57]).1.length < lim from (show (zvB zIL s0).1.length < lim by omega)), zad]
   rfl
 · rw [if_neg h0, show (k == 0) = false by simpa using h0, zaC]
   by_cases h4 : k = 4
   · subst h4
     simp only [if_true, beq_self_eq_true, zat]
     rw [zar ⟨by omega, trivial, by omega⟩, zad]
     simp only [zds]
     have h5 := zJF (zng b.toNat) s0
     generalize zty (zng b.toNat) s0 = gx at *
     rcases gx with ⟨x, ok, s1⟩
     simp only at h5 ⊢
     have e : x.setItems (Sl.out x.items.l) = x := by rw [h5]; cases x; rfl
     rw [e]
     cases ok <;> rfl
   · rw [if_neg h4, show (k == 4) = false by simpa using h4, zaC]
     have ew : IntKind.wrap .i64 (b - 1) = b - 1 := zcG YJ YJ
     have h5 := zGy b.toNat s0
     simp only [zc4, ew]
     rw [zar YJ, zad, show (b - 1 + 1).toNat = b.toNat by omega]
     generalize zng b.toNat s0 = gx at *
     rcases gx with ⟨x, ok, s1⟩
     simp only at h5 ⊢
     cases ok
     · simp only [Bool.false_and, zaC]; rfl
     · simp only [yz, zaR]
       by_cases h6 : k = 1
       · subst h6
         simp only [beq_self_eq_true, if_true, zat]
         rw [show zrn = [44, 32] from rfl]
         have h7 := zdg [44, 32] s1
         generalize zaQ [44, 32] s1 = gx at *
         rcases gx with ⟨d, s2⟩
         simp only at h7 ⊢
         cases d
         · rfl
         · simp only [zat, if_true]
           rw [zar YJ, zad]
           generalize zng b.toNat s2 = gx at *
           rcases gx with ⟨y, ok2, s3⟩
           simp only
           cases ok2 <;> rfl
       · rw [if_neg h6, show (k == 1) = false by simpa using h6, zaC, zat]; rfl
theorem zrR (kk : Nat) (a : Sl zam) (h : zbB a.l /\ 20 * zak a.l + 1 < lim) : zhO kk a = some (ziv a) := by
 obtain ⟨h1, h2⟩ := h
 have hl := ztz
 have hb : big = 1152921504606846976 := rfl
 unfold zhO ziv
 rw [zar YJ, zad, zc2, zdB]
 split
 · rename_i hv
   rw [zar ⟨by unfold zb2 at hv; simp only [yK] at hv; exact hv.1.2, h1, by omega, by omega⟩, zad]
 · rfl
theorem zBa (kk : Nat) (a : Sl zam) (h : zbB a.l /\ 20 * zak a.l + 1 < lim) : zoD kk a = some (ziv a) := by
 obtain ⟨h1, h2⟩ := h
 have hl := ztz
 have hb : big = 1152921504606846976 := rfl
 unfold zoD ziv
 rw [zar YJ, zad, zc2, zdB]
 split
 · rename_i hv
   rw [zar ⟨by unfold zb2 at hv; simp only [yK] at hv; exact hv.1.2, h1, by omega, by omega⟩, zad]
 · rfl
theorem zsU {kk : Nat} (a : Str) (h : 5 * a.length < lim) : zig kk a = some (zib a) := by
 have hl := ztz
 have hb : big = 1152921504606846976 := rfl
 unfold zig zib
 have e : zab.zero.setRest a = ⟨a⟩ := rfl
 simp only [e, zc4, show ((8 : Int) + 1).toNat = 9 from rfl]
 rw [zar ⟨by omega, by omega, by omega, by omega⟩, zad]
 have hin := zP7 9 a
 generalize zng 9 a = gx at *
 rcases gx with ⟨x, ok, s⟩
 simp only
 cases ok
 · rfl
 · cases s with
   | cons c s => rfl
   | nil =>
     obtain ⟨hw, hs⟩ := hin x [] rfl
     simp only [yI, Nat.mul_zero, Nat.add_zero] at hs
     simp only [ye, Bool.false_or, List.isEmpty_nil, yz, show ((([] : Str) == []) = true) from rfl, Bool.not_not, yx, zat]
     rw [zar YJ, zad, zdB]
     cases hv : zb2 x
     · simp
     · rw [if_pos rfl, zar ⟨by unfold zb2 at hv; simp only [yK] at hv; exact hv.1.2, hw, by omega, by omega⟩, zad, zc2, zdB, yz]
       cases (zcu x == a) <;> rfl
theorem zON {s : Str} {a : Sl zam} (h : zib s = (a, 0)) : zbB a.l /\ zak a.l <= 5 * s.length := by
 unfold zib at h
 have hin := zP7 9 s
 generalize zng 9 s = gx at *
 rcases gx with ⟨x, ok, r⟩
 simp only at h
 split at h
 · rename_i hc
   obtain ⟨rfl, _⟩ := YE h
   simp only [yK] at hc
   obtain ⟨⟨⟨hc, _⟩, _⟩, _⟩ := hc
   subst hc
   obtain ⟨h1, h2⟩ := hin _ r rfl
   exact ⟨h1, by omega⟩
 · cases h
def zk8 : Nat -> List Int -> Int -> List Int × Int
 | 0, l, x => (l, x)
 | j + 1, l, x => if x < 128 then (l, x) else zk8 j (l ++ [orK .u8 (IntKind.wrap .u8 x) 128]) (zyK .u64 x 7)
theorem zvj : ∀ (j : Nat) (l : List Int) (x : Int), (zk8 j l x).1.length <= l.length + j
 | 0, l, x => yP _
 | j + 1, l, x => by
   unfold zk8
   split
   · simp
   · have := zvj j (l ++ [orK .u8 (IntKind.wrap .u8 x) 128]) (zyK .u64 x 7)
     simp at this; omega
def zC6 (l : List Int) (x : Int) : List Int := (zk8 9 l x).1 ++ [IntKind.wrap .u8 (zk8 9 l x).2]
def zHn (l : List Int) (s : Str) : List Int := zC6 l (IntKind.wrap .u64 (s.length : Int)) ++ s2b s
theorem zIE (l : List Int) (x : Int) : (zC6 l x).length <= l.length + 10 := by
 have := zvj 9 l x; simp [zC6]; omega
def okE (a : zfV) (b : Sl Int) : Prop := zoc a.values.l <= 1048576 /\ zak a.ann.l <= 1048576 /\ zbB a.ann.l /\ (∀ v ∈ a.values.l, zlH v) /\ b.l.length <= 1048576 /\ ∀ x ∈ b.l, 0 <= x /\ x < 256
def zHe (_ : zfV) (_ : Sl Int) : Bool := true
end Go.Ev
namespace Go.Ev
open Go.IntKind (wrap)
noncomputable def zdL (c1 : Sl Val) (c2 : Int) (kk : Nat) : Nat -> Int -> Option (Out (Bool) (Int))
 | 0, _ => none
 | k + 1, s3 =>
   sel (
    bnd (ix c1.l s3) fun (y4 : Val) =>
    sel (
     some (.ret false)) (
     zdL c1 c2 kk k (wrap .i64 (s3 + 1))) (!((zaE y4)))) (
    some (.done s3)) (decide (s3 < c2))
noncomputable def zh2 (kk : Nat) (a : (Sl Val)) : Option (Bool) :=
 zgD (zdL a (a.l.length : Int) kk kk 0) (fun r => some r) fun (q5 : Int) =>
  some true
noncomputable def zlG (kk : Nat) (a : Int) : Option (Int) :=
 some (zN9 .u64 (zOw .u64 (wrap .u64 a) 1) (wrap .u64 (zyK .i64 a 63)))
noncomputable def zcm (c4 : Sl Val) (c5 : Int) (kk : Nat) : Nat -> List Int -> Int -> Option (Out ((Sl Int)) (List Int × Int))
 | 0, _, _ => none
 | k + 1, s3, s6 =>
   sel (
    bnd (ix c4.l s6) fun (y7 : Val) =>
    bnd (okP ((s3.length + 1) * 1 <= room)) fun _ =>
    sel (
     bnd (zlG kk y7.int) fun (r9 : Int) =>
     bnd (okP (0 <= r9 /\ r9 < 18446744073709551616 /\ (s3 ++ [(wrap .u8 y7.kind)]).length + 16 < lim)) fun _ =>
     zcm c4 c5 kk k (zC6 (s3 ++ [(wrap .u8 y7.kind)]) r9) (wrap .i64 (s6 + 1))) (
     sel (
      bnd (okP ((s3 ++ [(wrap .u8 y7.kind)]).length + y7.text.length + 16 < lim)) fun _ =>
      zcm c4 c5 kk k (zHn (s3 ++ [(wrap .u8 y7.kind)]) y7.text) (wrap .i64 (s6 + 1))) (
      bnd (okP (((s3 ++ [(wrap .u8 y7.kind)]).length + 1) * 1 <= room)) fun _ =>
      zcm c4 c5 kk k ((s3 ++ [(wrap .u8 y7.kind)]) ++ [(wrap .u8 y7.int)]) (wrap .i64 (s6 + 1))) (y7.kind == 1)) (y7.kind == 0)) (
    some (.done (s3, s6))) (decide (s6 < c5))
noncomputable def zhk (kk : Nat) (a : (Sl Val)) : Option ((Sl Int)) :=
 bnd (zh2 kk a) fun (r1 : Bool) =>
 sel (
  some Sl.nil) (
  bnd (okP (0 <= (wrap .u64 (a.l.length : Int)) /\ (wrap .u64 (a.l.length : Int)) < 18446744073709551616 /\ ([] : List Int).length + 16 < lim)) fun _ =>
  zgD (zcm a (a.l.length : Int) kk kk (zC6 [] (wrap .u64 (a.l.length : Int))) 0) (fun r => some r) fun (q13 : List Int × Int) =>
   some (Sl.of q13.1)) (!(r1))
noncomputable def zh3 (c1 : Sl Int) (kk : Nat) : Nat -> Int -> Int -> Option (Out (Int × Int × Int) (Int × Int))
 | 0, _, _ => none
 | k + 1, s2, s3 =>
   sel (
    bnd (ix c1.l s3) fun (y4 : Int) =>
    sel (
     some (.done (s2, s3))) (
     bnd (okP (((wrap .i64 (7 * s3)) < 0) = False)) fun _ =>
     sel (
      sel (
       some (.done ((orK .u64 s2 (zOw .u64 (wrap .u64 (zJv .u8 y4 127)) (wrap .i64 (7 * s3)))), s3))) (
       some (.ret ((orK .u64 s2 (zOw .u64 (wrap .u64 (zJv .u8 y4 127)) (wrap .i64 (7 * s3)))), (wrap .i64 (s3 + 1)), 0))) ((y4 == 0) && (decide (0 < s3)))) (
      zh3 c1 kk k (orK .u64 s2 (zOw .u64 (wrap .u64 (zJv .u8 y4 127)) (wrap .i64 (7 * s3)))) (wrap .i64 (s3 + 1))) (decide (y4 < 128))) ((s3 == 9) && (decide (1 < y4)))) (
    some (.done (s2, s3))) ((decide (s3 < (c1.l.length : Int))) && (decide (s3 < 10)))
noncomputable def ziJ (kk : Nat) (a : (Sl Int)) : Option (Int × Int × Int) :=
 zgD (zh3 a kk kk 0 0) (fun r => some r) fun (q6 : Int × Int) =>
  some (0, 0, 12)
noncomputable def zgO (kk : Nat) (a : (Sl Int)) : Option (Str × Int × Int) :=
 bnd (ziJ kk a) fun (r1 : Int × Int × Int) =>
 sel (
  some ([], 0, 12)) (
  bnd (zBq a (some r1.2.1) (some (wrap .i64 (r1.2.1 + (wrap .i64 r1.1))))) fun (y2 : Sl Int) =>
  some ((b2s y2.l), (wrap .i64 (r1.2.1 + (wrap .i64 r1.1))), 0)) ((r1.2.2 != 0) || (decide ((wrap .u64 (wrap .i64 ((a.l.length : Int) - r1.2.1))) < r1.1)))
noncomputable def zh0 (kk : Nat) (a : Int) : Option (Int) :=
 some (zN9 .i64 (wrap .i64 (zyK .u64 a 1)) (wrap .i64 (0 - (wrap .i64 (zJv .u64 a 1)))))
noncomputable def zh1 (kk : Nat) (a : (Sl Int)) : Option (Val × (Sl Int) × Bool) :=
 sel (
  some (Val.zero, Sl.nil, false)) (
  bnd (a.l[0]?) fun (y1 : Int) =>
  bnd (zBq a (some 1) none) fun (y2 : Sl Int) =>
  sel (
   bnd (ziJ kk y2) fun (r3 : Int × Int × Int) =>
   bnd (zh0 kk r3.1) fun (r4 : Int) =>
   bnd (zBq y2 (some r3.2.1) none) fun (y5 : Sl Int) =>
   some (((Val.zero.setKind (wrap .i64 y1)).setInt r4), y5, (r3.2.2 == 0))) (
   sel (
    bnd (zgO kk y2) fun (r6 : Str × Int × Int) =>
    bnd (zBq y2 (some r6.2.1) none) fun (y7 : Sl Int) =>
    some (((Val.zero.setKind (wrap .i64 y1)).setText r6.1), y7, (r6.2.2 == 0))) (
    sel (
     sel (
      bnd (y2.l[0]?) fun (y8 : Int) =>
      bnd (zBq y2 (some 1) none) fun (y9 : Sl Int) =>
      some (((Val.zero.setKind (wrap .i64 y1)).setInt (wrap .i64 y8)), y9, true)) (
      some (Val.zero, Sl.nil, false)) (decide (0 < (y2.l.length : Int)))) (
     some (Val.zero, Sl.nil, false)) ((wrap .i64 y1) == 2)) ((wrap .i64 y1) == 1)) ((wrap .i64 y1) == 0)) ((a.l.length : Int) == 0)
noncomputable def zdo (kk : Nat) : Nat -> Sl Int -> Int -> List Val -> Option (Out ((Sl Val) × Int) (Sl Int × Int × List Val))
 | 0, _, _, _ => none
 | k + 1, s3, s4, s5 =>
   sel (
    bnd (zh1 kk s3) fun (r6 : Val × (Sl Int) × Bool) =>
    sel (
     some (.ret (Sl.nil, 12))) (
     bnd (okP ((s5.length + 1) * 32 <= room)) fun _ =>
     zdo kk k r6.2.1 (wrap .u64 (s4 - 1)) (s5 ++ [r6.1])) ((!(r6.2.2)) || (!((zaE r6.1))))) (
    some (.done (s3, s4, s5))) (decide (0 < s4))
noncomputable def zhl (kk : Nat) (a : (Sl Int)) : Option ((Sl Val) × Int) :=
 bnd (ziJ kk a) fun (r1 : Int × Int × Int) =>
 sel (
  some (Sl.nil, 12)) (
  bnd (zBq a (some r1.2.1) none) fun (y2 : Sl Int) =>
  zgD (zdo kk kk y2 r1.1 []) (fun r => some r) fun (q8 : Sl Int × Int × List Val) =>
   sel (
    some (Sl.nil, 12)) (
    some ((Sl.out q8.2.2), 0)) (decide (0 < (q8.1.l.length : Int)))) (r1.2.2 != 0)
noncomputable def zeV (kk : Nat) : Nat -> Int -> List Int -> Option (Out ((Sl Int)) (Int × List Int))
 | 0, _, _ => none
 | k + 1, s2, s3 =>
   sel (
    bnd (okP ((s3.length + 1) * 1 <= room)) fun _ =>
    zeV kk k (zyK .u64 s2 7) (s3 ++ [(wrap .u8 (orK .u64 (zJv .u64 s2 127) 128))])) (
    some (.done (s2, s3))) (decide (128 <= s2))
noncomputable def zdj (kk : Nat) (a : (Sl Int)) (b : Int) : Option ((Sl Int)) :=
 bnd (okP ((([] : List Int).length + a.l.length) * 1 <= room)) fun _ =>
 zgD (zeV kk kk b (([] : List Int) ++ a.l)) (fun r => some r) fun (q5 : Int × List Int) =>
  bnd (okP ((q5.2.length + 1) * 1 <= room)) fun _ =>
  some (Sl.of (q5.2 ++ [(wrap .u8 q5.1)]))
noncomputable def zda (kk : Nat) (a : (Sl Int)) (b : Str) : Option ((Sl Int)) :=
 bnd (zdj kk a (wrap .u64 (b.length : Int))) fun (r1 : (Sl Int)) =>
 bnd (okP (zw8 r1 = false /\ (r1.l = []) = False)) fun _ =>
 bnd (okP ((r1.l.length + (s2b b).length) * 1 <= room)) fun _ =>
 some (Sl.of (r1.l ++ (s2b b)))
noncomputable def zcv (c3 : Sl Val) (kk : Nat) : Nat -> List Int -> Int -> Option (Out ((Sl Int)) (List Int × Int))
 | 0, _, _ => none
 | k + 1, s4, s5 =>
   sel (
    bnd (ix c3.l s5) fun (y6 : Val) =>
    sel (
     some (.ret Sl.nil)) (
     bnd (okP ((s4.length + 1) * 1 <= room)) fun _ =>
     sel (
      sel (
       bnd (zdj kk (Sl.of (s4 ++ [(wrap .u8 y6.kind)])) (wrap .u64 ((wrap .u64 y6.int) * 2))) fun (r8 : (Sl Int)) =>
       bnd (okP (zw8 r8 = false /\ (r8.l = []) = False)) fun _ =>
       zcv c3 kk k r8.l (wrap .i64 (s5 + 1))) (
       bnd (zdj kk (Sl.of (s4 ++ [(wrap .u8 y6.kind)])) (wrap .u64 ((wrap .u64 ((wrap .u64 (wrap .i64 (0 - (wrap .i64 (y6.int + 1))))) * 2)) + 1))) fun (r10 : (Sl Int)) =>
       bnd (okP (zw8 r10 = false /\ (r10.l = []) = False)) fun _ =>
       zcv c3 kk k r10.l (wrap .i64 (s5 + 1))) (decide (0 <= y6.int))) (
      sel (
       bnd (zda kk (Sl.of (s4 ++ [(wrap .u8 y6.kind)])) y6.text) fun (r12 : (Sl Int)) =>
       bnd (okP (zw8 r12 = false /\ (r12.l = []) = False)) fun _ =>
       zcv c3 kk k r12.l (wrap .i64 (s5 + 1))) (
       bnd (okP (((s4 ++ [(wrap .u8 y6.kind)]).length + 1) * 1 <= room)) fun _ =>
       zcv c3 kk k ((s4 ++ [(wrap .u8 y6.kind)]) ++ [(wrap .u8 y6.int)]) (wrap .i64 (s5 + 1))) (y6.kind == 1)) (y6.kind == 0)) (!((zaE y6)))) (
    some (.done (s4, s5))) (decide (s5 < (c3.l.length : Int)))
noncomputable def ziH (kk : Nat) (a : (Sl Val)) : Option ((Sl Int)) :=
 bnd (zdj kk Sl.nil (wrap .u64 (a.l.length : Int))) fun (r1 : (Sl Int)) =>
 bnd (okP (zw8 r1 = false /\ (r1.l = []) = False)) fun _ =>
 zgD (zcv a kk kk r1.l 0) (fun r => some r) fun (q15 : List Int × Int) =>
  some (Sl.out q15.1)
noncomputable def zhF (c2 : zfV) (kk : Nat) : Nat -> Int -> Option (Out (Bool) (Int))
 | 0, _ => none
 | k + 1, s1 =>
   sel (
    bnd (ix c2.values.l s1) fun (y3 : Val) =>
    sel (
     some (.ret false)) (
     zhF c2 kk k (wrap .i64 (s1 + 1))) (!((zaE y3)))) (
    some (.done s1)) (decide (s1 < (c2.values.l.length : Int)))
noncomputable def znF (kk : Nat) (a : zfV) : Option (Bool) :=
 zgD (zhF a kk kk 0) (fun r => some r) fun (q4 : Int) =>
  bnd (okP (zak a.ann.l < big - 1)) fun _ =>
  some ((zb2 a.ann))
noncomputable def zl1 (kk : Nat) (a : zfV) : Option ((Sl Int) × Int) :=
 bnd (znF kk a) fun (r1 : Bool) =>
 sel (
  some (Sl.nil, 1)) (
  bnd (ziH kk a.values) fun (r2 : (Sl Int)) =>
  bnd (zda kk Sl.nil (b2s r2.l)) fun (r3 : (Sl Int)) =>
  bnd (okP (zw8 r3 = false /\ (r3.l = []) = False)) fun _ =>
  bnd (okP (zbB a.ann.l /\ 20 * zak a.ann.l + 1 < lim)) fun _ =>
  bnd (zda kk (Sl.of r3.l) (ziv a.ann)) fun (r6 : (Sl Int)) =>
  bnd (okP (zw8 r6 = false /\ (r6.l = []) = False)) fun _ =>
  some ((Sl.of r6.l), 0)) (!(r1))
noncomputable def zjM (kk : Nat) (a : Val) : Option (Bool) :=
 some (!((zaE a)))
noncomputable def za3 (c1 : Sl Val) (c2 : Int) (kk : Nat) : Nat -> Int -> Option (Out (Int) (Int))
 | 0, _ => none
 | k + 1, s3 =>
   sel (
    bnd (ix c1.l s3) fun (y4 : Val) =>
    bnd (zjM kk y4) fun (r5 : Bool) =>
    sel (
     some (.ret s3)) (
     za3 c1 c2 kk k (wrap .i64 (s3 + 1))) (r5)) (
    some (.done s3)) (decide (s3 < c2))
noncomputable def zbT (kk : Nat) (a : (Sl Val)) : Option (Int) :=
 zgD (za3 a (a.l.length : Int) kk kk 0) (fun r => some r) fun (q6 : Int) =>
  some (-1)
noncomputable def zbJ (kk : Nat) (a : (Sl Val)) : Option (Bool) :=
 bnd (zbT kk a) fun (r1 : Int) =>
 some (decide (0 <= r1))
noncomputable def zhZ (c1 : zfV) (kk : Nat) : Option (Bool) :=
 bnd (zbJ kk c1.values) fun (r2 : Bool) =>
 sel (
  bnd (okP (20 * zak c1.ann.l + 1 < big - 1)) fun _ =>
  some (!((zb2 c1.ann)))) (
  some true) (!(r2))
noncomputable def zjA (kk : Nat) (a : zfV) : Option ((Sl Int) × Int) :=
 bnd (zhZ a kk) fun (q4 : Bool) =>
 sel (
  some (Sl.nil, 1)) (
  bnd (zhk kk a.values) fun (r5 : (Sl Int)) =>
  bnd (okP (([] : List Int).length + (b2s r5.l).length + 16 < lim)) fun _ =>
  bnd (okP (zbB a.ann.l /\ 20 * zak a.ann.l + 1 < lim)) fun _ =>
  bnd (okP ((zHn [] (b2s r5.l)).length + (ziv a.ann).length + 16 < lim)) fun _ =>
  some ((Sl.of (zHn (zHn [] (b2s r5.l)) (ziv a.ann))), 0)) (q4)
noncomputable def zjB (kk : Nat) (a : (Sl Int)) : Option (zfV × Int × Int) :=
 bnd (zgO kk a) fun (r1 : Str × Int × Int) =>
 sel (
  some (zfV.zero, 0, 12)) (
  bnd (zhl kk (Sl.of (s2b r1.1))) fun (r2 : (Sl Val) × Int) =>
  sel (
   some (zfV.zero, 0, 12)) (
   bnd (zBq a (some r1.2.1) none) fun (y3 : Sl Int) =>
   bnd (zgO kk y3) fun (r4 : Str × Int × Int) =>
   sel (
    some (zfV.zero, 0, 12)) (
    bnd (okP (5 * r4.1.length < lim)) fun _ =>
    sel (
     some (zfV.zero, 0, 12)) (
     some (((zfV.zero.setValues r2.1).setAnn ((zib r4.1).1)), (wrap .i64 (r1.2.1 + r4.2.1)), 0)) (((zib r4.1).2) != 0)) (r4.2.2 != 0)) (r2.2 != 0)) (r1.2.2 != 0)
noncomputable def ziF (c14 c15 : Int) (c16 : Sl za7) (c17 : Int) (kk : Nat) : Nat -> Int -> Option (Out (Bool) (Int))
 | 0, _ => none
 | k + 1, s18 =>
   bnd (ix c16.l c17) fun (y19 : za7) =>
   sel (
    bnd (ix y19.rows.l s18) fun (y20 : zfV) =>
    bnd (okP (y20.values.l.length < big - 1)) fun _ =>
    sel (
     bnd (okP (0 <= c15 /\ c15 <= 4294967296 /\ zcw (Sl.of [y20.ann]).l < lim)) fun _ =>
     sel (
      some (.ret false)) (
      ziF c14 c15 c16 c17 kk k (wrap .i64 (s18 + 1))) (!((zTF c15 (Sl.of [y20.ann]))))) (
     some (.ret false)) (!(!((zE5 y20.values 20))))) (
    some (.done s18)) (decide (s18 < (y19.rows.l.length : Int)))
noncomputable def zln (c6 c7 : Int) (c8 : Sl za7) (c9 : Int) (kk : Nat) : Nat -> Int -> Option (Out (Bool) (Int))
 | 0, _ => none
 | k + 1, s10 =>
   bnd (ix c8.l c9) fun (y11 : za7) =>
   sel (
    bnd (ix y11.columns.l s10) fun (y12 : zwQ) =>
    sel (
     some (.ret false)) (
     zln c6 c7 c8 c9 kk k (wrap .i64 (s10 + 1))) (decide (100 < (y12.name.length : Int)))) (
    some (.done s10)) (decide (s10 < (y11.columns.l.length : Int)))
noncomputable def ziG (c1 c2 : Int) (c3 : Sl za7) (kk : Nat) : Nat -> Int -> Option (Out (Bool) (Int))
 | 0, _ => none
 | k + 1, s4 =>
   sel (
    bnd (ix c3.l s4) fun (y5 : za7) =>
    sel (
     some (.ret false)) (
     zgD (zln c1 c2 c3 s4 kk kk 0) (fun r => some (.ret r)) fun (q13 : Int) =>
      zgD (ziF c1 c2 c3 s4 kk kk 0) (fun r => some (.ret r)) fun (q23 : Int) =>
       ziG c1 c2 c3 kk k (wrap .i64 (s4 + 1))) ((decide (c1 < (y5.rows.l.length : Int))) || (decide (20 < (y5.columns.l.length : Int))))) (
    some (.done s4)) (decide (s4 < (c3.l.length : Int)))
noncomputable def zwF (kk : Nat) (a b : Int) (c : (Sl za7)) : Option (Bool) :=
 zgD (ziG a b c kk kk 0) (fun r => some r) fun (q24 : Int) =>
  some true
noncomputable def zgq (c1 c2 : Sl zfV) (kk : Nat) : Nat -> Int -> Option (Out (Bool) (Int))
 | 0, _ => none
 | k + 1, s3 =>
   sel (
    bnd (ix c1.l s3) fun (y4 : zfV) =>
    bnd (ix c2.l s3) fun (y5 : zfV) =>
    bnd (okP (y4.values.l.length < big - 1 /\ y5.values.l.length < big - 1)) fun _ =>
    sel (
     bnd (okP (zak y4.ann.l + zak y5.ann.l < big - 1)) fun _ =>
     sel (
      some (.ret false)) (
      zgq c1 c2 kk k (wrap .i64 (s3 + 1))) (!((zpq y4.ann y5.ann)))) (
     some (.ret false)) (!(!((zs7 y4.values y5.values))))) (
    some (.done s3)) (decide (s3 < (c1.l.length : Int)))
noncomputable def zjC (kk : Nat) (a : (Sl zfV)) (b : (Sl zfV)) : Option (Bool) :=
 sel (
  some false) (
  zgD (zgq a b kk kk 0) (fun r => some r) fun (q8 : Int) =>
   some true) ((a.l.length : Int) != (b.l.length : Int))
noncomputable def zsR (kk : Nat) (a : (Sl zfV)) : Option (Bool) :=
 bnd (zwF kk 8 12 (Sl.of [(za7.zero.setRows a)])) fun (r1 : Bool) =>
 some (r1)
noncomputable def zgB (kk : Nat) (a : zfV) (b : (Sl Int)) : Option (Bool) :=
 sel (
  some false) (
  bnd (zsR kk (Sl.of [a])) fun (r1 : Bool) =>
  sel (
   some true) (
   bnd (zjA kk a) fun (r2 : (Sl Int) × Int) =>
   bnd (zl1 kk a) fun (r3 : (Sl Int) × Int) =>
   sel (
    some false) (
    sel (
     some ((r2.1.l.length : Int) == 0)) (
     bnd (okP ((([] : List Int).length + r2.1.l.length) * 1 <= room)) fun _ =>
     bnd (okP (((([] : List Int) ++ r2.1.l).length + b.l.length) * 1 <= room)) fun _ =>
     bnd (zjB kk (Sl.of ((([] : List Int) ++ r2.1.l) ++ b.l))) fun (r6 : zfV × Int × Int) =>
     sel (
      bnd (zjC kk (Sl.of [r6.1]) (Sl.of [a])) fun (r7 : Bool) =>
      some (r7)) (
      some false) ((r6.2.2 == 0) && (r6.2.1 == (r2.1.l.length : Int)))) (r2.2 != 0)) ((r2.2 != r3.2) || (!((b2s r2.1.l) == (b2s r3.1.l))))) ((!(r1)) || (decide (50 < (b.l.length : Int))))) (!((zNE)))
def uE : Nat -> Nat -> List Int
 | 0, n => [(n : Int)]
 | f + 1, n => if n < 128 then [(n : Int)] else ((n % 128 + 128 : Nat) : Int) :: uE f (n / 128)
theorem zTl : ∀ m : Fin 256, orK .u8 (m.val : Int) 128 = ((m.val % 128 + 128 : Nat) : Int) := by decide +kernel
theorem zRk : ∀ m : Fin 256, zJv .u8 (m.val : Int) 127 = ((m.val % 128 : Nat) : Int) := by decide +kernel
theorem zET (n : Nat) : wrap .u8 (n : Int) = ((n % 256 : Nat) : Int) := by rw [zvd]; omega
theorem z02 (n : Nat) : zyK .u64 (n : Int) 7 = ((n / 128 : Nat) : Int) := by
 show Int.fdiv (n : Int) (2 ^ min (7 : Int).toNat (IntKind.bits .u64)) = _
 rw [show (2 : Int) ^ min (7 : Int).toNat (IntKind.bits .u64) = 128 from rfl, Int.fdiv_eq_ediv_of_nonneg _ YJ]
 omega
theorem zRf (n : Nat) : orK .u8 (wrap .u8 (n : Int)) 128 = ((n % 128 + 128 : Nat) : Int) := by
 rw [zET]
 have := zTl ⟨n % 256, by omega⟩
 simp only at this
 rw [this]; congr 2; omega
theorem zIC : ∀ (j : Nat) (l : List Int) (n : Nat), n < 128 ^ (j + 1) -> (zk8 j l n).1 ++ [wrap .u8 (zk8 j l n).2] = l ++ uE j n
 | 0, l, n, h => by
   simp only [zk8, uE]
   rw [zET]; congr 3; simp at h; omega
 | j + 1, l, n, h => by
   unfold zk8 uE
   by_cases hn : n < 128
   · rw [if_pos YJ, if_pos hn]
     simp only
     rw [zET]; congr 3; omega
   · rw [if_neg YJ, if_neg hn, zRf, z02, zIC j _ (n / 128) (by rw [Nat.pow_succ] at h; exact Nat.div_lt_of_lt_mul YJ)]
     simp
theorem p64 : (18446744073709551616 : Nat) < 128 ^ 10 := by decide
theorem zG5 (l : List Int) (n : Nat) (h : n < 18446744073709551616) : zC6 l (n : Int) = l ++ uE 9 n := zIC 9 l n (by have := p64; omega)
def zw7 (s : Str) : List Int := uE 9 s.length ++ s2b s
theorem zp2 {n : Nat} (h : n < 18446744073709551616) : wrap .u64 (n : Int) = (n : Int) := by rw [zet]; omega
theorem zHm (l : List Int) (s : Str) (h : s.length < 18446744073709551616) : zHn l s = l ++ zw7 s := by
 unfold zHn zw7
 rw [zp2 h, zG5 _ _ h, yT]
-- the reference's bytes
theorem zNJ (n : Nat) (h : n < 18446744073709551616) : zJv .u64 (n : Int) 127 = ((n % 128 : Nat) : Int) := by
 have e : (BitVec.ofInt 64 (n : Int) &&& BitVec.ofInt 64 127).toNat = n % 128 := by
  rw [BitVec.toNat_and, BitVec.ofInt_natCast, BitVec.toNat_ofNat, show (BitVec.ofInt 64 127).toNat = 2 ^ 7 - 1 from rfl, Nat.and_two_pow_sub_one_eq_mod]
  omega
 show wrap .u64 ((BitVec.ofInt 64 (n : Int) &&& BitVec.ofInt 64 127).toNat : Int) = _
 rw [e]; exact zp2 YJ
theorem zOQ : ∀ m : Fin 128, orK .u64 (m.val : Int) 128 = ((m.val + 128 : Nat) : Int) := by decide +kernel
theorem zNw (n : Nat) (h : n < 18446744073709551616) : wrap .u8 (orK .u64 (zJv .u64 (n : Int) 127) 128) = ((n % 128 + 128 : Nat) : Int) := by
 rw [zNJ n h]
 have := zOQ ⟨n % 128, by omega⟩
 simp only at this
 rw [this, zET]; congr 1; omega
-- zigzag
def zz (a : Int) : Nat := if 0 <= a then (2 * a).toNat else (-2 * a - 1).toNat
theorem zN7 {a : Int} (h : zkY a) : zz a < 18446744073709551616 := by unfold zz; unfold zkY at h; split <;> omega
theorem xor_zero (k : IntKind) (x : Int) : zN9 k x 0 = k.wrap ((BitVec.ofInt k.bits x).toNat : Int) := by
 unfold zN9
 rw [show BitVec.ofInt k.bits 0 = 0#_ from rfl, BitVec.xor_zero]
theorem zuE (x : Int) (h0 : 0 <= x) (h1 : x < 18446744073709551616) : ((BitVec.ofInt 64 x).toNat : Int) = x := by
 rw [BitVec.toNat_ofInt]; omega
theorem zIw (x : Int) (h0 : 0 <= x) (h1 : x < 18446744073709551616) : ((BitVec.ofInt 64 x ^^^ BitVec.allOnes 64).toNat : Int) = 18446744073709551615 - x := by
 rw [BitVec.xor_allOnes, BitVec.toNat_not]
 have := zuE x h0 h1
 omega
theorem zLn {a : Int} (h : zkY a) : zN9 .u64 (zOw .u64 (wrap .u64 a) 1) (wrap .u64 (zyK .i64 a 63)) = (zz a : Int) := by
 unfold zkY at h
 have e1 : zOw .u64 (wrap .u64 a) 1 = (a % 18446744073709551616 * 2) % 18446744073709551616 := by
  show wrap .u64 (wrap .u64 a * 2 ^ min (1 : Int).toNat (IntKind.bits .u64)) = _
  rw [show (2 : Int) ^ min (1 : Int).toNat (IntKind.bits .u64) = 2 from rfl, zet, zet]
 have e2 : zyK .i64 a 63 = a / 9223372036854775808 := by
  show Int.fdiv a (2 ^ min (63 : Int).toNat (IntKind.bits .i64)) = _
  rw [show (2 : Int) ^ min (63 : Int).toNat (IntKind.bits .i64) = 9223372036854775808 from rfl, Int.fdiv_eq_ediv_of_nonneg _ YJ]
 rw [e1, e2]
 unfold zz
 split
 · rw [show a / 9223372036854775808 = 0 by omega, show wrap .u64 0 = 0 from rfl, xor_zero]
   show wrap .u64 ((BitVec.ofInt 64 _).toNat : Int) = _
   rw [zuE _ YJ YJ, zet]; omega
 · rw [show a / 9223372036854775808 = -1 by omega]
   unfold zN9
   rw [show BitVec.ofInt (IntKind.bits .u64) (wrap .u64 (-1)) = BitVec.allOnes 64 from rfl]
   show wrap .u64 ((BitVec.ofInt 64 _ ^^^ BitVec.allOnes 64).toNat : Int) = _
   rw [zIw _ YJ YJ, zet]; omega
def zRr (n : Nat) : Int := if n % 2 = 0 then ((n / 2 : Nat) : Int) else -((n / 2 : Nat) : Int) - 1
theorem zlx (x : Int) : wrap .i64 x = (x + 9223372036854775808) % 18446744073709551616 - 9223372036854775808 := by
 simp only [wrap, IntKind.bits, IntKind.signed]
 simp; split <;> omega
theorem zG2 {n : Nat} (h : n < 18446744073709551616) : zN9 .i64 (wrap .i64 (zyK .u64 (n : Int) 1)) (wrap .i64 (0 - (wrap .i64 (zJv .u64 (n : Int) 1)))) = zRr n := by
 have e1 : zyK .u64 (n : Int) 1 = ((n / 2 : Nat) : Int) := by
  show Int.fdiv (n : Int) (2 ^ min (1 : Int).toNat (IntKind.bits .u64)) = _
  rw [show (2 : Int) ^ min (1 : Int).toNat (IntKind.bits .u64) = 2 from rfl, Int.fdiv_eq_ediv_of_nonneg _ YJ]
  omega
 have e2 : zJv .u64 (n : Int) 1 = ((n % 2 : Nat) : Int) := by
  have e : (BitVec.ofInt 64 (n : Int) &&& BitVec.ofInt 64 1).toNat = n % 2 := by
   rw [BitVec.toNat_and, BitVec.ofInt_natCast, BitVec.toNat_ofNat, show (BitVec.ofInt 64 1).toNat = 2 ^ 1 - 1 from rfl, Nat.and_two_pow_sub_one_eq_mod]
   omega
  show wrap .u64 ((BitVec.ofInt 64 (n : Int) &&& BitVec.ofInt 64 1).toNat : Int) = _
  rw [e]; exact zp2 YJ
 rw [e1, e2]
 have e3 : wrap .i64 ((n / 2 : Nat) : Int) = ((n / 2 : Nat) : Int) := by rw [zlx]; omega
 rw [e3]
 unfold zRr
 split
 · rename_i h2
   rw [h2]
   rw [show wrap .i64 (0 - wrap .i64 ((0 : Nat) : Int)) = 0 from rfl, xor_zero]
   show wrap .i64 ((BitVec.ofInt 64 _).toNat : Int) = _
   rw [zuE _ YJ YJ]; exact e3
 · rw [show n % 2 = 1 by omega]
   unfold zN9
   rw [show BitVec.ofInt (IntKind.bits .i64) (wrap .i64 (0 - wrap .i64 ((1 : Nat) : Int))) = BitVec.allOnes 64 from rfl]
   show wrap .i64 ((BitVec.ofInt 64 _ ^^^ BitVec.allOnes 64).toNat : Int) = _
   rw [zIw _ YJ YJ, zlx]; omega
theorem zQg (a : Int) : zRr (zz a) = a := by unfold zRr zz; split <;> split <;> omega
end Go.Ev
namespace Go.Ev
def uD (i : Nat) : List Int -> Option (Nat × Nat)
 | [] => none
 | x :: l =>
   if i = 10 then none
   else if i = 9 /\ 1 < x then none
   else if x < 128 then (if x = 0 /\ 0 < i then none else some (x.toNat, 1))
   else (uD (i + 1) l).map fun p => (x.toNat - 128 + 128 * p.1, p.2 + 1)
def zjn (l : List Int) : Prop := ∀ x ∈ l, 0 <= x /\ x < 256
theorem zjn.tail {x : Int} {l : List Int} (h : zjn (x :: l)) : zjn l := fun y hy => h y (yU _ hy)
theorem zjn.drop {l : List Int} (h : zjn l) (n : Nat) : zjn (l.drop n) := fun y hy => h y (List.mem_of_mem_drop hy)
theorem zjn.take {l : List Int} (h : zjn l) (n : Nat) : zjn (l.take n) := fun y hy => h y (List.mem_of_mem_take hy)
theorem zjn.append {l r : List Int} (h : zjn l) (k : zjn r) : zjn (l ++ r) := fun y hy => (yu.1 hy).elim (h y) (k y)
theorem zw4 : ∀ (l : List Int) (i : Nat), zjn l -> i <= 10 -> ∀ {n k : Nat}, uD i l = some (n, k) -> n < 2 ^ (64 - 7 * i) /\ (0 < i -> 0 < n) /\ 0 < k /\ k <= l.length /\ l.take k = uE (9 - i) n /\ i <= 9
 | [], i, _, _, n, k, h => by simp [uD] at h
 | x :: l, i, hb, hi, n, k, h => by
   have hx := hb x (yQ ..)
   unfold uD at h
   split at h
   · cases h
   rename_i h10
   split at h
   · cases h
   rename_i h9
   split at h
   · rename_i h128
     split at h
     · cases h
     · rename_i h0
       obtain ⟨rfl, rfl⟩ := YE (yO h)
       have e : uE (9 - i) x.toNat = [x] := by
        match 9 - i with
        | 0 => simp [uE]; omega
        | m + 1 => simp only [uE]; rw [if_pos YJ]; congr 1; omega
       refine ⟨?_, fun hi0 => by omega, by omega, by simp, by simp [e], by omega⟩
       by_cases hi9 : i = 9
       · subst hi9; simp; omega
       · have : 2 ^ 7 <= 2 ^ (64 - 7 * i) := Nat.pow_le_pow_right YJ YJ
         omega
   · rename_i h128
     have hi9 : i ≠ 9 := by omega
     cases hr : uD (i + 1) l with
     | none => rw [hr] at h; cases h
     | some p =>
       rw [hr] at h
       obtain ⟨n', k'⟩ := p
       obtain ⟨rfl, rfl⟩ := YE (yO h)
       obtain ⟨q1, q2, q3, q4, q5, q6⟩ := zw4 l (i + 1) hb.tail YJ hr
       have q2 := q2 YJ
       refine ⟨?_, fun _ => by omega, by omega, by simp; omega, ?_, by omega⟩
       · have e : 2 ^ (64 - 7 * i) = 2 ^ (64 - 7 * (i + 1)) * 128 := by
          rw [show 64 - 7 * i = 64 - 7 * (i + 1) + 7 by omega, Nat.pow_add]
         rw [e]; omega
       · rw [show 9 - i = (9 - (i + 1)) + 1 by omega]
         simp only [uE]
         rw [if_neg YJ, List.take_succ_cons, q5]
         congr 1
         · omega
         · congr 1; omega
theorem zOk : ∀ (f i n : Nat) (r : List Int), i + f = 9 -> n < 2 ^ (64 - 7 * i) -> (0 < i -> 0 < n) -> uD i (uE f n ++ r) = some (n, (uE f n).length)
 | 0, i, n, r, hi, hn, h0 => by
   obtain rfl : i = 9 := by omega
   have : n < 2 := by simpa using hn
   have := h0 YJ
   obtain rfl : n = 1 := by omega
   show uD 9 ((1 : Int) :: r) = some (1, 1)
   unfold uD
   rw [if_neg YJ, if_neg YJ, if_pos YJ, if_neg YJ]
   rfl
 | f + 1, i, n, r, hi, hn, h0 => by
   simp only [uE]
   split
   · rename_i h
     simp only [yS, yZ, uD]
     rw [if_neg YJ, if_neg YJ, if_pos YJ, if_neg (by rintro ⟨a, b⟩; have := h0 b; omega)]
     simp
   · rename_i h
     simp only [yS, uD]
     have e : 2 ^ (64 - 7 * i) = 2 ^ (64 - 7 * (i + 1)) * 128 := by
      rw [show 64 - 7 * i = 64 - 7 * (i + 1) + 7 by omega, Nat.pow_add]
     rw [if_neg YJ, if_neg YJ, if_neg YJ, zOk f (i + 1) (n / 128) r YJ (by rw [e] at hn; exact Nat.div_lt_of_lt_mul YJ) (fun _ => by omega)]
     show some ((((n % 128 + 128 : Nat) : Int)).toNat - 128 + 128 * (n / 128), (uE f (n / 128)).length + 1) = some (n, (uE f (n / 128)).length + 1)
     have : (((n % 128 + 128 : Nat) : Int)).toNat - 128 + 128 * (n / 128) = n := by omega
     rw [this]
theorem zze : ∀ (f n : Nat), n < 128 ^ (f + 1) -> zjn (uE f n)
 | 0, n, h => by intro x hx; simp [uE] at hx; subst hx; simp at h; omega
 | f + 1, n, h => by
   intro x hx
   simp only [uE] at hx
   split at hx
   · simp at hx; omega
   · rcases yj.1 hx with rfl | hx
     · omega
     · exact zze f (n / 128) (by rw [Nat.pow_succ] at h; exact Nat.div_lt_of_lt_mul YJ) x hx
theorem zr1 : ∀ (f n : Nat), 0 < (uE f n).length /\ (uE f n).length <= f + 1
 | 0, n => by simp [uE]
 | f + 1, n => by
   simp only [uE]
   split
   · simp
   · have := zr1 f (n / 128); simp; omega
theorem zLS {l : List Int} (h : zjn l) : s2b (b2s l) = l := by
 induction l with
 | nil => rfl
 | cons x l ih =>
   have hx := h x (yQ ..)
   simp only [s2b, b2s, yR, List.cons.injEq] at ih ⊢
   refine ⟨?_, ih h.tail⟩
   have : (UInt8.ofNat x.toNat).toNat = x.toNat % 256 := by simp
   rw [this]; omega
theorem zE8 (s : Str) : zjn (s2b s) := by
 intro x hx
 obtain ⟨b, _, rfl⟩ := YC.1 hx
 have := b.toNat_lt
 omega
theorem zxc (s : Str) : (s2b s).length = s.length := by simp [s2b]
theorem znv (l : List Int) : (b2s l).length = l.length := by simp [b2s]
theorem zw6 {s : Str} (h : s.length < 18446744073709551616) : zjn (zw7 s) := (zze 9 _ (by have := p64; omega)).append (zE8 s)
theorem zp5 (s : Str) : (zw7 s).length <= s.length + 10 := by have := zr1 9 s.length; simp [zw7, zxc]; omega
def zII (l : List Int) : Option (Str × Nat) :=
 match uD 0 l with
 | none => none
 | some (n, k) => if n <= l.length - k then some (b2s ((l.drop k).take n), k + n) else none
theorem zzL (s : Str) (r : List Int) (h : s.length < 18446744073709551616) : zII (zw7 s ++ r) = some (s, (zw7 s).length) := by
 unfold zII zw7
 rw [yT, zOk 9 0 s.length (s2b s ++ r) YJ (by simpa using h) YJ]
 simp only
 rw [if_pos (by simp [zxc])]
 simp only [List.drop_left, yD, zxc]
 rw [show (s2b s ++ r).take s.length = s2b s by rw [<- zxc s, List.take_left], zRg]
theorem zvr {l : List Int} {s : Str} {m : Nat} (hb : zjn l) (h : zII l = some (s, m)) : l.take m = zw7 s /\ 0 < m /\ m <= l.length /\ s.length <= l.length /\ s.length < 18446744073709551616 := by
 unfold zII at h
 cases hu : uD 0 l with
 | none => rw [hu] at h; cases h
 | some p =>
   rw [hu] at h
   obtain ⟨n, k⟩ := p
   simp only at h
   split at h
   · rename_i hn
     obtain ⟨rfl, rfl⟩ := YE (yO h)
     obtain ⟨q1, _, q3, q4, q5, _⟩ := zw4 l 0 hb YJ hu
     have hl : ((l.drop k).take n).length = n := by simp; omega
     refine ⟨?_, by omega, by omega, by rw [znv, hl]; omega, by rw [znv, hl]; simpa using q1⟩
     unfold zw7
     rw [znv, hl, zLS ((hb.drop k).take n), <- q5, List.take_add]
   · cases h
end Go.Ev
namespace Go.Ev
open Go.IntKind (wrap)
def zCg (v : Val) : List Int := v.kind :: (if v.kind = 0 then uE 9 (zz v.int) else if v.kind = 1 then zw7 v.text else [v.int])
def zFc (l : List Val) : List Int := uE 9 l.length ++ l.flatMap zCg
def zuh (a : zfV) : Bool := a.values.l.all zaE && zb2 a.ann
def zTH (a : zfV) : Sl Int × Int := if zuh a then (Sl.of (zw7 (b2s (zFc a.values.l)) ++ zw7 (ziv a.ann)), 0) else (Sl.nil, 1)
theorem zk7 {v : Val} (h : zaE v = true) : (v.kind = 0 /\ v.text = []) ∨ (v.kind = 1 /\ v.int = 0 /\ v.text.length <= 255) ∨ (v.kind = 2 /\ (v.int = 0 ∨ v.int = 1) /\ v.text = []) := by
 unfold zaE at h
 split at h
 · exact .inl ⟨by assumption, by simpa using h⟩
 · split at h
   · simp only [yK, beq_iff_eq, YG] at h
     exact .inr (.inl ⟨by assumption, h.1, by omega⟩)
   · split at h
     · simp only [yK, beq_iff_eq, Bool.or_eq_true] at h
       exact .inr (.inr ⟨by assumption, h.1, h.2⟩)
     · cases h
theorem zC1 {v : Val} (h : zaE v = true) : (zCg v).length <= v.text.length + 11 := by
 unfold zCg
 rcases zk7 h with ⟨k, _⟩ | ⟨k, _⟩ | ⟨k, _⟩
 · rw [if_pos k]; have := zr1 9 (zz v.int); simp; omega
 · rw [if_neg YJ, if_pos k]; have := zp5 v.text; simp; omega
 · rw [if_neg YJ, if_neg YJ]; simp
theorem zI4 : ∀ {l : List Val}, (∀ v ∈ l, zaE v = true) -> (l.flatMap zCg).length <= 11 * zoc l
 | [], _ => by simp
 | v :: l, h => by
   have h1 := zC1 (h v (yQ ..))
   have h2 := zI4 fun x hx => h x (yU _ hx)
   rw [List.flatMap_cons, yD, zp3]; omega
theorem zJC {v : Val} (h : zaE v = true) (hw : zlH v) : zjn (zCg v) := by
 have hz := zN7 hw.2
 have := p64
 unfold zCg
 intro x hx
 rcases zk7 h with ⟨k, _⟩ | ⟨k, _, ht⟩ | ⟨k, hi, _⟩
 · rw [if_pos k] at hx
   rcases yj.1 hx with rfl | hx
   · omega
   · exact zze 9 _ YJ x hx
 · rw [if_neg YJ, if_pos k] at hx
   rcases yj.1 hx with rfl | hx
   · omega
   · exact zw6 YJ x hx
 · rw [if_neg YJ, if_neg YJ] at hx
   rcases yj.1 hx with rfl | hx
   · omega
   · simp at hx; omega
theorem zJO {l : List Val} (hl : l.length < 18446744073709551616) (h : ∀ v ∈ l, zaE v = true) (hw : ∀ v ∈ l, zlH v) : zjn (zFc l) := by
 refine (zze 9 _ (by have := p64; omega)).append fun x hx => ?_
 obtain ⟨v, hv, hx⟩ := List.mem_flatMap.1 hx
 exact zJC (h v hv) (hw v hv) x hx
theorem zDk {l : List Val} (h : ∀ v ∈ l, zaE v = true) : (zFc l).length <= 11 * zoc l + 10 := by
 have := zr1 9 l.length
 have := zI4 h
 simp only [zFc, yD]; omega
theorem zRl {α : Type} {p : α -> Bool} {l : List α} (h : l.all p = true) : ∀ x ∈ l, p x = true := by simpa using h
theorem zu6 {kk : Nat} (a : Sl Val) (h : a.l.length < big - 1) (hk : kk = big := by rfl) : zh2 kk a = some (a.l.all zaE) := by
 subst hk
 unfold zh2
 rw [zkt (xs := a.l) (L := zdL a (a.l.length : Int) big) (fun v => !zaE v) false (fun k => by simp [zdL]) (fun k i x hi ex => ?_) YJ, zll]
 · generalize a.l.all _ = u; cases u <;> rfl
 · simp only [zdL, YH (show ((i : Nat) : Int) < (a.l.length : Int) by omega), zat, zbE, ex, zad]
   rw [zaF YJ, zc2, zdB]
   cases zaE x <;> rfl
theorem zPC {v : Val} (h : zaE v = true) : wrap .u8 v.kind = v.kind := by
 rw [zvd]; rcases zk7 h with ⟨k, _⟩ | ⟨k, _⟩ | ⟨k, _⟩ <;> omega
theorem zI6 {a : Sl Val} {kk : Nat} (hv : ∀ v ∈ a.l, zaE v = true) (hw : ∀ v ∈ a.l, zlH v) (hb : a.l.length < big - 1) : ∀ (k i : Nat) (s : List Int), a.l.length - i < k -> i <= a.l.length -> s.length + 11 * zoc (a.l.drop i) + 64 < lim ->
 zcm a (a.l.length : Int) kk k s (i : Int) = some (.done (s ++ (a.l.drop i).flatMap zCg, (a.l.length : Int)))
 | 0, i, s, h, _, _ => by omega
 | k + 1, i, s, h, hi, hs => by
   by_cases e : i = a.l.length
   · subst e; simp [zcm]
   · have hlt : i < a.l.length := by omega
     have ex := yB hlt
     have hm : a.l[i] ∈ a.l := yy hlt
     have hvi := hv _ hm
     have hwi := hw _ hm
     have hle := zC1 hvi
     have hlim : lim = 4294967281 := rfl
     rw [yb hlt] at hs ⊢
     rw [zp3] at hs
     generalize a.l[i] = v at *
     rw [zcm, YH (show (i : Int) < (a.l.length : Int) by omega), zat, zbE, ex, zad, zar (by unfold room; omega), zad, zPC hvi, zaF YJ]
     have ih := fun s' hs' => zI6 (kk := kk) hv hw hb k (i + 1) s' YJ YJ hs'
     simp only [List.flatMap_cons]
     have hl1 : (s ++ [v.kind]).length = s.length + 1 := by simp
     rcases zk7 hvi with ⟨k0, _⟩ | ⟨k0, _, _⟩ | ⟨k0, hi01, _⟩
     · rw [k0, show ((0 : Int) == 0) = true from rfl, zat]
       rw [k0] at hl1
       unfold zlG
       rw [zad, zLn hwi.2]
       have hz := zN7 hwi.2
       rw [zar ⟨by omega, by omega, by omega⟩, zad, zG5 _ _ hz]
       have hul := zr1 9 (zz v.int)
       rw [ih _ (by simp only [yD, yC, yI]; omega)]
       simp only [zCg, k0, if_pos, yT, yS, yZ]
     · rw [k0, show ((1 : Int) == 0) = false from rfl, zaC, show ((1 : Int) == 1) = true from rfl, zat]
       rw [k0] at hl1
       rw [zar YJ, zad, zHm _ _ YJ]
       have hul := zp5 v.text
       rw [ih _ (by simp only [yD, yC, yI]; omega)]
       simp only [zCg, k0, if_neg (show ¬ (1 : Int) = 0 by decide), if_pos, yT, yS, yZ]
     · rw [k0, show ((2 : Int) == 0) = false from rfl, zaC, show ((2 : Int) == 1) = false from rfl, zaC]
       rw [k0] at hl1
       rw [zar (by unfold room; omega), zad]
       have hib : wrap .u8 v.int = v.int := by rw [zvd]; omega
       rw [hib, ih _ (by simp only [yD, yC, yI]; omega)]
       simp only [zCg, k0, if_neg (show ¬ (2 : Int) = 0 by decide), if_neg (show ¬ (2 : Int) = 1 by decide), yT, yS, yZ]
theorem ztQ {kk : Nat} (a : Sl Val) (hv : ∀ v ∈ a.l, zaE v = true) (hw : ∀ v ∈ a.l, zlH v) (h : zoc a.l <= 4194304) (hk : kk = big := by rfl) : zhk kk a = some (Sl.of (zFc a.l)) := by
 have hl := zmZ a.l
 have hbig : big = 1152921504606846976 := rfl
 have hlim : lim = 4294967281 := rfl
 unfold zhk
 rw [zu6 a YJ hk, zad, show a.l.all zaE = true by simpa using hv, ye, zaC, zp2 YJ, zar ⟨by omega, by omega, by simp; omega⟩, zad, zG5 _ _ YJ]
 have hul := zr1 9 a.l.length
 have := zI6 (kk := kk) hv hw YJ kk 0 ([] ++ uE 9 a.l.length) (by subst hk; omega) YJ (by simp only [yZ, yg]; omega)
 rw [show ((0 : Nat) : Int) = 0 from rfl] at this
 rw [this, za5]
 simp [zFc]
-- the reference's
theorem zlZ {kk : Nat} : ∀ (j k n : Nat) (s : List Int), n < 128 ^ (j + 1) -> n < 18446744073709551616 -> j < k -> s.length + j + 2 < lim -> ∃ s' n', zeV kk k (n : Int) s = some (.done ((n' : Int), s')) /\ s' ++ [wrap .u8 (n' : Int)] = s ++ uE j n /\ s'.length <= s.length + j
 | j, 0, n, s, _, _, hk, _ => by omega
 | j, k + 1, n, s, hn, h64, hk, hs => by
   have hlim : lim = 4294967281 := rfl
   rw [zeV]
   by_cases h : n < 128
   · rw [YI YJ, zaC]
     refine ⟨s, n, rfl, ?_, by omega⟩
     rw [zET, show n % 256 = n by omega]
     cases j with
     | zero => rfl
     | succ j => simp only [uE]; rw [if_pos h]
   · cases j with
     | zero => simp at hn; omega
     | succ j =>
       rw [YH YJ, zat, zar (by unfold room; omega), zad, zNw n h64, z02]
       obtain ⟨s', n', e1, e2, e3⟩ := zlZ (kk := kk) j k (n / 128) (s ++ [((n % 128 + 128 : Nat) : Int)]) (by rw [Nat.pow_succ] at hn; exact Nat.div_lt_of_lt_mul YJ) YJ YJ (by simp; omega)
       refine ⟨s', n', e1, ?_, by simp at e3; omega⟩
       rw [e2]; simp only [uE]; rw [if_neg h]; simp
theorem zhJ {kk : Nat} (a : Sl Int) (n : Nat) (h : n < 18446744073709551616) (hl : a.l.length + 16 < lim) (hk : kk = big := by rfl) : zdj kk a (n : Int) = some (Sl.of (a.l ++ uE 9 n)) := by
 have hlim : lim = 4294967281 := rfl
 have hbig : big = 1152921504606846976 := rfl
 unfold zdj
 obtain ⟨s', n', e1, e2, e3⟩ := zlZ (kk := kk) 9 kk n (([] : List Int) ++ a.l) (by have := p64; omega) h YJ (by simp; omega)
 rw [zar (by unfold room; simp; omega), zad, e1, za5]
 simp only [yZ] at e2 e3
 dsimp only
 rw [zar (by unfold room; omega), zad, e2]
theorem zHy {l : List Int} (h : 0 < l.length) : zw8 (Sl.of l) = false /\ ((Sl.of l).l = []) = False := ⟨rfl, eq_false (fun e => by rw [Sl.of_l] at e; rw [e] at h; simp at h)⟩
theorem zID (f n : Nat) (l : List Int) : 0 < (l ++ uE f n).length := by have := zr1 f n; simp; omega
theorem zDa (s : Str) (l : List Int) : 0 < (l ++ zw7 s).length := by have := zr1 9 s.length; simp [zw7]; omega
theorem ziI {kk : Nat} (a : Sl Int) (s : Str) (hl : a.l.length + s.length + 32 < lim) (hk : kk = big := by rfl) : zda kk a s = some (Sl.of (a.l ++ zw7 s)) := by
 have hlim : lim = 4294967281 := rfl
 unfold zda
 rw [zp2 YJ, zhJ a _ YJ YJ hk, zad, zar (zHy (zID ..)), zad]
 have hul := zr1 9 s.length
 rw [zar (by unfold room; simp only [Sl.of_l, yD, zxc]; omega), zad]
 simp [zw7]
theorem zS0 {a : Int} (h : zkY a) (h0 : 0 <= a) : wrap .u64 (wrap .u64 a * 2) = (zz a : Int) := by
 unfold zkY at h; unfold zz; rw [zet, zet, if_pos h0]; omega
theorem zS1 {a : Int} (h : zkY a) (h0 : ¬ 0 <= a) : wrap .u64 ((wrap .u64 ((wrap .u64 (wrap .i64 (0 - (wrap .i64 (a + 1))))) * 2)) + 1) = (zz a : Int) := by
 unfold zkY at h; unfold zz; rw [zet, zet, zet, zlx, zlx, if_neg h0]; omega
theorem zFf {a : Sl Val} {kk : Nat} (hv : ∀ v ∈ a.l, zaE v = true) (hw : ∀ v ∈ a.l, zlH v) (hb : a.l.length < big - 1) (hkk : kk = big) : ∀ (k i : Nat) (s : List Int), a.l.length - i < k -> i <= a.l.length -> s.length + 11 * zoc (a.l.drop i) + 64 < lim ->
 zcv a kk k s (i : Int) = some (.done (s ++ (a.l.drop i).flatMap zCg, (a.l.length : Int)))
 | 0, i, s, h, _, _ => by omega
 | k + 1, i, s, h, hi, hs => by
   by_cases e : i = a.l.length
   · subst e; simp [zcv]
   · have hlt : i < a.l.length := by omega
     have ex := yB hlt
     have hm : a.l[i] ∈ a.l := yy hlt
     have hvi := hv _ hm
     have hwi := hw _ hm
     have hle := zC1 hvi
     have hlim : lim = 4294967281 := rfl
     rw [yb hlt] at hs ⊢
     rw [zp3] at hs
     generalize a.l[i] = v at *
     rw [zcv, YH (show (i : Int) < (a.l.length : Int) by omega), zat, zbE, ex, zad, hvi, ye, zaC, zar (by unfold room; omega), zad, zPC hvi, zaF YJ]
     have ih := fun s' hs' => zFf (kk := kk) hv hw hb hkk k (i + 1) s' YJ YJ hs'
     simp only [List.flatMap_cons]
     have hl1 : (s ++ [v.kind]).length = s.length + 1 := by simp
     rcases zk7 hvi with ⟨k0, _⟩ | ⟨k0, _, _⟩ | ⟨k0, hi01, _⟩
     · rw [k0, show ((0 : Int) == 0) = true from rfl, zat]
       rw [k0] at hl1
       have hz := zN7 hwi.2
       have hul := zr1 9 (zz v.int)
       have fin := ih (s ++ [0] ++ uE 9 (zz v.int)) (by simp only [yD, yC, yI]; omega)
       by_cases h0 : 0 <= v.int
       · rw [YH h0, zat, zS0 hwi.2 h0, zhJ _ _ hz (by simp only [Sl.of_l]; omega) hkk, zad, zar (zHy (zID ..)), zad]
         simp only [Sl.of_l]
         rw [fin]
         simp only [zCg, k0, if_pos, yT, yS, yZ]
       · rw [YI h0, zaC, zS1 hwi.2 h0, zhJ _ _ hz (by simp only [Sl.of_l]; omega) hkk, zad, zar (zHy (zID ..)), zad]
         simp only [Sl.of_l]
         rw [fin]
         simp only [zCg, k0, if_pos, yT, yS, yZ]
     · rw [k0, show ((1 : Int) == 0) = false from rfl, zaC, show ((1 : Int) == 1) = true from rfl, zat]
       rw [k0] at hl1
       have hul := zp5 v.text
       rw [ziI _ _ (by simp only [Sl.of_l]; omega) hkk, zad, zar (zHy (zDa ..)), zad]
       simp only [Sl.of_l]
       rw [ih _ (by simp only [yD, yC, yI]; omega)]
       simp only [zCg, k0, if_neg (show ¬ (1 : Int) = 0 by decide), if_pos, yT, yS, yZ]
     · rw [k0, show ((2 : Int) == 0) = false from rfl, zaC, show ((2 : Int) == 1) = false from rfl, zaC]
       rw [k0] at hl1
       rw [zar (by unfold room; omega), zad]
       have hib : wrap .u8 v.int = v.int := by rw [zvd]; omega
       rw [hib, ih _ (by simp only [yD, yC, yI]; omega)]
       simp only [zCg, k0, if_neg (show ¬ (2 : Int) = 0 by decide), if_neg (show ¬ (2 : Int) = 1 by decide), yT, yS, yZ]
theorem out_ne {l : List Int} (h : 0 < l.length) : Sl.out l = Sl.of l := by cases l with
 | nil => simp at h
 | cons x l => rfl
theorem zwI {kk : Nat} (a : Sl Val) (hv : ∀ v ∈ a.l, zaE v = true) (hw : ∀ v ∈ a.l, zlH v) (h : zoc a.l <= 4194304) (hk : kk = big := by rfl) : ziH kk a = some (Sl.of (zFc a.l)) := by
 have hl := zmZ a.l
 have hbig : big = 1152921504606846976 := rfl
 have hlim : lim = 4294967281 := rfl
 unfold ziH
 rw [zp2 YJ, zhJ _ _ YJ (by simp; omega) hk, zad, zar (zHy (zID ..)), zad]
 have hul := zr1 9 a.l.length
 have := zFf (kk := kk) hv hw YJ hk kk 0 (Sl.of (Sl.nil.l ++ uE 9 a.l.length)).l (by subst hk; omega) YJ (by simp only [Sl.of_l, Sl.nil_l, yZ, yg]; omega)
 rw [show ((0 : Nat) : Int) = 0 from rfl] at this
 rw [this, za5]
 simp only [Sl.of_l, Sl.nil_l, yZ, yg]
 rw [out_ne (by simp only [yD]; omega)]
 rfl
theorem zB0 {kk : Nat} (a : zfV) (h : zoc a.values.l <= 4194304) (ha : zak a.ann.l < big - 1) (hk : kk = big := by rfl) : znF kk a = some (zuh a) := by
 subst hk
 have hl := zmZ a.values.l
 have hbig : big = 1152921504606846976 := rfl
 unfold znF zuh
 rw [zkt (xs := a.values.l) (L := zhF a big) (fun v => !zaE v) false (fun k => by simp [zhF]) (fun k i x hi ex => ?_) YJ, zll]
 · generalize a.values.l.all _ = u; cases u
   · rfl
   · simp only [ye, yF, if_false, za5]; rw [zar ha]; rfl
 · simp only [zhF, YH (show ((i : Nat) : Int) < (a.values.l.length : Int) by omega), zat, zbE, ex, zad]
   rw [zaF YJ, zc2, zdB]
   cases zaE x <;> rfl
def zvt (a : zfV) : Prop := zoc a.values.l <= 4194304 /\ zak a.ann.l <= 16777216 /\ zbB a.ann.l /\ ∀ v ∈ a.values.l, zlH v
theorem zMS {a : Sl zam} (h : zak a.l <= 16777216) : (ziv a).length <= 1073741825 := by
 unfold ziv
 split
 · have := zpx a; omega
 · simp
theorem zDC {a : zfV} (h : zuh a = true) : (∀ v ∈ a.values.l, zaE v = true) /\ zb2 a.ann = true := by
 unfold zuh at h; simp only [yK] at h; exact ⟨zRl h.1, h.2⟩
theorem zA5 {kk : Nat} (a : zfV) (h : zvt a) (hk : kk = big := by rfl) : zl1 kk a = some (zTH a) := by
 obtain ⟨h1, h2, h3, h4⟩ := h
 have hbig : big = 1152921504606846976 := rfl
 have hlim : lim = 4294967281 := rfl
 unfold zl1 zTH
 rw [zB0 a h1 YJ hk, zad]
 cases hv : zuh a
 · rfl
 · obtain ⟨v1, v2⟩ := zDC hv
   have hrl := zDk v1
   have hfl := zMS h2
   have hsl := zp5 (b2s (zFc a.values.l))
   rw [znv] at hsl
   simp only [ye, zaC, if_true]
   rw [zwI _ v1 h4 h1 hk, zad]
   simp only [Sl.of_l]
   rw [ziI _ _ (by simp only [Sl.nil_l, yI, znv]; omega) hk, zad, zar (zHy (zDa ..)), zad, zar ⟨h3, by omega⟩, zad]
   simp only [Sl.of_l, Sl.nil_l, yZ]
   rw [ziI _ _ (by simp only [Sl.of_l]; omega) hk, zad, zar (zHy (zDa ..)), zad]
   simp only [Sl.of_l]
theorem zxU {kk : Nat} (a : zfV) (h : zvt a) (hk : kk = big := by rfl) : zjA kk a = some (zTH a) := by
 obtain ⟨h1, h2, h3, h4⟩ := h
 have hl := zmZ a.values.l
 have hbig : big = 1152921504606846976 := rfl
 have hlim : lim = 4294967281 := rfl
 have hJ : zhZ a kk = some (!zuh a) := by
  unfold zhZ zuh zbJ zbT
  rw [ztd (xs := a.values.l) (fun v => !zaE v) (fun k => by simp [za3]) (fun k i x hi ex => ?_) (by subst hk; omega), zad, zad, zjQ, zll]
  · generalize a.values.l.all _ = u; cases u
    · rfl
    · simp only [ye, yx, zat]; rw [zar YJ]; rfl
  · simp only [za3, zjM, YH (show ((i : Nat) : Int) < (a.values.l.length : Int) by omega), zat, zbE, ex, zad]
    rw [zaF YJ, zc2, zdB]
    cases zaE x <;> rfl
 unfold zjA zTH
 rw [hJ, zad]
 cases hv : zuh a
 · rfl
 · obtain ⟨v1, v2⟩ := zDC hv
   have hrl := zDk v1
   have hfl := zMS h2
   have hsl := zp5 (b2s (zFc a.values.l))
   rw [znv] at hsl
   simp only [ye, zaC, if_true]
   rw [ztQ _ v1 h4 h1 hk, zad]
   simp only [Sl.of_l]
   rw [zar (by simp only [yI, znv]; omega), zad, zar ⟨h3, by omega⟩, zad, zHm _ _ (by rw [znv]; omega)]
   simp only [yZ]
   rw [zar YJ, zad, zHm _ _ YJ]
theorem zTk (a b t : Nat) (ha : a < 2 ^ t) (hb : a + b * 2 ^ t < 18446744073709551616) : orK .u64 (a : Int) ((b * 2 ^ t : Nat) : Int) = ((a + b * 2 ^ t : Nat) : Int) := by
 have e : (BitVec.ofInt 64 (a : Int) ||| BitVec.ofInt 64 ((b * 2 ^ t : Nat) : Int)).toNat = a + b * 2 ^ t := by
  rw [BitVec.toNat_or, BitVec.ofInt_natCast, BitVec.ofInt_natCast, BitVec.toNat_ofNat, BitVec.toNat_ofNat, Nat.mod_eq_of_lt YJ, Nat.mod_eq_of_lt YJ]
  have := Nat.two_pow_add_eq_or_of_lt ha b
  rw [Nat.or_comm, Nat.mul_comm b, <- this]; omega
 show wrap .u64 ((BitVec.ofInt 64 (a : Int) ||| BitVec.ofInt 64 ((b * 2 ^ t : Nat) : Int)).toNat : Int) = _
 rw [e]; exact zp2 hb
theorem zLK {y : Int} {i acc : Nat} (h0 : 0 <= y) (h1 : y < 256) (hi : i <= 9) (h9 : i = 9 -> y <= 1) (ha : acc < 2 ^ (7 * i)) :
 orK .u64 (acc : Int) (zOw .u64 (wrap .u64 (zJv .u8 y 127)) (wrap .i64 (7 * (i : Int)))) = ((acc + (y.toNat % 128) * 2 ^ (7 * i) : Nat) : Int) /\ acc + (y.toNat % 128) * 2 ^ (7 * i) < 2 ^ (7 * (i + 1)) /\ acc + (y.toNat % 128) * 2 ^ (7 * i) < 18446744073709551616 := by
 have e1 : zJv .u8 y 127 = ((y.toNat % 128 : Nat) : Int) := by
  have := zRk ⟨y.toNat, by omega⟩
  simp only at this
  rw [<- this]; congr 1; omega
 have e2 : wrap .i64 (7 * (i : Int)) = ((7 * i : Nat) : Int) := by rw [zlx]; omega
 have hp : 2 ^ (7 * (i + 1)) = 2 ^ (7 * i) * 128 := by rw [show 7 * (i + 1) = 7 * i + 7 by omega, Nat.pow_add]
 have hd : y.toNat % 128 < 128 := by omega
 have b2 : acc + (y.toNat % 128) * 2 ^ (7 * i) < 2 ^ (7 * (i + 1)) := by
  rw [hp]
  have : (y.toNat % 128) * 2 ^ (7 * i) <= 127 * 2 ^ (7 * i) := Nat.mul_le_mul_right _ YJ
  omega
 have b3 : acc + (y.toNat % 128) * 2 ^ (7 * i) < 18446744073709551616 := by
  by_cases h : i = 9
  · have := h9 h
    subst h
    have : (y.toNat % 128) * 2 ^ (7 * 9) <= 1 * 2 ^ (7 * 9) := Nat.mul_le_mul_right _ YJ
    omega
  · have : 2 ^ (7 * (i + 1)) <= 2 ^ 63 := Nat.pow_le_pow_right YJ YJ
    omega
 refine ⟨?_, b2, b3⟩
 have e3 : zOw .u64 (wrap .u64 (zJv .u8 y 127)) (wrap .i64 (7 * (i : Int))) = (((y.toNat % 128) * 2 ^ (7 * i) : Nat) : Int) := by
  rw [e1, e2, zp2 YJ]
  show wrap .u64 (((y.toNat % 128 : Nat) : Int) * 2 ^ min ((7 * i : Nat) : Int).toNat (IntKind.bits .u64)) = _
  rw [show min ((7 * i : Nat) : Int).toNat (IntKind.bits .u64) = 7 * i by show min _ 64 = _; omega]
  have : ((y.toNat % 128 : Nat) : Int) * 2 ^ (7 * i) = (((y.toNat % 128) * 2 ^ (7 * i) : Nat) : Int) := by simp
  rw [this]; exact zp2 YJ
 rw [e3, zTk _ _ _ ha b3]
theorem zES {a : Sl Int} {kk : Nat} (hb : zjn a.l) (hbig : a.l.length < big - 1) : ∀ (k i acc : Nat), i <= 10 -> i <= a.l.length -> acc < 2 ^ (7 * i) -> 10 - i < k ->
 zgD (zh3 a kk k (acc : Int) (i : Int)) (fun r => some r) (fun (_ : Int × Int) => some ((0 : Int), (0 : Int), (12 : Int))) = some (match uD i (a.l.drop i) with
  | some (n, m) => (((acc + n * 2 ^ (7 * i) : Nat) : Int), ((i + m : Nat) : Int), 0)
  | none => (0, 0, 12))
 | 0, i, acc, _, _, _, hk => by omega
 | k + 1, i, acc, hi, hl, ha, hk => by
   have hbg : big = 1152921504606846976 := rfl
   rw [zh3]
   by_cases hlt : i < a.l.length
   · rw [YH (show (i : Int) < (a.l.length : Int) by omega), yz]
     have ex := yB hlt
     have hy := hb _ (yy hlt)
     rw [yb hlt]
     generalize a.l[i] = y at *
     by_cases h10 : i = 10
     · subst h10
       rw [show decide (((10 : Nat) : Int) < 10) = false from rfl, zaC, za5]
       unfold uD; rw [if_pos rfl]
     · rw [YH (show (i : Int) < 10 by omega), zat, zbE, ex, zad]
       unfold uD
       rw [if_neg h10]
       by_cases h9 : i = 9 /\ 1 < y
       · rw [show ((i : Int) == 9) = true by simp; omega, YH h9.2, yz, zat, za5, if_pos h9]
       · rw [if_neg h9]
         have hc : (((i : Int) == 9) && decide (1 < y)) = false := by
          by_cases h : i = 9
          · rw [YI YJ]; simp
          · rw [show ((i : Int) == 9) = false by simp; omega]; rfl
         rw [hc, zaC, zar (eq_false (by rw [zcG YJ YJ]; omega)), zad]
         obtain ⟨s1, s2, s3⟩ := zLK (i := i) (acc := acc) hy.1 hy.2 YJ YJ ha
         rw [s1, zaF YJ]
         by_cases h128 : y < 128
         · rw [YH h128, zat, if_pos h128]
           by_cases h0 : y = 0 /\ 0 < i
           · rw [show ((y == 0) && decide ((0 : Int) < (i : Int))) = true by simp; omega, zat, za5, if_pos h0]
           · rw [show ((y == 0) && decide ((0 : Int) < (i : Int))) = false by
              by_cases h : y = 0
              · rw [YI YJ]; simp
              · simp [h], zaC, zmC, if_neg h0]
             rw [show y.toNat % 128 = y.toNat by omega]
         · rw [YI h128, zaC, if_neg h128]
           rw [zES (kk := kk) hb hbig k (i + 1) _ YJ YJ s2 YJ]
           cases hr : uD (i + 1) (a.l.drop (i + 1)) with
           | none => rfl
           | some p =>
             obtain ⟨n, m⟩ := p
             simp only [yf, yA, YD, and_true]
             refine ⟨?_, by omega⟩
             have hp : 2 ^ (7 * (i + 1)) = 2 ^ (7 * i) * 128 := by rw [show 7 * (i + 1) = 7 * i + 7 by omega, Nat.pow_add]
             rw [hp, show y.toNat % 128 = y.toNat - 128 by omega]
             have : n * (2 ^ (7 * i) * 128) = 128 * n * 2 ^ (7 * i) := by rw [Nat.mul_comm (2 ^ (7 * i)) 128, <- Nat.mul_assoc, Nat.mul_comm n 128]
             rw [this, yw]; omega
   · obtain rfl : i = a.l.length := by omega
     rw [YI (show ¬ ((a.l.length : Int) < (a.l.length : Int)) by omega), Bool.false_and, zaC, za5]
     simp [uD]
theorem znG {kk : Nat} (a : Sl Int) (hb : zjn a.l) (h : a.l.length < big - 1) (hk : kk = big := by rfl) : ziJ kk a = some (match uD 0 a.l with
 | some (n, m) => ((n : Int), (m : Int), 0)
 | none => (0, 0, 12)) := by
 have hbg : big = 1152921504606846976 := rfl
 unfold ziJ
 have := zES (kk := kk) hb h kk 0 0 YJ YJ (by simp) (by subst hk; omega)
 simp only [Nat.mul_zero, Nat.pow_zero, Nat.mul_one, yk, yg] at this
 exact this
theorem zlI {α : Type} (s : Sl α) {k : Nat} (h : k <= s.l.length) : zBq s (some (k : Int)) none = some ⟨s.fl, s.l.drop k⟩ := by
 unfold zBq
 simp only [yc, Option.getD_none]
 rw [if_pos ⟨by omega, by omega, by omega, by omega⟩]
 have e1 : znn s.fl ((s.l.length : Int).toNat == s.l.length) = s.fl := by
  rw [show ((s.l.length : Int).toNat == s.l.length) = true by simp]; cases s.fl <;> rfl
 rw [e1]
 congr 2
 unfold cut
 split
 · rename_i h2; rw [show ((k : Int)).toNat = k from Int.toNat_natCast k] at h2; rw [h2.1]; rfl
 · rw [show ((k : Int)).toNat = k from Int.toNat_natCast k, List.take_of_length_le (by simp)]
theorem zOr {α : Type} (s : Sl α) {k m : Nat} (h1 : k <= m) (h2 : m <= s.l.length) : ∃ f, zBq s (some (k : Int)) (some (m : Int)) = some ⟨f, (s.l.drop k).take (m - k)⟩ := by
 unfold zBq
 simp only [yc]
 rw [if_pos ⟨by omega, by omega, by omega, by omega⟩]
 refine ⟨znn s.fl ((m : Int).toNat == s.l.length), ?_⟩
 congr 2
 unfold cut
 simp only [Int.toNat_natCast]
 split
 · rename_i h; rw [h.1, yg, show m - 0 = s.l.length by omega, List.take_length]
 · rfl
theorem zlq {kk : Nat} (a : Sl Int) (hb : zjn a.l) (h : a.l.length < lim) (hk : kk = big := by rfl) : zgO kk a = some (match zII a.l with
 | some (s, m) => (s, (m : Int), 0)
 | none => ([], 0, 12)) := by
 have hbg : big = 1152921504606846976 := rfl
 have hlim : lim = 4294967281 := rfl
 unfold zgO
 rw [znG a hb YJ hk, zad]
 unfold zII
 cases hu : uD 0 a.l with
 | none => rfl
 | some p =>
   obtain ⟨n, k⟩ := p
   obtain ⟨q1, _, q3, q4, _, _⟩ := zw4 a.l 0 hb YJ hu
   simp only [Nat.mul_zero, Nat.sub_zero] at q1
   simp only
   rw [show ((0 : Int) != 0) = false from rfl, Bool.false_or, zjO]
   have e1 : wrap .u64 (wrap .i64 ((a.l.length : Int) - (k : Int))) = ((a.l.length - k : Nat) : Int) := by rw [zet, zlx]; omega
   rw [e1]
   by_cases hn : n <= a.l.length - k
   · rw [if_neg YJ, if_pos hn]
     have e2 : wrap .i64 ((k : Int) + wrap .i64 (n : Int)) = ((k + n : Nat) : Int) := by rw [zlx, zlx]; omega
     rw [e2]
     obtain ⟨f, hf⟩ := zOr a (show k <= k + n by omega) (show k + n <= a.l.length by omega)
     rw [hf, zad]
     simp only [Nat.add_sub_cancel_left]
   · rw [if_pos YJ, if_neg hn]
def zRq : List Int -> Option (Val × List Int)
 | [] => none
 | y :: r =>
   if y = 0 then (uD 0 r).map fun p => (⟨0, zRr p.1, []⟩, r.drop p.2)
   else if y = 1 then (zII r).map fun p => (⟨1, 0, p.1⟩, r.drop p.2)
   else if y = 2 then (match r with | [] => none | b :: r' => some (⟨2, b, []⟩, r'))
   else none
theorem zrY (y : Int) (r : List Int) : zRq (y :: r) = if y = 0 then (uD 0 r).map fun p => (⟨0, zRr p.1, []⟩, r.drop p.2)
 else if y = 1 then (zII r).map fun p => (⟨1, 0, p.1⟩, r.drop p.2)
 else if y = 2 then (match r with | [] => none | b :: r' => some (⟨2, b, []⟩, r'))
 else none := rfl
theorem zu5 {kk : Nat} (a : Sl Int) (hb : zjn a.l) (h : a.l.length < lim) (hk : kk = big := by rfl) : ∃ v r ok, zh1 kk a = some (v, r, ok) /\ (match zRq a.l with
 | some (v', r') => ok = true /\ v = v' /\ r = ⟨a.fl, r'⟩
 | none => ok = false) := by
 have hbg : big = 1152921504606846976 := rfl
 have hlim : lim = 4294967281 := rfl
 unfold zh1
 obtain ⟨fl, l⟩ := a
 cases l with
 | nil => exact ⟨_, _, _, rfl, rfl⟩
 | cons y r =>
   simp only at hb h ⊢
   have hy := hb y (yQ ..)
   have hbr := hb.tail
   have hlr : r.length < lim := by simp at h; omega
   rw [show (((y :: r).length : Int) == 0) = false by simp; omega, zaC]
   simp only [yH, zad]
   have e1 : zBq (⟨fl, y :: r⟩ : Sl Int) (some 1) none = some ⟨fl, r⟩ := zlI (⟨fl, y :: r⟩ : Sl Int) (k := 1) (by simp)
   rw [e1, zad]
   have ey : wrap .i64 y = y := by rw [zlx]; omega
   rw [ey, zrY]
   by_cases h0 : y = 0
   · subst h0
     rw [show ((0 : Int) == 0) = true from rfl, zat, znG (⟨fl, r⟩ : Sl Int) hbr (by simp only; omega) hk, zad, if_pos rfl]
     cases hu : uD 0 r with
     | none =>
       simp only [zh0, zad]
       have : zBq (⟨fl, r⟩ : Sl Int) (some 0) none = some ⟨fl, r.drop 0⟩ := zlI (⟨fl, r⟩ : Sl Int) (k := 0) (by simp)
       rw [this, zad]
       exact ⟨_, _, _, rfl, rfl⟩
     | some p =>
       obtain ⟨n, k⟩ := p
       obtain ⟨q1, _, q3, q4, _, _⟩ := zw4 r 0 hbr YJ hu
       simp only [Nat.mul_zero, Nat.sub_zero] at q1
       simp only [zh0, zad]
       rw [zG2 q1, zlI (⟨fl, r⟩ : Sl Int) q4, zad]
       exact ⟨_, _, _, rfl, rfl, rfl, rfl⟩
   · rw [show (y == 0) = false by simpa using h0, zaC, if_neg h0]
     by_cases h1 : y = 1
     · subst h1
       rw [show ((1 : Int) == 1) = true from rfl, zat, zlq (⟨fl, r⟩ : Sl Int) hbr hlr hk, zad, if_pos rfl]
       simp only
       cases hu : zII r with
       | none =>
         simp only
         have : zBq (⟨fl, r⟩ : Sl Int) (some 0) none = some ⟨fl, r.drop 0⟩ := zlI (⟨fl, r⟩ : Sl Int) (k := 0) (by simp)
         rw [this, zad]
         exact ⟨_, _, _, rfl, rfl⟩
       | some p =>
         obtain ⟨s, k⟩ := p
         obtain ⟨_, _, q4, _, _⟩ := zvr hbr hu
         simp only
         rw [zlI (⟨fl, r⟩ : Sl Int) q4, zad]
         exact ⟨_, _, _, rfl, rfl, rfl, rfl⟩
     · rw [show (y == 1) = false by simpa using h1, zaC, if_neg h1]
       by_cases h2 : y = 2
       · subst h2
         rw [show ((2 : Int) == 2) = true from rfl, zat, if_pos rfl]
         cases r with
         | nil => exact ⟨_, _, _, rfl, rfl⟩
         | cons b r' =>
           have hbb := hbr b (yQ ..)
           rw [show decide ((0 : Int) < ((b :: r').length : Int)) = true by simp <;> omega, zat]
           simp only [yH, zad]
           have e2 : zBq (⟨fl, b :: r'⟩ : Sl Int) (some 1) none = some ⟨fl, r'⟩ := zlI (⟨fl, b :: r'⟩ : Sl Int) (k := 1) (by simp)
           rw [e2, zad]
           have eb : wrap .i64 b = b := by rw [zlx]; omega
           rw [eb]
           exact ⟨_, _, _, rfl, rfl, rfl, rfl⟩
       · rw [show (y == 2) = false by simpa using h2, zaC, if_neg h2]
         exact ⟨_, _, _, rfl, rfl⟩
end Go.Ev
namespace Go.Ev
def zDi : Nat -> List Int -> List Val -> Option (List Val × List Int)
 | 0, l, acc => some (acc, l)
 | n + 1, l, acc => match zRq l with
   | some (v, r) => if zaE v then zDi n r (acc ++ [v]) else none
   | none => none
theorem zQf {l : List Int} {v : Val} {r : List Int} (hb : zjn l) (h : zRq l = some (v, r)) : r.length < l.length /\ zjn r := by
 cases l with
 | nil => cases h
 | cons y l =>
   rw [zrY] at h
   have hbt := hb.tail
   split at h
   · cases hu : uD 0 l with
     | none => rw [hu] at h; cases h
     | some p =>
       rw [hu] at h
       obtain ⟨n, k⟩ := p
       obtain ⟨_, _, q3, _, _, _⟩ := zw4 l 0 hbt YJ hu
       obtain ⟨_, rfl⟩ := YE (yO h)
       exact ⟨by simp; omega, hbt.drop _⟩
   · split at h
     · cases hu : zII l with
       | none => rw [hu] at h; cases h
       | some p =>
         rw [hu] at h
         obtain ⟨s, k⟩ := p
         obtain ⟨_, q3, _, _, _⟩ := zvr hbt hu
         obtain ⟨_, rfl⟩ := YE (yO h)
         exact ⟨by simp; omega, hbt.drop _⟩
     · split at h
       · cases l with
         | nil => cases h
         | cons b l =>
           obtain ⟨_, rfl⟩ := YE (yO h)
           exact ⟨by simp; omega, hbt.tail⟩
       · cases h
theorem zF4 {kk : Nat} (hkk : kk = big) : ∀ (k n : Nat) (fl : Fl) (l : List Int) (acc : List Val), zjn l -> l.length < k -> n < 18446744073709551616 -> l.length + acc.length < lim ->
 (match zDi n l acc with
  | some (vs, r) => ∃ m, zdo kk k ⟨fl, l⟩ (n : Int) acc = some (.done (⟨fl, r⟩, m, vs))
  | none => zdo kk k ⟨fl, l⟩ (n : Int) acc = some (.ret (Sl.nil, 12)))
 | 0, n, fl, l, acc, _, h, _, _ => by omega
 | k + 1, 0, fl, l, acc, hb, h, hn, hl => by
   simp only [zDi]
   exact ⟨_, rfl⟩
 | k + 1, n + 1, fl, l, acc, hb, h, hn, hl => by
   have hlim : lim = 4294967281 := rfl
   rw [zdo, YH (show (0 : Int) < ((n + 1 : Nat) : Int) by omega), zat]
   obtain ⟨v, r, ok, e1, e2⟩ := zu5 (kk := kk) (⟨fl, l⟩ : Sl Int) hb (by simp only; omega) hkk
   rw [e1, zad]
   simp only [zDi]
   simp only at e2
   cases hv : zRq l with
   | none =>
     rw [hv] at e2
     simp only at e2
     subst e2
     rfl
   | some p =>
     obtain ⟨v', r'⟩ := p
     rw [hv] at e2
     obtain ⟨rfl, rfl, rfl⟩ := e2
     obtain ⟨q1, q2⟩ := zQf hb hv
     simp only
     cases hvv : zaE v
     · rfl
     · simp only [ye, Bool.or_self, zaC, if_true]
       rw [zar (by unfold room; omega), zad]
       have e3 : IntKind.wrap .u64 (((n + 1 : Nat) : Int) - 1) = (n : Int) := by rw [zet]; omega
       rw [e3]
       exact zF4 hkk k n fl r' (acc ++ [v]) q2 YJ YJ (by simp; omega)
def zCF (l : List Int) : Option (List Val) :=
 match uD 0 l with
 | none => none
 | some (n, k) => match zDi n (l.drop k) [] with
   | some (vs, []) => some vs
   | _ => none
theorem ztR {kk : Nat} (a : Sl Int) (hb : zjn a.l) (h : a.l.length < lim) (hk : kk = big := by rfl) : zhl kk a = some (match zCF a.l with
 | some vs => (Sl.out vs, 0)
 | none => (Sl.nil, 12)) := by
 have hbg : big = 1152921504606846976 := rfl
 have hlim : lim = 4294967281 := rfl
 unfold zhl zCF
 rw [znG a hb YJ hk, zad]
 cases hu : uD 0 a.l with
 | none => rfl
 | some p =>
   obtain ⟨n, k⟩ := p
   obtain ⟨q1, _, q3, q4, _, _⟩ := zw4 a.l 0 hb YJ hu
   simp only [Nat.mul_zero, Nat.sub_zero] at q1
   simp only
   rw [show ((0 : Int) != 0) = false from rfl, zaC, zlI a q4, zad]
   have := zF4 hk kk n a.fl (a.l.drop k) [] (hb.drop k) (by subst hk; simp; omega) YJ (by simp; omega)
   cases hr : zDi n (a.l.drop k) [] with
   | none => rw [hr] at this; simp only at this; rw [this, zmC]
   | some p =>
     obtain ⟨vs, r⟩ := p
     rw [hr] at this
     obtain ⟨m, hm⟩ := this
     rw [hm, za5]
     simp only
     cases r with
     | nil => rfl
     | cons x r => rw [YH (by simp <;> omega)]; rfl
def zWJ (l : List Int) : zfV × Int × Int :=
 match zII l with
 | none => (zfV.zero, 0, 12)
 | some (s, n) => match zCF (s2b s) with
   | none => (zfV.zero, 0, 12)
   | some vs => match zII (l.drop n) with
     | none => (zfV.zero, 0, 12)
     | some (t, m) => if (zib t).2 = 0 then (⟨Sl.out vs, (zib t).1⟩, ((n + m : Nat) : Int), 0) else (zfV.zero, 0, 12)
theorem zxV {kk : Nat} (a : Sl Int) (hb : zjn a.l) (h : 5 * a.l.length < lim) (hk : kk = big := by rfl) : zjB kk a = some (zWJ a.l) := by
 have hlim : lim = 4294967281 := rfl
 unfold zjB zWJ
 rw [zlq a hb YJ hk, zad]
 cases hs : zII a.l with
 | none => rfl
 | some p =>
   obtain ⟨s, n⟩ := p
   obtain ⟨_, q2, q3, q4, _⟩ := zvr hb hs
   simp only
   rw [show ((0 : Int) != 0) = false from rfl, zaC, ztR (Sl.of (s2b s)) (zE8 s) (by simp only [Sl.of_l, zxc]; omega) hk, zad]
   simp only [Sl.of_l]
   cases hd : zCF (s2b s) with
   | none => rfl
   | some vs =>
     simp only
     rw [show ((0 : Int) != 0) = false from rfl, zaC, zlI a q3, zad, zlq (⟨a.fl, a.l.drop n⟩ : Sl Int) (hb.drop n) (by simp; omega) hk, zad]
     simp only
     cases ht : zII (a.l.drop n) with
     | none => rfl
     | some p =>
       obtain ⟨t, m⟩ := p
       obtain ⟨_, r2, r3, r4, _⟩ := zvr (hb.drop n) ht
       simp only [List.length_drop] at r3 r4
       simp only
       rw [show ((0 : Int) != 0) = false from rfl, zaC, zar YJ, zad, zw9]
       have e : IntKind.wrap .i64 ((n : Int) + (m : Int)) = ((n + m : Nat) : Int) := by rw [zcG YJ YJ]; omega
       rw [e]
       split <;> rfl
-- reading back what was written
theorem zLs {v : Val} (hv : zaE v = true) (hw : zlH v) (r : List Int) : zRq (zCg v ++ r) = some (v, r) := by
 have hz := zN7 hw.2
 obtain ⟨k, i, t⟩ := v
 rcases zk7 hv with ⟨hk, ht⟩ | ⟨hk, hi, ht⟩ | ⟨hk, hi, ht⟩
 · simp only at hk ht; subst hk ht
   simp only [zCg, if_pos, yS, zrY]
   rw [zOk 9 0 _ r YJ (by simpa using hz) YJ]
   simp only [yf, List.drop_left, zQg]
 · simp only at hk hi ht; subst hk hi
   simp only [zCg, if_neg (show ¬ (1 : Int) = 0 by decide), if_pos, yS, zrY]
   rw [zzL t r YJ]
   simp only [yf, List.drop_left]
 · simp only at hk hi ht; subst hk ht
   simp only [zCg, if_neg (show ¬ (2 : Int) = 0 by decide), if_neg (show ¬ (2 : Int) = 1 by decide), yS, yZ, zrY, if_pos]
theorem zE9 : ∀ (l : List Val) (r : List Int) (acc : List Val), (∀ v ∈ l, zaE v = true) -> (∀ v ∈ l, zlH v) -> zDi l.length (l.flatMap zCg ++ r) acc = some (acc ++ l, r)
 | [], r, acc, _, _ => by simp [zDi]
 | v :: l, r, acc, hv, hw => by
   have h1 := hv v (yQ ..)
   rw [yC, zDi, List.flatMap_cons, yT, zLs h1 (hw v (yQ ..))]
   simp only [h1, if_true]
   rw [zE9 l r _ (fun x hx => hv x (yU _ hx)) (fun x hx => hw x (yU _ hx))]
   simp
theorem zH0 {l : List Val} (hl : l.length < 18446744073709551616) (hv : ∀ v ∈ l, zaE v = true) (hw : ∀ v ∈ l, zlH v) : zCF (zFc l) = some l := by
 unfold zCF zFc
 rw [zOk 9 0 l.length _ YJ (by simpa using hl) YJ]
 simp only [List.drop_left]
 have := zE9 l [] [] hv hw
 simp only [List.append_nil, yZ] at this
 rw [this]
-- what is read is what was written
-- few, zog
theorem z1J {a : zfV} (h : zvt a) (k : Nat) : (∃ b, ziF 8 12 (Sl.of [za7.zero.setRows (Sl.of [a])]) 0 big (k + 2) 0 = some (.ret b)) ∨ ∃ q, ziF 8 12 (Sl.of [za7.zero.setRows (Sl.of [a])]) 0 big (k + 2) 0 = some (.done q) := by
 obtain ⟨h1, h2, h3, h4⟩ := h
 have hl := zmZ a.values.l
 have hbig : big = 1152921504606846976 := rfl
 have hlim : lim = 4294967281 := rfl
 have e0 : ix (Sl.of [za7.zero.setRows (Sl.of [a])]).l 0 = some (za7.zero.setRows (Sl.of [a])) := rfl
 have e1 : ix (za7.zero.setRows (Sl.of [a])).rows.l 0 = some a := by rw [za7.setRows_rows]; rfl
 have e2 : (za7.zero.setRows (Sl.of [a])).rows.l.length = 1 := by rw [za7.setRows_rows]; rfl
 rw [ziF, e0, zad, e2, show decide ((0 : Int) < ((1 : Nat) : Int)) = true from rfl, zat, e1, zad, zar YJ, zad]
 cases zE5 a.values 20
 · exact .inl ⟨_, rfl⟩
 · simp only [ye, yx, zat]
   have hsz : zcw (Sl.of [a.ann]).l = zak a.ann.l + 1 := by rcases a with ⟨_, ⟨f, l⟩⟩; rfl
   rw [zar ⟨by omega, by omega, by omega⟩, zad]
   cases zTF 12 (Sl.of [a.ann])
   · exact .inl ⟨_, rfl⟩
   · simp only [ye, zaC]
     rw [ziF, e0, zad, e2]
     exact .inr ⟨_, rfl⟩
theorem zO2 {a : zfV} (h : zvt a) : ∃ b, zsR big (Sl.of [a]) = some b := by
 have hbig : big = 1152921504606846974 + 2 := rfl
 unfold zsR zwF
 have e0 : ix (Sl.of [za7.zero.setRows (Sl.of [a])]).l 0 = some (za7.zero.setRows (Sl.of [a])) := rfl
 have e2 : (za7.zero.setRows (Sl.of [a])).rows.l.length = 1 := by rw [za7.setRows_rows]; rfl
 have e3 : (za7.zero.setRows (Sl.of [a])).columns.l.length = 0 := by rw [za7.setRows_columns]; rfl
 have l1 : ∀ k, zln 8 12 (Sl.of [za7.zero.setRows (Sl.of [a])]) 0 big (k + 1) 0 = some (.done 0) := fun k => by
  rw [zln, e0, zad, e3]; rfl
 have l0 : ∀ k, (∃ b, ziG 8 12 (Sl.of [za7.zero.setRows (Sl.of [a])]) big (k + 2) 0 = some (.ret b)) ∨ ∃ q, ziG 8 12 (Sl.of [za7.zero.setRows (Sl.of [a])]) big (k + 2) 0 = some (.done q) := fun k => by
  rw [ziG, show decide ((0 : Int) < ((Sl.of [za7.zero.setRows (Sl.of [a])]).l.length : Int)) = true from rfl, zat, e0, zad, e2, e3]
  rw [show (decide ((8 : Int) < ((1 : Nat) : Int)) || decide ((20 : Int) < ((0 : Nat) : Int))) = false from rfl, zaC]
  have hb1 := l1 (1152921504606846974 + 1)
  have hb2 := z1J h 1152921504606846974
  rw [<- hbig] at hb2
  rw [show (1152921504606846974 + 1 + 1 : Nat) = big from rfl] at hb1
  rw [hb1, za5]
  rcases hb2 with ⟨b, hb⟩ | ⟨q, hq⟩
  · rw [hb]; exact .inl ⟨_, rfl⟩
  · rw [hq, za5, ziG]
    exact .inr ⟨_, rfl⟩
 have hb := l0 1152921504606846974
 rw [<- hbig] at hb
 rcases hb with ⟨b, hb⟩ | ⟨q, hq⟩
 · rw [hb]; exact ⟨_, rfl⟩
 · rw [hq]; exact ⟨_, rfl⟩
theorem zCM {α : Type} (f : α -> α -> Int) (hf : ∀ x, f x x = 0) : ∀ l : List α, zwY f l l = 0
 | [] => rfl
 | x :: l => by simp only [zwY, hf, zCM f hf l, zvK]
theorem zLQ (fl : Fl) (a : Sl Val) : zs7 ⟨fl, a.l⟩ a = true := by
 unfold zs7 ztl; rw [zCM _ zuN]; rfl
theorem zRd (a : Sl zam) : zpq (zhU a) a = true := by
 unfold zpq zcR zhU; rw [Sl.out_l, zns, zmE]; rfl
theorem zLU {x a : zfV} (h1 : x.values.l = a.values.l) (h2 : x.ann = zhU a.ann) (hl : a.values.l.length < big - 1) (hs : zak x.ann.l + zak a.ann.l < big - 1) : zjC big (Sl.of [x]) (Sl.of [a]) = some true := by
 have hbig : big = 1152921504606846974 + 2 := rfl
 unfold zjC
 have e1 : ix (Sl.of [x]).l 0 = some x := rfl
 have e2 : ix (Sl.of [a]).l 0 = some a := rfl
 have l0 : ∀ k, zgq (Sl.of [x]) (Sl.of [a]) big (k + 2) 0 = some (.done 1) := fun k => by
  rw [zgq, show decide ((0 : Int) < ((Sl.of [x]).l.length : Int)) = true from rfl, zat, e1, zad, e2, zad, zar ⟨by rw [h1]; exact hl, hl⟩, zad]
  have hv : zs7 x.values a.values = true := by
   rcases hx : x.values with ⟨fl, l⟩
   rw [hx] at h1; simp only at h1; subst h1
   exact zLQ fl _
  rw [hv]
  simp only [ye, yx, zat]
  rw [zar hs, zad, h2, zRd]
  simp only [ye, zaC]
  rfl
 have hb := l0 1152921504606846974
 rw [<- hbig] at hb
 rw [show (((Sl.of [x]).l.length : Int) != ((Sl.of [a]).l.length : Int)) = false from rfl, zaC, hb]
 rfl
theorem zpN {kk : Nat} (a : zfV) (b : Sl Int) (h : okE a b) (hk : kk = big := by rfl) : zgB kk a b = some (zHe a b) := by
 subst hk
 obtain ⟨h1, h2, h3, h4, h5, h6⟩ := h
 have hl := zmZ a.values.l
 have hbig : big = 1152921504606846976 := rfl
 have hlim : lim = 4294967281 := rfl
 have hsm : zvt a := ⟨by omega, by omega, h3, h4⟩
 unfold zgB zHe zNE
 obtain ⟨f, hf⟩ := zO2 hsm
 rw [ye, zaC, hf, zad, zdB]
 split
 · rfl
 rw [zxU a hsm, zad, zA5 a hsm, zad]
 unfold zTH
 cases hv : zuh a
 · rfl
 · obtain ⟨v1, v2⟩ := zDC hv
   have hfl : (ziv a.ann).length <= 67108865 := by
    unfold ziv; rw [if_pos v2]; have := zpx a.ann; omega
   have hrl := zDk v1
   have hsl := zp5 (b2s (zFc a.values.l))
   have htl := zp5 (ziv a.ann)
   rw [znv] at hsl
   simp only [if_true, Sl.of_l]
   rw [show ((0 : Int) != 0) = false from rfl, Bool.false_or, beq_self_eq_true, ye, zaC, zaC]
   rw [zar (by unfold room; simp only [yI, yD]; omega), zad, zar (by unfold room; simp only [yZ, yD]; omega), zad]
   have hB1 : zjn (zw7 (b2s (zFc a.values.l))) := zw6 (by rw [znv]; omega)
   have hB2 : zjn (zw7 (ziv a.ann)) := zw6 YJ
   rw [zxV _ (by simp only [Sl.of_l, yZ]; exact (hB1.append hB2).append h6) (by simp only [Sl.of_l, yZ, yD]; omega), zad]
   have hd : zWJ (zw7 (b2s (zFc a.values.l)) ++ zw7 (ziv a.ann) ++ b.l) = (⟨Sl.out a.values.l, zhU a.ann⟩, (((zw7 (b2s (zFc a.values.l))).length + (zw7 (ziv a.ann)).length : Nat) : Int), 0) := by
    unfold zWJ
    rw [yT, zzL _ _ (by rw [znv]; omega)]
    simp only
    rw [zLS (zJO YJ v1 h4), zH0 YJ v1 h4]
    simp only [List.drop_left]
    rw [zzL _ _ YJ]
    simp only
    have hp : zib (ziv a.ann) = (zhU a.ann, 0) := by unfold ziv; rw [if_pos v2]; exact zCu v2 h3
    rw [hp]; rfl
   simp only [Sl.of_l, yZ]
   rw [hd]
   simp only [yD]
   rw [show (((0 : Int) == 0) && ((((zw7 (b2s (zFc a.values.l))).length + (zw7 (ziv a.ann)).length : Nat) : Int) == (((zw7 (b2s (zFc a.values.l))).length + (zw7 (ziv a.ann)).length : Nat) : Int))) = true by simp, zat]
   have hp : zib (zcu a.ann) = (zhU a.ann, 0) := zCu v2 h3
   have hpi := zON hp
   have hlen := zpx a.ann
   rw [zLU (x := ⟨Sl.out a.values.l, zhU a.ann⟩) (by simp) rfl YJ (by simp only; omega)]
   rfl
end Go.Ev
