/- Part of a proof. -/
import Derived.Laws.RangeAny
import Derived.Test.YtaadpbhondmahaaGreatDoorT8
set_option linter.all false
namespace Go.Ev
theorem zlV {s : Str} {i : Nat} (h : i ≤ s.length) : zwD s (some (i : Int)) none = some (s.drop i) := by
 unfold zwD
 simp only [Option.getD_some, Option.getD_none]
 rw [if_pos ⟨by omega, by omega, by omega, by omega⟩]
 unfold cut
 simp only [Int.toNat_natCast]
 split
 · rename_i h2; obtain ⟨h3, h4⟩ := h2; subst h3; rfl
 · rw [List.take_of_length_le (by simp)]
theorem zsY {s : Str} {i : Nat} (h : i ≤ s.length) : zwD s none (some (i : Int)) = some (s.take i) := by
 unfold zwD
 simp only [Option.getD_some, Option.getD_none]
 rw [if_pos ⟨by omega, by omega, by omega, by omega⟩]
 unfold cut
 simp only [Int.toNat_natCast, Int.toNat_zero]
 split
 · rename_i h2; rw [List.take_of_length_le (by omega)]
 · rfl
theorem zyw (a b : Str) : (b.isPrefixOf a) = (decide (b.length ≤ a.length) && (a.take b.length == b)) := by
 rw [Bool.eq_iff_iff, List.isPrefixOf_iff_prefix, Bool.and_eq_true, decide_eq_true_eq, beq_iff_eq]
 constructor
 · rintro ⟨t, rfl⟩; simp
 · rintro ⟨_, h⟩; exact ⟨a.drop b.length, by conv => lhs; lhs; rw [← h]
                                             exact List.take_append_drop _ _⟩
theorem zj5 (kk : Nat) (a b : Str) : zdx kk a b = some (ziv a b) := by
 unfold zdx ziv
 rw [zjp, zyw]
 by_cases h : b.length ≤ a.length
 · rw [if_pos (by omega), zsY h, zad, decide_eq_true h]; rfl
 · rw [if_neg (by omega), decide_eq_false h]; rfl
theorem znA (kk : Nat) (a b : Str) : zhN kk a b = some (ziv a b) := rfl
theorem zFJ {a b : Str} (h : b.isPrefixOf a = true) : b.length ≤ a.length := (List.isPrefixOf_iff_prefix.mp h).length_le
theorem zj6 (kk : Nat) (a b : Str) : zdy kk a b = some (zfQ a b) := by
 unfold zdy zfQ ziv za3
 rw [zdf, zey]
 split
 · rename_i h; rw [zlV (zFJ h)]; rfl
 · rfl
theorem znB (kk : Nat) (a b : Str) : zhO kk a b = some (zfQ a b) := rfl
theorem zjv (kk : Nat) (a b : Str) : zc5 kk a b = some (ziC a b) := by
 unfold zc5 ziC ziv za3
 rw [zey]
 split
 · rename_i h; rw [zlV (zFJ h)]; rfl
 · rfl
theorem zm2 (kk : Nat) (a b : Str) : zhq kk a b = some (ziC a b) := rfl
theorem zSm {s : Str} {p : Nat} {b : UInt8} (e : s[p]? = some b) : ∃ h : p < (⟨s.toArray⟩ : ByteArray).size, (⟨s.toArray⟩ : ByteArray)[p]'h = b := by
 obtain ⟨h, e⟩ := List.getElem?_eq_some_iff.mp e
 exact ⟨by simpa [ByteArray.size] using h, by rw [← e]; rfl⟩
theorem zDg {s : Str} {p : Nat} {b : UInt8} (e : s[p]? = some b) (h : b.toNat < 128) : Utf8.decode ⟨s.toArray⟩ p = (b.toNat, 1) := by
 obtain ⟨hp, e⟩ := zSm e
 rw [decode_ascii _ _ hp (by rw [e]; exact h), e]
theorem zFY {s : Str} {p : Nat} {b : UInt8} (e : s[p]? = some b) (h : 128 ≤ b.toNat) : 128 ≤ (Utf8.decode ⟨s.toArray⟩ p).1 ∧ 1 ≤ (Utf8.decode ⟨s.toArray⟩ p).2 := by
 obtain ⟨hp, e⟩ := zSm e
 exact decode_high _ _ hp (by rw [e]; exact h)
theorem zFk {s : Str} (h : zBo s = true) {p : Nat} {b : UInt8} (e : s[p]? = some b) : b.toNat < 128 := by
 have := List.all_eq_true.mp h b (List.mem_of_getElem? e); simpa using this
theorem zqx {s : Str} {i : Nat} (h : i < s.length) : ∃ b, s[i]? = some b ∧ s.drop i = b :: s.drop (i + 1) := ⟨s[i], by simp [h], List.drop_eq_getElem_cons h⟩
theorem zBj {c5 c6 c10 c12 : Str} {c7 c8 : Int} {kk : Nat} (hs : zBo c12 = true) : ∀ (k i : Nat) (b : Bool) (j : Nat), c12.length - i < k → i ≤ c12.length →
 zcy c5 c6 c7 c8 c10 c12 kk k b j i = some (.done (b || (c12.drop i).any (fun d => c8 == (d.toNat : Int)), j, c12.length)) := by
 intro k
 induction k with
 | zero => intro i b j h; omega
 | succ k ih =>
   intro i b j h1 h2
   rw [zcy]
   by_cases h : i < c12.length
   · obtain ⟨d, e, e2⟩ := zqx h
     rw [show ltn i c12.length = true from decide_eq_true h, zaI, zDg e (zFk hs e), ih (i + 1) _ _ (by omega) (by omega), e2, List.any_cons, Bool.or_assoc]
   · rw [show ltn i c12.length = false from decide_eq_false h, zaV, show i = c12.length by omega]; simp
theorem zFm {set : Str} {b : UInt8} : (set.any fun d => (b.toNat : Int) == (d.toNat : Int)) = set.contains b := by
 rw [List.contains_eq_any_beq]
 congr 1; funext d
 rw [Bool.eq_iff_iff, beq_iff_eq, beq_iff_eq, Int.natCast_inj, UInt8.toNat_inj]
theorem zFo {set : Str} (hs : zBo set = true) {r : Nat} (h : 128 ≤ r) : (set.any fun d => (r : Int) == (d.toNat : Int)) = false := by
 rw [List.any_eq_false]; intro d hd
 have := List.all_eq_true.mp hs d hd
 simp only [decide_eq_true_eq] at this
 simp; omega
theorem zr1 {set : Str} (hs : zBo set = true) {b : UInt8} (h : 128 ≤ b.toNat) : set.contains b = false := by
 rw [List.contains_eq_any_beq, List.any_eq_false]; intro d hd
 have := List.all_eq_true.mp hs d hd
 simp only [decide_eq_true_eq] at this
 intro e; rw [beq_iff_eq] at e; subst e; omega
theorem zy2 {a set : Str} {kk : Nat} (hs : zBo set = true) (hk : set.length < kk) : ∀ (k i : Nat), a.length - i < k → i ≤ a.length →
 zcz a set a kk k i = some (if (a.drop i).all (fun b => set.contains b) then .done a.length else .ret ((a.drop i).dropWhile fun b => set.contains b)) := by
 intro k
 induction k with
 | zero => intro i h; omega
 | succ k ih =>
   intro i h1 h2
   rw [zcz]
   by_cases h : i < a.length
   · obtain ⟨d, e, e2⟩ := zqx h
     rw [show ltn i a.length = true from decide_eq_true h, zaI, zBj hs kk 0 _ _ (by omega) (by omega), zb9, List.drop_zero, Bool.false_or, zdf, zey, e2, List.all_cons, List.dropWhile_cons]
     by_cases hd : d.toNat < 128
     · rw [zDg e hd]; simp only [zFm]
       by_cases hc : set.contains d = true
       · rw [if_pos hc, ih (i + 1) (by omega) (by omega), hc, Bool.true_and, if_pos rfl]
       · rw [if_neg hc, zlV (by omega), zad, if_neg hc, Bool.eq_false_iff.mpr hc, Bool.false_and, if_neg (by decide), e2]
     · obtain ⟨h3, h4⟩ := zFY e (by omega)
       have hc := zr1 hs (b := d) (by omega)
       simp only [zFo hs h3, Bool.false_eq_true, if_false, hc, Bool.false_and]
       rw [zlV (by omega), zad, e2]
   · rw [show ltn i a.length = false from decide_eq_false h, zaV, show i = a.length by omega]; simp
theorem zI7 {p : UInt8 → Bool} {a : Str} (h : ∀ x ∈ a, p x = true) : a.dropWhile p = [] := by
 induction a with
 | nil => rfl
 | cons x a ih => rw [List.dropWhile_cons, if_pos (h x (by simp))]; exact ih fun y hy => h y (by simp [hy])
theorem zm5 {kk : Nat} (a b : Str) (h : a.length < lim ∧ b.length < lim ∧ zBo b = true) (hk : lim < kk := by decide) : zfz kk a b = some (zmN a b) := by
 obtain ⟨h1, h2, h3⟩ := h
 unfold zfz zmN
 rw [zy2 h3 (by omega) kk 0 (by omega) (by omega), List.drop_zero]
 split
 · rename_i h; rw [zb9]
   rw [zI7 (List.all_eq_true.mp h)]
 · rfl
theorem zkG (kk : Nat) (a : zab) (b : Str) : zfN kk a b = some (zaG a b) := by
 cases a; rfl
theorem zI6 (a : Str) (p : UInt8 → Bool) : (a.dropWhile p).length ≤ a.length := (List.dropWhile_suffix p).length_le
theorem zpA : lim = 4294967281 := rfl
theorem zkW (kk : Nat) (a : zab) (b : Str) (h : a.rest.length < lim ∧ b.length < lim ∧ zBo b = true) : zer kk a b = some (zkj a b) := by
 have h2 := zhY b a.rest
 have h3 := zzv b a.rest
 have h4 := h.1
 rw [zpA] at h4
 unfold zer zkj
 rw [zav h, zad]
 have e : zmN a.rest b = (zq6 b a.rest).2 := rfl
 rw [e, zgz (by omega) (by omega), show ((a.rest.length : Int) - ((zq6 b a.rest).2.length : Int)) = ((zq6 b a.rest).1.length : Int) by omega, zsY (by omega), zad]
 cases a with | mk r =>
 simp only [zab.setRest] at *
 have e4 : r.take (zq6 b r).1.length = (zq6 b r).1 := by
  conv => lhs; arg 2; rw [← h3]
  rw [List.take_left]
 rw [e4]
theorem zjw (kk : Nat) (a : zab) (h : a.rest.length < lim) : zc8 kk a = some (zjq a) := by
 have h2 := zhY zcs a.rest
 unfold zc8
 rw [zav ⟨h, by decide, by decide⟩, zad, zav ⟨show (zq6 zcs a.rest).1.length < lim by omega, rfl, rfl⟩]; rfl
theorem zoW (kk : Nat) (a : Int) : ziS kk a = some (ztm a) := rfl
theorem zAW (b : UInt8) : ztm (b.toNat : Int) = zcs.contains b := by
 rw [Bool.eq_iff_iff, zDd]
 unfold ztm zET
 rw [Bool.and_eq_true, decide_eq_true_eq, decide_eq_true_eq]; omega
theorem zyM {r : Nat} (h : 128 ≤ r) : ztm (r : Int) = false := by unfold ztm; rw [decide_eq_false (show ¬ (r : Int) ≤ 57 by omega), Bool.and_false]
theorem zt8 {a : Str} {kk : Nat} : ∀ (k i : Nat), a.length - i < k → i ≤ a.length →
 ∃ r, za9 true a kk k i = some r ∧ (match r with | .ret n => 0 ≤ n ∧ (a.drop i).any (fun b => !(zcs.contains b)) = true | .done _ => (a.drop i).any (fun b => !(zcs.contains b)) = false) := by
 intro k
 induction k with
 | zero => intro i h; omega
 | succ k ih =>
   intro i h1 h2
   rw [za9]
   by_cases h : i < a.length
   · obtain ⟨d, e, e2⟩ := zqx h
     rw [show ltn i a.length = true from decide_eq_true h, zaI, zhf, zad, e2, List.any_cons, zey]
     simp only [Bool.and_true, Bool.not_true, Bool.and_false, Bool.or_false]
     by_cases hd : d.toNat < 128
     · rw [zDg e hd]; simp only [zAW]
       by_cases hc : zcs.contains d = true
       · rw [hc]; exact ih (i + 1) (by omega) (by omega)
       · rw [Bool.eq_false_iff.mpr hc]; exact ⟨_, rfl, by omega, rfl⟩
     · obtain ⟨h3, h4⟩ := zFY e (by omega)
       rw [zyM h3, zr1 (by decide) (b := d) (by omega)]
       exact ⟨_, rfl, by omega, rfl⟩
   · rw [show ltn i a.length = false from decide_eq_false h, zaV, show i = a.length by omega]
     exact ⟨_, rfl, by simp⟩
theorem ztB {kk : Nat} {a : Str} (h : a.length < kk) : zbr kk a = some (a.any fun b => !(zcs.contains b)) := by
 unfold zbr zbN zbM
 obtain ⟨r, e, h2⟩ := zt8 (kk := kk) kk 0 (by omega) (Nat.zero_le a.length)
 rw [e]; rw [List.drop_zero] at h2
 cases r with
 | ret n => simp only [zlc, zad, h2.2, decide_eq_true h2.1]
 | done n => simp only [zb9, zad]; rw [h2]; rfl
theorem zqD (b : UInt8) (n : Nat) (h : n < 256) : ((b.toNat : Int) == (n : Int)) = (b == UInt8.ofNat n) := by
 rw [Bool.eq_iff_iff, beq_iff_eq, beq_iff_eq, Int.natCast_inj, ← UInt8.toNat_inj, show (UInt8.ofNat n).toNat = n by simp [UInt8.toNat_ofNat', Nat.mod_eq_of_lt h]]
theorem zqQ {kk : Nat} (a : Str) (h : a.length < lim) (hk : lim < kk := by decide) : zin kk a = some (zhu a) := by
 have ej : zfK a kk = some (decide (a = []) || ((a.head? == some 48) || a.any (fun b => !(zcs.contains b)))) := by
  unfold zfK
  rw [zdf, zfD]
  cases a with
  | nil => rfl
  | cons b s =>
    rw [if_neg (by simp), ztB (by omega)]
    simp only [List.getElem?_cons_zero, zad, zdf, List.head?_cons, zey]
    rw [show ((b.toNat : Int) == 48) = (b == 48) from zqD b 48 (by decide), show (decide (b :: s = [])) = false from rfl, Bool.false_or]
    by_cases hb : b = 48
    · subst hb; rfl
    · rw [show (b == 48) = false by simp [hb], show (some b == some (48 : UInt8)) = false by simp [hb]]; rfl
 unfold zin zhu
 rw [ej, zad, zey]
 by_cases h1 : a = []
 · subst h1; rfl
 · rw [if_neg h1, decide_eq_false h1, Bool.false_or]
   split
   · rfl
   · rw [zav h, zad, zdf, zey]
     unfold ziu
     cases Lib.atoiAll a <;> rfl
theorem zcA (p s : Str) : (za3 p s).2.length ≤ s.length := by unfold za3; split <;> simp
theorem zDn (s : Str) : (zks s).1.length ≤ s.length ∧ (zks s).2.1.length ≤ s.length := by
 unfold zks
 constructor
 · exact (List.takeWhile_prefix _).length_le
 · have := zI6 s (fun b => b != 46); simp; omega
theorem zrN {kk : Nat} (a : Str) (h : a.length < lim) (_hk : lim < kk := by decide) : zi1 kk a = some (zhZ a) := by
 have h1 := zcA [116] a
 have h2 := zDn (za3 [116] a).2
 unfold zi1 zhZ zfQ
 simp only [zG9]
 rw [zav (by omega), zad, zav (by omega), zad, zav (by omega), zad]
 generalize zhu (zks (za3 [116] a).2).1 = x
 generalize zhu (zks (za3 [116] a).2).2.1 = y
 rcases x with ⟨x, e⟩; rcases y with ⟨y, f⟩
 simp only
 cases (za3 [116] a).1 <;> cases (zks (za3 [116] a).2).2.2
 case true.true =>
  simp only [Bool.not_true, Bool.or_false, zaV, Bool.and_true, if_true, zey, Bool.or_eq_true, beq_iff_eq, bne_iff_ne]
  by_cases h3 : e = 3 ∨ f = 3
  · rw [if_pos h3, if_pos h3]; rfl
  · rw [if_neg h3, if_neg h3]
    by_cases h4 : e = 0 ∧ f = 0
    · rw [if_neg (show ¬ (e ≠ 0 ∨ f ≠ 0) by omega), if_pos h4]; rfl
    · rw [if_pos (show e ≠ 0 ∨ f ≠ 0 by omega), if_neg h4]; rfl
 all_goals rfl
theorem zwP {s o n : Str} (h : s.length < lim) (h1 : 1 ≤ o.length) (h2 : n.length ≤ 2) : zrX s o n := by
 refine ⟨h, h1, ?_⟩
 have := Lib.count_le s o
 have h4 : Lib.count s o * n.length ≤ (s.length + 1) * 2 := Nat.mul_le_mul this h2
 unfold room; rw [zpA] at h; omega
theorem zEi {b : UInt8} {t : Str} (h : t ≠ []) : zwD (b :: t) (some 1) (some (((b :: t).length : Int) - 1)) = some t.dropLast := by
 have h1 := List.length_pos_iff.mpr h
 unfold zwD
 simp only [Option.getD_some, List.length_cons]
 rw [if_pos ⟨by omega, by omega, by omega, by omega⟩]
 unfold cut
 rw [if_neg (by simp)]
 simp only [show ((1 : Int)).toNat = 1 from rfl, List.drop_succ_cons, List.drop_zero, List.dropLast_eq_take]
 rw [show (((t.length + 1 : Nat) : Int) - 1).toNat - 1 = t.length - 1 by omega]
theorem zyr : ∀ (n : Nat) (s : Str), s.length ≤ n → (zkg s [39, 39] []).length ≤ s.length := by
 intro n
 induction n with
 | zero => intro s h; rw [List.length_eq_zero_iff.mp (Nat.le_zero.mp h), zoA (by decide) (by decide)]; exact Nat.le_refl _
 | succ n ih =>
   intro s h
   cases s with
   | nil => rw [zoA (by decide) (by decide)]; exact Nat.le_refl _
   | cons b s =>
     simp only [List.length_cons] at h
     cases hp : List.isPrefixOf ([39, 39] : Str) (b :: s) with
     | true =>
       rw [zvt (by decide) (by decide) hp, List.nil_append]
       have := ih ((b :: s).drop ([39, 39] : Str).length) (by simp; omega)
       refine Nat.le_trans this ?_
       simp; omega
     | false =>
       rw [zqb (by decide) (by decide) hp]
       have := ih s (by omega)
       simp only [List.length_cons]; omega
theorem zqO (kk : Nat) (a : Str) (h : a.length < lim) : zil kk a = some (zk6 a) := by
 have hl := zpA
 have ej : zfJ a kk = some (!(decide (2 ≤ a.length) && (a.head? == some 39) && (a.getLast? == some 39))) := by
  unfold zfJ
  rw [zdf, zjp]
  cases a with
  | nil => rfl
  | cons b t =>
    simp only [List.length_cons, List.getElem?_cons_zero, zad, zdf, zey, List.head?_cons]
    by_cases ht : t = []
    · subst ht; rfl
    · have h1 := List.length_pos_iff.mpr ht
      simp only [List.length_cons] at h
      rw [if_neg (by omega), decide_eq_true (show 2 ≤ t.length + 1 by omega), Bool.true_and, zgz (by omega) (by omega), show (((t.length + 1 : Nat) : Int) - 1) = ((t.length : Nat) : Int) by omega, zdV]
      obtain ⟨c, ec⟩ : ∃ c, (b :: t).getLast? = some c := ⟨_, List.getLast?_eq_some_getLast (by simp)⟩
      have ec2 : (b :: t)[t.length]? = some c := by rw [← ec, List.getLast?_eq_getElem?]; simp
      rw [ec, ec2, zad]
      have e1 : ((b.toNat : Int) != 39) = !(some b == some (39 : UInt8)) := congrArg (!·) (zqD b 39 (by decide))
      have e2 : ((c.toNat : Int) != 39) = !(some c == some (39 : UInt8)) := congrArg (!·) (zqD c 39 (by decide))
      rw [e1, e2]
      cases (some b == some (39 : UInt8)) <;> rfl
 unfold zil zk6
 rw [ej, zad, zdf, zey]
 cases a with
 | nil => rfl
 | cons b t =>
   by_cases hc : 2 ≤ (b :: t).length ∧ b = 39 ∧ (b :: t).getLast? = some 39
   · obtain ⟨h1, h2, h3⟩ := hc
     subst h2
     have ht : t ≠ [] := by intro e; subst e; simp at h1
     have h3' : t.getLast? = some 39 := by rw [List.getLast?_cons_of_ne_nil ht] at h3; exact h3
     have hd : t.dropLast.length < lim := by simp only [List.length_dropLast, List.length_cons] at *; omega
     have hrl : (zkg t.dropLast [39, 39] []).length < lim := by
      refine Nat.lt_of_le_of_lt ?_ hd
      exact zyr _ _ (Nat.le_refl _)
     rw [h3, decide_eq_true h1]
     simp only [List.head?_cons, beq_self_eq_true, Bool.and_self, if_true]
     rw [zgz (by simp only [List.length_cons] at *; omega) (by simp only [List.length_cons] at *; omega), zEi ht, zad, zav (zwP hd (by decide) (by decide)), zad, zav (zwP hd (by decide) (by decide)), zad, zav hrl, zad, zAu, zEW]
     unfold zjM
     simp only [Bool.not_not]
     by_cases he : zvV t.dropLast = true
     · rw [if_pos ⟨trivial, ht, h3', he⟩, he]; rfl
     · rw [if_neg (by simp [he]), if_pos ⟨h1, trivial, trivial⟩, Bool.eq_false_iff.mpr he]; rfl
   · have hc2 : (decide (2 ≤ (b :: t).length) && ((b :: t).head? == some 39) && ((b :: t).getLast? == some 39)) = false := by
      rw [Bool.eq_false_iff]; intro e
      simp only [Bool.and_eq_true, decide_eq_true_eq, beq_iff_eq, List.head?_cons, Option.some.injEq] at e
      exact hc ⟨e.1.1, e.1.2, e.2⟩
     rw [hc2, if_neg (by decide)]
     have e1 : zjM (b :: t) = none := by
      unfold zjM
      simp only
      rw [if_neg]
      rintro ⟨h1, h2, h3, _⟩
      have := List.length_pos_iff.mpr h2
      exact hc ⟨by simp; omega, h1, by rw [List.getLast?_cons_of_ne_nil h2]; exact h3⟩
     rw [e1]
     simp only [Option.getD_none, Option.isSome_none]
     rw [if_neg]
     rintro ⟨h1, h2, h3⟩
     exact hc ⟨h1, by simpa using h2, h3⟩
theorem zoV (kk : Nat) (a : Str) (h : a.length < lim) : zhe kk a = some (zuU a) := by
 have h1 := zcA [45] a
 unfold zhe zuU ziC
 rw [zdf, zfD]
 generalize he : (za3 [45] a).2 = r at *
 cases r with
 | nil => rfl
 | cons b r =>
   rw [if_neg (by simp)]
   have e1 : ((b.toNat : Int) == 48) = (some b == some (48 : UInt8)) := zqD b 48 (by decide)
   simp only [List.getElem?_cons_zero, zad, List.head?_cons, List.isEmpty_cons, Bool.not_false, Bool.true_and]
   rw [e1, zey, zav ⟨by simp, by omega, by decide, by decide, by decide⟩, zad]
   have e3 : (a != [48]) = !(a == [48]) := rfl
   rw [e3]
   rw [show (trimS (b :: r) [48, 49, 50, 51, 52, 53, 54, 55, 56, 57] == []) = (b :: r).all fun b => zcs.contains b from zyb]
   cases (some b == some (48 : UInt8)) && !(a == [48]) <;> simp
theorem zsu (kk : Nat) (a : Str) (h : a.length < lim) : zj4 kk a = some (zfo a) := by
 unfold zj4 zfo
 have e1 : ([70, 65, 76, 83, 69] : Str) = zwL := rfl
 have e2 : ([84, 82, 85, 69] : Str) = zB4 := rfl
 rw [e1, e2, zfD, zfD, zav h, zav (show zq9 a (10 : Int) (64 : Int) from ⟨h, rfl, rfl⟩)]
 simp only [zad]
 split
 · rfl
 · split
   · rfl
   · unfold zk6
     cases hu : zjM a with
     | some t =>
       simp only [Option.getD_some, Option.isSome_some, zaI, zjp]
       by_cases ht : 255 < t.length
       · rw [if_pos (by omega), if_pos ht]; rfl
       · rw [if_neg (by omega), if_neg ht]; rfl
     | none =>
       simp only [Option.isSome_none, zaV, zdf, zey]
       cases zuU a
       · rfl
       · cases hp : (ziu a).2 <;> simp only [zlo, hp] <;> rfl
theorem zAZ (s : Str) (b : UInt8) : ziv s [b] = (s.head? == some b) := by
 unfold ziv
 cases s with
 | nil => rfl
 | cons c s => rw [Bool.eq_iff_iff]; simp [List.isPrefixOf]; exact eq_comm
theorem zw9 {p : zab} {v : Val} {kk : Nat} (hl : p.rest.length < lim) : ∀ (k i : Nat), p.rest.length - i < k → i ≤ p.rest.length →
 ∃ e : Nat, zbv p v kk k (i : Int) = some (.done (e : Int)) ∧ (match zAx (p.rest.drop i) with | none => p.rest.length ≤ e | some n => e = i + n ∧ e < p.rest.length) := by
 intro k
 have hb1 : big = 1152921504606846976 := rfl
 rw [zpA] at hl
 induction k with
 | zero => intro i h; omega
 | succ k ih =>
   intro i h1 h2
   rw [zbv, zcD, zjp]
   by_cases h : i < p.rest.length
   · obtain ⟨d, e, e2⟩ := zqx h
     have e1 : ((d.toNat : Int) == 39) = (d == 39) := zqD d 39 (by decide)
     have e1' : ((d.toNat : Int) != 39) = !(d == 39) := congrArg (!·) e1
     rw [if_pos (by omega), zdV, e, zad, zlV (by omega), zad, zad, zdf, zey, e1', e1, zey, e2]
     by_cases hd : d = 39
     · subst hd
       simp only [beq_self_eq_true, Bool.not_true, Bool.false_eq_true, if_false, if_true, zad, zey]
       cases hs : p.rest.drop (i + 1) with
       | nil => exact ⟨i, rfl, by rw [zAx, if_pos rfl]; exact ⟨rfl, h⟩⟩
       | cons c s =>
         have h3 : i + 1 < p.rest.length := by
          have := congrArg List.length hs; simp at this; omega
         obtain ⟨c', e4, e5⟩ := zqx h3
         rw [e5] at hs
         obtain ⟨hcc, hs2⟩ := List.cons.inj hs
         subst hcc
         clear hs
         rw [zbz (by omega), zbz (by omega)]
         by_cases hc : c' = 39
         · subst hc
           rw [show ziv (39 :: 39 :: s) [39, 39] = true by unfold ziv; simp [List.isPrefixOf], if_pos rfl]
           obtain ⟨e6, e7, e8⟩ := ih (i + 1 + 1) (by omega) (by omega)
           refine ⟨e6, e7, ?_⟩
           rw [zAx, if_pos rfl, if_pos rfl]
           rw [hs2] at e8
           cases hq : zAx s with
           | none => rw [hq] at e8; exact e8
           | some n => rw [hq] at e8; exact ⟨by simp only at e8 ⊢; omega, e8.2⟩
         · rw [show ziv (39 :: c' :: s) [39, 39] = false by unfold ziv; simp [List.isPrefixOf]; exact fun e => hc e.symm, if_neg (by decide)]
           exact ⟨i, rfl, by rw [zAx, if_pos rfl, if_neg hc]; exact ⟨rfl, h⟩⟩
     · rw [show (d == 39) = false by simp [hd]]
       simp only [Bool.not_false, Bool.false_eq_true, if_false, if_true, zad, zey]
       rw [zbz (by omega)]
       obtain ⟨e6, e7, e8⟩ := ih (i + 1) (by omega) (by omega)
       refine ⟨e6, e7, ?_⟩
       cases hs : p.rest.drop (i + 1) with
       | nil =>
         rw [zAx, if_neg hd]
         rw [hs] at e8; exact e8
       | cons c s =>
         rw [zAx, if_neg hd]
         rw [hs] at e8
         cases hq : zAx (c :: s) with
         | none => rw [hq] at e8; exact e8
         | some n => rw [hq] at e8; exact ⟨by simp only at e8 ⊢; omega, e8.2⟩
   · rw [if_neg (by omega), zad, zaV, show i = p.rest.length by omega]
     exact ⟨_, rfl, by simp [zAx]⟩
theorem zjh {kk : Nat} (a : zab) (h : a.rest.length < lim) (hk : lim < kk := by decide) : zcT kk a = some (zi6 a) := by
 have hl := zpA
 unfold zcT zi6 zfX
 rw [zAZ, zfD]
 by_cases hq : a.rest.head? = some 39
 · rw [if_pos hq, if_pos hq]
   obtain ⟨b, s, hs⟩ : ∃ b s, a.rest = b :: s := by
    cases hs : a.rest with
    | nil => rw [hs] at hq; cases hq
    | cons b s => exact ⟨b, s, rfl⟩
   have h0 : 1 ≤ a.rest.length := by rw [hs]; simp
   obtain ⟨e, e1, e2⟩ := zw9 (v := Val.zero) (kk := kk) h kk 1 (by omega) h0
   rw [show (1 : Int) = ((1 : Nat) : Int) from rfl, e1, zb9, zjp]
   cases hn : zAx (a.rest.drop 1) with
   | none => rw [hn] at e2; rw [if_pos (by simp only at e2; omega)]; cases a; rfl
   | some n =>
     rw [hn] at e2
     obtain ⟨e2, e3⟩ := e2
     rw [if_neg (by omega), show (((1 : Nat) : Int)) = 1 from rfl, zbz (by unfold big; omega), zsY (by omega), zad, zlV (by omega), zad, zav (by simp; omega), zad, show e + 1 = n + 2 by omega]
     cases a; rfl
 · rw [if_neg hq, if_neg hq, zav ⟨h, by decide, by decide⟩, zad]
   have h2 := zhY zEs a.rest
   have e : zkj a [45, 48, 49, 50, 51, 52, 53, 54, 55, 56, 57, 84, 82, 85, 69, 70, 65, 76, 83, 69] = zkj a zEs := rfl
   rw [e, zav (show (zkj a zEs).1.length < lim from (show (zq6 zEs a.rest).1.length < lim by omega)), zad]; rfl
end Go.Ev
namespace Go.Ev
theorem zzM (z : UInt8) (c : Sl Str) {kk : Nat} (L : Nat → Int → zab → Option (Out (Int × zab) (Int × zab)))
 (h0 : ∀ k (i : Nat) p, ¬ i < c.l.length → L (k + 1) (i : Int) p = some (.done ((i : Int), p)))
 (h1 : ∀ k (i : Nat) p w, i < c.l.length → c.l[i]? = some w → L (k + 1) (i : Int) p = if (za3 (w ++ [z]) p.rest).1 = true then some (.ret ((i : Int), ⟨(za3 (w ++ [z]) p.rest).2⟩)) else L k ((i + 1 : Nat) : Int) ⟨(za3 (w ++ [z]) p.rest).2⟩) :
 ∀ (k i : Nat) (p : zab), c.l.length - i < k → i ≤ c.l.length →
   zkl (L k (i : Int) p) (fun r => some r) (fun q => some ((-1), q.2)) = some ((zcZ z (c.l.drop i) (i : Int) p.rest).1, ⟨(zcZ z (c.l.drop i) (i : Int) p.rest).2⟩) := by
 intro k
 induction k with
 | zero => intro i p h; omega
 | succ k ih =>
   intro i p hk hi
   by_cases h : i < c.l.length
   · have e : c.l[i]? = some c.l[i] := List.getElem?_eq_getElem h
     rw [h1 k i p _ h e, List.drop_eq_getElem_cons h, zcZ]
     by_cases ht : (za3 (c.l[i] ++ [z]) p.rest).1 = true
     · rw [if_pos ht, if_pos ht]; rfl
     · rw [if_neg ht, if_neg ht, ih (i + 1) _ (by omega) (by omega)]
       have e2 : (za3 (c.l[i] ++ [z]) p.rest).2 = p.rest := by
        unfold za3 at ht ⊢; split
        · rename_i h3; rw [if_pos h3] at ht; exact absurd rfl ht
        · rfl
       rw [e2]; rfl
   · rw [h0 k i p h, List.drop_eq_nil_of_le (by omega)]; rfl
theorem zdN {kk : Nat} (a : Sl Str) (u1 : zab) (h : zrW a) (hk : lim < kk := by decide) : zbf kk a u1 = some (zyO a u1) := by
 have hl := zpA
 obtain ⟨h1, h2⟩ := h
 unfold zbf zyO
 refine (zzM 123 a (kk := kk) _ (fun k i p hi => ?_) (fun k i p w hi e => ?_) kk 0 u1 (by omega) (by omega))
 · rw [zay, zjp, if_neg (by omega)]
 · have hw := h2 w (List.mem_of_getElem? e)
   rw [zay, zjp, if_pos (by omega), zdV, e, zad, zc7, zav (by unfold room; simp; omega), zad, zad, zey, zbz (by unfold big; omega)]; rfl
theorem zdM {kk : Nat} (a : Sl Str) (u1 : zab) (h : zrW a) (hk : lim < kk := by decide) : zbe kk a u1 = some (zre a u1) := by
 have hl := zpA
 obtain ⟨h1, h2⟩ := h
 unfold zbe zre
 refine (zzM 32 a (kk := kk) _ (fun k i p hi => ?_) (fun k i p w hi e => ?_) kk 0 u1 (by omega) (by omega))
 · rw [zax, zjp, if_neg (by omega)]
 · have hw := h2 w (List.mem_of_getElem? e)
   rw [zax, zjp, if_pos (by omega), zdV, e, zad, zc6, zav (by unfold room; simp; omega), zad, zad, zey, zbz (by unfold big; omega)]; rfl
end Go.Ev
namespace Go.Ev
def leA (ann : zsb) : Prop := ∀ s, (ann s).2.2.length ≤ s.length
theorem zrc (s : Str) : (zfX s).2.2.length ≤ s.length := by
 unfold zfX
 split
 · split
   · exact Nat.le_refl _
   · simp
 · have := zhY zEs s; simp only; omega
theorem zqh (s : Str) : (zgH s).2.2.length ≤ s.length := by have := zhY zcs s; unfold zgH; simp only; omega
theorem zzN (z : UInt8) : ∀ (l : List Str) (i : Int) (s : Str), (zcZ z l i s).2.length ≤ s.length := by
 intro l
 induction l with
 | nil => intro i s; exact Nat.le_refl _
 | cons w l ih =>
   intro i s; rw [zcZ]; split
   · exact zcA _ _
   · exact ih _ _
theorem zCR (s : Str) : (zjr s).2.length ≤ s.length := by
 unfold zjr
 split
 · exact zcA _ _
 · split
   · exact zcA _ _
   · split
     · exact zcA _ _
     · split
       · exact zcA _ _
       · exact Nat.le_refl _
theorem zzJ {ann : zsb} (h : leA ann) : ∀ (k : Nat) (acc : List zaf) (s : Str), (zjC ann k acc s).2.2.length ≤ s.length := by
 intro k
 induction k with
 | zero => intro acc s; exact Nat.le_refl _
 | succ k ih =>
   intro acc s
   rw [zjC]
   have h1 := zrc s
   generalize zfX s = gx at *
   rcases gx with ⟨v, ok, s1⟩
   simp only at h1 ⊢
   cases ok
   · exact h1
   · have h2 := zcA zqa s1
     generalize za3 zqa s1 = gx at *
     rcases gx with ⟨c, s2⟩
     simp only [if_true] at h2 ⊢
     cases c
     · simp only [Bool.false_eq_true, if_false]; omega
     · have h3 := h s2
       generalize ann s2 = gx at *
       rcases gx with ⟨a, is, s3⟩
       simp only [if_true] at h3 ⊢
       cases is
       · simp only [Bool.false_eq_true, if_false]; omega
       · have h4 := zcA zpu s3
         generalize za3 zpu s3 = gx at *
         rcases gx with ⟨c, s4⟩
         simp only [if_true] at h4 ⊢
         cases c
         · simp only [Bool.false_eq_true, if_false]; omega
         · have := ih (acc ++ [.mk v a]) s4
           simp only [if_true]; omega
theorem zGk {ann : zsb} (h : leA ann) (s : Str) : (zpx ann s).2.2.length ≤ s.length := by
 unfold zpx
 have h1 := zzN 123 zgK 0 s
 generalize zcZ 123 zgK 0 s = gx at *
 rcases gx with ⟨fn, s1⟩
 simp only at h1 ⊢
 split
 · exact h1
 · have h2 := zzJ h (s1.length + 1) [] s1
   generalize zjC ann (s1.length + 1) [] s1 = gx at *
   rcases gx with ⟨its, ok, s2⟩
   simp only at h2 ⊢
   cases ok
   · simp only [Bool.false_eq_true, if_false]; omega
   · have h3 := zcA znN s2
     generalize za3 znN s2 = gx at *
     rcases gx with ⟨c, s3⟩
     simp only [if_true] at h3 ⊢
     cases c
     · simp only [Bool.false_eq_true, if_false]; omega
     · have h4 := zzN 32 zgt 0 s3
       generalize zcZ 32 zgt 0 s3 = gx at *
       rcases gx with ⟨i, s4⟩
       have h5 := zrc s4
       generalize zfX s4 = gx at *
       rcases gx with ⟨v, ok, s5⟩
       simp only [if_true] at h4 h5 ⊢; omega
theorem zDB {ann : zsb} (h : leA ann) (s : Str) : (zsg ann s).2.2.length ≤ s.length := by
 unfold zsg
 have h0 := zCR s
 generalize zjr s = gx at *
 rcases gx with ⟨k, s0⟩
 simp only at h0 ⊢
 split
 · have := zhY zGp s0; simp only; omega
 · split
   · have h1 := zGk h s0
     generalize zpx ann s0 = gx at *
     rcases gx with ⟨x, ok, s1⟩
     have h2 := zcA [93] s1
     simp only at h1 ⊢
     cases ok
     · simp only [Bool.false_eq_true, if_false]; omega
     · simp only [if_true]; omega
   · have h1 := h s0
     generalize ann s0 = gx at *
     rcases gx with ⟨a, ok, s1⟩
     simp only at h1 ⊢
     have h2 := zcA [93] s1
     cases ok
     · simp only [Bool.false_eq_true, if_false]; omega
     · simp only [if_true]
       split
       · have h3 := zcA zpg s1
         generalize za3 zpg s1 = gx at *
         rcases gx with ⟨c, s2⟩
         simp only at h3 ⊢
         cases c
         · simp only [Bool.false_eq_true, if_false]; omega
         · have h4 := h s2
           generalize ann s2 = gx at *
           rcases gx with ⟨b, ok2, s3⟩
           have h5 := zcA [93] s3
           simp only [if_true] at h4 ⊢
           cases ok2
           · simp only [Bool.false_eq_true, if_false]; omega
           · simp only [if_true]; omega
       · simp only; omega
theorem zC1 {ann : zsb} (h : leA ann) (s : Str) : (znR ann s).2.2.length ≤ s.length := by
 unfold znR
 have h1 := zDB h s
 generalize zsg ann s = gx at *
 rcases gx with ⟨x, ok, s1⟩
 simp only at h1 ⊢
 cases ok
 · exact h1
 · have h2 := zcA [94] s1
   generalize za3 [94] s1 = gx at *
   rcases gx with ⟨c, s2⟩
   simp only [if_true] at h2 ⊢
   cases c
   · simp only [Bool.false_eq_true, if_false]; omega
   · have := zqh s2; simp only [if_true]; omega
theorem zuX {ann : zsb} (h : leA ann) : ∀ (k : Nat) (acc : List zaj) (s : Str), (zh1 ann k acc s).2.2.length ≤ s.length := by
 intro k
 induction k with
 | zero => intro acc s; exact Nat.le_refl _
 | succ k ih =>
   intro acc s
   rw [zh1]
   have h1 := zC1 h s
   generalize znR ann s = gx at *
   rcases gx with ⟨f, ok, s1⟩
   simp only at h1 ⊢
   cases ok
   · exact h1
   · have h2 := zcA [42] s1
     generalize za3 [42] s1 = gx at *
     rcases gx with ⟨c, s2⟩
     simp only [if_true] at h2 ⊢
     cases c
     · simp only [Bool.false_eq_true, if_false]; omega
     · have := ih (acc ++ [f]) s2
       simp only [if_true]; omega
theorem zBV {ann : zsb} (h : leA ann) (s : Str) : (zsf ann s).2.2.length ≤ s.length := by
 unfold zsf zuP
 split
 · have h1 := zqh s
   generalize zgH s = gx at *
   rcases gx with ⟨n, ok, s1⟩
   simp only at h1 ⊢
   cases ok
   · exact h1
   · have h2 := zcA [42] s1
     generalize za3 [42] s1 = gx at *
     rcases gx with ⟨c, s2⟩
     simp only [if_true] at h2 ⊢
     cases c
     · simp only [Bool.false_eq_true, if_false]; omega
     · have := zuX h (s2.length + 1) [] s2
       simp only [if_true]; exact Nat.le_trans this (by omega)
 · exact zuX h _ _ _
theorem zEf {ann : zsb} (h : leA ann) : ∀ (k : Nat) (acc : List zam) (s : Str), (zpi ann k acc s).2.2.length ≤ s.length := by
 intro k
 induction k with
 | zero => intro acc s; exact Nat.le_refl _
 | succ k ih =>
   intro acc s
   rw [zpi]
   have h1 := zBV h s
   generalize zsf ann s = gx at *
   rcases gx with ⟨f, ok, s1⟩
   simp only at h1 ⊢
   cases ok
   · exact h1
   · have h2 := zcA zsd s1
     generalize za3 zsd s1 = gx at *
     rcases gx with ⟨c, s2⟩
     simp only [if_true] at h2 ⊢
     cases c
     · simp only [Bool.false_eq_true, if_false]; omega
     · have := ih (acc ++ [f]) s2
       simp only [if_true]; omega
theorem zxO : ∀ d, leA (zl0 d) := by
 intro d
 induction d with
 | zero => intro s; exact Nat.le_refl _
 | succ d ih =>
   intro s
   rw [zl0]
   have h1 := zcA [48] s
   generalize za3 [48] s = gx at *
   rcases gx with ⟨c, s1⟩
   simp only at h1 ⊢
   cases c
   · have := zEf ih (s1.length + 1) [] s1
     simp only [Bool.false_eq_true, if_false]; omega
   · exact h1
theorem zvf {b : UInt8} {p s r : Str} (h : za3 (b :: p) s = (true, r)) : r.length < s.length := by
 have := zwC h; simp at this; omega
theorem zCw {α : Type} (l : List α) (x : α) : Sl.of (l ++ [x]) = Sl.out (l ++ [x]) := by cases l <;> rfl
theorem zII (t : zam) (a b : Sl zaj) : (t.setFactors a).setFactors b = t.setFactors b := by cases t; rfl
theorem zwB {c : Int} {c16 : zam} {sz kk : Nat} (hc : 0 ≤ c ∧ c ≤ 8 ∧ 4 * (c + 1).toNat + 1 < sz) : ∀ (k f : Nat) (p : zab) (t : zam) (acc : List zaj),
 p.rest.length < k → p.rest.length < f → p.rest.length + acc.length < lim →
 zbI c c16 sz kk k p t acc = some (.ret (t.setFactors (Sl.out (zh1 (zl0 c.toNat) f acc p.rest).1), (zh1 (zl0 c.toNat) f acc p.rest).2.1, ⟨(zh1 (zl0 c.toNat) f acc p.rest).2.2⟩)) := by
 intro k
 have hl := zpA
 induction k with
 | zero => intro f p t acc h; omega
 | succ k ih =>
   intro f p t acc h1 h2 h3
   obtain ⟨f, rfl⟩ : ∃ j, f = j + 1 := ⟨f - 1, by omega⟩
   have hlen := zDB (zxO c.toNat) p.rest
   rw [zbI, zh1, znR, zav ⟨by omega, hc⟩, zad]
   simp only [zfj]
   generalize zsg (zl0 c.toNat) p.rest = gx at *
   rcases gx with ⟨x, ok, s1⟩
   simp only at hlen ⊢
   cases ok
   · rfl
   · simp only [if_true, zaI, zaG]
     have h4 := zcA [94] s1
     rcases ht : za3 [94] s1 with ⟨b, s2⟩
     rw [ht] at h4
     simp only at h4 ⊢
     have hr : (acc.length + 1) * 128 ≤ room := by unfold room; omega
     cases b
     · simp only [zaV, Bool.false_eq_true, if_false, if_true, zav hr, zad, zdf]
       rcases hm : za3 [42] s2 with ⟨d, s3⟩
       cases d
       · simp only [zaV, Bool.false_eq_true, if_false, zII, zCw]; rfl
       · have h5 := zvf hm
         simp only [zaI, if_true]
         exact ih f ⟨s3⟩ t _ (by simp only; omega) (by simp only; omega) (by simp only [List.length_append, List.length_cons, List.length_nil]; omega)
     · simp only [zaI, if_true, zjq]
       have h6 := zqh s2
       rw [zav (by omega), zad]
       generalize zgH s2 = gx at *
       rcases gx with ⟨n, ok, s3⟩
       simp only at h6 ⊢
       cases ok
       · rfl
       · simp only [Bool.not_true, zaV, zav hr, zad, zdf]
         rcases hm : za3 [42] s3 with ⟨d, s4⟩
         cases d
         · simp only [zaV, Bool.false_eq_true, if_false, zII, zCw]; rfl
         · have h5 := zvf hm
           simp only [zaI, if_true]
           exact ih f ⟨s4⟩ t _ (by simp only; omega) (by simp only; omega) (by simp only [List.length_append, List.length_cons, List.length_nil]; omega)
theorem zkF {kk sz : Nat} {a : zab} {b : Int} (h : a.rest.length < lim ∧ 0 ≤ b ∧ b ≤ 8 ∧ 4 * (b + 1).toNat + 2 < sz + 1) (hk : lim < kk := by decide) : zd2 kk sz a b = some (zlb a b) := by
 obtain ⟨h1, h2⟩ := h
 have hl := zpA
 have e0 : zcr b a zam.zero (zam.zero.setCoeff 1) sz kk = some (zn4 a.rest) := by
  unfold zcr
  rw [zdf, zfD]
  cases hs : a.rest with
  | nil => rfl
  | cons c s =>
    rw [if_neg (by simp)]
    simp only [List.getElem?_cons_zero, zad, zn4]
    congr 2
    · rw [decide_eq_decide]; omega
    · rw [decide_eq_decide]; omega
 unfold zd2 zc3 zlb zsf zuP
 rw [e0, zad]
 cases hd : zn4 a.rest
 · simp only [zaV, zb9, Bool.false_eq_true, if_false]
   rw [zwB (by omega) kk (a.rest.length + 1) a _ [] (by omega) (by omega) (by simp; omega), zlc]; rfl
 · simp only [zaI, if_true, zav h1, zad, zjq, Bool.not_not]
   have h6 := zqh a.rest
   generalize zgH a.rest = gx at *
   rcases gx with ⟨n, ok, s1⟩
   simp only at h6 ⊢
   cases ok
   · rfl
   · simp only [zaI, if_true, zaG, zdf]
     have h4 := zcA [42] s1
     generalize za3 [42] s1 = gx at *
     rcases gx with ⟨c, s2⟩
     simp only at h4 ⊢
     cases c
     · rfl
     · simp only [zaI, zb9, if_true]
       rw [zwB (by omega) kk (s2.length + 1) ⟨s2⟩ _ [] (by simp only; omega) (by simp only; omega) (by simp; omega), zlc]; rfl
theorem zFp {c : Int} {sz kk : Nat} (hc : 0 ≤ c ∧ c ≤ 8 ∧ 4 * (c + 1).toNat + 2 < sz) : ∀ (k f : Nat) (p : zab) (acc : List zam),
 p.rest.length < k → p.rest.length < f → p.rest.length + acc.length < lim →
 zbx c sz kk k acc p = some (.ret ((zpi (zl0 c.toNat) f acc p.rest).1, (zpi (zl0 c.toNat) f acc p.rest).2.1, ⟨(zpi (zl0 c.toNat) f acc p.rest).2.2⟩)) := by
 intro k
 have hl := zpA
 induction k with
 | zero => intro f p acc h; omega
 | succ k ih =>
   intro f p acc h1 h2 h3
   obtain ⟨f, rfl⟩ : ∃ j, f = j + 1 := ⟨f - 1, by omega⟩
   have hlen := zBV (zxO c.toNat) p.rest
   rw [zbx, zpi, zav ⟨by omega, hc⟩, zad]
   simp only [zlb]
   generalize zsf (zl0 c.toNat) p.rest = gx at *
   rcases gx with ⟨x, ok, s1⟩
   simp only at hlen ⊢
   cases ok
   · rfl
   · have hr : (acc.length + 1) * 32 ≤ room := by unfold room; omega
     simp only [if_true, Bool.not_true, zaV, zaG, zav hr, zad, zdf]
     rcases hm : za3 [32, 43, 32] s1 with ⟨d, s4⟩
     rw [show zsd = [32, 43, 32] from rfl, hm]
     cases d
     · simp only [zaV, Bool.false_eq_true, if_false, zCw]
     · have h5 := zvf hm
       simp only [zaI, if_true]
       exact ih f ⟨s4⟩ _ (by simp only; omega) (by simp only; omega) (by simp only [List.length_append, List.length_cons, List.length_nil]; omega)
theorem ziq {kk sz : Nat} {a : zab} {b : Int} (h : a.rest.length < lim ∧ -1 ≤ b ∧ b ≤ 8 ∧ 4 * (b + 1).toNat + 3 < sz + 1) (hk : lim < kk := by decide) : zcx kk sz a b = some (zct a b) := by
 obtain ⟨h1, h2⟩ := h
 unfold zcx zct
 rw [zjp]
 by_cases hb : b < 0
 · rw [if_pos hb, show (b + 1).toNat = 0 by omega]; rfl
 · rw [if_neg hb, show (b + 1).toNat = b.toNat + 1 by omega]
   simp only [zl0, zaG]
   have h4 := zcA [48] a.rest
   generalize za3 [48] a.rest = gx at *
   rcases gx with ⟨c, s⟩
   simp only at h4 ⊢
   cases c
   · simp only [zaV, Bool.false_eq_true, if_false]
     rw [zFp (by omega) kk (s.length + 1) ⟨s⟩ [] (by simp only; omega) (by simp only; omega) (by simp; omega), zlc]
   · rfl
theorem zAV {c : Int} {sz kk : Nat} (hc : 0 ≤ c ∧ c ≤ 8 ∧ 4 * (c + 1).toNat < sz + 1) : ∀ (k f : Nat) (p : zab) (t : zap) (acc : List zaf),
 0 ≤ t.func → p.rest.length < k → p.rest.length < f → p.rest.length + acc.length < lim →
 zbH c sz kk k p t acc = if (zjC (zl0 c.toNat) f acc p.rest).2.1 = true then some (.done (⟨(zjC (zl0 c.toNat) f acc p.rest).2.2⟩, t, (zjC (zl0 c.toNat) f acc p.rest).1))
  else some (.ret (false, ⟨(zjC (zl0 c.toNat) f acc p.rest).2.2⟩, t.setItems (Sl.out (zjC (zl0 c.toNat) f acc p.rest).1))) := by
 intro k
 have hl := zpA
 induction k with
 | zero => intro f p t acc h0 h; omega
 | succ k ih =>
   intro f p t acc h0 h1 h2 h3
   obtain ⟨f, rfl⟩ : ∃ j, f = j + 1 := ⟨f - 1, by omega⟩
   have hlen := zrc p.rest
   rw [zbH, zjC, decide_eq_true h0, zaI, zav (by omega), zad]
   simp only [zi6]
   generalize zfX p.rest = gx at *
   rcases gx with ⟨v, ok, s1⟩
   simp only at hlen ⊢
   cases ok
   · rfl
   · simp only [if_true, Bool.not_not, Bool.not_true, Bool.not_false, zaI, zaG]
     have h4 := zcA [58, 32] s1
     rw [show zqa = [58, 32] from rfl, show zpu = [59, 32] from rfl]
     generalize za3 [58, 32] s1 = gx at *
     rcases gx with ⟨b, s2⟩
     simp only at h4 ⊢
     cases b
     · rfl
     · have h5 := zxO c.toNat s2
       have hr : (acc.length + 1) * 56 ≤ room := by unfold room; omega
       have ew : IntKind.wrap .i64 (c - 1) = c - 1 := zgz (by omega) (by omega)
       simp only [Bool.not_true, zaV, if_true, zct, ew]
       rw [zav (by omega), zad, show (c - 1 + 1).toNat = c.toNat by omega]
       generalize zl0 c.toNat s2 = gx at *
       rcases gx with ⟨a, is, s3⟩
       simp only at h5 ⊢
       cases is
       · rfl
       · simp only [Bool.not_true, zaV, if_true, zav hr, zad, zdf]
         rcases hm : za3 [59, 32] s3 with ⟨d, s4⟩
         cases d
         · rfl
         · have h6 := zvf hm
           simp only [zaI, if_true]
           exact ih f ⟨s4⟩ t _ h0 (by simp only; omega) (by simp only; omega) (by simp only [List.length_append, List.length_cons, List.length_nil]; omega)
theorem zCM (z : UInt8) : ∀ (l : List Str) (i : Int) (s : Str), 0 ≤ i → (zcZ z l i s).1 = -1 ∨ (0 ≤ (zcZ z l i s).1 ∧ (zcZ z l i s).1 < i + l.length) := by
 intro l
 induction l with
 | nil => intro i s _; exact .inl rfl
 | cons w l ih =>
   intro i s h; rw [zcZ]; split
   · right; simp only [List.length_cons]; omega
   · rcases ih (i + 1) s (by omega) with h1 | h1
     · exact .inl h1
     · right; simp only [List.length_cons]; omega
theorem zEn : zrW ziW := ⟨by decide, by decide⟩
theorem zEm : zrW zfr := ⟨by decide, by decide⟩
theorem zkE {kk sz : Nat} {a : zab} {b : zap} {c : Int} (h : a.rest.length < lim ∧ b = zap.zero.setKind 4 ∧ 0 ≤ c ∧ c ≤ 8 ∧ 4 * (c + 1).toNat < sz + 1) (hk : lim < kk := by decide) : zcN kk sz a b c = some (zcI a b c) := by
 obtain ⟨h1, rfl, h2⟩ := h
 have hl := zpA
 unfold zcN zcI zpx
 rw [zav zEn, zad]
 have h3 := zzN 123 zgK 0 a.rest
 simp only [zyO, show (ziW).l = zgK from rfl]
 generalize zcZ 123 zgK 0 a.rest = gx at *
 rcases gx with ⟨fn, s1⟩
 simp only at h3 ⊢
 by_cases hf : fn < 0
 · obtain ⟨k, rfl⟩ : ∃ j, kk = j + 1 := ⟨kk - 1, by omega⟩
   rw [zbH, if_pos hf]
   have e : ((zap.zero.setKind 4).setFunc fn).func = fn := rfl
   simp only [e, decide_eq_false (show ¬ (0 : Int) ≤ fn by omega), zaV, zb9, decide_eq_true hf, Bool.not_true]
   rfl
 · rw [if_neg hf, zAV h2 kk (s1.length + 1) ⟨s1⟩ _ [] (by show 0 ≤ fn; omega) (by simp only; omega) (by simp only; omega) (by simp; omega)]
   have h5 := zzJ (zxO c.toNat) (s1.length + 1) [] s1
   generalize zjC (zl0 c.toNat) (s1.length + 1) [] s1 = gx at *
   rcases gx with ⟨its, ok, s2⟩
   simp only at h5 ⊢
   cases ok
   · rfl
   · have e : ((zap.zero.setKind 4).setFunc fn).func = fn := rfl
     simp only [if_true, zb9, e, decide_eq_false hf, Bool.not_false, zaI, zaG]
     rw [show znN = [125, 32] from rfl]
     have h6 := zcA [125, 32] s2
     obtain ⟨d, s3, ht⟩ : ∃ d s3, za3 [125, 32] s2 = (d, s3) := ⟨_, _, rfl⟩
     simp only [ht] at h6 ⊢
     cases d
     · rfl
     · simp only [Bool.not_true, zaV, if_true, zre, show (zfr).l = zgt from rfl]
       rw [zav zEm, zad]
       have h7 := zzN 32 zgt 0 s3
       have h8 := zCM 32 zgt 0 s3 (by omega)
       have h9 : (zgt.length : Int) = 6 := rfl
       generalize zcZ 32 zgt 0 s3 = gx at *
       rcases gx with ⟨i, s4⟩
       simp only at h7 h8 ⊢
       rw [zav (by omega), zad, zgz (by omega) (by omega)]
       rfl
theorem zAo (ann : zsb) (s : Str) : Sl.out (zpx ann s).1.items.l = (zpx ann s).1.items := by
 unfold zpx
 generalize zcZ 123 zgK 0 s = gx
 rcases gx with ⟨fn, s1⟩
 simp only
 split
 · rfl
 · generalize zjC ann (s1.length + 1) [] s1 = gx
   rcases gx with ⟨its, ok, s2⟩
   simp only
   cases ok
   · simp only [Bool.false_eq_true, if_false, zap.items, Sl.out_l]
   · generalize za3 znN s2 = gx
     rcases gx with ⟨c, s3⟩
     simp only [if_true]
     cases c
     · simp only [Bool.false_eq_true, if_false, zap.items, Sl.out_l]
     · simp only [if_true, zap.items, Sl.out_l]
theorem zkH {kk sz : Nat} {a : zab} {b : Int} (h : a.rest.length < lim ∧ 0 ≤ b ∧ b ≤ 8 ∧ 4 * (b + 1).toNat + 1 < sz + 1) (hk : lim < kk := by decide) : zd3 kk sz a b = some (zfj a b) := by
 obtain ⟨h1, h2⟩ := h
 have hl := zpA
 unfold zd3 zc4 znZ zfj zsg
 have h3 := zCR a.rest
 generalize zjr a.rest = gx at *
 rcases gx with ⟨k, s0⟩
 simp only [zad] at h3 ⊢
 have ek : (if k = 0 then zap.zero.kind else k) = k := by
  by_cases hz : k = 0
  · rw [if_pos hz, hz]; rfl
  · rw [if_neg hz]
 rw [ek]
 by_cases h0 : k = 0
 · subst h0
   have h4 := zhY zGp s0
   simp only [if_true, beq_self_eq_true, zaI]
   rw [zav ⟨by omega, by decide, by decide⟩, zad, zav (show (zkj ⟨s0⟩ [116, 46, 48, 49, 50, 51, 52, 53, 54, 55, 56, 57]).1.length < lim from (show (zq6 zGp s0).1.length < lim by omega)), zad]
   rfl
 · rw [if_neg h0, show (k == 0) = false by simpa using h0, zaV]
   by_cases h4 : k = 4
   · subst h4
     simp only [if_true, beq_self_eq_true, zaI]
     rw [zav ⟨by omega, trivial, by omega⟩, zad]
     simp only [zcI]
     have h5 := zAo (zl0 b.toNat) s0
     generalize zpx (zl0 b.toNat) s0 = gx at *
     rcases gx with ⟨x, ok, s1⟩
     simp only at h5 ⊢
     have e : x.setItems (Sl.out x.items.l) = x := by rw [h5]; cases x; rfl
     rw [e]
     cases ok <;> rfl
   · rw [if_neg h4, show (k == 4) = false by simpa using h4, zaV]
     have ew : IntKind.wrap .i64 (b - 1) = b - 1 := zgz (by omega) (by omega)
     have h5 := zxO b.toNat s0
     simp only [zct, ew]
     rw [zav (by omega), zad, show (b - 1 + 1).toNat = b.toNat by omega]
     generalize zl0 b.toNat s0 = gx at *
     rcases gx with ⟨x, ok, s1⟩
     simp only at h5 ⊢
     cases ok
     · simp only [Bool.false_and, zaV]; rfl
     · simp only [Bool.true_and, zaG]
       by_cases h6 : k = 1
       · subst h6
         simp only [beq_self_eq_true, if_true, zaI]
         rw [show zpg = [44, 32] from rfl]
         have h7 := zcA [44, 32] s1
         generalize za3 [44, 32] s1 = gx at *
         rcases gx with ⟨d, s2⟩
         simp only at h7 ⊢
         cases d
         · rfl
         · simp only [zaI, if_true]
           rw [zav (by omega), zad]
           generalize zl0 b.toNat s2 = gx at *
           rcases gx with ⟨y, ok2, s3⟩
           simp only
           cases ok2 <;> rfl
       · rw [if_neg h6, show (k == 1) = false by simpa using h6, zaV, zaI]; rfl
end Go.Ev
namespace Go.Ev
theorem znF (kk : Nat) (a : Sl zam) (h : zcl a.l ∧ 20 * zal a.l + 1 < lim) : zgc kk a = some (znm a) := by
 obtain ⟨h1, h2⟩ := h
 have hl := zpA
 have hb : big = 1152921504606846976 := rfl
 unfold zgc znm
 rw [zav (by omega), zad, zdf, zey]
 split
 · rename_i hv
   rw [zav ⟨by unfold zdD at hv; simp only [Bool.and_eq_true] at hv; exact hv.1.2, h1, by omega, by omega⟩, zad]
 · rfl
theorem zol {kk : Nat} (a : Str) (h : 5 * a.length < lim) : zgC kk a = some (zfV a) := by
 have hl := zpA
 have hb : big = 1152921504606846976 := rfl
 unfold zgC zfV
 have e : zab.zero.setRest a = ⟨a⟩ := rfl
 simp only [e, zct, show ((8 : Int) + 1).toNat = 9 from rfl]
 rw [zav ⟨by omega, by omega, by omega, by omega⟩, zad]
 have hin := zGb 9 a
 generalize zl0 9 a = gx at *
 rcases gx with ⟨x, ok, s⟩
 simp only
 cases ok
 · rfl
 · cases s with
   | cons c s => rfl
   | nil =>
     obtain ⟨hw, hs⟩ := hin x [] rfl
     simp only [List.length_nil, Nat.mul_zero, Nat.add_zero] at hs
     simp only [Bool.not_true, Bool.false_or, List.isEmpty_nil, Bool.true_and, show ((([] : Str) == []) = true) from rfl, Bool.not_not, Bool.not_false, zaI]
     rw [zav (by omega), zad, zey]
     cases hv : zdD x
     · simp
     · rw [if_pos rfl, zav ⟨by unfold zdD at hv; simp only [Bool.and_eq_true] at hv; exact hv.1.2, hw, by omega, by omega⟩, zad, zdf, zey, Bool.true_and]
       cases (zeS x == a) <;> rfl
theorem zEI {s : Str} {a : Sl zam} (h : zfV s = (a, 0)) : zcl a.l ∧ zal a.l ≤ 5 * s.length := by
 unfold zfV at h
 have hin := zGb 9 s
 generalize zl0 9 s = gx at *
 rcases gx with ⟨x, ok, r⟩
 simp only at h
 split at h
 · rename_i hc
   obtain ⟨rfl, _⟩ := Prod.mk.inj h
   simp only [Bool.and_eq_true] at hc
   obtain ⟨⟨⟨hc, _⟩, _⟩, _⟩ := hc
   subst hc
   obtain ⟨h1, h2⟩ := hin _ r rfl
   exact ⟨h1, by omega⟩
 · cases h
end Go.Ev
namespace Go.Ev
def ziB : Nat → List Int → Int → List Int × Int
 | 0, l, x => (l, x)
 | j + 1, l, x => if x < 128 then (l, x) else ziB j (l ++ [orK .u8 (IntKind.wrap .u8 x) 128]) (zsx .u64 x 7)
theorem zp0 : ∀ (j : Nat) (l : List Int) (x : Int), (ziB j l x).1.length ≤ l.length + j
 | 0, l, x => Nat.le_refl _
 | j + 1, l, x => by
   unfold ziB
   split
   · simp
   · have := zp0 j (l ++ [orK .u8 (IntKind.wrap .u8 x) 128]) (zsx .u64 x 7)
     simp at this; omega
def zvd (l : List Int) (x : Int) : List Int := (ziB 9 l x).1 ++ [IntKind.wrap .u8 (ziB 9 l x).2]
def zyq (l : List Int) (s : Str) : List Int := zvd l (IntKind.wrap .u64 (s.length : Int)) ++ s2b s
theorem zzn (l : List Int) (x : Int) : (zvd l x).length ≤ l.length + 10 := by
 have := zp0 9 l x; simp [zvd]; omega
def okD (a : Sl Int) : Prop := a.l.length ≤ 1048576 ∧ ∀ x ∈ a.l, 0 ≤ x ∧ x < 256
def zye (_ : Sl Int) : Bool := true
end Go.Ev
set_option linter.unusedVariables false
namespace Go.Ev
noncomputable def zcR (c1 : Sl Val) (c2 : Int) (kk : Nat) : Nat → Int → Option (Out (Bool) (Int))
 | 0, _ => none
 | k + 1, s3 =>
   sel (
    bnd (ix c1.l s3) fun (y4 : Val) =>
    sel (
     some (.ret false)) (
     zcR c1 c2 kk k (IntKind.wrap .i64 (s3 + 1))) (!((zbb y4)))) (
    some (.done s3)) (decide (s3 < c2))
noncomputable def zgp (kk : Nat) (a : (Sl Val)) : Option (Bool) :=
 zkl (zcR a (a.l.length : Int) kk kk 0) (fun r => some r) fun (q5 : Int) =>
  some true
noncomputable def zi2 (kk : Nat) (a : Int) : Option (Int) :=
 some (zD5 .u64 (zEo .u64 (IntKind.wrap .u64 a) 1) (IntKind.wrap .u64 (zsx .i64 a 63)))
noncomputable def zbZ (c4 : Sl Val) (c5 : Int) (kk : Nat) : Nat → List Int → Int → Option (Out ((Sl Int)) (List Int × Int))
 | 0, _, _ => none
 | k + 1, s3, s6 =>
   sel (
    bnd (ix c4.l s6) fun (y7 : Val) =>
    bnd (okP ((s3.length + 1) * 1 ≤ room)) fun _ =>
    sel (
     bnd (zi2 kk y7.int) fun (r9 : Int) =>
     bnd (okP (0 ≤ r9 ∧ r9 < 18446744073709551616 ∧ (s3 ++ [(IntKind.wrap .u8 y7.kind)]).length + 16 < lim)) fun _ =>
     zbZ c4 c5 kk k (zvd (s3 ++ [(IntKind.wrap .u8 y7.kind)]) r9) (IntKind.wrap .i64 (s6 + 1))) (
     sel (
      bnd (okP ((s3 ++ [(IntKind.wrap .u8 y7.kind)]).length + y7.text.length + 16 < lim)) fun _ =>
      zbZ c4 c5 kk k (zyq (s3 ++ [(IntKind.wrap .u8 y7.kind)]) y7.text) (IntKind.wrap .i64 (s6 + 1))) (
      bnd (okP (((s3 ++ [(IntKind.wrap .u8 y7.kind)]).length + 1) * 1 ≤ room)) fun _ =>
      zbZ c4 c5 kk k ((s3 ++ [(IntKind.wrap .u8 y7.kind)]) ++ [(IntKind.wrap .u8 y7.int)]) (IntKind.wrap .i64 (s6 + 1))) (y7.kind == 1)) (y7.kind == 0)) (
    some (.done (s3, s6))) (decide (s6 < c5))
noncomputable def zfL (kk : Nat) (a : (Sl Val)) : Option ((Sl Int)) :=
 bnd (zgp kk a) fun (r1 : Bool) =>
 sel (
  some Sl.nil) (
  bnd (okP (0 ≤ (IntKind.wrap .u64 (a.l.length : Int)) ∧ (IntKind.wrap .u64 (a.l.length : Int)) < 18446744073709551616 ∧ ([] : List Int).length + 16 < lim)) fun _ =>
  zkl (zbZ a (a.l.length : Int) kk kk (zvd [] (IntKind.wrap .u64 (a.l.length : Int))) 0) (fun r => some r) fun (q13 : List Int × Int) =>
   some (Sl.of q13.1)) (!(r1))
noncomputable def zgr (c1 : Sl Int) (kk : Nat) : Nat → Int → Int → Option (Out (Int × Int × Int) (Int × Int))
 | 0, _, _ => none
 | k + 1, s2, s3 =>
   sel (
    bnd (ix c1.l s3) fun (y4 : Int) =>
    sel (
     some (.done (s2, s3))) (
     bnd (okP (((IntKind.wrap .i64 (7 * s3)) < 0) = False)) fun _ =>
     sel (
      sel (
       some (.done ((orK .u64 s2 (zEo .u64 (IntKind.wrap .u64 (zDE .u8 y4 127)) (IntKind.wrap .i64 (7 * s3)))), s3))) (
       some (.ret ((orK .u64 s2 (zEo .u64 (IntKind.wrap .u64 (zDE .u8 y4 127)) (IntKind.wrap .i64 (7 * s3)))), (IntKind.wrap .i64 (s3 + 1)), 0))) ((y4 == 0) && (decide (0 < s3)))) (
      zgr c1 kk k (orK .u64 s2 (zEo .u64 (IntKind.wrap .u64 (zDE .u8 y4 127)) (IntKind.wrap .i64 (7 * s3)))) (IntKind.wrap .i64 (s3 + 1))) (decide (y4 < 128))) ((s3 == 9) && (decide (1 < y4)))) (
    some (.done (s2, s3))) ((decide (s3 < (c1.l.length : Int))) && (decide (s3 < 10)))
noncomputable def zgU (kk : Nat) (a : (Sl Int)) : Option (Int × Int × Int) :=
 zkl (zgr a kk kk 0 0) (fun r => some r) fun (q6 : Int × Int) =>
  some (0, 0, 12)
noncomputable def zfh (kk : Nat) (a : (Sl Int)) : Option (Str × Int × Int) :=
 bnd (zgU kk a) fun (r1 : Int × Int × Int) =>
 sel (
  some ([], 0, 12)) (
  bnd (zuC a (some r1.2.1) (some (IntKind.wrap .i64 (r1.2.1 + (IntKind.wrap .i64 r1.1))))) fun (y2 : Sl Int) =>
  some ((b2s y2.l), (IntKind.wrap .i64 (r1.2.1 + (IntKind.wrap .i64 r1.1))), 0)) ((r1.2.2 != 0) || (decide ((IntKind.wrap .u64 (IntKind.wrap .i64 ((a.l.length : Int) - r1.2.1))) < r1.1)))
noncomputable def zgn (kk : Nat) (a : Int) : Option (Int) :=
 some (zD5 .i64 (IntKind.wrap .i64 (zsx .u64 a 1)) (IntKind.wrap .i64 (0 - (IntKind.wrap .i64 (zDE .u64 a 1)))))
noncomputable def zgo (kk : Nat) (a : (Sl Int)) : Option (Val × (Sl Int) × Bool) :=
 sel (
  some (Val.zero, Sl.nil, false)) (
  bnd (a.l[0]?) fun (y1 : Int) =>
  bnd (zuC a (some 1) none) fun (y2 : Sl Int) =>
  sel (
   bnd (zgU kk y2) fun (r3 : Int × Int × Int) =>
   bnd (zgn kk r3.1) fun (r4 : Int) =>
   bnd (zuC y2 (some r3.2.1) none) fun (y5 : Sl Int) =>
   some (((Val.zero.setKind (IntKind.wrap .i64 y1)).setInt r4), y5, (r3.2.2 == 0))) (
   sel (
    bnd (zfh kk y2) fun (r6 : Str × Int × Int) =>
    bnd (zuC y2 (some r6.2.1) none) fun (y7 : Sl Int) =>
    some (((Val.zero.setKind (IntKind.wrap .i64 y1)).setText r6.1), y7, (r6.2.2 == 0))) (
    sel (
     sel (
      bnd (y2.l[0]?) fun (y8 : Int) =>
      bnd (zuC y2 (some 1) none) fun (y9 : Sl Int) =>
      some (((Val.zero.setKind (IntKind.wrap .i64 y1)).setInt (IntKind.wrap .i64 y8)), y9, true)) (
      some (Val.zero, Sl.nil, false)) (decide (0 < (y2.l.length : Int)))) (
     some (Val.zero, Sl.nil, false)) ((IntKind.wrap .i64 y1) == 2)) ((IntKind.wrap .i64 y1) == 1)) ((IntKind.wrap .i64 y1) == 0)) ((a.l.length : Int) == 0)
noncomputable def zcF (kk : Nat) : Nat → Sl Int → Int → List Val → Option (Out ((Sl Val) × Int) (Sl Int × Int × List Val))
 | 0, _, _, _ => none
 | k + 1, s3, s4, s5 =>
   sel (
    bnd (zgo kk s3) fun (r6 : Val × (Sl Int) × Bool) =>
    sel (
     some (.ret (Sl.nil, 12))) (
     bnd (okP ((s5.length + 1) * 32 ≤ room)) fun _ =>
     zcF kk k r6.2.1 (IntKind.wrap .u64 (s4 - 1)) (s5 ++ [r6.1])) ((!(r6.2.2)) || (!((zbb r6.1))))) (
    some (.done (s3, s4, s5))) (decide (0 < s4))
noncomputable def zfM (kk : Nat) (a : (Sl Int)) : Option ((Sl Val) × Int) :=
 bnd (zgU kk a) fun (r1 : Int × Int × Int) =>
 sel (
  some (Sl.nil, 12)) (
  bnd (zuC a (some r1.2.1) none) fun (y2 : Sl Int) =>
  zkl (zcF kk kk y2 r1.1 []) (fun r => some r) fun (q8 : Sl Int × Int × List Val) =>
   sel (
    some (Sl.nil, 12)) (
    some ((Sl.out q8.2.2), 0)) (decide (0 < (q8.1.l.length : Int)))) (r1.2.2 != 0)
noncomputable def zhE (kk : Nat) (a : Val) : Option (Bool) :=
 some (!((zbb a)))
noncomputable def zaW (c1 : Sl Val) (c2 : Int) (kk : Nat) : Nat → Int → Option (Out (Int) (Int))
 | 0, _ => none
 | k + 1, s3 =>
   sel (
    bnd (ix c1.l s3) fun (y4 : Val) =>
    bnd (zhE kk y4) fun (r5 : Bool) =>
    sel (
     some (.ret s3)) (
     zaW c1 c2 kk k (IntKind.wrap .i64 (s3 + 1))) (r5)) (
    some (.done s3)) (decide (s3 < c2))
noncomputable def zbD (kk : Nat) (a : (Sl Val)) : Option (Int) :=
 zkl (zaW a (a.l.length : Int) kk kk 0) (fun r => some r) fun (q6 : Int) =>
  some (-1)
noncomputable def zbu (kk : Nat) (a : (Sl Val)) : Option (Bool) :=
 bnd (zbD kk a) fun (r1 : Int) =>
 some (decide (0 ≤ r1))
noncomputable def zgm (c1 : zhF) (kk : Nat) : Option (Bool) :=
 bnd (zbu kk c1.values) fun (r2 : Bool) =>
 sel (
  bnd (okP (20 * zal c1.ann.l + 1 < big - 1)) fun _ =>
  some (!((zdD c1.ann)))) (
  some true) (!(r2))
noncomputable def zhy (kk : Nat) (a : zhF) : Option ((Sl Int) × Int) :=
 bnd (zgm a kk) fun (q4 : Bool) =>
 sel (
  some (Sl.nil, 1)) (
  bnd (zfL kk a.values) fun (r5 : (Sl Int)) =>
  bnd (okP (([] : List Int).length + (b2s r5.l).length + 16 < lim)) fun _ =>
  bnd (okP (zcl a.ann.l ∧ 20 * zal a.ann.l + 1 < lim)) fun _ =>
  bnd (okP ((zyq [] (b2s r5.l)).length + (znm a.ann).length + 16 < lim)) fun _ =>
  some ((Sl.of (zyq (zyq [] (b2s r5.l)) (znm a.ann))), 0)) (q4)
noncomputable def zhz (kk : Nat) (a : (Sl Int)) : Option (zhF × Int × Int) :=
 bnd (zfh kk a) fun (r1 : Str × Int × Int) =>
 sel (
  some (zhF.zero, 0, 12)) (
  bnd (zfM kk (Sl.of (s2b r1.1))) fun (r2 : (Sl Val) × Int) =>
  sel (
   some (zhF.zero, 0, 12)) (
   bnd (zuC a (some r1.2.1) none) fun (y3 : Sl Int) =>
   bnd (zfh kk y3) fun (r4 : Str × Int × Int) =>
   sel (
    some (zhF.zero, 0, 12)) (
    bnd (okP (5 * r4.1.length < lim)) fun _ =>
    sel (
     some (zhF.zero, 0, 12)) (
     some (((zhF.zero.setValues r2.1).setAnn ((zfV r4.1).1)), (IntKind.wrap .i64 (r1.2.1 + r4.2.1)), 0)) (((zfV r4.1).2) != 0)) (r4.2.2 != 0)) (r2.2 != 0)) (r1.2.2 != 0)
noncomputable def ze8 (kk : Nat) (a : (Sl Int)) : Option (Bool) :=
 sel (
  some false) (
  sel (
   some true) (
   bnd (zhz kk a) fun (r1 : zhF × Int × Int) =>
   sel (
    some ((((r1.2.2 == 12) && (r1.2.1 == 0)) && ((r1.1.values.l.length : Int) == 0)) && ((r1.1.ann.l.length : Int) == 0))) (
    bnd (zhy kk r1.1) fun (r2 : (Sl Int) × Int) =>
    sel (
     bnd (zuC a none (some r1.2.1)) fun (y3 : Sl Int) =>
     some ((b2s r2.1.l) == (b2s y3.l))) (
     some false) (((r2.2 == 0) && (decide (0 ≤ r1.2.1))) && (decide (r1.2.1 ≤ (a.l.length : Int))))) (r1.2.2 != 0)) (decide (400 < (a.l.length : Int)))) (!((zDA)))
end Go.Ev
namespace Go.Ev
def uE : Nat → Nat → List Int
 | 0, n => [(n : Int)]
 | f + 1, n => if n < 128 then [(n : Int)] else ((n % 128 + 128 : Nat) : Int) :: uE f (n / 128)
theorem zIR : ∀ m : Fin 256, orK .u8 (m.val : Int) 128 = ((m.val % 128 + 128 : Nat) : Int) := by decide +kernel
theorem zHl : ∀ m : Fin 256, zDE .u8 (m.val : Int) 127 = ((m.val % 128 : Nat) : Int) := by decide +kernel
theorem zBM (n : Nat) : IntKind.wrap .u8 (n : Int) = ((n % 256 : Nat) : Int) := by rw [zu8]; omega
theorem zS4 (n : Nat) : zsx .u64 (n : Int) 7 = ((n / 128 : Nat) : Int) := by
 show Int.fdiv (n : Int) (2 ^ min (7 : Int).toNat (IntKind.bits .u64)) = _
 rw [show (2 : Int) ^ min (7 : Int).toNat (IntKind.bits .u64) = 128 from rfl, Int.fdiv_eq_ediv_of_nonneg _ (by omega)]
 omega
theorem zHg (n : Nat) : orK .u8 (IntKind.wrap .u8 (n : Int)) 128 = ((n % 128 + 128 : Nat) : Int) := by
 rw [zBM]
 have := zIR ⟨n % 256, by omega⟩
 simp only at this
 rw [this]; congr 2; omega
theorem zzm : ∀ (j : Nat) (l : List Int) (n : Nat), n < 128 ^ (j + 1) → (ziB j l n).1 ++ [IntKind.wrap .u8 (ziB j l n).2] = l ++ uE j n
 | 0, l, n, h => by
   simp only [ziB, uE]
   rw [zBM]; congr 3; simp at h; omega
 | j + 1, l, n, h => by
   unfold ziB uE
   by_cases hn : n < 128
   · rw [if_pos (by omega), if_pos hn]
     simp only
     rw [zBM]; congr 3; omega
   · rw [if_neg (by omega), if_neg hn, zHg, zS4, zzm j _ (n / 128) (by rw [Nat.pow_succ] at h; exact Nat.div_lt_of_lt_mul (by omega))]
     simp
theorem p64 : (18446744073709551616 : Nat) < 128 ^ 10 := by decide
theorem zx7 (l : List Int) (n : Nat) (h : n < 18446744073709551616) : zvd l (n : Int) = l ++ uE 9 n := zzm 9 l n (by have := p64; omega)
def zzq (s : Str) : List Int := uE 9 s.length ++ s2b s
theorem zq0 {n : Nat} (h : n < 18446744073709551616) : IntKind.wrap .u64 (n : Int) = (n : Int) := by rw [zkb]; omega
theorem zyp (l : List Int) (s : Str) (h : s.length < 18446744073709551616) : zyq l s = l ++ zzq s := by
 unfold zyq zzq
 rw [zq0 h, zx7 _ _ h, List.append_assoc]
-- the reference's bytes
-- zigzag
def zz (a : Int) : Nat := if 0 ≤ a then (2 * a).toNat else (-2 * a - 1).toNat
theorem zQg {a : Int} (h : zl2 a) : zz a < 18446744073709551616 := by unfold zz; unfold zl2 at h; split <;> omega
theorem xor_zero (k : IntKind) (x : Int) : zD5 k x 0 = k.wrap ((BitVec.ofInt k.bits x).toNat : Int) := by
 unfold zD5
 rw [show BitVec.ofInt k.bits 0 = 0#_ from rfl, BitVec.xor_zero]
theorem zpy (x : Int) (h0 : 0 ≤ x) (h1 : x < 18446744073709551616) : ((BitVec.ofInt 64 x).toNat : Int) = x := by
 rw [BitVec.toNat_ofInt]; omega
theorem zzj (x : Int) (h0 : 0 ≤ x) (h1 : x < 18446744073709551616) : ((BitVec.ofInt 64 x ^^^ BitVec.allOnes 64).toNat : Int) = 18446744073709551615 - x := by
 rw [BitVec.xor_allOnes, BitVec.toNat_not]
 have := zpy x h0 h1
 omega
theorem zBG {a : Int} (h : zl2 a) : zD5 .u64 (zEo .u64 (IntKind.wrap .u64 a) 1) (IntKind.wrap .u64 (zsx .i64 a 63)) = (zz a : Int) := by
 unfold zl2 at h
 have e1 : zEo .u64 (IntKind.wrap .u64 a) 1 = (a % 18446744073709551616 * 2) % 18446744073709551616 := by
  show IntKind.wrap .u64 (IntKind.wrap .u64 a * 2 ^ min (1 : Int).toNat (IntKind.bits .u64)) = _
  rw [show (2 : Int) ^ min (1 : Int).toNat (IntKind.bits .u64) = 2 from rfl, zkb, zkb]
 have e2 : zsx .i64 a 63 = a / 9223372036854775808 := by
  show Int.fdiv a (2 ^ min (63 : Int).toNat (IntKind.bits .i64)) = _
  rw [show (2 : Int) ^ min (63 : Int).toNat (IntKind.bits .i64) = 9223372036854775808 from rfl, Int.fdiv_eq_ediv_of_nonneg _ (by omega)]
 rw [e1, e2]
 unfold zz
 split
 · rw [show a / 9223372036854775808 = 0 by omega, show IntKind.wrap .u64 0 = 0 from rfl, xor_zero]
   show IntKind.wrap .u64 ((BitVec.ofInt 64 _).toNat : Int) = _
   rw [zpy _ (by omega) (by omega), zkb]; omega
 · rw [show a / 9223372036854775808 = -1 by omega]
   unfold zD5
   rw [show BitVec.ofInt (IntKind.bits .u64) (IntKind.wrap .u64 (-1)) = BitVec.allOnes 64 from rfl]
   show IntKind.wrap .u64 ((BitVec.ofInt 64 _ ^^^ BitVec.allOnes 64).toNat : Int) = _
   rw [zzj _ (by omega) (by omega), zkb]; omega
def zFx (n : Nat) : Int := if n % 2 = 0 then ((n / 2 : Nat) : Int) else -((n / 2 : Nat) : Int) - 1
theorem zle (x : Int) : IntKind.wrap .i64 x = (x + 9223372036854775808) % 18446744073709551616 - 9223372036854775808 := by
 simp only [IntKind.wrap, IntKind.bits, IntKind.signed]
 simp; split <;> omega
theorem zx5 {n : Nat} (h : n < 18446744073709551616) : zD5 .i64 (IntKind.wrap .i64 (zsx .u64 (n : Int) 1)) (IntKind.wrap .i64 (0 - (IntKind.wrap .i64 (zDE .u64 (n : Int) 1)))) = zFx n := by
 have e1 : zsx .u64 (n : Int) 1 = ((n / 2 : Nat) : Int) := by
  show Int.fdiv (n : Int) (2 ^ min (1 : Int).toNat (IntKind.bits .u64)) = _
  rw [show (2 : Int) ^ min (1 : Int).toNat (IntKind.bits .u64) = 2 from rfl, Int.fdiv_eq_ediv_of_nonneg _ (by omega)]
  omega
 have e2 : zDE .u64 (n : Int) 1 = ((n % 2 : Nat) : Int) := by
  have e : (BitVec.ofInt 64 (n : Int) &&& BitVec.ofInt 64 1).toNat = n % 2 := by
   rw [BitVec.toNat_and, BitVec.ofInt_natCast, BitVec.toNat_ofNat, show (BitVec.ofInt 64 1).toNat = 2 ^ 1 - 1 from rfl, Nat.and_two_pow_sub_one_eq_mod]
   omega
  show IntKind.wrap .u64 ((BitVec.ofInt 64 (n : Int) &&& BitVec.ofInt 64 1).toNat : Int) = _
  rw [e]; exact zq0 (by omega)
 rw [e1, e2]
 have e3 : IntKind.wrap .i64 ((n / 2 : Nat) : Int) = ((n / 2 : Nat) : Int) := by rw [zle]; omega
 rw [e3]
 unfold zFx
 split
 · rename_i h2
   rw [h2]
   rw [show IntKind.wrap .i64 (0 - IntKind.wrap .i64 ((0 : Nat) : Int)) = 0 from rfl, xor_zero]
   show IntKind.wrap .i64 ((BitVec.ofInt 64 _).toNat : Int) = _
   rw [zpy _ (by omega) (by omega)]; exact e3
 · rw [show n % 2 = 1 by omega]
   unfold zD5
   rw [show BitVec.ofInt (IntKind.bits .i64) (IntKind.wrap .i64 (0 - IntKind.wrap .i64 ((1 : Nat) : Int))) = BitVec.allOnes 64 from rfl]
   show IntKind.wrap .i64 ((BitVec.ofInt 64 _ ^^^ BitVec.allOnes 64).toNat : Int) = _
   rw [zzj _ (by omega) (by omega), zle]; omega
theorem zGe (n : Nat) : zz (zFx n) = n := by unfold zFx zz; split <;> split <;> omega
theorem zCL {n : Nat} (h : n < 18446744073709551616) : zl2 (zFx n) := by unfold zFx zl2; split <;> omega
end Go.Ev
namespace Go.Ev
def uD (i : Nat) : List Int → Option (Nat × Nat)
 | [] => none
 | x :: l =>
   if i = 10 then none
   else if i = 9 ∧ 1 < x then none
   else if x < 128 then (if x = 0 ∧ 0 < i then none else some (x.toNat, 1))
   else (uD (i + 1) l).map fun p => (x.toNat - 128 + 128 * p.1, p.2 + 1)
def zhA (l : List Int) : Prop := ∀ x ∈ l, 0 ≤ x ∧ x < 256
theorem zhA.tail {x : Int} {l : List Int} (h : zhA (x :: l)) : zhA l := fun y hy => h y (List.mem_cons_of_mem _ hy)
theorem zhA.drop {l : List Int} (h : zhA l) (n : Nat) : zhA (l.drop n) := fun y hy => h y (List.mem_of_mem_drop hy)
theorem zhA.take {l : List Int} (h : zhA l) (n : Nat) : zhA (l.take n) := fun y hy => h y (List.mem_of_mem_take hy)
theorem zhA.append {l r : List Int} (h : zhA l) (k : zhA r) : zhA (l ++ r) := fun y hy => (List.mem_append.1 hy).elim (h y) (k y)
theorem znJ : ∀ (l : List Int) (i : Nat), zhA l → i ≤ 10 → ∀ {n k : Nat}, uD i l = some (n, k) → n < 2 ^ (64 - 7 * i) ∧ (0 < i → 0 < n) ∧ 0 < k ∧ k ≤ l.length ∧ l.take k = uE (9 - i) n ∧ i ≤ 9
 | [], i, _, _, n, k, h => by simp [uD] at h
 | x :: l, i, hb, hi, n, k, h => by
   have hx := hb x (List.mem_cons_self ..)
   unfold uD at h
   split at h
   · cases h
   rename_i h10
   split at h
   · cases h
   rename_i h9
   split at h
   · rename_i h128
     split at h
     · cases h
     · rename_i h0
       obtain ⟨rfl, rfl⟩ := Prod.mk.inj (Option.some.inj h)
       have e : uE (9 - i) x.toNat = [x] := by
        match 9 - i with
        | 0 => simp [uE]; omega
        | m + 1 => simp only [uE]; rw [if_pos (by omega)]; congr 1; omega
       refine ⟨?_, fun hi0 => by omega, by omega, by simp, by simp [e], by omega⟩
       by_cases hi9 : i = 9
       · subst hi9; simp; omega
       · have : 2 ^ 7 ≤ 2 ^ (64 - 7 * i) := Nat.pow_le_pow_right (by omega) (by omega)
         omega
   · rename_i h128
     have hi9 : i ≠ 9 := by omega
     cases hr : uD (i + 1) l with
     | none => rw [hr] at h; cases h
     | some p =>
       rw [hr] at h
       obtain ⟨n', k'⟩ := p
       obtain ⟨rfl, rfl⟩ := Prod.mk.inj (Option.some.inj h)
       obtain ⟨q1, q2, q3, q4, q5, q6⟩ := znJ l (i + 1) hb.tail (by omega) hr
       have q2 := q2 (by omega)
       refine ⟨?_, fun _ => by omega, by omega, by simp; omega, ?_, by omega⟩
       · have e : 2 ^ (64 - 7 * i) = 2 ^ (64 - 7 * (i + 1)) * 128 := by
          rw [show 64 - 7 * i = 64 - 7 * (i + 1) + 7 by omega, Nat.pow_add]
         rw [e]; omega
       · rw [show 9 - i = (9 - (i + 1)) + 1 by omega]
         simp only [uE]
         rw [if_neg (by omega), List.take_succ_cons, q5]
         congr 1
         · omega
         · congr 1; omega
theorem zuy : ∀ (f n : Nat), 0 < (uE f n).length ∧ (uE f n).length ≤ f + 1
 | 0, n => by simp [uE]
 | f + 1, n => by
   simp only [uE]
   split
   · simp
   · have := zuy f (n / 128); simp; omega
theorem zGq {l : List Int} (h : zhA l) : s2b (b2s l) = l := by
 induction l with
 | nil => rfl
 | cons x l ih =>
   have hx := h x (List.mem_cons_self ..)
   simp only [s2b, b2s, List.map_cons, List.cons.injEq] at ih ⊢
   refine ⟨?_, ih h.tail⟩
   have : (UInt8.ofNat x.toNat).toNat = x.toNat % 256 := by simp
   rw [this]; omega
theorem zwM (s : Str) : zhA (s2b s) := by
 intro x hx
 obtain ⟨b, _, rfl⟩ := List.mem_map.1 hx
 have := b.toNat_lt
 omega
theorem zvq (s : Str) : (s2b s).length = s.length := by simp [s2b]
theorem zrx (l : List Int) : (b2s l).length = l.length := by simp [b2s]
theorem zvh (s : Str) : (zzq s).length ≤ s.length + 10 := by have := zuy 9 s.length; simp [zzq, zvq]; omega
def zyh (l : List Int) : Option (Str × Nat) :=
 match uD 0 l with
 | none => none
 | some (n, k) => if n ≤ l.length - k then some (b2s ((l.drop k).take n), k + n) else none
theorem zke {l : List Int} {s : Str} {m : Nat} (hb : zhA l) (h : zyh l = some (s, m)) : l.take m = zzq s ∧ 0 < m ∧ m ≤ l.length ∧ s.length ≤ l.length ∧ s.length < 18446744073709551616 := by
 unfold zyh at h
 cases hu : uD 0 l with
 | none => rw [hu] at h; cases h
 | some p =>
   rw [hu] at h
   obtain ⟨n, k⟩ := p
   simp only at h
   split at h
   · rename_i hn
     obtain ⟨rfl, rfl⟩ := Prod.mk.inj (Option.some.inj h)
     obtain ⟨q1, _, q3, q4, q5, _⟩ := znJ l 0 hb (by omega) hu
     have hl : ((l.drop k).take n).length = n := by simp; omega
     refine ⟨?_, by omega, by omega, by rw [zrx, hl]; omega, by rw [zrx, hl]; simpa using q1⟩
     unfold zzq
     rw [zrx, hl, zGq ((hb.drop k).take n), ← q5, List.take_add]
   · cases h
end Go.Ev
namespace Go.Ev
def zAl (v : Val) : List Int := v.kind :: (if v.kind = 0 then uE 9 (zz v.int) else if v.kind = 1 then zzq v.text else [v.int])
def zDO (l : List Val) : List Int := uE 9 l.length ++ l.flatMap zAl
def zr0 (a : zhF) : Bool := a.values.l.all zbb && zdD a.ann
def zQv (a : zhF) : Sl Int × Int := if zr0 a then (Sl.of (zzq (b2s (zDO a.values.l)) ++ zzq (znm a.ann)), 0) else (Sl.nil, 1)
theorem zpr {v : Val} (h : zbb v = true) : (v.kind = 0 ∧ v.text = []) ∨ (v.kind = 1 ∧ v.int = 0 ∧ v.text.length ≤ 255) ∨ (v.kind = 2 ∧ (v.int = 0 ∨ v.int = 1) ∧ v.text = []) := by
 unfold zbb at h
 split at h
 · exact .inl ⟨by assumption, by simpa using h⟩
 · split at h
   · simp only [Bool.and_eq_true, beq_iff_eq, decide_eq_true_eq] at h
     exact .inr (.inl ⟨by assumption, h.1, by omega⟩)
   · split at h
     · simp only [Bool.and_eq_true, beq_iff_eq, Bool.or_eq_true] at h
       exact .inr (.inr ⟨by assumption, h.1, h.2⟩)
     · cases h
theorem zzk {v : Val} (h : zbb v = true) : (zAl v).length ≤ v.text.length + 11 := by
 unfold zAl
 rcases zpr h with ⟨k, _⟩ | ⟨k, _⟩ | ⟨k, _⟩
 · rw [if_pos k]; have := zuy 9 (zz v.int); simp; omega
 · rw [if_neg (by omega), if_pos k]; have := zvh v.text; simp; omega
 · rw [if_neg (by omega), if_neg (by omega)]; simp
theorem zzP : ∀ {l : List Val}, (∀ v ∈ l, zbb v = true) → (l.flatMap zAl).length ≤ 11 * znh l
 | [], _ => by simp
 | v :: l, h => by
   have h1 := zzk (h v (List.mem_cons_self ..))
   have h2 := zzP fun x hx => h x (List.mem_cons_of_mem _ hx)
   rw [List.flatMap_cons, List.length_append, zmn]; omega
theorem zEt {l : List Val} (h : ∀ v ∈ l, zbb v = true) : (zDO l).length ≤ 11 * znh l + 10 := by
 have := zuy 9 l.length
 have := zzP h
 simp only [zDO, List.length_append]; omega
theorem zHm {α : Type} {p : α → Bool} {l : List α} (h : l.all p = true) : ∀ x ∈ l, p x = true := by simpa using h
theorem zpR {kk : Nat} (a : Sl Val) (h : a.l.length < big - 1) (hk : kk = big := by rfl) : zgp kk a = some (a.l.all zbb) := by
 subst hk
 unfold zgp
 rw [zDD (xs := a.l) (L := zcR a (a.l.length : Int) big) (fun v => !zbb v) false (fun k => by simp [zcR]) (fun k i x hi ex => ?_) (by omega), zry]
 · generalize a.l.all _ = u; cases u <;> rfl
 · simp only [zcR, decide_eq_true (show ((i : Nat) : Int) < (a.l.length : Int) by omega), zaI, zdV, ex, zad]
   rw [zbz (by omega), zdf, zey]
   cases zbb x <;> rfl
theorem zIG {v : Val} (h : zbb v = true) : IntKind.wrap .u8 v.kind = v.kind := by
 rw [zu8]; rcases zpr h with ⟨k, _⟩ | ⟨k, _⟩ | ⟨k, _⟩ <;> omega
theorem zzS {a : Sl Val} {kk : Nat} (hv : ∀ v ∈ a.l, zbb v = true) (hw : ∀ v ∈ a.l, zpX v) (hb : a.l.length < big - 1) : ∀ (k i : Nat) (s : List Int), a.l.length - i < k → i ≤ a.l.length → s.length + 11 * znh (a.l.drop i) + 64 < lim →
 zbZ a (a.l.length : Int) kk k s (i : Int) = some (.done (s ++ (a.l.drop i).flatMap zAl, (a.l.length : Int)))
 | 0, i, s, h, _, _ => by omega
 | k + 1, i, s, h, hi, hs => by
   by_cases e : i = a.l.length
   · subst e; simp [zbZ]
   · have hlt : i < a.l.length := by omega
     have ex := List.getElem?_eq_getElem hlt
     have hm : a.l[i] ∈ a.l := List.getElem_mem hlt
     have hvi := hv _ hm
     have hwi := hw _ hm
     have hle := zzk hvi
     have hlim : lim = 4294967281 := rfl
     rw [List.drop_eq_getElem_cons hlt] at hs ⊢
     rw [zmn] at hs
     generalize a.l[i] = v at *
     rw [zbZ, decide_eq_true (show (i : Int) < (a.l.length : Int) by omega), zaI, zdV, ex, zad, zav (by unfold room; omega), zad, zIG hvi, zbz (by omega)]
     have ih := fun s' hs' => zzS (kk := kk) hv hw hb k (i + 1) s' (by omega) (by omega) hs'
     simp only [List.flatMap_cons]
     have hl1 : (s ++ [v.kind]).length = s.length + 1 := by simp
     rcases zpr hvi with ⟨k0, _⟩ | ⟨k0, _, _⟩ | ⟨k0, hi01, _⟩
     · rw [k0, show ((0 : Int) == 0) = true from rfl, zaI]
       rw [k0] at hl1
       unfold zi2
       rw [zad, zBG hwi.2]
       have hz := zQg hwi.2
       rw [zav ⟨by omega, by omega, by omega⟩, zad, zx7 _ _ hz]
       have hul := zuy 9 (zz v.int)
       rw [ih _ (by simp only [List.length_append, List.length_cons, List.length_nil]; omega)]
       simp only [zAl, k0, if_pos, List.append_assoc, List.cons_append, List.nil_append]
     · rw [k0, show ((1 : Int) == 0) = false from rfl, zaV, show ((1 : Int) == 1) = true from rfl, zaI]
       rw [k0] at hl1
       rw [zav (by omega), zad, zyp _ _ (by omega)]
       have hul := zvh v.text
       rw [ih _ (by simp only [List.length_append, List.length_cons, List.length_nil]; omega)]
       simp only [zAl, k0, if_neg (show ¬ (1 : Int) = 0 by decide), if_pos, List.append_assoc, List.cons_append, List.nil_append]
     · rw [k0, show ((2 : Int) == 0) = false from rfl, zaV, show ((2 : Int) == 1) = false from rfl, zaV]
       rw [k0] at hl1
       rw [zav (by unfold room; omega), zad]
       have hib : IntKind.wrap .u8 v.int = v.int := by rw [zu8]; omega
       rw [hib, ih _ (by simp only [List.length_append, List.length_cons, List.length_nil]; omega)]
       simp only [zAl, k0, if_neg (show ¬ (2 : Int) = 0 by decide), if_neg (show ¬ (2 : Int) = 1 by decide), List.append_assoc, List.cons_append, List.nil_append]
theorem zoX {kk : Nat} (a : Sl Val) (hv : ∀ v ∈ a.l, zbb v = true) (hw : ∀ v ∈ a.l, zpX v) (h : znh a.l ≤ 4194304) (hk : kk = big := by rfl) : zfL kk a = some (Sl.of (zDO a.l)) := by
 have hl := zuA a.l
 have hbig : big = 1152921504606846976 := rfl
 have hlim : lim = 4294967281 := rfl
 unfold zfL
 rw [zpR a (by omega) hk, zad, show a.l.all zbb = true by simpa using hv, Bool.not_true, zaV, zq0 (by omega), zav ⟨by omega, by omega, by simp; omega⟩, zad, zx7 _ _ (by omega)]
 have hul := zuy 9 a.l.length
 have := zzS (kk := kk) hv hw (by omega) kk 0 ([] ++ uE 9 a.l.length) (by subst hk; omega) (by omega) (by simp only [List.nil_append, List.drop_zero]; omega)
 rw [show ((0 : Nat) : Int) = 0 from rfl] at this
 rw [this, zb9]
 simp [zDO]
-- the reference's
def zzr (a : zhF) : Prop := znh a.values.l ≤ 4194304 ∧ zal a.ann.l ≤ 16777216 ∧ zcl a.ann.l ∧ ∀ v ∈ a.values.l, zpX v
theorem zGU {a : Sl zam} (h : zal a.l ≤ 16777216) : (znm a).length ≤ 1073741825 := by
 unfold znm
 split
 · have := zuS a; omega
 · simp
theorem zEL {a : zhF} (h : zr0 a = true) : (∀ v ∈ a.values.l, zbb v = true) ∧ zdD a.ann = true := by
 unfold zr0 at h; simp only [Bool.and_eq_true] at h; exact ⟨zHm h.1, h.2⟩
theorem zrK {kk : Nat} (a : zhF) (h : zzr a) (hk : kk = big := by rfl) : zhy kk a = some (zQv a) := by
 obtain ⟨h1, h2, h3, h4⟩ := h
 have hl := zuA a.values.l
 have hbig : big = 1152921504606846976 := rfl
 have hlim : lim = 4294967281 := rfl
 have hJ : zgm a kk = some (!zr0 a) := by
  unfold zgm zr0 zbu zbD
  rw [zoF (xs := a.values.l) (fun v => !zbb v) (fun k => by simp [zaW]) (fun k i x hi ex => ?_) (by subst hk; omega), zad, zad, zhJ, zry]
  · generalize a.values.l.all _ = u; cases u
    · rfl
    · simp only [Bool.not_true, Bool.not_false, zaI]; rw [zav (by omega)]; rfl
  · simp only [zaW, zhE, decide_eq_true (show ((i : Nat) : Int) < (a.values.l.length : Int) by omega), zaI, zdV, ex, zad]
    rw [zbz (by omega), zdf, zey]
    cases zbb x <;> rfl
 unfold zhy zQv
 rw [hJ, zad]
 cases hv : zr0 a
 · rfl
 · obtain ⟨v1, v2⟩ := zEL hv
   have hrl := zEt v1
   have hfl := zGU h2
   have hsl := zvh (b2s (zDO a.values.l))
   rw [zrx] at hsl
   simp only [Bool.not_true, zaV, if_true]
   rw [zoX _ v1 h4 h1 hk, zad]
   simp only [Sl.of_l]
   rw [zav (by simp only [List.length_nil, zrx]; omega), zad, zav ⟨h3, by omega⟩, zad, zyp _ _ (by rw [zrx]; omega)]
   simp only [List.nil_append]
   rw [zav (by omega), zad, zyp _ _ (by omega)]
end Go.Ev
namespace Go.Ev
theorem zIQ (a b t : Nat) (ha : a < 2 ^ t) (hb : a + b * 2 ^ t < 18446744073709551616) : orK .u64 (a : Int) ((b * 2 ^ t : Nat) : Int) = ((a + b * 2 ^ t : Nat) : Int) := by
 have e : (BitVec.ofInt 64 (a : Int) ||| BitVec.ofInt 64 ((b * 2 ^ t : Nat) : Int)).toNat = a + b * 2 ^ t := by
  rw [BitVec.toNat_or, BitVec.ofInt_natCast, BitVec.ofInt_natCast, BitVec.toNat_ofNat, BitVec.toNat_ofNat, Nat.mod_eq_of_lt (by omega), Nat.mod_eq_of_lt (by omega)]
  have := Nat.two_pow_add_eq_or_of_lt ha b
  rw [Nat.or_comm, Nat.mul_comm b, ← this]; omega
 show IntKind.wrap .u64 ((BitVec.ofInt 64 (a : Int) ||| BitVec.ofInt 64 ((b * 2 ^ t : Nat) : Int)).toNat : Int) = _
 rw [e]; exact zq0 hb
theorem zBY {y : Int} {i acc : Nat} (h0 : 0 ≤ y) (h1 : y < 256) (hi : i ≤ 9) (h9 : i = 9 → y ≤ 1) (ha : acc < 2 ^ (7 * i)) :
 orK .u64 (acc : Int) (zEo .u64 (IntKind.wrap .u64 (zDE .u8 y 127)) (IntKind.wrap .i64 (7 * (i : Int)))) = ((acc + (y.toNat % 128) * 2 ^ (7 * i) : Nat) : Int) ∧ acc + (y.toNat % 128) * 2 ^ (7 * i) < 2 ^ (7 * (i + 1)) ∧ acc + (y.toNat % 128) * 2 ^ (7 * i) < 18446744073709551616 := by
 have e1 : zDE .u8 y 127 = ((y.toNat % 128 : Nat) : Int) := by
  have := zHl ⟨y.toNat, by omega⟩
  simp only at this
  rw [← this]; congr 1; omega
 have e2 : IntKind.wrap .i64 (7 * (i : Int)) = ((7 * i : Nat) : Int) := by rw [zle]; omega
 have hp : 2 ^ (7 * (i + 1)) = 2 ^ (7 * i) * 128 := by rw [show 7 * (i + 1) = 7 * i + 7 by omega, Nat.pow_add]
 have hd : y.toNat % 128 < 128 := by omega
 have b2 : acc + (y.toNat % 128) * 2 ^ (7 * i) < 2 ^ (7 * (i + 1)) := by
  rw [hp]
  have : (y.toNat % 128) * 2 ^ (7 * i) ≤ 127 * 2 ^ (7 * i) := Nat.mul_le_mul_right _ (by omega)
  omega
 have b3 : acc + (y.toNat % 128) * 2 ^ (7 * i) < 18446744073709551616 := by
  by_cases h : i = 9
  · have := h9 h
    subst h
    have : (y.toNat % 128) * 2 ^ (7 * 9) ≤ 1 * 2 ^ (7 * 9) := Nat.mul_le_mul_right _ (by omega)
    omega
  · have : 2 ^ (7 * (i + 1)) ≤ 2 ^ 63 := Nat.pow_le_pow_right (by omega) (by omega)
    omega
 refine ⟨?_, b2, b3⟩
 have e3 : zEo .u64 (IntKind.wrap .u64 (zDE .u8 y 127)) (IntKind.wrap .i64 (7 * (i : Int))) = (((y.toNat % 128) * 2 ^ (7 * i) : Nat) : Int) := by
  rw [e1, e2, zq0 (by omega)]
  show IntKind.wrap .u64 (((y.toNat % 128 : Nat) : Int) * 2 ^ min ((7 * i : Nat) : Int).toNat (IntKind.bits .u64)) = _
  rw [show min ((7 * i : Nat) : Int).toNat (IntKind.bits .u64) = 7 * i by show min _ 64 = _; omega]
  have : ((y.toNat % 128 : Nat) : Int) * 2 ^ (7 * i) = (((y.toNat % 128) * 2 ^ (7 * i) : Nat) : Int) := by simp
  rw [this]; exact zq0 (by omega)
 rw [e3, zIQ _ _ _ ha b3]
theorem zwA {a : Sl Int} {kk : Nat} (hb : zhA a.l) (hbig : a.l.length < big - 1) : ∀ (k i acc : Nat), i ≤ 10 → i ≤ a.l.length → acc < 2 ^ (7 * i) → 10 - i < k →
 zkl (zgr a kk k (acc : Int) (i : Int)) (fun r => some r) (fun (_ : Int × Int) => some ((0 : Int), (0 : Int), (12 : Int))) = some (match uD i (a.l.drop i) with
  | some (n, m) => (((acc + n * 2 ^ (7 * i) : Nat) : Int), ((i + m : Nat) : Int), 0)
  | none => (0, 0, 12))
 | 0, i, acc, _, _, _, hk => by omega
 | k + 1, i, acc, hi, hl, ha, hk => by
   have hbg : big = 1152921504606846976 := rfl
   rw [zgr]
   by_cases hlt : i < a.l.length
   · rw [decide_eq_true (show (i : Int) < (a.l.length : Int) by omega), Bool.true_and]
     have ex := List.getElem?_eq_getElem hlt
     have hy := hb _ (List.getElem_mem hlt)
     rw [List.drop_eq_getElem_cons hlt]
     generalize a.l[i] = y at *
     by_cases h10 : i = 10
     · subst h10
       rw [show decide (((10 : Nat) : Int) < 10) = false from rfl, zaV, zb9]
       unfold uD; rw [if_pos rfl]
     · rw [decide_eq_true (show (i : Int) < 10 by omega), zaI, zdV, ex, zad]
       unfold uD
       rw [if_neg h10]
       by_cases h9 : i = 9 ∧ 1 < y
       · rw [show ((i : Int) == 9) = true by simp; omega, decide_eq_true h9.2, Bool.true_and, zaI, zb9, if_pos h9]
       · rw [if_neg h9]
         have hc : (((i : Int) == 9) && decide (1 < y)) = false := by
          by_cases h : i = 9
          · rw [decide_eq_false (by omega)]; simp
          · rw [show ((i : Int) == 9) = false by simp; omega]; rfl
         rw [hc, zaV, zav (eq_false (by rw [zgz (by omega) (by omega)]; omega)), zad]
         obtain ⟨s1, s2, s3⟩ := zBY (i := i) (acc := acc) hy.1 hy.2 (by omega) (by omega) ha
         rw [s1, zbz (by omega)]
         by_cases h128 : y < 128
         · rw [decide_eq_true h128, zaI, if_pos h128]
           by_cases h0 : y = 0 ∧ 0 < i
           · rw [show ((y == 0) && decide ((0 : Int) < (i : Int))) = true by simp; omega, zaI, zb9, if_pos h0]
           · rw [show ((y == 0) && decide ((0 : Int) < (i : Int))) = false by
              by_cases h : y = 0
              · rw [decide_eq_false (by omega)]; simp
              · simp [h], zaV, zlc, if_neg h0]
             rw [show y.toNat % 128 = y.toNat by omega]
         · rw [decide_eq_false h128, zaV, if_neg h128]
           rw [zwA (kk := kk) hb hbig k (i + 1) _ (by omega) (by omega) s2 (by omega)]
           cases hr : uD (i + 1) (a.l.drop (i + 1)) with
           | none => rfl
           | some p =>
             obtain ⟨n, m⟩ := p
             simp only [Option.map_some, Option.some.injEq, Prod.mk.injEq, and_true]
             refine ⟨?_, by omega⟩
             have hp : 2 ^ (7 * (i + 1)) = 2 ^ (7 * i) * 128 := by rw [show 7 * (i + 1) = 7 * i + 7 by omega, Nat.pow_add]
             rw [hp, show y.toNat % 128 = y.toNat - 128 by omega]
             have : n * (2 ^ (7 * i) * 128) = 128 * n * 2 ^ (7 * i) := by rw [Nat.mul_comm (2 ^ (7 * i)) 128, ← Nat.mul_assoc, Nat.mul_comm n 128]
             rw [this, Nat.add_mul]; omega
   · obtain rfl : i = a.l.length := by omega
     rw [decide_eq_false (show ¬ ((a.l.length : Int) < (a.l.length : Int)) by omega), Bool.false_and, zaV, zb9]
     simp [uD]
theorem zkB {kk : Nat} (a : Sl Int) (hb : zhA a.l) (h : a.l.length < big - 1) (hk : kk = big := by rfl) : zgU kk a = some (match uD 0 a.l with
 | some (n, m) => ((n : Int), (m : Int), 0)
 | none => (0, 0, 12)) := by
 have hbg : big = 1152921504606846976 := rfl
 unfold zgU
 have := zwA (kk := kk) hb h kk 0 0 (by omega) (by omega) (by simp) (by subst hk; omega)
 simp only [Nat.mul_zero, Nat.pow_zero, Nat.mul_one, Nat.zero_add, List.drop_zero] at this
 exact this
theorem zi5 {α : Type} (s : Sl α) {k : Nat} (h : k ≤ s.l.length) : zuC s (some (k : Int)) none = some ⟨s.fl, s.l.drop k⟩ := by
 unfold zuC
 simp only [Option.getD_some, Option.getD_none]
 rw [if_pos ⟨by omega, by omega, by omega, by omega⟩]
 have e1 : ziI s.fl ((s.l.length : Int).toNat == s.l.length) = s.fl := by
  rw [show ((s.l.length : Int).toNat == s.l.length) = true by simp]; cases s.fl <;> rfl
 rw [e1]
 congr 2
 unfold cut
 split
 · rename_i h2; rw [show ((k : Int)).toNat = k from Int.toNat_natCast k] at h2; rw [h2.1]; rfl
 · rw [show ((k : Int)).toNat = k from Int.toNat_natCast k, List.take_of_length_le (by simp)]
theorem zEj {α : Type} (s : Sl α) {k m : Nat} (h1 : k ≤ m) (h2 : m ≤ s.l.length) : ∃ f, zuC s (some (k : Int)) (some (m : Int)) = some ⟨f, (s.l.drop k).take (m - k)⟩ := by
 unfold zuC
 simp only [Option.getD_some]
 rw [if_pos ⟨by omega, by omega, by omega, by omega⟩]
 refine ⟨ziI s.fl ((m : Int).toNat == s.l.length), ?_⟩
 congr 2
 unfold cut
 simp only [Int.toNat_natCast]
 split
 · rename_i h; rw [h.1, List.drop_zero, show m - 0 = s.l.length by omega, List.take_length]
 · rfl
theorem ziT {kk : Nat} (a : Sl Int) (hb : zhA a.l) (h : a.l.length < lim) (hk : kk = big := by rfl) : zfh kk a = some (match zyh a.l with
 | some (s, m) => (s, (m : Int), 0)
 | none => ([], 0, 12)) := by
 have hbg : big = 1152921504606846976 := rfl
 have hlim : lim = 4294967281 := rfl
 unfold zfh
 rw [zkB a hb (by omega) hk, zad]
 unfold zyh
 cases hu : uD 0 a.l with
 | none => rfl
 | some p =>
   obtain ⟨n, k⟩ := p
   obtain ⟨q1, _, q3, q4, _, _⟩ := znJ a.l 0 hb (by omega) hu
   simp only [Nat.mul_zero, Nat.sub_zero] at q1
   simp only
   rw [show ((0 : Int) != 0) = false from rfl, Bool.false_or, zjp]
   have e1 : IntKind.wrap .u64 (IntKind.wrap .i64 ((a.l.length : Int) - (k : Int))) = ((a.l.length - k : Nat) : Int) := by rw [zkb, zle]; omega
   rw [e1]
   by_cases hn : n ≤ a.l.length - k
   · rw [if_neg (by omega), if_pos hn]
     have e2 : IntKind.wrap .i64 ((k : Int) + IntKind.wrap .i64 (n : Int)) = ((k + n : Nat) : Int) := by rw [zle, zle]; omega
     rw [e2]
     obtain ⟨f, hf⟩ := zEj a (show k ≤ k + n by omega) (show k + n ≤ a.l.length by omega)
     rw [hf, zad]
     simp only [Nat.add_sub_cancel_left]
   · rw [if_pos (by omega), if_neg hn]
def zGi : List Int → Option (Val × List Int)
 | [] => none
 | y :: r =>
   if y = 0 then (uD 0 r).map fun p => (⟨0, zFx p.1, []⟩, r.drop p.2)
   else if y = 1 then (zyh r).map fun p => (⟨1, 0, p.1⟩, r.drop p.2)
   else if y = 2 then (match r with | [] => none | b :: r' => some (⟨2, b, []⟩, r'))
   else none
theorem zsP (y : Int) (r : List Int) : zGi (y :: r) = if y = 0 then (uD 0 r).map fun p => (⟨0, zFx p.1, []⟩, r.drop p.2)
 else if y = 1 then (zyh r).map fun p => (⟨1, 0, p.1⟩, r.drop p.2)
 else if y = 2 then (match r with | [] => none | b :: r' => some (⟨2, b, []⟩, r'))
 else none := rfl
theorem zpQ {kk : Nat} (a : Sl Int) (hb : zhA a.l) (h : a.l.length < lim) (hk : kk = big := by rfl) : ∃ v r ok, zgo kk a = some (v, r, ok) ∧ (match zGi a.l with
 | some (v', r') => ok = true ∧ v = v' ∧ r = ⟨a.fl, r'⟩
 | none => ok = false) := by
 have hbg : big = 1152921504606846976 := rfl
 have hlim : lim = 4294967281 := rfl
 unfold zgo
 obtain ⟨fl, l⟩ := a
 cases l with
 | nil => exact ⟨_, _, _, rfl, rfl⟩
 | cons y r =>
   simp only at hb h ⊢
   have hy := hb y (List.mem_cons_self ..)
   have hbr := hb.tail
   have hlr : r.length < lim := by simp at h; omega
   rw [show (((y :: r).length : Int) == 0) = false by simp; omega, zaV]
   simp only [List.getElem?_cons_zero, zad]
   have e1 : zuC (⟨fl, y :: r⟩ : Sl Int) (some 1) none = some ⟨fl, r⟩ := zi5 (⟨fl, y :: r⟩ : Sl Int) (k := 1) (by simp)
   rw [e1, zad]
   have ey : IntKind.wrap .i64 y = y := by rw [zle]; omega
   rw [ey, zsP]
   by_cases h0 : y = 0
   · subst h0
     rw [show ((0 : Int) == 0) = true from rfl, zaI, zkB (⟨fl, r⟩ : Sl Int) hbr (by simp only; omega) hk, zad, if_pos rfl]
     cases hu : uD 0 r with
     | none =>
       simp only [zgn, zad]
       have : zuC (⟨fl, r⟩ : Sl Int) (some 0) none = some ⟨fl, r.drop 0⟩ := zi5 (⟨fl, r⟩ : Sl Int) (k := 0) (by simp)
       rw [this, zad]
       exact ⟨_, _, _, rfl, rfl⟩
     | some p =>
       obtain ⟨n, k⟩ := p
       obtain ⟨q1, _, q3, q4, _, _⟩ := znJ r 0 hbr (by omega) hu
       simp only [Nat.mul_zero, Nat.sub_zero] at q1
       simp only [zgn, zad]
       rw [zx5 q1, zi5 (⟨fl, r⟩ : Sl Int) q4, zad]
       exact ⟨_, _, _, rfl, rfl, rfl, rfl⟩
   · rw [show (y == 0) = false by simpa using h0, zaV, if_neg h0]
     by_cases h1 : y = 1
     · subst h1
       rw [show ((1 : Int) == 1) = true from rfl, zaI, ziT (⟨fl, r⟩ : Sl Int) hbr hlr hk, zad, if_pos rfl]
       simp only
       cases hu : zyh r with
       | none =>
         simp only
         have : zuC (⟨fl, r⟩ : Sl Int) (some 0) none = some ⟨fl, r.drop 0⟩ := zi5 (⟨fl, r⟩ : Sl Int) (k := 0) (by simp)
         rw [this, zad]
         exact ⟨_, _, _, rfl, rfl⟩
       | some p =>
         obtain ⟨s, k⟩ := p
         obtain ⟨_, _, q4, _, _⟩ := zke hbr hu
         simp only
         rw [zi5 (⟨fl, r⟩ : Sl Int) q4, zad]
         exact ⟨_, _, _, rfl, rfl, rfl, rfl⟩
     · rw [show (y == 1) = false by simpa using h1, zaV, if_neg h1]
       by_cases h2 : y = 2
       · subst h2
         rw [show ((2 : Int) == 2) = true from rfl, zaI, if_pos rfl]
         cases r with
         | nil => exact ⟨_, _, _, rfl, rfl⟩
         | cons b r' =>
           have hbb := hbr b (List.mem_cons_self ..)
           rw [show decide ((0 : Int) < ((b :: r').length : Int)) = true by simp <;> omega, zaI]
           simp only [List.getElem?_cons_zero, zad]
           have e2 : zuC (⟨fl, b :: r'⟩ : Sl Int) (some 1) none = some ⟨fl, r'⟩ := zi5 (⟨fl, b :: r'⟩ : Sl Int) (k := 1) (by simp)
           rw [e2, zad]
           have eb : IntKind.wrap .i64 b = b := by rw [zle]; omega
           rw [eb]
           exact ⟨_, _, _, rfl, rfl, rfl, rfl⟩
       · rw [show (y == 2) = false by simpa using h2, zaV, if_neg h2]
         exact ⟨_, _, _, rfl, rfl⟩
end Go.Ev
namespace Go.Ev
def zt3 : Nat → List Int → List Val → Option (List Val × List Int)
 | 0, l, acc => some (acc, l)
 | n + 1, l, acc => match zGi l with
   | some (v, r) => if zbb v then zt3 n r (acc ++ [v]) else none
   | none => none
theorem zBK {l : List Int} {v : Val} {r : List Int} (hb : zhA l) (h : zGi l = some (v, r)) : r.length < l.length ∧ zhA r := by
 cases l with
 | nil => cases h
 | cons y l =>
   rw [zsP] at h
   have hbt := hb.tail
   split at h
   · cases hu : uD 0 l with
     | none => rw [hu] at h; cases h
     | some p =>
       rw [hu] at h
       obtain ⟨n, k⟩ := p
       obtain ⟨_, _, q3, _, _, _⟩ := znJ l 0 hbt (by omega) hu
       obtain ⟨_, rfl⟩ := Prod.mk.inj (Option.some.inj h)
       exact ⟨by simp; omega, hbt.drop _⟩
   · split at h
     · cases hu : zyh l with
       | none => rw [hu] at h; cases h
       | some p =>
         rw [hu] at h
         obtain ⟨s, k⟩ := p
         obtain ⟨_, q3, _, _, _⟩ := zke hbt hu
         obtain ⟨_, rfl⟩ := Prod.mk.inj (Option.some.inj h)
         exact ⟨by simp; omega, hbt.drop _⟩
     · split at h
       · cases l with
         | nil => cases h
         | cons b l =>
           obtain ⟨_, rfl⟩ := Prod.mk.inj (Option.some.inj h)
           exact ⟨by simp; omega, hbt.tail⟩
       · cases h
theorem zxq {kk : Nat} (hkk : kk = big) : ∀ (k n : Nat) (fl : Fl) (l : List Int) (acc : List Val), zhA l → l.length < k → n < 18446744073709551616 → l.length + acc.length < lim →
 (match zt3 n l acc with
  | some (vs, r) => ∃ m, zcF kk k ⟨fl, l⟩ (n : Int) acc = some (.done (⟨fl, r⟩, m, vs))
  | none => zcF kk k ⟨fl, l⟩ (n : Int) acc = some (.ret (Sl.nil, 12)))
 | 0, n, fl, l, acc, _, h, _, _ => by omega
 | k + 1, 0, fl, l, acc, hb, h, hn, hl => by
   simp only [zt3]
   exact ⟨_, rfl⟩
 | k + 1, n + 1, fl, l, acc, hb, h, hn, hl => by
   have hlim : lim = 4294967281 := rfl
   rw [zcF, decide_eq_true (show (0 : Int) < ((n + 1 : Nat) : Int) by omega), zaI]
   obtain ⟨v, r, ok, e1, e2⟩ := zpQ (kk := kk) (⟨fl, l⟩ : Sl Int) hb (by simp only; omega) hkk
   rw [e1, zad]
   simp only [zt3]
   simp only at e2
   cases hv : zGi l with
   | none =>
     rw [hv] at e2
     simp only at e2
     subst e2
     rfl
   | some p =>
     obtain ⟨v', r'⟩ := p
     rw [hv] at e2
     obtain ⟨rfl, rfl, rfl⟩ := e2
     obtain ⟨q1, q2⟩ := zBK hb hv
     simp only
     cases hvv : zbb v
     · rfl
     · simp only [Bool.not_true, Bool.or_self, zaV, if_true]
       rw [zav (by unfold room; omega), zad]
       have e3 : IntKind.wrap .u64 (((n + 1 : Nat) : Int) - 1) = (n : Int) := by rw [zkb]; omega
       rw [e3]
       exact zxq hkk k n fl r' (acc ++ [v]) q2 (by omega) (by omega) (by simp; omega)
def zty (l : List Int) : Option (List Val) :=
 match uD 0 l with
 | none => none
 | some (n, k) => match zt3 n (l.drop k) [] with
   | some (vs, []) => some vs
   | _ => none
theorem zoY {kk : Nat} (a : Sl Int) (hb : zhA a.l) (h : a.l.length < lim) (hk : kk = big := by rfl) : zfM kk a = some (match zty a.l with
 | some vs => (Sl.out vs, 0)
 | none => (Sl.nil, 12)) := by
 have hbg : big = 1152921504606846976 := rfl
 have hlim : lim = 4294967281 := rfl
 unfold zfM zty
 rw [zkB a hb (by omega) hk, zad]
 cases hu : uD 0 a.l with
 | none => rfl
 | some p =>
   obtain ⟨n, k⟩ := p
   obtain ⟨q1, _, q3, q4, _, _⟩ := znJ a.l 0 hb (by omega) hu
   simp only [Nat.mul_zero, Nat.sub_zero] at q1
   simp only
   rw [show ((0 : Int) != 0) = false from rfl, zaV, zi5 a q4, zad]
   have := zxq hk kk n a.fl (a.l.drop k) [] (hb.drop k) (by subst hk; simp; omega) (by omega) (by simp; omega)
   cases hr : zt3 n (a.l.drop k) [] with
   | none => rw [hr] at this; simp only at this; rw [this, zlc]
   | some p =>
     obtain ⟨vs, r⟩ := p
     rw [hr] at this
     obtain ⟨m, hm⟩ := this
     rw [hm, zb9]
     simp only
     cases r with
     | nil => rfl
     | cons x r => rw [decide_eq_true (by simp <;> omega)]; rfl
def zJo (l : List Int) : zhF × Int × Int :=
 match zyh l with
 | none => (zhF.zero, 0, 12)
 | some (s, n) => match zty (s2b s) with
   | none => (zhF.zero, 0, 12)
   | some vs => match zyh (l.drop n) with
     | none => (zhF.zero, 0, 12)
     | some (t, m) => if (zfV t).2 = 0 then (⟨Sl.out vs, (zfV t).1⟩, ((n + m : Nat) : Int), 0) else (zhF.zero, 0, 12)
theorem zrL {kk : Nat} (a : Sl Int) (hb : zhA a.l) (h : 5 * a.l.length < lim) (hk : kk = big := by rfl) : zhz kk a = some (zJo a.l) := by
 have hlim : lim = 4294967281 := rfl
 unfold zhz zJo
 rw [ziT a hb (by omega) hk, zad]
 cases hs : zyh a.l with
 | none => rfl
 | some p =>
   obtain ⟨s, n⟩ := p
   obtain ⟨_, q2, q3, q4, _⟩ := zke hb hs
   simp only
   rw [show ((0 : Int) != 0) = false from rfl, zaV, zoY (Sl.of (s2b s)) (zwM s) (by simp only [Sl.of_l, zvq]; omega) hk, zad]
   simp only [Sl.of_l]
   cases hd : zty (s2b s) with
   | none => rfl
   | some vs =>
     simp only
     rw [show ((0 : Int) != 0) = false from rfl, zaV, zi5 a q3, zad, ziT (⟨a.fl, a.l.drop n⟩ : Sl Int) (hb.drop n) (by simp; omega) hk, zad]
     simp only
     cases ht : zyh (a.l.drop n) with
     | none => rfl
     | some p =>
       obtain ⟨t, m⟩ := p
       obtain ⟨_, r2, r3, r4, _⟩ := zke (hb.drop n) ht
       simp only [List.length_drop] at r3 r4
       simp only
       rw [show ((0 : Int) != 0) = false from rfl, zaV, zav (by omega), zad, zvl]
       have e : IntKind.wrap .i64 ((n : Int) + (m : Int)) = ((n + m : Nat) : Int) := by rw [zgz (by omega) (by omega)]; omega
       rw [e]
       split <;> rfl
-- reading back what was written
-- what is read is what was written
theorem zBJ {l : List Int} {v : Val} {r : List Int} (hb : zhA l) (h : zGi l = some (v, r)) (hv : zbb v = true) : l = zAl v ++ r ∧ zpX v ∧ r.length < l.length ∧ v.text.length ≤ l.length - r.length := by
 cases l with
 | nil => cases h
 | cons y l =>
   have hy := hb y (List.mem_cons_self ..)
   rw [zsP] at h
   have hbt := hb.tail
   split at h
   · rename_i hy0
     cases hu : uD 0 l with
     | none => rw [hu] at h; cases h
     | some p =>
       rw [hu] at h
       obtain ⟨n, k⟩ := p
       obtain ⟨q1, _, q3, q4, q5, _⟩ := znJ l 0 hbt (by omega) hu
       simp only [Nat.mul_zero, Nat.sub_zero] at q1 q5
       obtain ⟨rfl, rfl⟩ := Prod.mk.inj (Option.some.inj h)
       refine ⟨?_, ⟨by unfold zl2; simp, zCL q1⟩, by simp; omega, by simp⟩
       simp only [zAl, if_pos, zGe, hy0, List.cons_append]
       rw [← q5, List.take_append_drop]
   · split at h
     · rename_i hy1
       cases hu : zyh l with
       | none => rw [hu] at h; cases h
       | some p =>
         rw [hu] at h
         obtain ⟨s, k⟩ := p
         obtain ⟨q1, q2, q3, _, _⟩ := zke hbt hu
         obtain ⟨rfl, rfl⟩ := Prod.mk.inj (Option.some.inj h)
         have hsl : s.length ≤ k := by
          have := congrArg List.length q1
          simp only [zzq, List.length_append, zvq, List.length_take] at this
          omega
         refine ⟨?_, ⟨by unfold zl2; simp, by unfold zl2; simp⟩, by simp; omega, by simp; omega⟩
         simp only [zAl, if_neg (show ¬ (1 : Int) = 0 by decide), if_pos, hy1, List.cons_append]
         rw [← q1, List.take_append_drop]
     · split at h
       · rename_i hy2
         cases l with
         | nil => cases h
         | cons b l =>
           have hbb := hbt b (List.mem_cons_self ..)
           obtain ⟨rfl, rfl⟩ := Prod.mk.inj (Option.some.inj h)
           refine ⟨?_, ⟨by unfold zl2; simp, by unfold zl2; simp; omega⟩, by simp; omega, by simp⟩
           simp only [zAl, if_neg (show ¬ (2 : Int) = 0 by decide), if_neg (show ¬ (2 : Int) = 1 by decide), hy2, List.cons_append, List.nil_append]
       · cases h
theorem zuG : ∀ (n : Nat) (l : List Int) (acc vs : List Val) (r : List Int), zhA l → zt3 n l acc = some (vs, r) → ∃ ws, vs = acc ++ ws ∧ ws.length = n ∧ l = ws.flatMap zAl ++ r ∧ (∀ v ∈ ws, zbb v = true ∧ zpX v) ∧ znh ws ≤ 2 * (l.length - r.length) ∧ r.length ≤ l.length
 | 0, l, acc, vs, r, _, h => by
   simp only [zt3, Option.some.injEq, Prod.mk.injEq] at h
   obtain ⟨rfl, rfl⟩ := h
   exact ⟨[], by simp, rfl, by simp, by simp, by simp [znh, zfB], Nat.le_refl _⟩
 | n + 1, l, acc, vs, r, hb, h => by
   rw [zt3] at h
   cases hv : zGi l with
   | none => rw [hv] at h; cases h
   | some p =>
     obtain ⟨v, r'⟩ := p
     rw [hv] at h
     simp only at h
     split at h
     · rename_i hvv
       obtain ⟨e1, e2, e3, e4⟩ := zBJ hb hv hvv
       obtain ⟨ws, f1, f2, f3, f4, f5, f6⟩ := zuG n r' (acc ++ [v]) vs r (zBK hb hv).2 h
       refine ⟨v :: ws, by rw [f1]; simp, by simp [f2], ?_, ?_, ?_, by omega⟩
       · rw [List.flatMap_cons, List.append_assoc, ← f3]; exact e1
       · intro x hx
         rcases List.mem_cons.1 hx with rfl | hx
         · exact ⟨hvv, e2⟩
         · exact f4 x hx
       · rw [zmn]; omega
     · cases h
theorem zyY {l : List Int} {vs : List Val} (hb : zhA l) (h : zty l = some vs) : l = zDO vs ∧ (∀ v ∈ vs, zbb v = true ∧ zpX v) ∧ znh vs ≤ 2 * l.length := by
 unfold zty at h
 cases hu : uD 0 l with
 | none => rw [hu] at h; cases h
 | some p =>
   obtain ⟨n, k⟩ := p
   rw [hu] at h
   simp only at h
   obtain ⟨q1, _, q3, q4, q5, _⟩ := znJ l 0 hb (by omega) hu
   cases hr : zt3 n (l.drop k) [] with
   | none => rw [hr] at h; cases h
   | some p =>
     obtain ⟨ws, r⟩ := p
     rw [hr] at h
     cases r with
     | cons x r => cases h
     | nil =>
       obtain rfl := Option.some.inj h
       obtain ⟨ws', f1, f2, f3, f4, f5, _⟩ := zuG n _ [] ws [] (hb.drop k) hr
       simp only [List.nil_append, List.append_nil] at f1 f3
       subst f1
       refine ⟨?_, f4, by simp at f5; omega⟩
       unfold zDO
       rw [f2, ← f3]
       simp only [Nat.sub_zero] at q5
       rw [← q5, List.take_append_drop]
-- few, zk8
theorem zGn {α : Type} (s : Sl α) {m : Nat} (h2 : m ≤ s.l.length) : ∃ f, zuC s none (some (m : Int)) = some ⟨f, s.l.take m⟩ := by
 unfold zuC
 simp only [Option.getD_some, Option.getD_none]
 rw [if_pos ⟨by omega, by omega, by omega, by omega⟩]
 refine ⟨ziI s.fl ((m : Int).toNat == s.l.length), ?_⟩
 congr 2
 unfold cut
 simp only [Int.toNat_natCast, Int.toNat_zero, Nat.sub_zero]
 split
 · rename_i h; rw [h.2, List.take_length]
 · rfl
theorem zBf {l : List Int} (hb : zhA l) : zJo l = (zhF.zero, 0, 12) ∨ ∃ vs x n, zJo l = (⟨Sl.out vs, x⟩, ((n : Nat) : Int), 0) ∧ n ≤ l.length ∧ l.take n = zzq (b2s (zDO vs)) ++ zzq (znm x) ∧ (∀ v ∈ vs, zbb v = true ∧ zpX v) ∧ znh vs ≤ 2 * l.length ∧ zdD x = true ∧ zcl x.l ∧ zal x.l ≤ 5 * l.length := by
 unfold zJo
 cases hs : zyh l with
 | none => exact .inl rfl
 | some p =>
   obtain ⟨s, n⟩ := p
   obtain ⟨p1, p2, p3, p4, p5⟩ := zke hb hs
   simp only
   cases hd : zty (s2b s) with
   | none => exact .inl rfl
   | some vs =>
     obtain ⟨d1, d2, d3⟩ := zyY (zwM s) hd
     rw [zvq] at d3
     simp only
     cases ht : zyh (l.drop n) with
     | none => exact .inl rfl
     | some p =>
       obtain ⟨t, m⟩ := p
       obtain ⟨r1, r2, r3, r4, r5⟩ := zke (hb.drop n) ht
       simp only [List.length_drop] at r3 r4
       simp only
       by_cases hc : (zfV t).2 = 0
       · rw [if_pos hc]
         obtain ⟨x, hx⟩ : ∃ x, zfV t = (x, 0) := ⟨(zfV t).1, by rw [← hc]⟩
         obtain ⟨hv, htx⟩ := zEH hx
         obtain ⟨hw, hsz⟩ := zEI hx
         rw [hx]
         have e1 : zzq (b2s (zDO vs)) = zzq s := by rw [← d1, zHh]
         have e2 : znm x = t := by unfold znm; rw [if_pos hv, htx]
         exact .inr ⟨vs, x, n + m, rfl, by omega, by rw [e1, e2, List.take_add, p1, r1], d2, by omega, hv, hw, by omega⟩
       · rw [if_neg hc]; exact .inl rfl
theorem zmd {kk : Nat} (a : Sl Int) (h : okD a) (hk : kk = big := by rfl) : ze8 kk a = some (zye a) := by
 subst hk
 obtain ⟨h1, hb⟩ := h
 have hb : zhA a.l := hb
 have hbig : big = 1152921504606846976 := rfl
 have hlim : lim = 4294967281 := rfl
 unfold ze8 zye zDA
 rw [Bool.not_true, zaV, zey]
 split
 · rfl
 rw [zrL a hb (by omega), zad]
 rcases zBf hb with hd | ⟨vs, x, n, hd, h2, h3, d2, d3, hv, hw, hsz⟩
 · rw [hd]; rfl
 · rw [hd]
   simp only
   rw [show ((0 : Int) != 0) = false from rfl, zaV]
   have hsm : zzr ⟨Sl.out vs, x⟩ := ⟨by simp only [Sl.out_l]; omega, by simp only; omega, hw, fun v hv' => (d2 v (by simpa using hv')).2⟩
   rw [zrK _ hsm, zad]
   have hok : zr0 ⟨Sl.out vs, x⟩ = true := by
    unfold zr0
    simp only [Sl.out_l, hv, Bool.and_true, List.all_eq_true]
    exact fun v hv' => (d2 v hv').1
   unfold zQv
   rw [hok]
   simp only [if_true, Sl.out_l, Sl.of_l]
   rw [show ((((0 : Int) == 0) && decide ((0 : Int) ≤ ((n : Nat) : Int))) && decide (((n : Nat) : Int) ≤ (a.l.length : Int))) = true by
    rw [decide_eq_true (by omega), decide_eq_true (by omega)]; rfl, zaI]
   obtain ⟨f, hf⟩ := zGn a h2
   rw [hf, zad]
   simp only
   rw [h3, beq_self_eq_true]
end Go.Ev
