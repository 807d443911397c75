/- AnnotationText: for every annotation and string that hold together at most 1048576 values and letters, the law returns true. Condition: that bound (the Upto form). -/
import Derived.Laws.RangeAny
import Derived.Test.YtppkbmfdaojgdaaGreatDoorT8
set_option linter.all false
namespace Go.Ev
theorem zn5 {s : Str} {i : Nat} (h : i ≤ s.length) : zzO s (some (i : Int)) none = some (s.drop i) := by
 unfold zzO
 simp only [Option.getD_some, Option.getD_none]
 rw [if_pos ⟨by omega, by omega, by omega, by omega⟩]
 unfold cut
 simp only [Int.toNat_natCast]
 split
 · rename_i h2; obtain ⟨h3, h4⟩ := h2; subst h3; rfl
 · rw [List.take_of_length_le (by simp)]
theorem zxo {s : Str} {i : Nat} (h : i ≤ s.length) : zzO s none (some (i : Int)) = some (s.take i) := by
 unfold zzO
 simp only [Option.getD_some, Option.getD_none]
 rw [if_pos ⟨by omega, by omega, by omega, by omega⟩]
 unfold cut
 simp only [Int.toNat_natCast, Int.toNat_zero]
 split
 · rename_i h2; rw [List.take_of_length_le (by omega)]
 · rfl
theorem zEI (a b : Str) : (b.isPrefixOf a) = (decide (b.length ≤ a.length) && (a.take b.length == b)) := by
 rw [Bool.eq_iff_iff, List.isPrefixOf_iff_prefix, Bool.and_eq_true, decide_eq_true_eq, beq_iff_eq]
 constructor
 · rintro ⟨t, rfl⟩; simp
 · rintro ⟨_, h⟩; exact ⟨a.drop b.length, by conv => lhs; lhs; rw [← h]
                                             exact List.take_append_drop _ _⟩
theorem zlJ (kk : Nat) (a b : Str) : zeg kk a b = some (zj7 a b) := by
 unfold zeg zj7
 rw [zjl, zEI]
 by_cases h : b.length ≤ a.length
 · rw [if_pos (by omega), zxo h, zaf, decide_eq_true h]; rfl
 · rw [if_neg (by omega), decide_eq_false h]; rfl
theorem zqt (kk : Nat) (a b : Str) : zi2 kk a b = some (zj7 a b) := rfl
theorem zMK {a b : Str} (h : b.isPrefixOf a = true) : b.length ≤ a.length := (List.isPrefixOf_iff_prefix.mp h).length_le
theorem zlK (kk : Nat) (a b : Str) : zeh kk a b = some (zgV a b) := by
 unfold zeh zgV zj7 zaP
 rw [zdv, zdK]
 split
 · rename_i h; rw [zn5 (zMK h)]; rfl
 · rfl
theorem zqu (kk : Nat) (a b : Str) : zi3 kk a b = some (zgV a b) := rfl
theorem zk7 (kk : Nat) (a b : Str) : zdQ kk a b = some (zkc a b) := by
 unfold zdQ zkc zj7 zaP
 rw [zdK]
 split
 · rename_i h; rw [zn5 (zMK h)]; rfl
 · rfl
theorem zpF (kk : Nat) (a b : Str) : ziE kk a b = some (zkc a b) := rfl
theorem zVb {s : Str} {p : Nat} {b : UInt8} (e : s[p]? = some b) : ∃ h : p < (⟨s.toArray⟩ : ByteArray).size, (⟨s.toArray⟩ : ByteArray)[p]'h = b := by
 obtain ⟨h, e⟩ := List.getElem?_eq_some_iff.mp e
 exact ⟨by simpa [ByteArray.size] using h, by rw [← e]; rfl⟩
theorem zKf {s : Str} {p : Nat} {b : UInt8} (e : s[p]? = some b) (h : b.toNat < 128) : Utf8.decode ⟨s.toArray⟩ p = (b.toNat, 1) := by
 obtain ⟨hp, e⟩ := zVb e
 rw [decode_ascii _ _ hp (by rw [e]; exact h), e]
theorem zMT {s : Str} {p : Nat} {b : UInt8} (e : s[p]? = some b) (h : 128 ≤ b.toNat) : 128 ≤ (Utf8.decode ⟨s.toArray⟩ p).1 ∧ 1 ≤ (Utf8.decode ⟨s.toArray⟩ p).2 := by
 obtain ⟨hp, e⟩ := zVb e
 exact decode_high _ _ hp (by rw [e]; exact h)
theorem zMs {s : Str} (h : zH9 s = true) {p : Nat} {b : UInt8} (e : s[p]? = some b) : b.toNat < 128 := by
 have := List.all_eq_true.mp h b (List.mem_of_getElem? e); simpa using this
theorem zua {s : Str} {i : Nat} (h : i < s.length) : ∃ b, s[i]? = some b ∧ s.drop i = b :: s.drop (i + 1) := ⟨s[i], by simp [h], List.drop_eq_getElem_cons h⟩
theorem zH0 {c5 c6 c10 c12 : Str} {c7 c8 : Int} {kk : Nat} (hs : zH9 c12 = true) : ∀ (k i : Nat) (b : Bool) (j : Nat), c12.length - i < k → i ≤ c12.length →
 zc7 c5 c6 c7 c8 c10 c12 kk k b j i = some (.done (b || (c12.drop i).any (fun d => c8 == (d.toNat : Int)), j, c12.length)) := by
 intro k
 induction k with
 | zero => intro i b j h; omega
 | succ k ih =>
   intro i b j h1 h2
   rw [zc7]
   by_cases h : i < c12.length
   · obtain ⟨d, e, e2⟩ := zua h
     rw [show ltn i c12.length = true from decide_eq_true h, zaw, zKf e (zMs hs e), ih (i + 1) _ _ (by omega) (by omega), e2, List.any_cons, Bool.or_assoc]
   · rw [show ltn i c12.length = false from decide_eq_false h, zbD, show i = c12.length by omega]; simp
theorem zMt {set : Str} {b : UInt8} : (set.any fun d => (b.toNat : Int) == (d.toNat : Int)) = set.contains b := by
 rw [List.contains_eq_any_beq]
 congr 1; funext d
 rw [Bool.eq_iff_iff, beq_iff_eq, beq_iff_eq, Int.natCast_inj, UInt8.toNat_inj]
theorem zMv {set : Str} (hs : zH9 set = true) {r : Nat} (h : 128 ≤ r) : (set.any fun d => (r : Int) == (d.toNat : Int)) = false := by
 rw [List.any_eq_false]; intro d hd
 have := List.all_eq_true.mp hs d hd
 simp only [decide_eq_true_eq] at this
 simp; omega
theorem zwa {set : Str} (hs : zH9 set = true) {b : UInt8} (h : 128 ≤ b.toNat) : set.contains b = false := by
 rw [List.contains_eq_any_beq, List.any_eq_false]; intro d hd
 have := List.all_eq_true.mp hs d hd
 simp only [decide_eq_true_eq] at this
 intro e; rw [beq_iff_eq] at e; subst e; omega
theorem zFj {a set : Str} {kk : Nat} (hs : zH9 set = true) (hk : set.length < kk) : ∀ (k i : Nat), a.length - i < k → i ≤ a.length →
 zc8 a set a kk k i = some (if (a.drop i).all (fun b => set.contains b) then .done a.length else .ret ((a.drop i).dropWhile fun b => set.contains b)) := by
 intro k
 induction k with
 | zero => intro i h; omega
 | succ k ih =>
   intro i h1 h2
   rw [zc8]
   by_cases h : i < a.length
   · obtain ⟨d, e, e2⟩ := zua h
     rw [show ltn i a.length = true from decide_eq_true h, zaw, zH0 hs kk 0 _ _ (by omega) (by omega), zbE, List.drop_zero, Bool.false_or, zdv, zdK, e2, List.all_cons, List.dropWhile_cons]
     by_cases hd : d.toNat < 128
     · rw [zKf e hd]; simp only [zMt]
       by_cases hc : set.contains d = true
       · rw [if_pos hc, ih (i + 1) (by omega) (by omega), hc, Bool.true_and, if_pos rfl]
       · rw [if_neg hc, zn5 (by omega), zaf, if_neg hc, Bool.eq_false_iff.mpr hc, Bool.false_and, if_neg (by decide), e2]
     · obtain ⟨h3, h4⟩ := zMT e (by omega)
       have hc := zwa hs (b := d) (by omega)
       simp only [zMv hs h3, Bool.false_eq_true, if_false, hc, Bool.false_and]
       rw [zn5 (by omega), zaf, e2]
   · rw [show ltn i a.length = false from decide_eq_false h, zbD, show i = a.length by omega]; simp
theorem zQc {p : UInt8 → Bool} {a : Str} (h : ∀ x ∈ a, p x = true) : a.dropWhile p = [] := by
 induction a with
 | nil => rfl
 | cons x a ih => rw [List.dropWhile_cons, if_pos (h x (by simp))]; exact ih fun y hy => h y (by simp [hy])
theorem zpM {kk : Nat} (a b : Str) (h : a.length < lim ∧ b.length < lim ∧ zH9 b = true) (hk : lim < kk := by decide) : zgM kk a b = some (zpg a b) := by
 obtain ⟨h1, h2, h3⟩ := h
 unfold zgM zpg
 rw [zFj h3 (by omega) kk 0 (by omega) (by omega), List.drop_zero]
 split
 · rename_i h; rw [zbE]
   rw [zQc (List.all_eq_true.mp h)]
 · rfl
theorem zmu (kk : Nat) (a : zab) (b : Str) : zgT kk a b = some (zaQ a b) := by
 cases a; rfl
theorem zQb (a : Str) (p : UInt8 → Bool) : (a.dropWhile p).length ≤ a.length := (List.dropWhile_suffix p).length_le
theorem zqX : lim = 4294967281 := rfl
theorem zmK (kk : Nat) (a : zab) (b : Str) (h : a.rest.length < lim ∧ b.length < lim ∧ zH9 b = true) : zfl kk a b = some (zl0 a b) := by
 have h2 := zjm b a.rest
 have h3 := zFV b a.rest
 have h4 := h.1
 rw [zqX] at h4
 unfold zfl zl0
 rw [zat h, zaf]
 have e : zpg a.rest b = (ztH b a.rest).2 := rfl
 rw [e, zc3 (by omega) (by omega), show ((a.rest.length : Int) - ((ztH b a.rest).2.length : Int)) = ((ztH b a.rest).1.length : Int) by omega, zxo (by omega), zaf]
 cases a with | mk r =>
 simp only [zab.setRest] at *
 have e4 : r.take (ztH b r).1.length = (ztH b r).1 := by
  conv => lhs; arg 2; rw [← h3]
  rw [List.take_left]
 rw [e4]
theorem zk8 (kk : Nat) (a : zab) (h : a.rest.length < lim) : zdT kk a = some (zk1 a) := by
 have h2 := zjm zcD a.rest
 unfold zdT
 rw [zat ⟨h, by decide, by decide⟩, zaf, zat ⟨show (ztH zcD a.rest).1.length < lim by omega, rfl, rfl⟩]; rfl
theorem zsh (kk : Nat) (a : Int) : zkq kk a = some (zxU a) := rfl
theorem zHB (b : UInt8) : zxU (b.toNat : Int) = zcD.contains b := by
 rw [Bool.eq_iff_iff, zrc]
 unfold zxU zq5
 rw [Bool.and_eq_true, decide_eq_true_eq, decide_eq_true_eq]; omega
theorem zEY {r : Nat} (h : 128 ≤ r) : zxU (r : Int) = false := by unfold zxU; rw [decide_eq_false (show ¬ (r : Int) ≤ 57 by omega), Bool.and_false]
theorem zza {a : Str} {kk : Nat} : ∀ (k i : Nat), a.length - i < k → i ≤ a.length →
 ∃ r, zbh true a kk k i = some r ∧ (match r with | .ret n => 0 ≤ n ∧ (a.drop i).any (fun b => !(zcD.contains b)) = true | .done _ => (a.drop i).any (fun b => !(zcD.contains b)) = false) := by
 intro k
 induction k with
 | zero => intro i h; omega
 | succ k ih =>
   intro i h1 h2
   rw [zbh]
   by_cases h : i < a.length
   · obtain ⟨d, e, e2⟩ := zua h
     rw [show ltn i a.length = true from decide_eq_true h, zaw, ziq, zaf, e2, List.any_cons, zdK]
     simp only [Bool.and_true, Bool.not_true, Bool.and_false, Bool.or_false]
     by_cases hd : d.toNat < 128
     · rw [zKf e hd]; simp only [zHB]
       by_cases hc : zcD.contains d = true
       · rw [hc]; exact ih (i + 1) (by omega) (by omega)
       · rw [Bool.eq_false_iff.mpr hc]; exact ⟨_, rfl, by omega, rfl⟩
     · obtain ⟨h3, h4⟩ := zMT e (by omega)
       rw [zEY h3, zwa (by decide) (b := d) (by omega)]
       exact ⟨_, rfl, by omega, rfl⟩
   · rw [show ltn i a.length = false from decide_eq_false h, zbD, show i = a.length by omega]
     exact ⟨_, rfl, by simp⟩
theorem zx7 {kk : Nat} {a : Str} (h : a.length < kk) : zbB kk a = some (a.any fun b => !(zcD.contains b)) := by
 unfold zbB zb6 zb5
 obtain ⟨r, e, h2⟩ := zza (kk := kk) kk 0 (by omega) (Nat.zero_le a.length)
 rw [e]; rw [List.drop_zero] at h2
 cases r with
 | ret n => simp only [zo2, zaf, h2.2, decide_eq_true h2.1]
 | done n => simp only [zbE, zaf]; rw [h2]; rfl
theorem zuj (b : UInt8) (n : Nat) (h : n < 256) : ((b.toNat : Int) == (n : Int)) = (b == UInt8.ofNat n) := by
 rw [Bool.eq_iff_iff, beq_iff_eq, beq_iff_eq, Int.natCast_inj, ← UInt8.toNat_inj, show (UInt8.ofNat n).toNat = n by simp [UInt8.toNat_ofNat', Nat.mod_eq_of_lt h]]
theorem zuK {kk : Nat} (a : Str) (h : a.length < lim) (hk : lim < kk := by decide) : zjW kk a = some (zhK a) := by
 have ej : zgS a kk = some (decide (a = []) || ((a.head? == some 48) || a.any (fun b => !(zcD.contains b)))) := by
  unfold zgS
  rw [zdv, zcr]
  cases a with
  | nil => rfl
  | cons b s =>
    rw [if_neg (by simp), zx7 (by omega)]
    simp only [List.getElem?_cons_zero, zaf, zdv, List.head?_cons, zdK]
    rw [show ((b.toNat : Int) == 48) = (b == 48) from zuj b 48 (by decide), show (decide (b :: s = [])) = false from rfl, Bool.false_or]
    by_cases hb : b = 48
    · subst hb; rfl
    · rw [show (b == 48) = false by simp [hb], show (some b == some (48 : UInt8)) = false by simp [hb]]; rfl
 unfold zjW zhK
 rw [ej, zaf, zdK]
 by_cases h1 : a = []
 · subst h1; rfl
 · rw [if_neg h1, decide_eq_false h1, Bool.false_or]
   split
   · rfl
   · rw [zat h, zaf, zdv, zdK]
     unfold zi8
     cases Lib.atoiAll a <;> rfl
theorem zdc (p s : Str) : (zaP p s).2.length ≤ s.length := by unfold zaP; split <;> simp
theorem zKo (s : Str) : (zkJ s).1.length ≤ s.length ∧ (zkJ s).2.1.length ≤ s.length := by
 unfold zkJ
 constructor
 · exact (List.takeWhile_prefix _).length_le
 · have := zQb s (fun b => b != 46); simp; omega
theorem zvN {kk : Nat} (a : Str) (h : a.length < lim) (_hk : lim < kk := by decide) : zkz kk a = some (zic a) := by
 have h1 := zdc [116] a
 have h2 := zKo (zaP [116] a).2
 unfold zkz zic zgV
 simp only [zN6]
 rw [zat (by omega), zaf, zat (by omega), zaf, zat (by omega), zaf]
 generalize zhK (zkJ (zaP [116] a).2).1 = x
 generalize zhK (zkJ (zaP [116] a).2).2.1 = y
 rcases x with ⟨x, e⟩; rcases y with ⟨y, f⟩
 simp only
 cases (zaP [116] a).1 <;> cases (zkJ (zaP [116] a).2).2.2
 case true.true =>
  simp only [Bool.not_true, Bool.or_false, zbD, Bool.and_true, if_true, zdK, Bool.or_eq_true, beq_iff_eq, bne_iff_ne]
  by_cases h3 : e = 3 ∨ f = 3
  · rw [if_pos h3, if_pos h3]; rfl
  · rw [if_neg h3, if_neg h3]
    by_cases h4 : e = 0 ∧ f = 0
    · rw [if_neg (show ¬ (e ≠ 0 ∨ f ≠ 0) by omega), if_pos h4]; rfl
    · rw [if_pos (show e ≠ 0 ∨ f ≠ 0 by omega), if_neg h4]; rfl
 all_goals rfl
theorem zCD {s o n : Str} (h : s.length < lim) (h1 : 1 ≤ o.length) (h2 : n.length ≤ 2) : zv4 s o n := by
 refine ⟨h, h1, ?_⟩
 have := Lib.count_le s o
 have h4 : Lib.count s o * n.length ≤ (s.length + 1) * 2 := Nat.mul_le_mul this h2
 unfold zdd; rw [zqX] at h; omega
theorem zLm {b : UInt8} {t : Str} (h : t ≠ []) : zzO (b :: t) (some 1) (some (((b :: t).length : Int) - 1)) = some t.dropLast := by
 have h1 := List.length_pos_iff.mpr h
 unfold zzO
 simp only [Option.getD_some, List.length_cons]
 rw [if_pos ⟨by omega, by omega, by omega, by omega⟩]
 unfold cut
 rw [if_neg (by simp)]
 simp only [show ((1 : Int)).toNat = 1 from rfl, List.drop_succ_cons, List.drop_zero, List.dropLast_eq_take]
 rw [show (((t.length + 1 : Nat) : Int) - 1).toNat - 1 = t.length - 1 by omega]
theorem zEA : ∀ (n : Nat) (s : Str), s.length ≤ n → (zlX s [39, 39] []).length ≤ s.length := by
 intro n
 induction n with
 | zero => intro s h; rw [List.length_eq_zero_iff.mp (Nat.le_zero.mp h), zrO (by decide) (by decide)]; exact Nat.le_refl _
 | succ n ih =>
   intro s h
   cases s with
   | nil => rw [zrO (by decide) (by decide)]; exact Nat.le_refl _
   | cons b s =>
     simp only [List.length_cons] at h
     cases hp : List.isPrefixOf ([39, 39] : Str) (b :: s) with
     | true =>
       rw [zAM (by decide) (by decide) hp, List.nil_append]
       have := ih ((b :: s).drop ([39, 39] : Str).length) (by simp; omega)
       refine Nat.le_trans this ?_
       simp; omega
     | false =>
       rw [ztI (by decide) (by decide) hp]
       have := ih s (by omega)
       simp only [List.length_cons]; omega
theorem zuI (kk : Nat) (a : Str) (h : a.length < lim) : zjU kk a = some (zmT a) := by
 have hl := zqX
 have ej : zgR a kk = some (!(decide (2 ≤ a.length) && (a.head? == some 39) && (a.getLast? == some 39))) := by
  unfold zgR
  rw [zdv, zjl]
  cases a with
  | nil => rfl
  | cons b t =>
    simp only [List.length_cons, List.getElem?_cons_zero, zaf, zdv, zdK, List.head?_cons]
    by_cases ht : t = []
    · subst ht; rfl
    · have h1 := List.length_pos_iff.mpr ht
      simp only [List.length_cons] at h
      rw [if_neg (by omega), decide_eq_true (show 2 ≤ t.length + 1 by omega), Bool.true_and, zc3 (by omega) (by omega), show (((t.length + 1 : Nat) : Int) - 1) = ((t.length : Nat) : Int) by omega, zbO]
      obtain ⟨c, ec⟩ : ∃ c, (b :: t).getLast? = some c := ⟨_, List.getLast?_eq_some_getLast (by simp)⟩
      have ec2 : (b :: t)[t.length]? = some c := by rw [← ec, List.getLast?_eq_getElem?]; simp
      rw [ec, ec2, zaf]
      have e1 : ((b.toNat : Int) != 39) = !(some b == some (39 : UInt8)) := congrArg (!·) (zuj b 39 (by decide))
      have e2 : ((c.toNat : Int) != 39) = !(some c == some (39 : UInt8)) := congrArg (!·) (zuj c 39 (by decide))
      rw [e1, e2]
      cases (some b == some (39 : UInt8)) <;> rfl
 unfold zjU zmT
 rw [ej, zaf, zdv, zdK]
 cases a with
 | nil => rfl
 | cons b t =>
   by_cases hc : 2 ≤ (b :: t).length ∧ b = 39 ∧ (b :: t).getLast? = some 39
   · obtain ⟨h1, h2, h3⟩ := hc
     subst h2
     have ht : t ≠ [] := by intro e; subst e; simp at h1
     have h3' : t.getLast? = some 39 := by rw [List.getLast?_cons_of_ne_nil ht] at h3; exact h3
     have hd : t.dropLast.length < lim := by simp only [List.length_dropLast, List.length_cons] at *; omega
     have hrl : (zlX t.dropLast [39, 39] []).length < lim := by
      refine Nat.lt_of_le_of_lt ?_ hd
      exact zEA _ _ (Nat.le_refl _)
     rw [h3, decide_eq_true h1]
     simp only [List.head?_cons, beq_self_eq_true, Bool.and_self, if_true]
     rw [zc3 (by simp only [List.length_cons] at *; omega) (by simp only [List.length_cons] at *; omega), zLm ht, zaf, zat (zCD hd (by decide) (by decide)), zaf, zat (zCD hd (by decide) (by decide)), zaf, zat hrl, zaf, zG3, zLZ]
     unfold zia
     simp only [Bool.not_not]
     by_cases he : zvo t.dropLast = true
     · rw [if_pos ⟨trivial, ht, h3', he⟩, he]; rfl
     · rw [if_neg (by simp [he]), if_pos ⟨h1, trivial, trivial⟩, Bool.eq_false_iff.mpr he]; rfl
   · have hc2 : (decide (2 ≤ (b :: t).length) && ((b :: t).head? == some 39) && ((b :: t).getLast? == some 39)) = false := by
      rw [Bool.eq_false_iff]; intro e
      simp only [Bool.and_eq_true, decide_eq_true_eq, beq_iff_eq, List.head?_cons, Option.some.injEq] at e
      exact hc ⟨e.1.1, e.1.2, e.2⟩
     rw [hc2, if_neg (by decide)]
     have e1 : zia (b :: t) = none := by
      unfold zia
      simp only
      rw [if_neg]
      rintro ⟨h1, h2, h3, _⟩
      have := List.length_pos_iff.mpr h2
      exact hc ⟨by simp; omega, h1, by rw [List.getLast?_cons_of_ne_nil h2]; exact h3⟩
     rw [e1]
     simp only [Option.getD_none, Option.isSome_none]
     rw [if_neg]
     rintro ⟨h1, h2, h3⟩
     exact hc ⟨h1, by simpa using h2, h3⟩
theorem zsg (kk : Nat) (a : Str) (h : a.length < lim) : zip kk a = some (zwe a) := by
 have h1 := zdc [45] a
 unfold zip zwe zkc
 rw [zdv, zcr]
 generalize he : (zaP [45] a).2 = r at *
 cases r with
 | nil => rfl
 | cons b r =>
   rw [if_neg (by simp)]
   have e1 : ((b.toNat : Int) == 48) = (some b == some (48 : UInt8)) := zuj b 48 (by decide)
   simp only [List.getElem?_cons_zero, zaf, List.head?_cons, List.isEmpty_cons, Bool.not_false, Bool.true_and]
   rw [e1, zdK, zat ⟨by simp, by omega, by decide, by decide, by decide⟩, zaf]
   have e3 : (a != [48]) = !(a == [48]) := rfl
   rw [e3]
   rw [show (trimS (b :: r) [48, 49, 50, 51, 52, 53, 54, 55, 56, 57] == []) = (b :: r).all fun b => zcD.contains b from zEp]
   cases (some b == some (48 : UInt8)) && !(a == [48]) <;> simp
theorem zwJ (kk : Nat) (a : Str) (h : a.length < lim) : zlD kk a = some (ze8 a) := by
 unfold zlD ze8
 have e1 : ([70, 65, 76, 83, 69] : Str) = zzR := rfl
 have e2 : ([84, 82, 85, 69] : Str) = zGZ := rfl
 rw [e1, e2, zcr, zcr, zat h, zat (show zu9 a (10 : Int) (64 : Int) from ⟨h, rfl, rfl⟩)]
 simp only [zaf]
 split
 · rfl
 · split
   · rfl
   · unfold zmT
     cases hu : zia a with
     | some t =>
       simp only [Option.getD_some, Option.isSome_some, zaw, zjl]
       by_cases ht : 255 < t.length
       · rw [if_pos (by omega), if_pos ht]; rfl
       · rw [if_neg (by omega), if_neg ht]; rfl
     | none =>
       simp only [Option.isSome_none, zbD, zdv, zdK]
       cases zwe a
       · rfl
       · cases hp : (zi8 a).2 <;> simp only [znu, hp] <;> rfl
theorem zHE (s : Str) (b : UInt8) : zj7 s [b] = (s.head? == some b) := by
 unfold zj7
 cases s with
 | nil => rfl
 | cons c s => rw [Bool.eq_iff_iff]; simp [List.isPrefixOf]; exact eq_comm
theorem zC7 {p : zab} {v : Val} {kk : Nat} (hl : p.rest.length < lim) : ∀ (k i : Nat), p.rest.length - i < k → i ≤ p.rest.length →
 ∃ e : Nat, zbJ p v kk k (i : Int) = some (.done (e : Int)) ∧ (match zzW (p.rest.drop i) with | none => p.rest.length ≤ e | some n => e = i + n ∧ e < p.rest.length) := by
 intro k
 have hb1 : big = 1152921504606846976 := rfl
 rw [zqX] at hl
 induction k with
 | zero => intro i h; omega
 | succ k ih =>
   intro i h1 h2
   rw [zbJ, zdg, zjl]
   by_cases h : i < p.rest.length
   · obtain ⟨d, e, e2⟩ := zua h
     have e1 : ((d.toNat : Int) == 39) = (d == 39) := zuj d 39 (by decide)
     have e1' : ((d.toNat : Int) != 39) = !(d == 39) := congrArg (!·) e1
     rw [if_pos (by omega), zbO, e, zaf, zn5 (by omega), zaf, zaf, zdv, zdK, e1', e1, zdK, e2]
     by_cases hd : d = 39
     · subst hd
       simp only [beq_self_eq_true, Bool.not_true, Bool.false_eq_true, if_false, if_true, zaf, zdK]
       cases hs : p.rest.drop (i + 1) with
       | nil => exact ⟨i, rfl, by rw [zzW, if_pos rfl]; exact ⟨rfl, h⟩⟩
       | cons c s =>
         have h3 : i + 1 < p.rest.length := by
          have := congrArg List.length hs; simp at this; omega
         obtain ⟨c', e4, e5⟩ := zua h3
         rw [e5] at hs
         obtain ⟨hcc, hs2⟩ := List.cons.inj hs
         subst hcc
         clear hs
         rw [zaL (by omega), zaL (by omega)]
         by_cases hc : c' = 39
         · subst hc
           rw [show zj7 (39 :: 39 :: s) [39, 39] = true by unfold zj7; simp [List.isPrefixOf], if_pos rfl]
           obtain ⟨e6, e7, e8⟩ := ih (i + 1 + 1) (by omega) (by omega)
           refine ⟨e6, e7, ?_⟩
           rw [zzW, if_pos rfl, if_pos rfl]
           rw [hs2] at e8
           cases hq : zzW s with
           | none => rw [hq] at e8; exact e8
           | some n => rw [hq] at e8; exact ⟨by simp only at e8 ⊢; omega, e8.2⟩
         · rw [show zj7 (39 :: c' :: s) [39, 39] = false by unfold zj7; simp [List.isPrefixOf]; exact fun e => hc e.symm, if_neg (by decide)]
           exact ⟨i, rfl, by rw [zzW, if_pos rfl, if_neg hc]; exact ⟨rfl, h⟩⟩
     · rw [show (d == 39) = false by simp [hd]]
       simp only [Bool.not_false, Bool.false_eq_true, if_false, if_true, zaf, zdK]
       rw [zaL (by omega)]
       obtain ⟨e6, e7, e8⟩ := ih (i + 1) (by omega) (by omega)
       refine ⟨e6, e7, ?_⟩
       cases hs : p.rest.drop (i + 1) with
       | nil =>
         rw [zzW, if_neg hd]
         rw [hs] at e8; exact e8
       | cons c s =>
         rw [zzW, if_neg hd]
         rw [hs] at e8
         cases hq : zzW (c :: s) with
         | none => rw [hq] at e8; exact e8
         | some n => rw [hq] at e8; exact ⟨by simp only at e8 ⊢; omega, e8.2⟩
   · rw [if_neg (by omega), zaf, zbD, show i = p.rest.length by omega]
     exact ⟨_, rfl, by simp [zzW]⟩
theorem zkS {kk : Nat} (a : zab) (h : a.rest.length < lim) (hk : lim < kk := by decide) : zdG kk a = some (zkF a) := by
 have hl := zqX
 unfold zdG zkF ze9
 rw [zHE, zcr]
 by_cases hq : a.rest.head? = some 39
 · rw [if_pos hq, if_pos hq]
   obtain ⟨b, s, hs⟩ : ∃ b s, a.rest = b :: s := by
    cases hs : a.rest with
    | nil => rw [hs] at hq; cases hq
    | cons b s => exact ⟨b, s, rfl⟩
   have h0 : 1 ≤ a.rest.length := by rw [hs]; simp
   obtain ⟨e, e1, e2⟩ := zC7 (v := Val.zero) (kk := kk) h kk 1 (by omega) h0
   rw [show (1 : Int) = ((1 : Nat) : Int) from rfl, e1, zbE, zjl]
   cases hn : zzW (a.rest.drop 1) with
   | none => rw [hn] at e2; rw [if_pos (by simp only at e2; omega)]; cases a; rfl
   | some n =>
     rw [hn] at e2
     obtain ⟨e2, e3⟩ := e2
     rw [if_neg (by omega), show (((1 : Nat) : Int)) = 1 from rfl, zaL (by unfold big; omega), zxo (by omega), zaf, zn5 (by omega), zaf, zat (by simp; omega), zaf, show e + 1 = n + 2 by omega]
     cases a; rfl
 · rw [if_neg hq, if_neg hq, zat ⟨h, by decide, by decide⟩, zaf]
   have h2 := zjm zG0 a.rest
   have e : zl0 a [45, 48, 49, 50, 51, 52, 53, 54, 55, 56, 57, 84, 82, 85, 69, 70, 65, 76, 83, 69] = zl0 a zG0 := rfl
   rw [e, zat (show (zl0 a zG0).1.length < lim from (show (ztH zG0 a.rest).1.length < lim by omega)), zaf]; rfl
end Go.Ev
namespace Go.Ev
theorem zGf (z : UInt8) (c : Sl Str) {kk : Nat} (L : Nat → Int → zab → Option (Out (Int × zab) (Int × zab)))
 (h0 : ∀ k (i : Nat) p, ¬ i < c.l.length → L (k + 1) (i : Int) p = some (.done ((i : Int), p)))
 (h1 : ∀ k (i : Nat) p w, i < c.l.length → c.l[i]? = some w → L (k + 1) (i : Int) p = if (zaP (w ++ [z]) p.rest).1 = true then some (.ret ((i : Int), ⟨(zaP (w ++ [z]) p.rest).2⟩)) else L k ((i + 1 : Nat) : Int) ⟨(zaP (w ++ [z]) p.rest).2⟩) :
 ∀ (k i : Nat) (p : zab), c.l.length - i < k → i ≤ c.l.length →
   zhy (L k (i : Int) p) (fun r => some r) (fun q => some ((-1), q.2)) = some ((zch z (c.l.drop i) (i : Int) p.rest).1, ⟨(zch z (c.l.drop i) (i : Int) p.rest).2⟩) := by
 intro k
 induction k with
 | zero => intro i p h; omega
 | succ k ih =>
   intro i p hk hi
   by_cases h : i < c.l.length
   · have e : c.l[i]? = some c.l[i] := List.getElem?_eq_getElem h
     rw [h1 k i p _ h e, List.drop_eq_getElem_cons h, zch]
     by_cases ht : (zaP (c.l[i] ++ [z]) p.rest).1 = true
     · rw [if_pos ht, if_pos ht]; rfl
     · rw [if_neg ht, if_neg ht, ih (i + 1) _ (by omega) (by omega)]
       have e2 : (zaP (c.l[i] ++ [z]) p.rest).2 = p.rest := by
        unfold zaP at ht ⊢; split
        · rename_i h3; rw [if_pos h3] at ht; exact absurd rfl ht
        · rfl
       rw [e2]; rfl
   · rw [h0 k i p h, List.drop_eq_nil_of_le (by omega)]; rfl
theorem zeC {kk : Nat} (a : Sl Str) (u1 : zab) (h : zv3 a) (hk : lim < kk := by decide) : zbm kk a u1 = some (zE0 a u1) := by
 have hl := zqX
 obtain ⟨h1, h2⟩ := h
 unfold zbm zE0
 refine (zGf 123 a (kk := kk) _ (fun k i p hi => ?_) (fun k i p w hi e => ?_) kk 0 u1 (by omega) (by omega))
 · rw [zaF, zjl, if_neg (by omega)]
 · have hw := h2 w (List.mem_of_getElem? e)
   rw [zaF, zjl, if_pos (by omega), zbO, e, zaf, zdS, zat (by unfold zdd; simp; omega), zaf, zaf, zdK, zaL (by unfold big; omega)]; rfl
theorem zeB {kk : Nat} (a : Sl Str) (u1 : zab) (h : zv3 a) (hk : lim < kk := by decide) : zbl kk a u1 = some (zvi a u1) := by
 have hl := zqX
 obtain ⟨h1, h2⟩ := h
 unfold zbl zvi
 refine (zGf 32 a (kk := kk) _ (fun k i p hi => ?_) (fun k i p w hi e => ?_) kk 0 u1 (by omega) (by omega))
 · rw [zaE, zjl, if_neg (by omega)]
 · have hw := h2 w (List.mem_of_getElem? e)
   rw [zaE, zjl, if_pos (by omega), zbO, e, zaf, zdR, zat (by unfold zdd; simp; omega), zaf, zaf, zdK, zaL (by unfold big; omega)]; rfl
end Go.Ev
namespace Go.Ev
def leA (ann : znd) : Prop := ∀ s, (ann s).2.2.length ≤ s.length
theorem zvd (s : Str) : (ze9 s).2.2.length ≤ s.length := by
 unfold ze9
 split
 · split
   · exact Nat.le_refl _
   · simp
 · have := zjm zG0 s; simp only; omega
theorem ztQ (s : Str) : (zg5 s).2.2.length ≤ s.length := by have := zjm zcD s; unfold zg5; simp only; omega
theorem zGg (z : UInt8) : ∀ (l : List Str) (i : Int) (s : Str), (zch z l i s).2.length ≤ s.length := by
 intro l
 induction l with
 | nil => intro i s; exact Nat.le_refl _
 | cons w l ih =>
   intro i s; rw [zch]; split
   · exact zdc _ _
   · exact ih _ _
theorem zJP (s : Str) : (zhO s).2.length ≤ s.length := by
 unfold zhO
 split
 · exact zdc _ _
 · split
   · exact zdc _ _
   · split
     · exact zdc _ _
     · split
       · exact zdc _ _
       · exact Nat.le_refl _
theorem zGc {ann : znd} (h : leA ann) : ∀ (k : Nat) (acc : List zad) (s : Str), (zjq ann k acc s).2.2.length ≤ s.length := by
 intro k
 induction k with
 | zero => intro acc s; exact Nat.le_refl _
 | succ k ih =>
   intro acc s
   rw [zjq]
   have h1 := zvd s
   generalize ze9 s = gx at *
   rcases gx with ⟨v, ok, s1⟩
   simp only at h1 ⊢
   cases ok
   · exact h1
   · have h2 := zdc zp3 s1
     generalize zaP zp3 s1 = gx at *
     rcases gx with ⟨c, s2⟩
     simp only [if_true] at h2 ⊢
     cases c
     · simp only [Bool.false_eq_true, if_false]; omega
     · have h3 := h s2
       generalize ann s2 = gx at *
       rcases gx with ⟨a, is, s3⟩
       simp only [if_true] at h3 ⊢
       cases is
       · simp only [Bool.false_eq_true, if_false]; omega
       · have h4 := zdc zkZ s3
         generalize zaP zkZ s3 = gx at *
         rcases gx with ⟨c, s4⟩
         simp only [if_true] at h4 ⊢
         cases c
         · simp only [Bool.false_eq_true, if_false]; omega
         · have := ih (acc ++ [.mk v a]) s4
           simp only [if_true]; omega
theorem zNe {ann : znd} (h : leA ann) (s : Str) : (zr5 ann s).2.2.length ≤ s.length := by
 unfold zr5
 have h1 := zGg 123 zc9 0 s
 generalize zch 123 zc9 0 s = gx at *
 rcases gx with ⟨fn, s1⟩
 simp only at h1 ⊢
 split
 · exact h1
 · have h2 := zGc h (s1.length + 1) [] s1
   generalize zjq ann (s1.length + 1) [] s1 = gx at *
   rcases gx with ⟨its, ok, s2⟩
   simp only at h2 ⊢
   cases ok
   · simp only [Bool.false_eq_true, if_false]; omega
   · have h3 := zdc zkE s2
     generalize zaP zkE s2 = gx at *
     rcases gx with ⟨c, s3⟩
     simp only [if_true] at h3 ⊢
     cases c
     · simp only [Bool.false_eq_true, if_false]; omega
     · have h4 := zGg 32 zc1 0 s3
       generalize zch 32 zc1 0 s3 = gx at *
       rcases gx with ⟨i, s4⟩
       have h5 := zvd s4
       generalize ze9 s4 = gx at *
       rcases gx with ⟨v, ok, s5⟩
       simp only [if_true] at h4 h5 ⊢; omega
theorem zKC {ann : znd} (h : leA ann) (s : Str) : (zqg ann s).2.2.length ≤ s.length := by
 unfold zqg
 have h0 := zJP s
 generalize zhO s = gx at *
 rcases gx with ⟨k, s0⟩
 simp only at h0 ⊢
 split
 · have := zjm zFU s0; simp only; omega
 · split
   · have h1 := zNe h s0
     generalize zr5 ann s0 = gx at *
     rcases gx with ⟨x, ok, s1⟩
     have h2 := zdc [93] s1
     simp only at h1 ⊢
     cases ok
     · simp only [Bool.false_eq_true, if_false]; omega
     · simp only [if_true]; omega
   · have h1 := h s0
     generalize ann s0 = gx at *
     rcases gx with ⟨a, ok, s1⟩
     simp only at h1 ⊢
     have h2 := zdc [93] s1
     cases ok
     · simp only [Bool.false_eq_true, if_false]; omega
     · simp only [if_true]
       split
       · have h3 := zdc zp2 s1
         generalize zaP zp2 s1 = gx at *
         rcases gx with ⟨c, s2⟩
         simp only at h3 ⊢
         cases c
         · simp only [Bool.false_eq_true, if_false]; omega
         · have h4 := h s2
           generalize ann s2 = gx at *
           rcases gx with ⟨b, ok2, s3⟩
           have h5 := zdc [93] s3
           simp only [if_true] at h4 ⊢
           cases ok2
           · simp only [Bool.false_eq_true, if_false]; omega
           · simp only [if_true]; omega
       · simp only; omega
theorem zJ0 {ann : znd} (h : leA ann) (s : Str) : (znw ann s).2.2.length ≤ s.length := by
 unfold znw
 have h1 := zKC h s
 generalize zqg ann s = gx at *
 rcases gx with ⟨x, ok, s1⟩
 simp only at h1 ⊢
 cases ok
 · exact h1
 · have h2 := zdc [94] s1
   generalize zaP [94] s1 = gx at *
   rcases gx with ⟨c, s2⟩
   simp only [if_true] at h2 ⊢
   cases c
   · simp only [Bool.false_eq_true, if_false]; omega
   · have := ztQ s2; simp only [if_true]; omega
theorem zz9 {ann : znd} (h : leA ann) : ∀ (k : Nat) (acc : List zai) (s : Str), (zhx ann k acc s).2.2.length ≤ s.length := by
 intro k
 induction k with
 | zero => intro acc s; exact Nat.le_refl _
 | succ k ih =>
   intro acc s
   rw [zhx]
   have h1 := zJ0 h s
   generalize znw ann s = gx at *
   rcases gx with ⟨f, ok, s1⟩
   simp only at h1 ⊢
   cases ok
   · exact h1
   · have h2 := zdc [42] s1
     generalize zaP [42] s1 = gx at *
     rcases gx with ⟨c, s2⟩
     simp only [if_true] at h2 ⊢
     cases c
     · simp only [Bool.false_eq_true, if_false]; omega
     · have := ih (acc ++ [f]) s2
       simp only [if_true]; omega
theorem zIO {ann : znd} (h : leA ann) (s : Str) : (ztN ann s).2.2.length ≤ s.length := by
 unfold ztN zv7
 split
 · have h1 := ztQ s
   generalize zg5 s = gx at *
   rcases gx with ⟨n, ok, s1⟩
   simp only at h1 ⊢
   cases ok
   · exact h1
   · have h2 := zdc [42] s1
     generalize zaP [42] s1 = gx at *
     rcases gx with ⟨c, s2⟩
     simp only [if_true] at h2 ⊢
     cases c
     · simp only [Bool.false_eq_true, if_false]; omega
     · have := zz9 h (s2.length + 1) [] s2
       simp only [if_true]; exact Nat.le_trans this (by omega)
 · exact zz9 h _ _ _
theorem zLj {ann : znd} (h : leA ann) : ∀ (k : Nat) (acc : List zal) (s : Str), (zlZ ann k acc s).2.2.length ≤ s.length := by
 intro k
 induction k with
 | zero => intro acc s; exact Nat.le_refl _
 | succ k ih =>
   intro acc s
   rw [zlZ]
   have h1 := zIO h s
   generalize ztN ann s = gx at *
   rcases gx with ⟨f, ok, s1⟩
   simp only at h1 ⊢
   cases ok
   · exact h1
   · have h2 := zdc zk0 s1
     generalize zaP zk0 s1 = gx at *
     rcases gx with ⟨c, s2⟩
     simp only [if_true] at h2 ⊢
     cases c
     · simp only [Bool.false_eq_true, if_false]; omega
     · have := ih (acc ++ [f]) s2
       simp only [if_true]; omega
theorem zDR : ∀ d, leA (zlr d) := by
 intro d
 induction d with
 | zero => intro s; exact Nat.le_refl _
 | succ d ih =>
   intro s
   rw [zlr]
   have h1 := zdc [48] s
   generalize zaP [48] s = gx at *
   rcases gx with ⟨c, s1⟩
   simp only at h1 ⊢
   cases c
   · have := zLj ih (s1.length + 1) [] s1
     simp only [Bool.false_eq_true, if_false]; omega
   · exact h1
theorem zAB {b : UInt8} {p s r : Str} (h : zaP (b :: p) s = (true, r)) : r.length < s.length := by
 have := zCr h; simp at this; omega
theorem zJw {α : Type} (l : List α) (x : α) : Sl.of (l ++ [x]) = Sl.out (l ++ [x]) := by cases l <;> rfl
theorem zPM (t : zal) (a b : Sl zai) : (t.setFactors a).setFactors b = t.setFactors b := by cases t; rfl
theorem zCq {c : Int} {c16 : zal} {sz kk : Nat} (hc : 0 ≤ c ∧ c ≤ 8 ∧ 4 * (c + 1).toNat + 1 < sz) : ∀ (k f : Nat) (p : zab) (t : zal) (acc : List zai),
 p.rest.length < k → p.rest.length < f → p.rest.length + acc.length < lim →
 zbY c c16 sz kk k p t acc = some (.ret (t.setFactors (Sl.out (zhx (zlr c.toNat) f acc p.rest).1), (zhx (zlr c.toNat) f acc p.rest).2.1, ⟨(zhx (zlr c.toNat) f acc p.rest).2.2⟩)) := by
 intro k
 have hl := zqX
 induction k with
 | zero => intro f p t acc h; omega
 | succ k ih =>
   intro f p t acc h1 h2 h3
   obtain ⟨f, rfl⟩ : ∃ j, f = j + 1 := ⟨f - 1, by omega⟩
   have hlen := zKC (zDR c.toNat) p.rest
   rw [zbY, zhx, znw, zat ⟨by omega, hc⟩, zaf]
   simp only [zgs]
   generalize zqg (zlr c.toNat) p.rest = gx at *
   rcases gx with ⟨x, ok, s1⟩
   simp only at hlen ⊢
   cases ok
   · rfl
   · simp only [if_true, zaw, zaQ]
     have h4 := zdc [94] s1
     rcases ht : zaP [94] s1 with ⟨b, s2⟩
     rw [ht] at h4
     simp only at h4 ⊢
     have hr : (acc.length + 1) * 128 ≤ zdd := by unfold zdd; omega
     cases b
     · simp only [zbD, Bool.false_eq_true, if_false, if_true, zat hr, zaf, zdv]
       rcases hm : zaP [42] s2 with ⟨d, s3⟩
       cases d
       · simp only [zbD, Bool.false_eq_true, if_false, zPM, zJw]; rfl
       · have h5 := zAB hm
         simp only [zaw, if_true]
         exact ih f ⟨s3⟩ t _ (by simp only; omega) (by simp only; omega) (by simp only [List.length_append, List.length_cons, List.length_nil]; omega)
     · simp only [zaw, if_true, zk1]
       have h6 := ztQ s2
       rw [zat (by omega), zaf]
       generalize zg5 s2 = gx at *
       rcases gx with ⟨n, ok, s3⟩
       simp only at h6 ⊢
       cases ok
       · rfl
       · simp only [Bool.not_true, zbD, zat hr, zaf, zdv]
         rcases hm : zaP [42] s3 with ⟨d, s4⟩
         cases d
         · simp only [zbD, Bool.false_eq_true, if_false, zPM, zJw]; rfl
         · have h5 := zAB hm
           simp only [zaw, if_true]
           exact ih f ⟨s4⟩ t _ (by simp only; omega) (by simp only; omega) (by simp only [List.length_append, List.length_cons, List.length_nil]; omega)
theorem zmt {kk sz : Nat} {a : zab} {b : Int} (h : a.rest.length < lim ∧ 0 ≤ b ∧ b ≤ 8 ∧ 4 * (b + 1).toNat + 2 < sz + 1) (hk : lim < kk := by decide) : zeQ kk sz a b = some (zmZ a b) := by
 obtain ⟨h1, h2⟩ := h
 have hl := zqX
 have e0 : zcY b a zal.zero (zal.zero.setCoeff 1) sz kk = some (zmb a.rest) := by
  unfold zcY
  rw [zdv, zcr]
  cases hs : a.rest with
  | nil => rfl
  | cons c s =>
    rw [if_neg (by simp)]
    simp only [List.getElem?_cons_zero, zaf, zmb]
    congr 2
    · rw [decide_eq_decide]; omega
    · rw [decide_eq_decide]; omega
 unfold zeQ zdO zmZ ztN zv7
 rw [e0, zaf]
 cases hd : zmb a.rest
 · simp only [zbD, zbE, Bool.false_eq_true, if_false]
   rw [zCq (by omega) kk (a.rest.length + 1) a _ [] (by omega) (by omega) (by simp; omega), zo2]; rfl
 · simp only [zaw, if_true, zat h1, zaf, zk1, Bool.not_not]
   have h6 := ztQ a.rest
   generalize zg5 a.rest = gx at *
   rcases gx with ⟨n, ok, s1⟩
   simp only at h6 ⊢
   cases ok
   · rfl
   · simp only [zaw, if_true, zaQ, zdv]
     have h4 := zdc [42] s1
     generalize zaP [42] s1 = gx at *
     rcases gx with ⟨c, s2⟩
     simp only at h4 ⊢
     cases c
     · rfl
     · simp only [zaw, zbE, if_true]
       rw [zCq (by omega) kk (s2.length + 1) ⟨s2⟩ _ [] (by simp only; omega) (by simp only; omega) (by simp; omega), zo2]; rfl
theorem zMw {c : Int} {sz kk : Nat} (hc : 0 ≤ c ∧ c ≤ 8 ∧ 4 * (c + 1).toNat + 2 < sz) : ∀ (k f : Nat) (p : zab) (acc : List zal),
 p.rest.length < k → p.rest.length < f → p.rest.length + acc.length < lim →
 zbL c sz kk k acc p = some (.ret ((zlZ (zlr c.toNat) f acc p.rest).1, (zlZ (zlr c.toNat) f acc p.rest).2.1, ⟨(zlZ (zlr c.toNat) f acc p.rest).2.2⟩)) := by
 intro k
 have hl := zqX
 induction k with
 | zero => intro f p acc h; omega
 | succ k ih =>
   intro f p acc h1 h2 h3
   obtain ⟨f, rfl⟩ : ∃ j, f = j + 1 := ⟨f - 1, by omega⟩
   have hlen := zIO (zDR c.toNat) p.rest
   rw [zbL, zlZ, zat ⟨by omega, hc⟩, zaf]
   simp only [zmZ]
   generalize ztN (zlr c.toNat) p.rest = gx at *
   rcases gx with ⟨x, ok, s1⟩
   simp only at hlen ⊢
   cases ok
   · rfl
   · have hr : (acc.length + 1) * 32 ≤ zdd := by unfold zdd; omega
     simp only [if_true, Bool.not_true, zbD, zaQ, zat hr, zaf, zdv]
     rcases hm : zaP [32, 43, 32] s1 with ⟨d, s4⟩
     rw [show zk0 = [32, 43, 32] from rfl, hm]
     cases d
     · simp only [zbD, Bool.false_eq_true, if_false, zJw]
     · have h5 := zAB hm
       simp only [zaw, if_true]
       exact ih f ⟨s4⟩ _ (by simp only; omega) (by simp only; omega) (by simp only [List.length_append, List.length_cons, List.length_nil]; omega)
theorem zj0 {kk sz : Nat} {a : zab} {b : Int} (h : a.rest.length < lim ∧ -1 ≤ b ∧ b ≤ 8 ∧ 4 * (b + 1).toNat + 3 < sz + 1) (hk : lim < kk := by decide) : zc6 kk sz a b = some (zc0 a b) := by
 obtain ⟨h1, h2⟩ := h
 unfold zc6 zc0
 rw [zjl]
 by_cases hb : b < 0
 · rw [if_pos hb, show (b + 1).toNat = 0 by omega]; rfl
 · rw [if_neg hb, show (b + 1).toNat = b.toNat + 1 by omega]
   simp only [zlr, zaQ]
   have h4 := zdc [48] a.rest
   generalize zaP [48] a.rest = gx at *
   rcases gx with ⟨c, s⟩
   simp only at h4 ⊢
   cases c
   · simp only [zbD, Bool.false_eq_true, if_false]
     rw [zMw (by omega) kk (s.length + 1) ⟨s⟩ [] (by simp only; omega) (by simp only; omega) (by simp; omega), zo2]
   · rfl
theorem zHz {c : Int} {sz kk : Nat} (hc : 0 ≤ c ∧ c ≤ 8 ∧ 4 * (c + 1).toNat < sz + 1) : ∀ (k f : Nat) (p : zab) (t : zan) (acc : List zad),
 0 ≤ t.func → p.rest.length < k → p.rest.length < f → p.rest.length + acc.length < lim →
 zbX c sz kk k p t acc = if (zjq (zlr c.toNat) f acc p.rest).2.1 = true then some (.done (⟨(zjq (zlr c.toNat) f acc p.rest).2.2⟩, t, (zjq (zlr c.toNat) f acc p.rest).1))
  else some (.ret (false, ⟨(zjq (zlr c.toNat) f acc p.rest).2.2⟩, t.setItems (Sl.out (zjq (zlr c.toNat) f acc p.rest).1))) := by
 intro k
 have hl := zqX
 induction k with
 | zero => intro f p t acc h0 h; omega
 | succ k ih =>
   intro f p t acc h0 h1 h2 h3
   obtain ⟨f, rfl⟩ : ∃ j, f = j + 1 := ⟨f - 1, by omega⟩
   have hlen := zvd p.rest
   rw [zbX, zjq, decide_eq_true h0, zaw, zat (by omega), zaf]
   simp only [zkF]
   generalize ze9 p.rest = gx at *
   rcases gx with ⟨v, ok, s1⟩
   simp only at hlen ⊢
   cases ok
   · rfl
   · simp only [if_true, Bool.not_not, Bool.not_true, Bool.not_false, zaw, zaQ]
     have h4 := zdc [58, 32] s1
     rw [show zp3 = [58, 32] from rfl, show zkZ = [59, 32] from rfl]
     generalize zaP [58, 32] s1 = gx at *
     rcases gx with ⟨b, s2⟩
     simp only at h4 ⊢
     cases b
     · rfl
     · have h5 := zDR c.toNat s2
       have hr : (acc.length + 1) * 56 ≤ zdd := by unfold zdd; omega
       have ew : IntKind.wrap .i64 (c - 1) = c - 1 := zc3 (by omega) (by omega)
       simp only [Bool.not_true, zbD, if_true, zc0, ew]
       rw [zat (by omega), zaf, show (c - 1 + 1).toNat = c.toNat by omega]
       generalize zlr c.toNat s2 = gx at *
       rcases gx with ⟨a, is, s3⟩
       simp only at h5 ⊢
       cases is
       · rfl
       · simp only [Bool.not_true, zbD, if_true, zat hr, zaf, zdv]
         rcases hm : zaP [59, 32] s3 with ⟨d, s4⟩
         cases d
         · rfl
         · have h6 := zAB hm
           simp only [zaw, if_true]
           exact ih f ⟨s4⟩ t _ h0 (by simp only; omega) (by simp only; omega) (by simp only [List.length_append, List.length_cons, List.length_nil]; omega)
theorem zJM (z : UInt8) : ∀ (l : List Str) (i : Int) (s : Str), 0 ≤ i → (zch z l i s).1 = -1 ∨ (0 ≤ (zch z l i s).1 ∧ (zch z l i s).1 < i + l.length) := by
 intro l
 induction l with
 | nil => intro i s _; exact .inl rfl
 | cons w l ih =>
   intro i s h; rw [zch]; split
   · right; simp only [List.length_cons]; omega
   · rcases ih (i + 1) s (by omega) with h1 | h1
     · exact .inl h1
     · right; simp only [List.length_cons]; omega
theorem zLq : zv3 zkw := ⟨by decide, by decide⟩
theorem zLp : zv3 zgC := ⟨by decide, by decide⟩
theorem zms {kk sz : Nat} {a : zab} {b : zan} {c : Int} (h : a.rest.length < lim ∧ b = zan.zero.setKind 4 ∧ 0 ≤ c ∧ c ≤ 8 ∧ 4 * (c + 1).toNat < sz + 1) (hk : lim < kk := by decide) : zdt kk sz a b c = some (zdo a b c) := by
 obtain ⟨h1, rfl, h2⟩ := h
 have hl := zqX
 unfold zdt zdo zr5
 rw [zat zLq, zaf]
 have h3 := zGg 123 zc9 0 a.rest
 simp only [zE0, show (zkw).l = zc9 from rfl]
 generalize zch 123 zc9 0 a.rest = gx at *
 rcases gx with ⟨fn, s1⟩
 simp only at h3 ⊢
 by_cases hf : fn < 0
 · obtain ⟨k, rfl⟩ : ∃ j, kk = j + 1 := ⟨kk - 1, by omega⟩
   rw [zbX, if_pos hf]
   have e : ((zan.zero.setKind 4).setFunc fn).func = fn := rfl
   simp only [e, decide_eq_false (show ¬ (0 : Int) ≤ fn by omega), zbD, zbE, decide_eq_true hf, Bool.not_true]
   rfl
 · rw [if_neg hf, zHz h2 kk (s1.length + 1) ⟨s1⟩ _ [] (by show 0 ≤ fn; omega) (by simp only; omega) (by simp only; omega) (by simp; omega)]
   have h5 := zGc (zDR c.toNat) (s1.length + 1) [] s1
   generalize zjq (zlr c.toNat) (s1.length + 1) [] s1 = gx at *
   rcases gx with ⟨its, ok, s2⟩
   simp only at h5 ⊢
   cases ok
   · rfl
   · have e : ((zan.zero.setKind 4).setFunc fn).func = fn := rfl
     simp only [if_true, zbE, e, decide_eq_false hf, Bool.not_false, zaw, zaQ]
     rw [show zkE = [125, 32] from rfl]
     have h6 := zdc [125, 32] s2
     obtain ⟨d, s3, ht⟩ : ∃ d s3, zaP [125, 32] s2 = (d, s3) := ⟨_, _, rfl⟩
     simp only [ht] at h6 ⊢
     cases d
     · rfl
     · simp only [Bool.not_true, zbD, if_true, zvi, show (zgC).l = zc1 from rfl]
       rw [zat zLp, zaf]
       have h7 := zGg 32 zc1 0 s3
       have h8 := zJM 32 zc1 0 s3 (by omega)
       have h9 : (zc1.length : Int) = 6 := rfl
       generalize zch 32 zc1 0 s3 = gx at *
       rcases gx with ⟨i, s4⟩
       simp only at h7 h8 ⊢
       rw [zat (by omega), zaf, zc3 (by omega) (by omega)]
       rfl
theorem zGT (ann : znd) (s : Str) : Sl.out (zr5 ann s).1.items.l = (zr5 ann s).1.items := by
 unfold zr5
 generalize zch 123 zc9 0 s = gx
 rcases gx with ⟨fn, s1⟩
 simp only
 split
 · rfl
 · generalize zjq ann (s1.length + 1) [] s1 = gx
   rcases gx with ⟨its, ok, s2⟩
   simp only
   cases ok
   · simp only [Bool.false_eq_true, if_false, zan.items, Sl.out_l]
   · generalize zaP zkE s2 = gx
     rcases gx with ⟨c, s3⟩
     simp only [if_true]
     cases c
     · simp only [Bool.false_eq_true, if_false, zan.items, Sl.out_l]
     · simp only [if_true, zan.items, Sl.out_l]
theorem zmv {kk sz : Nat} {a : zab} {b : Int} (h : a.rest.length < lim ∧ 0 ≤ b ∧ b ≤ 8 ∧ 4 * (b + 1).toNat + 1 < sz + 1) (hk : lim < kk := by decide) : zeR kk sz a b = some (zgs a b) := by
 obtain ⟨h1, h2⟩ := h
 have hl := zqX
 unfold zeR zdP zq7 zgs zqg
 have h3 := zJP a.rest
 generalize zhO a.rest = gx at *
 rcases gx with ⟨k, s0⟩
 simp only [zaf] at h3 ⊢
 have ek : (if k = 0 then zan.zero.kind else k) = k := by
  by_cases hz : k = 0
  · rw [if_pos hz, hz]; rfl
  · rw [if_neg hz]
 rw [ek]
 by_cases h0 : k = 0
 · subst h0
   have h4 := zjm zFU s0
   simp only [if_true, beq_self_eq_true, zaw]
   rw [zat ⟨by omega, by decide, by decide⟩, zaf, zat (show (zl0 ⟨s0⟩ [116, 46, 48, 49, 50, 51, 52, 53, 54, 55, 56, 57]).1.length < lim from (show (ztH zFU s0).1.length < lim by omega)), zaf]
   rfl
 · rw [if_neg h0, show (k == 0) = false by simpa using h0, zbD]
   by_cases h4 : k = 4
   · subst h4
     simp only [if_true, beq_self_eq_true, zaw]
     rw [zat ⟨by omega, trivial, by omega⟩, zaf]
     simp only [zdo]
     have h5 := zGT (zlr b.toNat) s0
     generalize zr5 (zlr b.toNat) s0 = gx at *
     rcases gx with ⟨x, ok, s1⟩
     simp only at h5 ⊢
     have e : x.setItems (Sl.out x.items.l) = x := by rw [h5]; cases x; rfl
     rw [e]
     cases ok <;> rfl
   · rw [if_neg h4, show (k == 4) = false by simpa using h4, zbD]
     have ew : IntKind.wrap .i64 (b - 1) = b - 1 := zc3 (by omega) (by omega)
     have h5 := zDR b.toNat s0
     simp only [zc0, ew]
     rw [zat (by omega), zaf, show (b - 1 + 1).toNat = b.toNat by omega]
     generalize zlr b.toNat s0 = gx at *
     rcases gx with ⟨x, ok, s1⟩
     simp only at h5 ⊢
     cases ok
     · simp only [Bool.false_and, zbD]; rfl
     · simp only [Bool.true_and, zaQ]
       by_cases h6 : k = 1
       · subst h6
         simp only [beq_self_eq_true, if_true, zaw]
         rw [show zp2 = [44, 32] from rfl]
         have h7 := zdc [44, 32] s1
         generalize zaP [44, 32] s1 = gx at *
         rcases gx with ⟨d, s2⟩
         simp only at h7 ⊢
         cases d
         · rfl
         · simp only [zaw, if_true]
           rw [zat (by omega), zaf]
           generalize zlr b.toNat s2 = gx at *
           rcases gx with ⟨y, ok2, s3⟩
           simp only
           cases ok2 <;> rfl
       · rw [if_neg h6, show (k == 1) = false by simpa using h6, zbD, zaw]; rfl
end Go.Ev
namespace Go.Ev
theorem zqy (kk : Nat) (a : Sl zal) (h : zbv a.l ∧ 20 * zak a.l + 1 < lim) : zhh kk a = some (zl8 a) := by
 obtain ⟨h1, h2⟩ := h
 have hl := zqX
 have hb : big = 1152921504606846976 := rfl
 unfold zhh zl8
 rw [zat (by omega), zaf, zdv, zdK]
 split
 · rename_i hv
   rw [zat ⟨by unfold zbZ at hv; simp only [Bool.and_eq_true] at hv; exact hv.1.2, h1, by omega, by omega⟩, zaf]
 · rfl
theorem zyH (kk : Nat) (a : Sl zal) (h : zbv a.l ∧ 20 * zak a.l + 1 < lim) : znk kk a = some (zl8 a) := by
 obtain ⟨h1, h2⟩ := h
 have hl := zqX
 have hb : big = 1152921504606846976 := rfl
 unfold znk zl8
 rw [zat (by omega), zaf, zdv, zdK]
 split
 · rename_i hv
   rw [zat ⟨by unfold zbZ at hv; simp only [Bool.and_eq_true] at hv; exact hv.1.2, h1, by omega, by omega⟩, zaf]
 · rfl
theorem zrz {kk : Nat} (a : Str) (h : 5 * a.length < lim) : zhD kk a = some (zcu a) := by
 have hl := zqX
 have hb : big = 1152921504606846976 := rfl
 unfold zhD zcu
 have e : zab.zero.setRest a = ⟨a⟩ := rfl
 simp only [e, zc0, show ((8 : Int) + 1).toNat = 9 from rfl]
 rw [zat ⟨by omega, by omega, by omega, by omega⟩, zaf]
 have hin := zM5 9 a
 generalize zlr 9 a = gx at *
 rcases gx with ⟨x, ok, s⟩
 simp only
 cases ok
 · rfl
 · cases s with
   | cons c s => rfl
   | nil =>
     obtain ⟨hw, hs⟩ := hin x [] rfl
     simp only [List.length_nil, Nat.mul_zero, Nat.add_zero] at hs
     simp only [Bool.not_true, Bool.false_or, List.isEmpty_nil, Bool.true_and, show ((([] : Str) == []) = true) from rfl, Bool.not_not, Bool.not_false, zaw]
     rw [zat (by omega), zaf, zdK]
     cases hv : zbZ x
     · simp
     · rw [if_pos rfl, zat ⟨by unfold zbZ at hv; simp only [Bool.and_eq_true] at hv; exact hv.1.2, hw, by omega, by omega⟩, zaf, zdv, zdK, Bool.true_and]
       cases (zcp x == a) <;> rfl
theorem zF5 {s : Str} {a : Sl zal} (h : zcu s = (a, 0)) : zbv a.l ∧ zak a.l ≤ 5 * s.length := by
 unfold zcu at h
 have hin := zM5 9 s
 generalize zlr 9 s = gx at *
 rcases gx with ⟨x, ok, r⟩
 simp only at h
 split at h
 · rename_i hc
   obtain ⟨rfl, _⟩ := Prod.mk.inj h
   simp only [Bool.and_eq_true] at hc
   obtain ⟨⟨⟨hc, _⟩, _⟩, _⟩ := hc
   subst hc
   obtain ⟨h1, h2⟩ := hin _ r rfl
   exact ⟨h1, by omega⟩
 · cases h
theorem znP {kk : Nat} (a : Sl zal) (b : Str) (h : zbv a.l ∧ zIR a ≤ 4194304) : zfR kk a b = some (zIM a b) := by
 obtain ⟨h1, h2⟩ := h
 have hl := zqX
 have hb : big = 1152921504606846976 := rfl
 unfold zIR at h2
 have hsz : zcv (Sl.of [a]).l = zak a.l + 1 := by rcases a with ⟨f, l⟩; rfl
 unfold zfR zIM zKB
 simp only [Bool.not_true, zbD]
 rw [zat ⟨by omega, by omega, by omega⟩, zaf, zdK]
 split
 · rfl
 · rename_i hg
   have hb4 : b.length ≤ 400 := by
    simp only [Bool.or_eq_true, decide_eq_true_eq, not_or] at hg; omega
   rw [zat ⟨h1, by omega⟩, zaf, zaf, beq_self_eq_true, Bool.not_true, zbD, zat (by omega), zaf]
   have hJ : zds a b (zl8 a) (zbZ a) kk = some (.done ()) := by
    unfold zds
    rw [zdK]
    split
    · rename_i hv
      have hlen := zq0 a
      have e : zl8 a = zcp a := by unfold zl8; rw [if_pos hv]
      have hp := zHd hv h1
      have hpi := zF5 hp
      rw [e, zat (by omega), zaf, hp]
      simp only
      rw [show ((0 : Int) != 0) = false from rfl]
      simp only [Bool.not_false, zaw, zbD]
      rw [zat (by omega), zaf]
      have hs : zn7 a (zii a) = true := by unfold zn7; rw [zNk]; rfl
      rw [hs]; rfl
    · rfl
   rw [hJ, zbE, zat (by omega), zaf]
   rcases zHe b with hc | hc
   · obtain ⟨x, hx⟩ : ∃ x, zcu b = (x, 0) := ⟨(zcu b).1, by rw [← hc]⟩
     obtain ⟨hv, ht⟩ := zLO hx
     obtain ⟨hw, hs⟩ := zF5 hx
     rw [hx]
     simp only
     rw [show ((0 : Int) != 0) = false from rfl, zbD, zat (by omega), zaf, hv, zaw, zat ⟨hw, by omega⟩, zaf]
     have e : zl8 x = b := by unfold zl8; rw [if_pos hv, ht]
     rw [e, beq_self_eq_true]
   · rw [hc]; rfl
end Go.Ev
