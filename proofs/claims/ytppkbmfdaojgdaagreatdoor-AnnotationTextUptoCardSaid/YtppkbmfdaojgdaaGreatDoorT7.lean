/- AnnotationText: for every annotation and string that hold together at most 1048576 values and letters, the law returns true. Condition: that bound (the Upto form). -/
import Derived.Lib.AtoiAllCases
import Derived.Test.YtppkbmfdaojgdaaGreatDoorT6
set_option linter.all false
namespace Go.Ev
theorem zeX (p s : Str) : zaP p (p ++ s) = (true, s) := by
 unfold zaP
 rw [if_pos (by simp)]
 simp
theorem zqJ (s : Str) (b : UInt8) : zaP [b] (b :: s) = (true, s) := zeX [b] s
theorem zlo (p s : Str) (b : UInt8) (h : s.head? ≠ some b) : zaP (b :: p) s = (false, s) := by
 unfold zaP
 rw [if_neg]
 cases s with
 | nil => simp
 | cons c s =>
   simp only [List.head?_cons, ne_eq, Option.some.injEq] at h
   simp [List.isPrefixOf]
   intro e; exact absurd e.symm h
theorem zzN {p s r : Str} (h : zaP p s = (true, r)) : s = p ++ r := by
 unfold zaP at h
 split at h
 · rename_i hp
   obtain ⟨t, ht⟩ := List.isPrefixOf_iff_prefix.1 hp
   simp only [Prod.mk.injEq, true_and] at h
   rw [← ht] at h ⊢
   simp at h; rw [h]
 · simp at h
theorem zsQ {p s r : Str} (h : zaP p s = (false, r)) : r = s := by
 unfold zaP at h
 split at h
 · simp at h
 · simp only [Prod.mk.injEq, true_and] at h; exact h.symm
theorem zCr {p s r : Str} {c : Bool} (h : zaP p s = (c, r)) : r.length + (if c then p.length else 0) = s.length := by
 cases c
 · rw [zsQ h]; simp
 · have := zzN h; rw [this]; simp; omega
theorem zAI {set t s : Str} (ht : ∀ b ∈ t, set.contains b = true) (hs : ∀ b, s.head? = some b → set.contains b = false) : ztH set (t ++ s) = (t, s) := by
 unfold ztH
 have e2 : s.takeWhile (fun b => set.contains b) = [] ∧ s.dropWhile (fun b => set.contains b) = s := by
  cases s with
  | nil => simp
  | cons b s =>
    have := hs b rfl
    simp only [List.takeWhile_cons, List.dropWhile_cons, this, Bool.false_eq_true, if_false, and_self]
 induction t with
 | nil => simp only [List.nil_append]; rw [e2.1, e2.2]
 | cons b t ih =>
   have hb := ht b List.mem_cons_self
   have := ih fun c hc => ht c (List.mem_cons_of_mem _ hc)
   simp only [Prod.mk.injEq] at this
   simp only [List.cons_append, List.takeWhile_cons, List.dropWhile_cons, hb, if_true, this.1, this.2]
theorem zFV (set s : Str) : (ztH set s).1 ++ (ztH set s).2 = s := by
 unfold ztH; exact List.takeWhile_append_dropWhile
theorem zjm (set s : Str) : (ztH set s).1.length + (ztH set s).2.length = s.length := by
 have := congrArg List.length (zFV set s)
 rw [List.length_append] at this; exact this
def zq5 (b : UInt8) : Prop := 48 ≤ b.toNat ∧ b.toNat ≤ 57
theorem zrc {b : UInt8} : zcD.contains b = true ↔ zq5 b := by
 unfold zq5 zcD
 simp only [List.contains_cons, List.contains_nil, Bool.or_false, Bool.or_eq_true, beq_iff_eq, ← UInt8.toNat_inj]
 constructor
 · rintro (h | h | h | h | h | h | h | h | h | h) <;> rw [h] <;> decide
 · intro ⟨h1, h2⟩
   have : b.toNat = 48 ∨ b.toNat = 49 ∨ b.toNat = 50 ∨ b.toNat = 51 ∨ b.toNat = 52 ∨ b.toNat = 53 ∨ b.toNat = 54 ∨ b.toNat = 55 ∨ b.toNat = 56 ∨ b.toNat = 57 := by omega
   simpa using this
def zmc (acc : Nat) (s : Str) : Nat := s.foldl (fun a b => a * 10 + (b.toNat - 48)) acc
theorem zpe (a : Nat) (b : UInt8) (s : Str) : zmc a (b :: s) = zmc (a * 10 + (b.toNat - 48)) s := by unfold zmc; rw [List.foldl_cons]
theorem zvs (a : Nat) : zmc a [] = a := by unfold zmc; rw [List.foldl_nil]
theorem zHW (a : Nat) (s t : Str) : zmc a (s ++ t) = zmc (zmc a s) t := by unfold zmc; rw [List.foldl_append]
theorem zKg (a : Nat) (s : Str) : a ≤ zmc a s := by
 induction s generalizing a with
 | nil => exact Nat.le_refl _
 | cons b s ih => rw [zpe]; exact Nat.le_trans (by omega) (ih _)
theorem zv6 {s : Str} (hs : ∀ b ∈ s, zq5 b) : ∀ {acc : Nat}, zmc acc s < 18446744073709551616 → Lib.parseUint10 acc s = .ok (zmc acc s) := by
 induction s with
 | nil => intro acc _; rw [zvs]; rfl
 | cons b s ih =>
   intro acc h
   have hb := hs b List.mem_cons_self
   have hg := zKg (acc * 10 + (b.toNat - 48)) s
   rw [zpe] at h ⊢
   rw [Lib.parseUint10, if_pos (show 48 ≤ b.toNat ∧ b.toNat ≤ 57 from hb), if_neg (by omega), if_neg (by omega)]
   exact ih (fun c hc => hs c (List.mem_cons_of_mem _ hc)) h
theorem zC2 {d : Nat} (h : d < 10) : zq5 (UInt8.ofNat (48 + d)) ∧ (UInt8.ofNat (48 + d)).toNat - 48 = d := by
 have : (UInt8.ofNat (48 + d)).toNat = 48 + d := by simp [UInt8.toNat_ofNat']; omega
 unfold zq5; rw [this]; omega
theorem zHV (c : UInt8) (u : Nat) (h : c.toNat - 48 = u) : zmc 0 [c] = u := by
 rw [zpe, zvs, Nat.zero_mul, Nat.zero_add, h]
theorem zw5 (k u : Nat) (h : u < 10 ^ k) (hk : 0 < k) : (∀ b ∈ zAc k u, zq5 b) ∧ zmc 0 (zAc k u) = u ∧ zAc k u ≠ [] ∧ (0 < u → (zAc k u).head? ≠ some 48) := by
 induction k generalizing u with
 | zero => omega
 | succ k ih =>
   rw [zAc]
   by_cases h1 : u < 10
   · rw [if_pos h1]
     obtain ⟨a, b⟩ := zC2 h1
     have a' : ∀ c ∈ [UInt8.ofNat (48 + u)], zq5 c := by intro c hc; rw [List.mem_singleton] at hc; rw [hc]; exact a
     refine ⟨a', zHV _ _ b, List.cons_ne_nil _ _, fun hu => ?_⟩
     simp only [List.head?_cons, ne_eq, Option.some.injEq]
     intro e
     rw [e] at b
     have : (48 : UInt8).toNat - 48 = u := b
     simp at this; omega
   · rw [if_neg h1]
     have hk' : 0 < k := by
      cases k with
      | zero => simp at h; omega
      | succ k => omega
     obtain ⟨a1, a2, a3, a4⟩ := ih (u / 10) (by rw [Nat.pow_succ] at h; omega) hk'
     obtain ⟨b1, b2⟩ := zC2 (d := u % 10) (by omega)
     refine ⟨fun b hb => ?_, ?_, by simp, fun hu => ?_⟩
     · rcases List.mem_append.1 hb with hb | hb
       · exact a1 b hb
       · simp only [List.mem_singleton] at hb; subst hb; exact b1
     · rw [zHW, a2, zpe, zvs, b2]; omega
     · have := a4 (by omega)
       cases hd : zAc k (u / 10) with
       | nil => exact absurd hd a3
       | cons c l => rw [hd] at this; simpa using this
theorem zkv {n : Int} (h : 0 ≤ n) (h2 : n ≤ 9223372036854775807) : (∀ b ∈ zb7 n, zq5 b) ∧ zmc 0 (zb7 n) = n.toNat ∧ zb7 n ≠ [] ∧ (0 < n → (zb7 n).head? ≠ some 48) := by
 unfold zb7; rw [if_neg (by omega)]
 obtain ⟨a, b, c, d⟩ := zw5 20 n.toNat (by omega) (by omega)
 exact ⟨a, b, c, fun h => d (by omega)⟩
theorem zGH {n : Int} (h : 0 ≤ n) (h2 : n ≤ 9223372036854775807) : Lib.atoiAll (zb7 n) = .ok n := by
 obtain ⟨a, b, c, _⟩ := zkv h h2
 cases hd : zb7 n with
 | nil => exact absurd hd c
 | cons x l =>
   rw [hd] at a b
   have hx := a x List.mem_cons_self
   unfold zq5 at hx
   rw [Lib.atoiAll_plain x l (by omega) (by omega)]
   unfold Lib.parseMag
   rw [if_neg (by simp), zv6 a (by omega), b]
   unfold Lib.signless
   simp only
   rw [if_neg (by omega)]
   congr 1; omega
theorem zMr {n : Int} (h : n < 0) (h2 : -9223372036854775808 ≤ n) : Lib.atoiAll (zb7 n) = .ok n := by
 unfold zb7; rw [if_pos h]
 obtain ⟨a, b, c, _⟩ := zw5 20 n.natAbs (by omega) (by omega)
 rw [Lib.atoiAll_minus]
 unfold Lib.parseMag
 rw [if_neg c, zv6 a (by omega), b]
 unfold Lib.signed
 simp only
 rw [if_neg (by omega)]
 congr 1; omega
theorem zKE {n : Int} (h : zld n) : Lib.atoiAll (zb7 n) = .ok n := by
 obtain ⟨h1, h2⟩ := h
 by_cases hn : 0 ≤ n
 · exact zGH hn h2
 · exact zMr (by omega) h1
theorem zxD {n : Int} (h : zld n) : zi8 (zb7 n) = (n, true) := by unfold zi8; rw [zKE h]
theorem zva {n : Int} {s : Str} (h0 : 0 ≤ n) (h : n ≤ 9223372036854775807) (hs : ∀ b, s.head? = some b → zcD.contains b = false) : zg5 (zb7 n ++ s) = (n, true, s) := by
 obtain ⟨a, _⟩ := zkv h0 h
 unfold zg5
 rw [zAI (fun b hb => zrc.2 (a b hb)) hs, zxD ⟨by omega, h⟩]
end Go.Ev
namespace Go.Ev
theorem zog (b : UInt8) (s : Str) : zsZ (b :: s) = if b = 39 then 39 :: 39 :: zsZ s else b :: zsZ s := rfl
theorem zEk (s : Str) : zlV (zsZ s) = s := by
 induction s with
 | nil => rfl
 | cons b s ih =>
   rw [zog]
   by_cases h : b = 39
   · rw [if_pos h, zlV, if_pos ⟨rfl, rfl⟩, ih, h]
   · rw [if_neg h]
     cases hs : zsZ s with
     | nil => rw [hs] at ih; rw [← ih]; rfl
     | cons c l => rw [zlV, if_neg (fun e => h e.1), ← hs, ih]
theorem zHL (s : Str) : zvo (zsZ s) = true := by
 induction s with
 | nil => rfl
 | cons b s ih =>
   rw [zog]
   by_cases h : b = 39
   · rw [if_pos h, zvo, if_pos ⟨rfl, rfl⟩, ih]
   · rw [if_neg h]
     have hb : (b != 39) = true := by simpa using h
     cases hs : zsZ s with
     | nil => rw [zvo, hb]
     | cons c l => rw [zvo, if_neg (fun e => h e.1), ← hs, ih, hb]; rfl
theorem zJb (s tail : Str) (ht : tail.head? ≠ some 39) : zzW (zsZ s ++ 39 :: tail) = some (zsZ s).length := by
 induction s with
 | nil =>
   show zzW (39 :: tail) = some 0
   cases tail with
   | nil => rfl
   | cons c l =>
     rw [zzW, if_pos rfl, if_neg]
     intro e; subst e; exact ht rfl
 | cons b s ih =>
   rw [zog]
   by_cases h : b = 39
   · rw [if_pos h]
     show zzW (39 :: 39 :: (zsZ s ++ 39 :: tail)) = _
     rw [zzW, if_pos rfl, if_pos rfl, ih]; rfl
   · rw [if_neg h]
     show zzW (b :: (zsZ s ++ 39 :: tail)) = _
     cases hs : zsZ s ++ 39 :: tail with
     | nil => simp at hs
     | cons c l => rw [zzW, if_neg h, ← hs, ih]; rfl
theorem zAy (s : Str) : zia (zsC s) = some s := by
 unfold zsC zia
 simp only
 rw [if_pos]
 · rw [List.dropLast_concat, zEk]
 · refine ⟨trivial, by simp, by simp, ?_⟩
   rw [List.dropLast_concat, zHL]
def zNJ (b : UInt8) : Prop := b = 45 ∨ zq5 b
theorem zvg {n : Int} (h : zld n) : (∀ b ∈ zb7 n, zNJ b) ∧ zb7 n ≠ [] := by
 obtain ⟨h1, h2⟩ := h
 by_cases hn : 0 ≤ n
 · obtain ⟨a, _, c, _⟩ := zkv hn h2
   exact ⟨fun b hb => .inr (a b hb), c⟩
 · unfold zb7; rw [if_pos (by omega)]
   obtain ⟨a, _, c, _⟩ := zw5 20 n.natAbs (by omega) (by omega)
   refine ⟨fun b hb => ?_, by simp⟩
   rcases List.mem_cons.1 hb with rfl | hb
   · exact .inl rfl
   · exact .inr (a b hb)
theorem zND {b : UInt8} (h : zNJ b) : zG0.contains b = true := by
 unfold zG0
 rw [List.contains_cons, Bool.or_eq_true]
 rcases h with rfl | h
 · exact .inl rfl
 · right
   have := zrc.2 h
   simp only [List.contains_iff_mem, List.mem_append] at this ⊢
   exact .inl this
theorem zF9 {b : UInt8} (h : zNJ b) (c : UInt8) (hc : c.toNat = 39 ∨ c.toNat = 84 ∨ c.toNat = 70) : b ≠ c := by
 intro e; subst e
 rcases h with rfl | h
 · revert hc; decide
 · unfold zq5 at h; omega
theorem zHA {n : Int} (h : zld n) : zwe (zb7 n) = true := by
 obtain ⟨h1, h2⟩ := h
 unfold zwe
 by_cases hn : 0 ≤ n
 · obtain ⟨a, b, c, d⟩ := zkv hn h2
   have e : zaP [45] (zb7 n) = (false, zb7 n) := by
    refine zlo [] _ 45 fun e => ?_
    cases hd : zb7 n with
    | nil => rw [hd] at e; simp at e
    | cons x l =>
      rw [hd] at e a; simp at e; subst e
      have := a 45 List.mem_cons_self; unfold zq5 at this; revert this; decide
   rw [e]
   simp only [Bool.and_eq_true, Bool.not_eq_true', List.isEmpty_eq_false_iff, Bool.and_eq_false_iff]
   refine ⟨⟨c, ?_⟩, List.all_eq_true.2 fun b hb => zrc.2 (a b hb)⟩
   by_cases h0 : n = 0
   · subst h0; right; rfl
   · left; have := d (by omega); simpa using this
 · unfold zb7; rw [if_pos (by omega)]
   obtain ⟨a, _, c, d⟩ := zw5 20 n.natAbs (by omega) (by omega)
   rw [zqJ]
   simp only [Bool.and_eq_true, Bool.not_eq_true', List.isEmpty_eq_false_iff, Bool.and_eq_false_iff]
   exact ⟨⟨c, .inl (by have := d (by omega); simpa using this)⟩, List.all_eq_true.2 fun b hb => zrc.2 (a b hb)⟩
theorem zCk {v : Val} (h : zbS v = true) (hw : zwv v) : ze8 (zdy v) = (v, 0) := by
 obtain ⟨k, n, t⟩ := v
 unfold zdy
 rw [if_pos h]
 unfold zbS at h
 simp only at h ⊢
 by_cases h0 : k = 0
 · subst h0
   rw [if_pos rfl] at h ⊢
   obtain rfl : t = [] := by simpa using h
   have hn : zld n := hw.2
   obtain ⟨a, c⟩ := zvg hn
   obtain ⟨x, l, hd⟩ : ∃ x l, zb7 n = x :: l := by
    cases hd : zb7 n with
    | nil => exact absurd hd c
    | cons x l => exact ⟨x, l, rfl⟩
   have hx := a x (by rw [hd]; exact List.mem_cons_self)
   unfold ze8
   rw [if_neg (by rw [hd]; intro e; injection e with e _; exact zF9 hx 84 (by decide) e), if_neg (by rw [hd]; intro e; injection e with e _; exact zF9 hx 70 (by decide) e)]
   have : zia (zb7 n) = none := by
    rw [hd]; unfold zia; simp only
    rw [if_neg]; intro e; exact zF9 hx 39 (by decide) e.1
   rw [this]
   simp only
   rw [if_pos (zHA hn), zxD hn]; rfl
 · rw [if_neg h0] at h ⊢
   by_cases h1 : k = 1
   · subst h1
     rw [if_pos rfl] at h ⊢
     simp only [Bool.and_eq_true, beq_iff_eq, decide_eq_true_eq] at h
     obtain ⟨rfl, hl⟩ := h
     unfold ze8
     rw [if_neg (by unfold zsC zGZ; intro e; injection e with e _; revert e; decide), if_neg (by unfold zsC zzR; intro e; injection e with e _; revert e; decide), zAy]
     simp only
     rw [if_neg (by omega)]
   · rw [if_neg h1] at h ⊢
     by_cases h2 : k = 2
     · subst h2
       rw [if_pos rfl] at h
       simp only [Bool.and_eq_true, Bool.or_eq_true, beq_iff_eq] at h
       obtain ⟨h3, rfl⟩ := h
       rcases h3 with rfl | rfl <;> rfl
     · rw [if_neg h2] at h; cases h
def zxP (s : Str) : Prop := ∀ b, s.head? = some b → zG0.contains b = false ∧ b ≠ 39
theorem zsX {v : Val} {s : Str} (h : zbS v = true) (hw : zwv v) (hs : zxP s) : ze9 (zdy v ++ s) = (v, true, s) := by
 have hp := zCk h hw
 have zfU : (∀ b ∈ zdy v, zG0.contains b = true) → zdy v ≠ [] → (zdy v).head? ≠ some 39 → ze9 (zdy v ++ s) = (v, true, s) := by
  intro h1 h2 h3
  unfold ze9
  rw [if_neg, zAI h1 (fun b hb => (hs b hb).1), hp]; rfl
  cases hd : zdy v with
  | nil => exact absurd hd h2
  | cons x l => rw [hd] at h3; simpa using h3
 obtain ⟨k, n, t⟩ := v
 unfold zdy at hp zfU ⊢
 rw [if_pos h] at hp zfU ⊢
 unfold zbS at h
 simp only at h hp zfU ⊢
 by_cases h0 : k = 0
 · rw [if_pos h0] at hp zfU ⊢
   obtain ⟨a, c⟩ := zvg hw.2
   refine zfU (fun b hb => zND (a b hb)) c fun e => ?_
   cases hd : zb7 n with
   | nil => exact absurd hd c
   | cons x l =>
     simp only at a
     rw [hd] at e a; simp at e
     exact zF9 (a x List.mem_cons_self) 39 (by decide) e
 · rw [if_neg h0] at hp zfU ⊢
   by_cases h1 : k = 1
   · rw [if_pos h1] at hp ⊢
     have ht : s.head? ≠ some 39 := fun e => (hs 39 e).2 rfl
     have e1 : zsC t ++ s = 39 :: (zsZ t ++ 39 :: s) := by unfold zsC; simp
     rw [e1]
     unfold ze9
     rw [if_pos (List.head?_cons ..)]
     simp only [List.drop_succ_cons, List.drop_zero]
     rw [zJb t s ht]
     simp only
     have e2 : (39 :: (zsZ t ++ 39 :: s)).take ((zsZ t).length + 2) = zsC t := by
      unfold zsC
      rw [List.take_succ_cons, List.take_append, List.take_of_length_le (by omega), Nat.add_sub_cancel_left]; rfl
     have e3 : (zsZ t ++ 39 :: s).drop ((zsZ t).length + 1) = s := by
      rw [List.drop_append, List.drop_of_length_le (by omega), Nat.add_sub_cancel_left]; rfl
     rw [e2, hp]
     simp only [beq_self_eq_true, Prod.mk.injEq, true_and]
     exact e3
   · rw [if_neg h1] at hp zfU ⊢
     by_cases h2 : n = 1
     · rw [if_pos h2] at hp zfU ⊢
       exact zfU (by decide) (by decide) (by decide)
     · rw [if_neg h2] at hp zfU ⊢
       exact zfU (by decide) (by decide) (by decide)
theorem zxw {n : Int} (h : 1 ≤ n) (h2 : n ≤ 9223372036854775807) : zhK (zb7 n) = (n, 0) := by
 obtain ⟨a, _, c, d⟩ := zkv (by omega) h2
 unfold zhK
 rw [if_neg c, if_neg, zGH (by omega) h2]
 simp only [Bool.or_eq_true, beq_iff_eq, List.any_eq_true, Bool.not_eq_true', not_or, not_exists, not_and, Bool.not_eq_false]
 exact ⟨d (by omega), fun b hb => zrc.2 (a b hb)⟩
theorem zH1 {s t : Str} (h : ∀ b ∈ s, b ≠ 46) : zkJ (s ++ 46 :: t) = (s, t, true) := by
 unfold zkJ
 induction s with
 | nil => simp
 | cons b s ih =>
   have hb := h b List.mem_cons_self
   have := ih fun c hc => h c (List.mem_cons_of_mem _ hc)
   simp only [Prod.mk.injEq] at this ⊢
   have hb' : (b != 46) = true := by simpa using hb
   simp only [List.cons_append, List.takeWhile_cons, List.dropWhile_cons, hb', if_true, this.1, this.2.1, true_and, List.contains_cons, this.2.2, Bool.or_true]
theorem zCA {r : zbw} (h : zdV r = true) (hw : zu0 r) : zic (zjc r) = (r, 0) := by
 unfold zjc
 rw [if_pos h]
 simp only [zdV, Bool.and_eq_true, decide_eq_true_eq] at h
 obtain ⟨a, _⟩ := zkv (n := r.table) (by omega) hw.1.2
 unfold zic
 rw [zqJ, zH1]
 · simp only [zxw h.1 hw.1.2, zxw h.2 hw.2.2, Bool.and_self, if_true]
   rw [if_neg (by decide), if_pos ⟨trivial, trivial⟩]
 · intro b hb e; subst e; have := a 46 hb; revert this; unfold zq5; decide
theorem zDe {r : zbw} (h : zdV r = true) (hw : zu0 r) : (∀ b ∈ zjc r, zFU.contains b = true) ∧ ∃ l, zjc r = 116 :: l := by
 unfold zjc; rw [if_pos h]
 simp only [zdV, Bool.and_eq_true, decide_eq_true_eq] at h
 obtain ⟨a, _⟩ := zkv (n := r.table) (by omega) hw.1.2
 obtain ⟨b, _⟩ := zkv (n := r.seq) (by omega) hw.2.2
 have dm : ∀ c, zq5 c → zFU.contains c = true := by
  intro c hc
  have := zrc.2 hc
  unfold zFU
  simp only [List.contains_iff_mem, List.mem_cons] at this ⊢
  exact .inr (.inr this)
 refine ⟨fun c hc => ?_, _, rfl⟩
 rcases List.mem_cons.1 hc with rfl | hc
 · decide
 · rcases List.mem_append.1 hc with hc | hc
   · exact dm c (a c hc)
   · rcases List.mem_cons.1 hc with rfl | hc
     · decide
     · exact dm c (b c hc)
end Go.Ev
namespace Go.Ev
mutual
def zhX : zal → zal
 | .mk c ⟨_, fs⟩ => .mk c (Sl.out (zcW fs))
def zcW : List zai → List zai
 | [] => []
 | x :: xs => zdz x :: zcW xs
def zdz : zai → zai
 | .mk a e => .mk (zgv a) e
def zgv : zan → zan
 | .mk k r ⟨_, as⟩ f ⟨_, is⟩ o b => .mk k r (Sl.out (ziM as)) f (Sl.out (zgk is)) o b
def ziM : List (Sl zal) → List (Sl zal)
 | [] => []
 | ⟨_, x⟩ :: xs => Sl.out (zeT x) :: ziM xs
def zeT : List zal → List zal
 | [] => []
 | x :: xs => zhX x :: zeT xs
def zgk : List zad → List zad
 | [] => []
 | x :: xs => zhA x :: zgk xs
def zhA : zad → zad
 | .mk v ⟨_, l⟩ => .mk v (Sl.out (zeT l))
end
def zii (a : Sl zal) : Sl zal := Sl.out (zeT a.l)
theorem zjw (l : List zai) : zcW l = l.map zdz := by
 induction l with
 | nil => rfl
 | cons x l ih => simp only [zcW, List.map_cons, ih]
theorem zme (l : List zal) : zeT l = l.map zhX := by
 induction l with
 | nil => rfl
 | cons x l ih => simp only [zeT, List.map_cons, ih]
theorem zpi (l : List zad) : zgk l = l.map zhA := by
 induction l with
 | nil => rfl
 | cons x l ih => simp only [zgk, List.map_cons, ih]
theorem zrW (l : List (Sl zal)) : ziM l = l.map zii := by
 induction l with
 | nil => rfl
 | cons x l ih => cases x; simp only [ziM, List.map_cons, ih, zii]
theorem zud (x : zal) : zhX x = .mk x.coeff (Sl.out (x.factors.l.map zdz)) := by rcases x with ⟨c, ⟨f, l⟩⟩; simp only [zhX, zal.coeff, zal.factors, zjw]
theorem zpk (x : zai) : zdz x = .mk (zgv x.atom) x.exp := by cases x; simp only [zdz, zai.atom, zai.exp]
theorem zrf (x : zad) : zhA x = .mk x.value (zii x.ann) := by rcases x with ⟨v, ⟨f, l⟩⟩; simp only [zhA, zad.ann, zad.value, zii]
theorem zmf (x : zan) : zgv x = .mk x.kind x.row (Sl.out (x.args.l.map zii)) x.func (Sl.out (x.items.l.map zhA)) x.op x.bound := by
 rcases x with ⟨k, r, ⟨f1, as⟩, fn, ⟨f2, is⟩, op, b⟩
 simp only [zgv, zrW, zpi, zan.kind, zan.row, zan.args, zan.func, zan.items, zan.op, zan.bound]
theorem zKp (k : Int) (r : zbw) (f1 : Fl) (as : List (Sl zal)) (fn : Int) (f2 : Fl) (is : List zad) (op : Int) (b : Val) : zgv (.mk k r ⟨f1, as⟩ fn ⟨f2, is⟩ op b) = .mk k r (Sl.out (as.map zii)) fn (Sl.out (is.map zhA)) op b := by
 simp only [zgv, zrW, zpi]
theorem zq2 (sep : Str) : ze0 [] sep = [] := rfl
theorem zhQ (x sep : Str) : ze0 [x] sep = x := Lib.join_one x sep
theorem ziJ (x y : Str) (l : List Str) (sep : Str) : ze0 (x :: y :: l) sep = x ++ (sep ++ ze0 (y :: l) sep) := by
 unfold ze0; rw [Lib.join_cons, Lib.join_cons]; simp [Lib.joinTail]
theorem ztY {l : List Str} (sep : Str) (h : ∀ x ∈ l, x ≠ []) : l.length ≤ (ze0 l sep).length := by
 induction l with
 | nil => simp
 | cons x l ih =>
   have hx := h x List.mem_cons_self
   have hx : 0 < x.length := by cases x; exact absurd rfl hx; simp
   cases l with
   | nil => rw [zhQ]; simp; omega
   | cons y l =>
     have := ih fun z hz => h z (List.mem_cons_of_mem _ hz)
     rw [ziJ]; simp only [List.length_append, List.length_cons] at this ⊢; omega
def hd (P : UInt8 → Prop) (s : Str) : Prop := ∀ b, s.head? = some b → P b
def zxL (b : UInt8) : Prop := zFU.contains b = false
def zIU (b : UInt8) : Prop := zFU.contains b = false ∧ b ≠ 94
def zIT (b : UInt8) : Prop := zIU b ∧ b ≠ 42
def zAC (b : UInt8) : Prop := zIT b ∧ b ≠ 32
theorem zq9 {P : UInt8 → Prop} {b : UInt8} (h : P b) (s : Str) : hd P (b :: s) := by
 intro c hc; simp only [List.head?_cons, Option.some.injEq] at hc; subst hc; exact h
theorem zq8 {P Q : UInt8 → Prop} {s : Str} (h : hd P s) (k : ∀ b, P b → Q b) : hd Q s := fun b hb => k b (h b hb)
theorem zP4 {P : UInt8 → Prop} : hd P [] := by intro c hc; simp at hc
theorem zNl {b : UInt8} (h : zFU.contains b = false) : zcD.contains b = false := by
 unfold zFU at h
 rw [List.contains_cons, List.contains_cons] at h
 simp only [Bool.or_eq_false_iff] at h
 exact h.2.2
theorem ztu {s p : Str} {b : UInt8} (h : hd (fun c => c ≠ b) s) : zaP (b :: p) s = (false, s) :=
 zlo p s b fun e => h b e rfl
theorem zl7 (p s : Str) (b c : UInt8) (h : c ≠ b) : zaP (b :: p) (c :: s) = (false, c :: s) := zlo p _ b (by simpa using h)
theorem zEL (s : Str) : zhO (zeY ++ s) = (1, s) := by unfold zhO; rw [zeX]; rfl
theorem zEM (s : Str) : zhO (zeZ ++ s) = (2, s) := by
 unfold zhO; rw [zeX]
 rw [show zaP zeY (zeZ ++ s) = (false, zeZ ++ s) from zl7 _ _ 109 100 (by decide)]; rfl
theorem zCU (s : Str) : zhO (zcZ ++ s) = (3, s) := by
 unfold zhO; rw [zeX]
 rw [show zaP zeY (zcZ ++ s) = (false, zcZ ++ s) from zl7 _ _ 109 97 (by decide), show zaP zeZ (zcZ ++ s) = (false, zcZ ++ s) from zl7 _ _ 100 97 (by decide)]; rfl
theorem zHk (s : Str) : zhO (ziz ++ s) = (4, s) := by
 unfold zhO; rw [zeX]
 rw [show zaP zeY (ziz ++ s) = (false, ziz ++ s) from zl7 _ _ 109 116 (by decide), show zaP zeZ (ziz ++ s) = (false, ziz ++ s) from zl7 _ _ 100 116 (by decide),
  show zaP zcZ (ziz ++ s) = (false, ziz ++ s) from zl7 _ _ 97 116 (by decide)]; rfl
theorem zIQ (p s : Str) (b c : UInt8) (h : (s.head? == some c) = false) : zaP (b :: c :: p) (b :: s) = (false, b :: s) := by
 unfold zaP
 rw [if_neg]
 cases s with
 | nil => simp [List.isPrefixOf]
 | cons d s =>
   simp at h
   simp [List.isPrefixOf]
   intro e; exact absurd e.symm h
theorem zJq {r : zbw} (h : zdV r = true) (hw : zu0 r) (s : Str) : zhO (zjc r ++ s) = (0, zjc r ++ s) := by
 unfold zjc; rw [if_pos h]
 simp only [zdV, Bool.and_eq_true, decide_eq_true_eq] at h
 obtain ⟨a, _, c, _⟩ := zkv (n := r.table) (by omega) hw.1.2
 obtain ⟨x, l, hd⟩ : ∃ x l, zb7 r.table = x :: l := by
  cases hd : zb7 r.table with
  | nil => exact absurd hd c
  | cons x l => exact ⟨x, l, rfl⟩
 have hx := a x (by rw [hd]; exact List.mem_cons_self)
 rw [hd]
 have hx : x ≠ 101 := by intro e; subst e; revert hx; unfold zq5; decide
 unfold zhO
 rw [show zaP zeY (116 :: (x :: l ++ 46 :: zb7 r.seq) ++ s) = (false, _) from zl7 _ _ 109 116 (by decide), show zaP zeZ (116 :: (x :: l ++ 46 :: zb7 r.seq) ++ s) = (false, _) from zl7 _ _ 100 116 (by decide),
  show zaP zcZ (116 :: (x :: l ++ 46 :: zb7 r.seq) ++ s) = (false, _) from zl7 _ _ 97 116 (by decide), show zaP ziz (116 :: (x :: l ++ 46 :: zb7 r.seq) ++ s) = (false, _) from zIQ _ _ 116 101 (by simpa using hx)]; rfl
theorem zP7 (s : Str) (f : Int) (h0 : 0 ≤ f) (h3 : f ≤ 3) : zch 123 zc9 0 (nth zc9 f ++ 123 :: s) = (f, s) := by
 have : f = 0 ∨ f = 1 ∨ f = 2 ∨ f = 3 := by omega
 rcases this with rfl | rfl | rfl | rfl
 · have e : nth zc9 0 ++ 123 :: s = [67, 79, 85, 78, 84, 123] ++ s := rfl
   rw [e]; simp [zch, zc9, zaP]
 · have e : nth zc9 1 ++ 123 :: s = [83, 85, 77, 123] ++ s := rfl
   rw [e]; simp [zch, zc9, zaP, List.isPrefixOf]
 · have e : nth zc9 2 ++ 123 :: s = [77, 73, 78, 123] ++ s := rfl
   rw [e]; simp [zch, zc9, zaP, List.isPrefixOf]
 · have e : nth zc9 3 ++ 123 :: s = [77, 65, 88, 123] ++ s := rfl
   rw [e]; simp [zch, zc9, zaP, List.isPrefixOf]
theorem zPV (s : Str) (o : Int) (h0 : 5 ≤ o) (h3 : o ≤ 10) : zch 32 zc1 0 (nth zc1 (o - 5) ++ 32 :: s) = (o - 5, s) := by
 obtain ⟨f, rfl⟩ : ∃ f, o = f + 5 := ⟨o - 5, by omega⟩
 rw [show f + 5 - 5 = f by omega]
 have : f = 0 ∨ f = 1 ∨ f = 2 ∨ f = 3 ∨ f = 4 ∨ f = 5 := by omega
 rcases this with rfl | rfl | rfl | rfl | rfl | rfl
 · have e : nth zc1 0 ++ 32 :: s = [61, 32] ++ s := rfl
   rw [e]; simp [zch, zc1, zaP]
 · have e : nth zc1 1 ++ 32 :: s = [60, 62, 32] ++ s := rfl
   rw [e]; simp [zch, zc1, zaP, List.isPrefixOf]
 · have e : nth zc1 2 ++ 32 :: s = [60, 32] ++ s := rfl
   rw [e]; simp [zch, zc1, zaP, List.isPrefixOf]
 · have e : nth zc1 3 ++ 32 :: s = [60, 61, 32] ++ s := rfl
   rw [e]; simp [zch, zc1, zaP, List.isPrefixOf]
 · have e : nth zc1 4 ++ 32 :: s = [62, 32] ++ s := rfl
   rw [e]; simp [zch, zc1, zaP, List.isPrefixOf]
 · have e : nth zc1 5 ++ 32 :: s = [62, 61, 32] ++ s := rfl
   rw [e]; simp [zch, zc1, zaP, List.isPrefixOf]
end Go.Ev
namespace Go.Ev
def zrv (ann : znd) (a : Sl zal) : Prop := ∀ s, hd zAC s → ann (zcp a ++ s) = (zii a, true, s)
theorem zPH : zAC 93 := by refine ⟨⟨⟨?_, ?_⟩, ?_⟩, ?_⟩ <;> decide
theorem zPJ : zAC 44 := by refine ⟨⟨⟨?_, ?_⟩, ?_⟩, ?_⟩ <;> decide
theorem zPI : zAC 59 := by refine ⟨⟨⟨?_, ?_⟩, ?_⟩, ?_⟩ <;> decide
theorem zNh : zAC 125 := by refine ⟨⟨⟨?_, ?_⟩, ?_⟩, ?_⟩ <;> decide
theorem zPL : zIT 32 := by refine ⟨⟨?_, ?_⟩, ?_⟩ <;> decide
theorem zPK : zIU 42 := by refine ⟨?_, ?_⟩ <;> decide
theorem zPG : zxL 94 := by unfold zxL; decide
theorem zS3 (s : Str) : zxP (58 :: s) := by intro b hb; simp only [List.head?_cons, Option.some.injEq] at hb; subst hb; decide
theorem zUG (s : Str) : zxP (zp3 ++ s) := zS3 _
theorem zS2 (s : Str) : zxP (93 :: s) := by intro b hb; simp only [List.head?_cons, Option.some.injEq] at hb; subst hb; decide
theorem zTi (s : Str) : hd zAC ([93] ++ s) := zq9 zPH s
theorem zNO (s : Str) : hd zAC (zp2 ++ s) := zq9 zPJ _
theorem zVI (s : Str) : zxP ([93] ++ s) := zS2 s
theorem zHj {ann : znd} : ∀ (l : List zad) (acc : List zad) (k : Nat) (s : Str), l ≠ [] → l.length ≤ k → (∀ x ∈ l, zbS x.value = true ∧ zwv x.value ∧ zrv ann x.ann) →
 zjq ann k acc (ze0 (l.map zf8) zkZ ++ (zkE ++ s)) = (acc ++ l.map zhA, true, zkE ++ s) := by
 intro l
 induction l with
 | nil => intro acc k s h; exact absurd rfl h
 | cons x l ih =>
   intro acc k s _ hk hx
   obtain ⟨k, rfl⟩ : ∃ j, k = j + 1 := ⟨k - 1, by simp at hk; omega⟩
   obtain ⟨h1, h2, h3⟩ := hx x List.mem_cons_self
   cases l with
   | nil =>
     simp only [List.map_cons, List.map_nil, zhQ]
     rw [zlW, List.append_assoc, List.append_assoc, zjq, zsX h1 h2 (zUG _)]
     simp only [if_true, zeX]
     rw [h3 (zkE ++ s) (zq9 zNh _)]
     simp only [if_true]
     rw [show zaP zkZ (zkE ++ s) = (false, zkE ++ s) from zl7 _ _ 59 125 (by decide)]
     simp only [Bool.false_eq_true, if_false]
     rw [← zrf]
   | cons y l =>
     have ih := ih (acc ++ [zhA x]) k s (by simp) (by simp at hk ⊢; omega) (fun z hz => hx z (List.mem_cons_of_mem _ hz))
     simp only [List.map_cons] at ih ⊢
     rw [ziJ, List.append_assoc, List.append_assoc, zlW, List.append_assoc, List.append_assoc, zjq, zsX h1 h2 (zUG _)]
     simp only [if_true, zeX]
     rw [h3 (zkZ ++ _) (zq9 zPI _)]
     simp only [if_true, zeX]
     rw [← zrf, ih]; simp
theorem zNc {fn : Int} {d : Val} {w : zad} (h : zr6 fn d w = true) : zbS w.value = true := by
 unfold zr6 at h
 simp only [Bool.not_eq_true', Bool.or_eq_false_iff, Bool.not_eq_false'] at h
 exact h.1.1
theorem zxS {fn : Int} {its : Sl zad} {op : Int} {d : Val} (h : zj6 fn its op d = true) : 0 ≤ fn ∧ fn ≤ 3 ∧ 5 ≤ op ∧ op ≤ 10 ∧ zbS d = true ∧ ∀ x ∈ its.l, zbS x.value = true := by
 unfold zj6 at h
 simp only [Bool.and_eq_true, Bool.not_eq_true', Bool.or_eq_false_iff, decide_eq_false_iff_not, Bool.not_eq_false', List.all_eq_true] at h
 obtain ⟨⟨⟨⟨⟨⟨h1, h2⟩, h3⟩, h4⟩, h5⟩, _⟩, h6⟩ := h
 exact ⟨by omega, by omega, by omega, by omega, h5, fun x hx => zNc (h6 x hx)⟩
theorem zlY {fn : Int} {il : Nat} {op : Int} {b : Val} (h : zo1 fn il op b = true) : fn = 0 ∧ il = 0 ∧ op = 0 ∧ b = ⟨0, 0, []⟩ := by
 unfold zo1 at h
 simp only [Bool.and_eq_true, beq_iff_eq] at h
 obtain ⟨⟨⟨h1, h2⟩, h3⟩, h4, h5, h6⟩ := h
 refine ⟨h1, by omega, h3, ?_⟩
 cases b; simp_all
theorem zC8 {l : List zad} : ∀ x ∈ l.map zf8, x ≠ [] := by
 intro x hx
 obtain ⟨w, _, rfl⟩ := List.mem_map.1 hx
 rw [zlW]; unfold zp3; simp
theorem zve (a b : Str) {n : Nat} (h : n ≤ a.length) : n ≤ (a ++ b).length + 1 := by rw [List.length_append]; omega
theorem zCW {ann : znd} {x : zan} (hv : zgw x = true) (hw : zhG x) (ha : ∀ a ∈ x.args.l, x.kind ≠ 0 → zrv ann a) (hi : ∀ w ∈ x.items.l, x.kind ≠ 0 → zrv ann w.ann) (s : Str) (hs : hd zxL s) :
 zqg ann (zfs x ++ s) = (zgv x, true, s) := by
 rcases x with ⟨k, r, ⟨f1, as⟩, fn, ⟨f2, is⟩, op, b⟩
 rw [zxi, zKp]
 simp only [zan.kind, zan.args, zan.items] at ha hi
 have hw := (ziF _).1 hw
 simp only [zan.kind, zan.row, zan.args, zan.func, zan.items, zan.op, zan.bound] at hw
 obtain ⟨_, hwr, _, _, hwi, _, hwb⟩ := hw
 unfold zgw at hv
 by_cases h0 : k = 0
 · rw [if_pos h0] at hv ⊢
   simp only [Bool.and_eq_true, beq_iff_eq] at hv
   obtain ⟨⟨h1, h2⟩, h3⟩ := hv
   obtain ⟨rfl, h4, rfl, rfl⟩ := zlY h3
   obtain rfl : as = [] := List.length_eq_zero_iff.1 (by omega)
   obtain rfl : is = [] := List.length_eq_zero_iff.1 h4
   obtain ⟨c1, c2⟩ := zDe h1 hwr
   unfold zqg
   rw [zJq h1 hwr s]
   simp only [if_true]
   rw [zAI c1 hs, zCA h1 hwr, h0]; rfl
 · rw [if_neg h0] at hv ⊢
   simp only [Bool.and_eq_true, beq_iff_eq] at hv
   obtain ⟨⟨⟨hr1, hr2⟩, hva⟩, hv⟩ := hv
   obtain rfl : r = ⟨0, 0⟩ := by cases r; simp_all
   by_cases h1 : k = 1
   · rw [if_pos h1] at hv ⊢
     simp only [Bool.and_eq_true, beq_iff_eq] at hv
     obtain ⟨⟨h2, h3⟩, _⟩ := hv
     obtain ⟨rfl, h4, rfl, rfl⟩ := zlY h3
     obtain rfl : is = [] := List.length_eq_zero_iff.1 h4
     obtain ⟨x, y, rfl⟩ : ∃ x y, as = [x, y] := by
      match as, h2 with
      | [x, y], _ => exact ⟨x, y, rfl⟩
      | [], h => simp at h
      | [_], h => simp at h
      | _ :: _ :: _ :: _, h => simp at h; omega
     subst h1
     have hx := ha x (by simp) (by decide)
     have hy := ha y (by simp) (by decide)
     simp only [List.map_cons, List.map_nil, List.getElem?_cons_zero, List.getElem?_cons_succ, Option.getD_some, List.append_assoc]
     unfold zqg
     rw [zEL]
     simp only [Int.one_ne_zero, if_false, show ¬ (1 : Int) = 4 by decide]
     rw [hx _ (zNO _)]
     simp only [if_true, zeX]
     rw [hy _ (zTi _)]
     simp only [if_true]
     rw [zeX]; rfl
   · rw [if_neg h1] at hv ⊢
     by_cases h2 : k = 2
     · rw [if_pos h2] at hv ⊢
       simp only [Bool.and_eq_true, beq_iff_eq] at hv
       obtain ⟨⟨h5, h3⟩, _⟩ := hv
       obtain ⟨rfl, h4, rfl, rfl⟩ := zlY h3
       obtain rfl : is = [] := List.length_eq_zero_iff.1 h4
       obtain ⟨x, rfl⟩ : ∃ x, as = [x] := List.length_eq_one_iff.1 (by omega)
       subst h2
       have hx := ha x (by simp) (by decide)
       simp only [List.map_cons, List.map_nil, List.getElem?_cons_zero, Option.getD_some, List.append_assoc]
       unfold zqg
       rw [zEM]
       simp only [show ¬ (2 : Int) = 0 by decide, if_false, show ¬ (2 : Int) = 4 by decide, show ¬ (2 : Int) = 1 by decide]
       rw [hx _ (zTi _)]
       simp only [if_true]
       rw [zeX]; rfl
     · rw [if_neg h2] at hv ⊢
       by_cases h3 : k = 3
       · rw [if_pos h3] at hv ⊢
         simp only [Bool.and_eq_true, beq_iff_eq] at hv
         obtain ⟨⟨h5, h6⟩, _⟩ := hv
         obtain ⟨rfl, h4, rfl, rfl⟩ := zlY h6
         obtain rfl : is = [] := List.length_eq_zero_iff.1 h4
         obtain ⟨x, rfl⟩ : ∃ x, as = [x] := List.length_eq_one_iff.1 (by omega)
         subst h3
         have hx := ha x (by simp) (by decide)
         simp only [List.map_cons, List.map_nil, List.getElem?_cons_zero, Option.getD_some, List.append_assoc]
         unfold zqg
         rw [zCU]
         simp only [show ¬ (3 : Int) = 0 by decide, if_false, show ¬ (3 : Int) = 4 by decide, show ¬ (3 : Int) = 1 by decide]
         rw [hx _ (zTi _)]
         simp only [if_true]
         rw [zeX]; rfl
       · rw [if_neg h3] at hv ⊢
         by_cases h4 : k = 4
         · rw [if_pos h4] at hv
           simp only [Bool.and_eq_true, beq_iff_eq, Bool.not_eq_true', beq_eq_false_iff_ne, ne_eq] at hv
           obtain ⟨⟨⟨⟨⟨h5, h6⟩, _⟩, h7⟩, _⟩, _⟩ := hv
           obtain rfl : as = [] := List.length_eq_zero_iff.1 (by omega)
           obtain ⟨k1, k2, k3, k4, k5, k6⟩ := zxS h7
           subst h4
           have hne : is ≠ [] := by intro e; subst e; exact h6 rfl
           have hwi := (zoD _).1 hwi
           have hit : ∀ x ∈ is, zbS x.value = true ∧ zwv x.value ∧ zrv ann x.ann := fun x hx => ⟨k6 x hx, ((zqF _).1 (hwi x hx)).1, hi x hx (by decide)⟩
           unfold zqg
           simp only [List.append_assoc]
           rw [zHk]
           simp only [show ¬ (4 : Int) = 0 by decide, if_false, if_true]
           unfold zr5
           rw [List.cons_append, zP7 _ _ k1 k2]
           simp only
           rw [if_neg (show ¬ fn < 0 by omega), zHj is [] _ _ hne (zve _ _ (by have := ztY zkZ (zC8 (l := is)); rw [List.length_map] at this; exact this)) hit]
           simp only [if_true, zeX]
           rw [List.cons_append, zPV _ _ k3 k4]
           simp only
           rw [zsX k5 hwb (zVI _)]
           simp only [Bool.and_true, decide_eq_true (show 0 ≤ op - 5 by omega), if_true, zeX, List.nil_append, show 5 + (op - 5) = op by omega]; rfl
         · rw [if_neg h4] at hv; cases hv
end Go.Ev
namespace Go.Ev
theorem zsP {x : zan} (hv : zgw x = true) : ∃ b l, zfs x = b :: l ∧ b ≠ 48 ∧ (decide (48 ≤ b.toNat) && decide (b.toNat ≤ 57)) = false := by
 rcases x with ⟨k, r, ⟨f1, as⟩, fn, ⟨f2, is⟩, op, b⟩
 rw [zxi]
 unfold zgw at hv
 by_cases h0 : k = 0
 · rw [if_pos h0] at hv ⊢
   simp only [Bool.and_eq_true] at hv
   unfold zjc; rw [if_pos hv.1.1]
   exact ⟨_, _, rfl, by decide, by decide⟩
 · rw [if_neg h0]
   by_cases h1 : k = 1
   · rw [if_pos h1]; exact ⟨_, _, rfl, by decide, by decide⟩
   · rw [if_neg h1]
     by_cases h2 : k = 2
     · rw [if_pos h2]; exact ⟨_, _, rfl, by decide, by decide⟩
     · rw [if_neg h2]
       by_cases h3 : k = 3
       · rw [if_pos h3]; exact ⟨_, _, rfl, by decide, by decide⟩
       · rw [if_neg h3]; exact ⟨_, _, rfl, by decide, by decide⟩
def zM9 (ann : znd) (x : zan) : Prop := zgw x = true ∧ zhG x ∧ (∀ a ∈ x.args.l, x.kind ≠ 0 → zrv ann a) ∧ (∀ w ∈ x.items.l, x.kind ≠ 0 → zrv ann w.ann)
def zrZ (ann : znd) (f : zai) : Prop := zM9 ann f.atom ∧ 1 ≤ f.exp ∧ f.exp ≤ 9223372036854775807
def zym (ann : znd) (t : zal) : Prop := (∀ f ∈ t.factors.l, zrZ ann f) ∧ 1 ≤ t.coeff ∧ t.coeff ≤ 9223372036854775807
theorem zCs {s : Str} (h : hd zIU s) : hd zxL s := zq8 h fun _ h => h.1
theorem zxM {s : Str} (h : hd zxL s) : ∀ b, s.head? = some b → zcD.contains b = false := fun b hb => zNl (h b hb)
theorem zxG {ann : znd} {x : zai} (h : zrZ ann x) (s : Str) (hs : hd zIU s) : znw ann (zbI x ++ s) = (zdz x, true, s) := by
 obtain ⟨⟨h1, h2, h3, h4⟩, h5, h6⟩ := h
 rw [zkb, zpk]
 unfold znw
 by_cases he : x.exp = 1
 · rw [if_pos he, zCW h1 h2 h3 h4 s (zCs hs)]
   simp only [if_true]
   rw [ztu (zq8 hs fun _ h => h.2), he]
   simp
 · rw [if_neg he, List.append_assoc, List.cons_append, zCW h1 h2 h3 h4 _ (zq9 zPG _)]
   simp only [if_true]
   rw [zqJ]
   simp only [if_true]
   rw [zva (by omega) h6 (zxM (zCs hs))]
theorem zEl {ann : znd} {x : zai} (h : zrZ ann x) : zbI x ≠ [] := by
 obtain ⟨b, l, e, _⟩ := zsP h.1.1
 rw [zkb, e]; split <;> simp
theorem zv8 {ann : znd} : ∀ (l : List zai) (acc : List zai) (k : Nat) (s : Str), l ≠ [] → l.length ≤ k → (∀ x ∈ l, zrZ ann x) → hd zIT s →
 zhx ann k acc (ze0 (l.map zbI) [42] ++ s) = (acc ++ l.map zdz, true, s) := by
 intro l
 induction l with
 | nil => intro acc k s h; exact absurd rfl h
 | cons x l ih =>
   intro acc k s _ hk hx hs
   obtain ⟨k, rfl⟩ : ∃ j, k = j + 1 := ⟨k - 1, by simp at hk; omega⟩
   have h1 := hx x List.mem_cons_self
   cases l with
   | nil =>
     simp only [List.map_cons, List.map_nil, zhQ]
     rw [zhx, zxG h1 s (zq8 hs fun _ h => h.1)]
     simp only [if_true]
     rw [ztu (zq8 hs fun _ h => h.2)]
     simp
   | cons y l =>
     have ih := ih (acc ++ [zdz x]) k s (by simp) (by simp at hk ⊢; omega) (fun z hz => hx z (List.mem_cons_of_mem _ hz)) hs
     simp only [List.map_cons] at ih ⊢
     rw [ziJ, List.append_assoc, List.append_assoc, zhx, zxG h1 _ (show hd zIU ([42] ++ _) from zq9 zPK _)]
     simp only [if_true, zeX]
     rw [ih]; simp
theorem zDh {ann : znd} {l : List zai} (h : ∀ x ∈ l, zrZ ann x) (s : Str) : l.length ≤ (ze0 (l.map zbI) [42] ++ s).length + 1 := by
 have := ztY [42] (l := l.map zbI) (fun x hx => by obtain ⟨f, hf, rfl⟩ := List.mem_map.1 hx; exact zEl (h f hf))
 rw [List.length_map] at this
 exact zve _ _ this
theorem zz8 {ann : znd} {l : List zai} (h : ∀ x ∈ l, zrZ ann x) (hne : l ≠ []) (s : Str) : zmb (ze0 (l.map zbI) [42] ++ s) = false ∧ ∃ b r, ze0 (l.map zbI) [42] = b :: r ∧ b ≠ 48 := by
 cases l with
 | nil => exact absurd rfl hne
 | cons x l =>
   obtain ⟨b, t, e, h1, h2⟩ := zsP (h x List.mem_cons_self).1.1
   obtain ⟨r, hr⟩ : ∃ r, ze0 ((x :: l).map zbI) [42] = b :: r := by
    have hx : ∃ u, zbI x = b :: u := by rw [zkb, e]; split; exact ⟨_, rfl⟩; exact ⟨_, rfl⟩
    obtain ⟨u, hu⟩ := hx
    cases l with
    | nil => exact ⟨u, by rw [List.map_cons, List.map_nil, zhQ, hu]⟩
    | cons y l => exact ⟨_, by rw [List.map_cons, List.map_cons, ziJ, hu]; rfl⟩
   rw [hr]
   exact ⟨h2, b, r, rfl, h1⟩
theorem zt0 {n : Int} (h : 1 ≤ n) (h2 : n ≤ 9223372036854775807) (s : Str) : zmb (zb7 n ++ s) = true ∧ ∃ b r, zb7 n = b :: r ∧ b ≠ 48 := by
 obtain ⟨a, _, c, d⟩ := zkv (by omega) h2
 have d := d (by omega)
 cases e : zb7 n with
 | nil => exact absurd e c
 | cons b r =>
   rw [e] at a d
   have hb := a b List.mem_cons_self
   refine ⟨?_, b, r, rfl, by simpa using d⟩
   show (decide (48 ≤ b.toNat) && decide (b.toNat ≤ 57)) = true
   rw [decide_eq_true hb.1, decide_eq_true hb.2]; rfl
theorem zCT {ann : znd} {x : zal} (h : zym ann x) (s : Str) (hs : hd zIT s) : ztN ann (zf7 x ++ s) = (zhX x, true, s) := by
 obtain ⟨h1, h2, h3⟩ := h
 rw [zn3, zud]
 have hsr : hd zxL s := zq8 hs fun _ h => h.1.1
 unfold ztN
 by_cases he : x.factors.l.isEmpty = true
 · rw [if_pos he, (zt0 h2 h3 s).1, if_pos rfl, zva (by omega) h3 (zxM hsr)]
   simp only [if_true]
   rw [ztu (zq8 hs fun _ h => h.2)]
   rw [List.isEmpty_iff.1 he]; rfl
 · have hne : x.factors.l ≠ [] := fun e => he (by rw [e]; rfl)
   rw [if_neg he]
   by_cases hc : x.coeff = 1
   · rw [if_pos hc, (zz8 h1 hne s).1]
     simp only [Bool.false_eq_true, if_false]
     unfold zv7
     rw [zv8 _ [] _ s hne (zDh h1 s) h1 hs, hc]; rfl
   · rw [if_neg hc, List.append_assoc, (zt0 h2 h3 _).1, if_pos rfl, List.cons_append, zva (by omega) h3 (zxM (zq9 (by unfold zxL; decide) _))]
     simp only [if_true]
     rw [zqJ]
     simp only [if_true]
     unfold zv7
     rw [zv8 _ [] _ s hne (zDh h1 s) h1 hs]; rfl
theorem zxh {ann : znd} {x : zal} (h : zym ann x) : ∃ b r, zf7 x = b :: r ∧ b ≠ 48 := by
 obtain ⟨h1, h2, h3⟩ := h
 rw [zn3]
 split
 · exact (zt0 h2 h3 []).2
 · rename_i he
   have hne : x.factors.l ≠ [] := fun e => he (by rw [e]; rfl)
   split
   · exact (zz8 h1 hne []).2
   · obtain ⟨b, r, e, hb⟩ := (zt0 h2 h3 []).2
     exact ⟨b, _, by rw [e]; rfl, hb⟩
theorem zP6 (s : Str) : hd zIT (zk0 ++ s) := zq9 zPL _
theorem zHg {ann : znd} : ∀ (l : List zal) (acc : List zal) (k : Nat) (s : Str), l ≠ [] → l.length ≤ k → (∀ x ∈ l, zym ann x) → hd zAC s →
 zlZ ann k acc (ze0 (l.map zf7) zk0 ++ s) = (Sl.out (acc ++ l.map zhX), true, s) := by
 intro l
 induction l with
 | nil => intro acc k s h; exact absurd rfl h
 | cons x l ih =>
   intro acc k s _ hk hx hs
   obtain ⟨k, rfl⟩ : ∃ j, k = j + 1 := ⟨k - 1, by simp at hk; omega⟩
   have h1 := hx x List.mem_cons_self
   cases l with
   | nil =>
     simp only [List.map_cons, List.map_nil, zhQ]
     rw [zlZ, zCT h1 s (zq8 hs fun _ h => h.1)]
     simp only [if_true]
     rw [show zaP zk0 s = (false, s) from ztu (zq8 hs fun _ h => h.2)]
     simp
   | cons y l =>
     have ih := ih (acc ++ [zhX x]) k s (by simp) (by simp at hk ⊢; omega) (fun z hz => hx z (List.mem_cons_of_mem _ hz)) hs
     simp only [List.map_cons] at ih ⊢
     rw [ziJ, List.append_assoc, List.append_assoc, zlZ, zCT h1 _ (zP6 _)]
     simp only [if_true, zeX]
     rw [ih]; simp
theorem zGD {a : Sl zal} : zii a = Sl.out (a.l.map zhX) := by unfold zii; rw [zme]
theorem zGU {ann : znd} {l : List zal} (h : ∀ x ∈ l, zym ann x) (hne : l ≠ []) : ∃ b r, ze0 (l.map zf7) zk0 = b :: r ∧ b ≠ 48 := by
 cases l with
 | nil => exact absurd rfl hne
 | cons x l =>
   obtain ⟨b, t, e, h1⟩ := zxh (h x List.mem_cons_self)
   cases l with
   | nil => exact ⟨b, t, by rw [List.map_cons, List.map_nil, zhQ, e], h1⟩
   | cons y l => exact ⟨b, _, by rw [List.map_cons, List.map_cons, ziJ, e]; rfl, h1⟩
theorem zIN {ann : znd} {l : List zal} (h : ∀ x ∈ l, zym ann x) (s : Str) : l.length ≤ (ze0 (l.map zf7) zk0 ++ s).length + 1 := by
 have := ztY zk0 (l := l.map zf7) (fun x hx => by obtain ⟨f, hf, rfl⟩ := List.mem_map.1 hx; obtain ⟨b, r, e, _⟩ := zxh (h f hf); rw [e]; simp)
 rw [List.length_map] at this
 exact zve _ _ this
theorem zLQ {d : Nat} {a : Sl zal} (h : ∀ x ∈ a.l, zym (zlr d) x) (s : Str) (hs : hd zAC s) : zlr (d + 1) (zcp a ++ s) = (zii a, true, s) := by
 rw [zAz, zGD]
 by_cases he : a.l.isEmpty = true
 · rw [if_pos he, List.isEmpty_iff.1 he]
   show (match zaP [48] (48 :: s) with | (c, s1) => if c then ((Sl.nil : Sl zal), true, s1) else zlZ (zlr d) (s1.length + 1) [] s1) = _
   rw [zqJ]; rfl
 · have hne : a.l ≠ [] := fun e => he (by rw [e]; rfl)
   rw [if_neg he]
   obtain ⟨b, r, e, hb⟩ := zGU h hne
   have e2 : zaP [48] (ze0 (a.l.map zf7) zk0 ++ s) = (false, ze0 (a.l.map zf7) zk0 ++ s) := by
    rw [e]; exact zl7 _ _ 48 b hb
   show (match zaP [48] (ze0 (a.l.map zf7) zk0 ++ s) with | (c, s1) => if c then ((Sl.nil : Sl zal), true, s1) else zlZ (zlr d) (s1.length + 1) [] s1) = _
   rw [e2]
   simp only [Bool.false_eq_true, if_false]
   rw [zHg _ [] _ s hne (zIN h s) h hs]; rfl
theorem zwX {α : Type} {f : α → Nat} {l : List α} {x : α} (h : x ∈ l) : f x ≤ ziA f l := by
 induction l with
 | nil => simp at h
 | cons y l ih =>
   simp only [ziA]
   rcases List.mem_cons.1 h with rfl | h
   · omega
   · have := ih h; omega
theorem zoI {x : zan} (hv : zgw x = true) (hk : x.kind ≠ 0) : (∀ a ∈ x.args.l, zdl a.l = true) ∧ ∀ w ∈ x.items.l, zdl w.ann.l = true := by
 rcases x with ⟨k, r, ⟨f1, as⟩, fn, ⟨f2, is⟩, op, b⟩
 simp only [zan.kind, zan.args, zan.items] at hk ⊢
 unfold zgw at hv
 rw [if_neg hk] at hv
 simp only [Bool.and_eq_true, beq_iff_eq] at hv
 obtain ⟨⟨_, hva⟩, hv⟩ := hv
 rw [zn1] at hva
 refine ⟨fun a ha => ?_, fun w hw => ?_⟩
 · have := List.all_eq_true.1 hva a ha
   simp only [Bool.and_eq_true, zbZ] at this
   exact this.2.1.2
 · have noitems : ∀ {fn : Int} {op : Int} {b : Val}, zo1 fn is.length op b = true → False := by
    intro fn op b h
    have := (zlY h).2.1
    rw [List.length_eq_zero_iff.1 this] at hw; simp at hw
   by_cases h1 : k = 1
   · rw [if_pos h1] at hv; simp only [Bool.and_eq_true] at hv; exact (noitems hv.1.2).elim
   · rw [if_neg h1] at hv
     by_cases h2 : k = 2
     · rw [if_pos h2] at hv; simp only [Bool.and_eq_true] at hv; exact (noitems hv.1.2).elim
     · rw [if_neg h2] at hv
       by_cases h3 : k = 3
       · rw [if_pos h3] at hv; simp only [Bool.and_eq_true] at hv; exact (noitems hv.1.2).elim
       · rw [if_neg h3] at hv
         by_cases h4 : k = 4
         · rw [if_pos h4] at hv
           simp only [Bool.and_eq_true] at hv
           have := hv.1.2
           rw [zu2] at this
           have := List.all_eq_true.1 this w hw
           rw [zrJ] at this
           simp only [Bool.and_eq_true, zbZ] at this
           exact this.2.1.2
         · rw [if_neg h4] at hv; cases hv
theorem zKD {ann : znd} {x : zan} {d : Nat} (hn : zlt x ≤ d) (hv : zgw x = true) (hw : zhG x) (H : ∀ a : Sl zal, zcd a.l < d → zdl a.l = true → zbv a.l → zrv ann a) : zM9 ann x := by
 have hw' := (ziF _).1 hw
 obtain ⟨_, _, hwa, _, hwi, _, _⟩ := hw'
 have hwa := (zu1 _).1 hwa
 have hwi := (zoD _).1 hwi
 refine ⟨hv, hw, fun a ha hk => ?_, fun w hw hk => ?_⟩
 · have e := zkg x
   rw [if_neg hk] at e
   have e2 : zcd a.l ≤ zif x.args.l := by rw [zhP]; exact zwX (f := fun x : Sl zal => zcd x.l) ha
   exact H a (by omega) ((zoI hv hk).1 a ha) (hwa a ha)
 · have e := zkg x
   rw [if_neg hk] at e
   have e2 : zie w ≤ zgb x.items.l := by rw [zo6]; exact zwX hw
   rw [zl4] at e2
   exact H w.ann (by omega) ((zoI hv hk).2 w hw) ((zqF _).1 (hwi w hw)).2
theorem zIP {ann : znd} {t : zal} {d : Nat} (hn : ziU t ≤ d) (hv : ztq t = true) (hw : zqE t) (H : ∀ a : Sl zal, zcd a.l < d → zdl a.l = true → zbv a.l → zrv ann a) : zym ann t := by
 rw [zoH] at hv
 simp only [Bool.and_eq_true, Bool.not_eq_true', decide_eq_false_iff_not] at hv
 obtain ⟨⟨⟨h1, h2⟩, h3⟩, _⟩ := hv
 rw [zmS] at h3
 have hw' := (zoE _).1 ((zqD _).1 hw).2
 rw [zl3, zl5] at hn
 refine ⟨fun f hf => ?_, by omega, by omega⟩
 have hv := List.all_eq_true.1 h3 f hf
 rw [zh9] at hv
 simp only [Bool.and_eq_true, Bool.not_eq_true', Bool.or_eq_false_iff, decide_eq_false_iff_not] at hv
 have hwf := (zlU _).1 (hw' f hf)
 have e := zwX (f := zf5) hf
 rw [zo7] at e
 have := hwf.2.2
 exact ⟨zKD (by omega) hv.2 hwf.1 H, by omega, by omega⟩
theorem zG6 : ∀ (d : Nat) (a : Sl zal), zcd a.l ≤ d → zdl a.l = true → zbv a.l → zrv (zlr (d + 1)) a := by
 intro d
 have step : ∀ {d : Nat} {a : Sl zal}, zcd a.l ≤ d → zdl a.l = true → zbv a.l → (∀ b : Sl zal, zcd b.l < d → zdl b.l = true → zbv b.l → zrv (zlr d) b) → zrv (zlr (d + 1)) a := by
  intro d a hn hv hw H s hs
  refine zLQ (fun x hx => ?_) s hs
  rw [zn0] at hv
  rw [zo5] at hn
  have e := zwX (f := ziU) hx
  exact zIP (by omega) (List.all_eq_true.1 hv x hx) ((zoC _).1 hw x hx) H
 induction d with
 | zero => intro a hn hv hw; exact step hn hv hw fun b hb => absurd hb (by omega)
 | succ d ih => intro a hn hv hw; exact step hn hv hw fun b hb => ih b (by omega)
end Go.Ev
namespace Go.Ev
theorem zBD (l : List zai) : (zcW l).length = l.length := by rw [zjw, List.length_map]
theorem zs2 (l : List zal) : (zeT l).length = l.length := by rw [zme, List.length_map]
theorem zo9 {α β : Type} {a : List α} {b : List β} (h : a.length = b.length) : a.isEmpty = b.isEmpty := by
 cases a <;> cases b <;> simp_all
mutual
theorem zIH : ∀ x : zal, zf7 (zhX x) = zf7 x
 | .mk c ⟨f, fs⟩ => by
   rw [zn3, zn3]
   simp only [zhX, zal.factors, zal.coeff, Sl.out_l]
   rw [← zf9, zv0 fs, zf9, zo9 (zBD fs)]
   first | done | rfl
theorem zv0 : ∀ l : List zai, zhI (zcW l) = zhI l
 | [] => rfl
 | x :: xs => by simp only [zcW, zhI, zEn x, zv0 xs]
theorem zEn : ∀ x : zai, zbI (zdz x) = zbI x
 | .mk a e => by simp only [zdz, zbI, zIJ a]
theorem zIJ : ∀ x : zan, zfs (zgv x) = zfs x
 | .mk k r ⟨f1, as⟩ f ⟨f2, is⟩ o b => by
   rw [zts, zts]
   simp only [zgv, zan.kind, zan.row, zan.args, zan.func, zan.items, zan.op, zan.bound, Sl.out_l]
   rw [← zib, ← zhH, zCo as, zzL is, zib, zhH]
   first | done | rfl
theorem zCo : ∀ l : List (Sl zal), zp1 (ziM l) = zp1 l
 | [] => rfl
 | ⟨f, x⟩ :: xs => by
   have h := zrK x
   rw [zib, zib]
   simp only [ziM, List.map_cons, zcp, Sl.out_l, h, zo9 (zs2 x)]
   rw [← zib, ← zib, zCo xs]
theorem zrK : ∀ l : List zal, zkY (zeT l) = zkY l
 | [] => rfl
 | x :: xs => by simp only [zeT, zkY, zIH x, zrK xs]
theorem zzL : ∀ l : List zad, zns (zgk l) = zns l
 | [] => rfl
 | x :: xs => by simp only [zgk, zns, zII x, zzL xs]
theorem zII : ∀ x : zad, zf8 (zhA x) = zf8 x
 | .mk v ⟨f, l⟩ => by
   rw [zlW, zlW]
   simp only [zhA, zad.value, zad.ann, zcp, Sl.out_l, zrK l, zo9 (zs2 l)]
end
theorem zLh (a : Sl zal) : zcp (zii a) = zcp a := by
 unfold zcp zii; rw [Sl.out_l, zrK, zo9 (zs2 a.l)]
mutual
theorem zEu : ∀ x : zal, zks (zhX x) = zks x
 | .mk c ⟨f, fs⟩ => by rw [zoN, zoN]; simp only [zhX, zal.factors, Sl.out_l, zsB fs]
theorem zsB : ∀ l : List zai, zdi (zcW l) = zdi l
 | [] => rfl
 | x :: xs => by simp only [zcW, zdi, zAD x, zsB xs]
theorem zAD : ∀ x : zai, zeK (zdz x) = zeK x
 | .mk a e => by simp only [zdz, zeK, zEw a]
theorem zEw : ∀ x : zan, zmW (zgv x) = zmW x
 | .mk k r ⟨f1, as⟩ f ⟨f2, is⟩ o b => by
   rw [zoP, zoP]
   simp only [zgv, zan.args, zan.items, Sl.out_l, zxs as, zv2 is]
theorem zxs : ∀ l : List (Sl zal), zhw (ziM l) = zhw l
 | [] => rfl
 | ⟨f, x⟩ :: xs => by
   rw [zi5, zi5]
   simp only [ziM, zgx, Sl.out_l, zmV x]
   rw [← zi5, ← zi5, zxs xs]
theorem zmV : ∀ l : List zal, zdW (zeT l) = zdW l
 | [] => rfl
 | x :: xs => by simp only [zeT, zdW, zEu x, zmV xs]
theorem zv2 : ∀ l : List zad, zfD (zgk l) = zfD l
 | [] => rfl
 | x :: xs => by simp only [zgk, zfD, zEv x, zv2 xs]
theorem zEv : ∀ x : zad, zkt (zhA x) = zkt x
 | .mk v ⟨f, l⟩ => by rw [zoO, zoO]; simp only [zhA, zad.ann, Sl.out_l, zmV l]
end
mutual
theorem zER : ∀ x : zal, ziU (zhX x) = ziU x
 | .mk c ⟨f, fs⟩ => by rw [zl3, zl3]; simp only [zhX, zal.factors, Sl.out_l, zsD fs]
theorem zsD : ∀ l : List zai, zd4 (zcW l) = zd4 l
 | [] => rfl
 | x :: xs => by simp only [zcW, zd4, zA6 x, zsD xs]
theorem zA6 : ∀ x : zai, zf5 (zdz x) = zf5 x
 | .mk a e => by simp only [zdz, zf5, zET a]
theorem zET : ∀ x : zan, zlt (zgv x) = zlt x
 | .mk k r ⟨f1, as⟩ f ⟨f2, is⟩ o b => by
   rw [zkg, zkg]
   simp only [zgv, zan.kind, zan.args, zan.items, Sl.out_l, zxN as, zwc is]
   first | done | rfl
theorem zxN : ∀ l : List (Sl zal), zif (ziM l) = zif l
 | [] => rfl
 | ⟨f, x⟩ :: xs => by
   rw [zhP, zhP]
   simp only [ziM, ziA, Sl.out_l, zm0 x]
   rw [← zhP, ← zhP, zxN xs]
theorem zm0 : ∀ l : List zal, zcd (zeT l) = zcd l
 | [] => rfl
 | x :: xs => by simp only [zeT, zcd, zER x, zm0 xs]
theorem zwc : ∀ l : List zad, zgb (zgk l) = zgb l
 | [] => rfl
 | x :: xs => by simp only [zgk, zgb, zES x, zwc xs]
theorem zES : ∀ x : zad, zie (zhA x) = zie x
 | .mk v ⟨f, l⟩ => by rw [zl4, zl4]; simp only [zhA, zad.ann, Sl.out_l, zm0 l]
end
mutual
theorem zH3 : ∀ x y : zal, zfa x (zhX y) = zfa x y
 | .mk c ⟨f, fs⟩, y => by simp only [zfa]; rw [zud]; simp only [zal.factors, zal.coeff, Sl.out_l, ← zjw, zpn fs]
theorem zpn : ∀ l m : List zai, zbV l (zcW m) = zbV l m
 | [], [] => by simp only [zcW]
 | [], _ :: _ => by simp only [zcW, zbV]
 | _ :: _, [] => by simp only [zcW]
 | x :: xs, y :: ys => by simp only [zcW, zbV, zDG x, zpn xs]
theorem zDG : ∀ x y : zai, zcs x (zdz y) = zcs x y
 | .mk a e, y => by simp only [zcs]; rw [zpk]; simp only [zai.atom, zai.exp, zAj a]
theorem zAj : ∀ x y : zan, zb0 x (zgv y) = zb0 x y
 | .mk k r ⟨f1, as⟩ f ⟨f2, is⟩ o b, y => by
   simp only [zb0]; rw [zmf]
   simp only [zan.kind, zan.row, zan.args, zan.func, zan.items, zan.op, zan.bound, Sl.out_l, ← zrW, ← zpi, zAk as, zye is]
theorem zAk : ∀ l m : List (Sl zal), zfX l (ziM m) = zfX l m
 | [], [] => by simp only [ziM]
 | [], ⟨_, _⟩ :: _ => by simp only [ziM, zfX]
 | _ :: _, [] => by simp only [ziM]
 | ⟨_, x⟩ :: xs, ⟨_, y⟩ :: ys => by simp only [ziM, zfX, Sl.out_l, zmh x, zAk xs]
theorem zmh : ∀ l m : List zal, zdu l (zeT m) = zdu l m
 | [], [] => by simp only [zeT]
 | [], _ :: _ => by simp only [zeT, zdu]
 | _ :: _, [] => by simp only [zeT]
 | x :: xs, y :: ys => by simp only [zeT, zdu, zH3 x, zmh xs]
theorem zye : ∀ l m : List zad, zcR l (zgk m) = zcR l m
 | [], [] => by simp only [zgk]
 | [], _ :: _ => by simp only [zgk, zcR]
 | _ :: _, [] => by simp only [zgk]
 | x :: xs, y :: ys => by simp only [zgk, zcR, zAi x, zye xs]
theorem zAi : ∀ x y : zad, zcS x (zhA y) = zcS x y
 | .mk v ⟨f, l⟩, y => by simp only [zcS]; rw [zrf]; simp only [zad.value, zad.ann, zii, Sl.out_l, zmh l]
end
theorem zFm (r : zbw) : zok r r = 0 := by unfold zok; rw [ziN, ziN]; rfl
theorem zyb (v : Val) : zgW v v = 0 := by unfold zgW; rw [ziN, ziN, zDE]; rfl
theorem zv9 (b : Int) : orI 0 b = b := by unfold orI; rw [if_pos rfl]
mutual
theorem zDD : ∀ x : zal, zfa x x = 0
 | .mk c ⟨f, fs⟩ => by simp only [zfa, zal.factors, zal.coeff, zri fs, zv9, ziN]
theorem zri : ∀ l : List zai, zbV l l = 0
 | [] => by simp only [zbV]
 | x :: xs => by simp only [zbV, zzn x, zri xs, zv9]
theorem zzn : ∀ x : zai, zcs x x = 0
 | .mk a e => by simp only [zcs, zai.atom, zai.exp, zDI a, zv9, ziN]
theorem zDI : ∀ x : zan, zb0 x x = 0
 | .mk k r ⟨f1, as⟩ f ⟨f2, is⟩ o b => by
   simp only [zb0, zan.kind, zan.row, zan.args, zan.func, zan.items, zan.op, zan.bound, zwk as, zuf is, zv9, ziN, zFm, zyb]
theorem zwk : ∀ l : List (Sl zal), zfX l l = 0
 | [] => by simp only [zfX]
 | ⟨_, x⟩ :: xs => by simp only [zfX, zlu x, zwk xs, zv9]
theorem zlu : ∀ l : List zal, zdu l l = 0
 | [] => by simp only [zdu]
 | x :: xs => by simp only [zdu, zDD x, zlu xs, zv9]
theorem zuf : ∀ l : List zad, zcR l l = 0
 | [] => by simp only [zcR]
 | x :: xs => by simp only [zcR, zDF x, zuf xs, zv9]
theorem zDF : ∀ x : zad, zcS x x = 0
 | .mk v ⟨f, l⟩ => by simp only [zcS, zad.value, zad.ann, zyb, zlu l, zv9]
end
theorem zNk (a : Sl zal) : zcH a (zii a) = 0 := by unfold zcH zii; rw [Sl.out_l, zmh, zlu]
mutual
theorem zH2 : ∀ x y : zal, zfa (zhX x) y = zfa x y
 | .mk c ⟨f, fs⟩, y => by rw [zlR, zlR]; simp only [zhX, zal.factors, zal.coeff, Sl.out_l, zpj fs]
theorem zpj : ∀ l m : List zai, zbV (zcW l) m = zbV l m
 | [], _ => by simp only [zcW]
 | _ :: _, [] => by simp only [zcW, zbV]
 | x :: xs, y :: ys => by simp only [zcW, zbV, zDB x, zpj xs]
theorem zDB : ∀ x y : zai, zcs (zdz x) y = zcs x y
 | .mk a e, y => by simp only [zdz, zcs, zAg a]
theorem zAg : ∀ x y : zan, zb0 (zgv x) y = zb0 x y
 | .mk k r ⟨f1, as⟩ f ⟨f2, is⟩ o b, y => by
   rw [zlT, zlT]
   simp only [zgv, zan.kind, zan.row, zan.args, zan.func, zan.items, zan.op, zan.bound, Sl.out_l, zAh as, zx9 is]
theorem zAh : ∀ l m : List (Sl zal), zfX (ziM l) m = zfX l m
 | [], _ => by simp only [ziM]
 | ⟨_, _⟩ :: _, [] => by rw [zjd, zjd]; simp only [ziM, zwC]
 | ⟨_, x⟩ :: xs, ⟨_, y⟩ :: ys => by
   have h := zAh xs ys
   rw [zjd, zjd] at h
   rw [zjd, zjd]; simp only [ziM, zwC, zcH, Sl.out_l, zph x, h]
theorem zph : ∀ l m : List zal, zdu (zeT l) m = zdu l m
 | [], _ => by simp only [zeT]
 | _ :: _, [] => by simp only [zeT, zdu]
 | x :: xs, y :: ys => by simp only [zeT, zdu, zH2 x, zph xs]
theorem zx9 : ∀ l m : List zad, zcR (zgk l) m = zcR l m
 | [], _ => by simp only [zgk]
 | _ :: _, [] => by simp only [zgk, zcR]
 | x :: xs, y :: ys => by simp only [zgk, zcR, zAf x, zx9 xs]
theorem zAf : ∀ x y : zad, zcS (zhA x) y = zcS x y
 | .mk v ⟨f, l⟩, y => by rw [zlS, zlS]; simp only [zhA, zad.value, zad.ann, zcH, Sl.out_l, zph l]
end
theorem zH5 (x y : zan) : zb0 (zgv x) (zgv y) = zb0 x y := by rw [zAj, zAg]
theorem zH4 (x y : zad) : zcS (zhA x) (zhA y) = zcS x y := by rw [zAi, zAf]
theorem zKs (x y : Sl zal) : zcH (zii x) (zii y) = zcH x y := by unfold zcH zii; rw [Sl.out_l, Sl.out_l, zmh, zph]
theorem zBK {α : Type} {f : α → α → Bool} {g : α → α} (h : ∀ x y, f (g x) (g y) = f x y) : ∀ l : List α, adj f (l.map g) = adj f l
 | [] => rfl
 | [_] => rfl
 | x :: y :: l => by
   have := zBK h (y :: l)
   simp only [List.map_cons] at this ⊢
   simp only [adj, h, this]
end Go.Ev
namespace Go.Ev
theorem zJu {α : Type} (g : α → α) (l : List α) : zC1 (l.map g) = (zC1 l).map g := by
 match l with
 | [] => rfl
 | [_] => rfl
 | _ :: _ :: _ => rfl
theorem zwh (t : zal) : (zhX t).coeff = t.coeff := by rw [zud]; rfl
theorem ziL (t : zal) : (zhX t).factors.l = t.factors.l.map zdz := by rw [zud]; simp only [zal.factors, Sl.out_l]
theorem zrg (f : zai) : (zdz f).exp = f.exp := by rw [zpk]; rfl
theorem zjx (f : zai) : (zdz f).atom = zgv f.atom := by rw [zpk]; rfl
theorem zs3 (x : zan) : (zgv x).kind = x.kind := by rw [zmf]; rfl
theorem zm8 (x : zan) : (zgv x).items.l = x.items.l.map zhA := by rw [zmf]; simp only [zan.items, Sl.out_l]
theorem zmg (x : zan) : (zgv x).args.l = x.args.l.map zii := by rw [zmf]; simp only [zan.args, Sl.out_l]
theorem zpl (a : Sl zal) : (zii a).l = a.l.map zhX := by rw [zGD, Sl.out_l]
theorem zwg (a : Sl zal) : zem (zii a) = zem a := by
 unfold zem
 rw [zpl, List.any_map]
 congr 1; funext t
 simp only [Function.comp_apply, ziL, List.length_map]
theorem zH7 (a : Sl zal) : zk5 (zii a) = zk5 a := by
 unfold zk5
 rw [zpl, zJu]
 cases zC1 a.l with
 | none => rfl
 | some t =>
   simp only [Option.map_some, zwh, ziL, zJu]
   cases zC1 t.factors.l with
   | none => rfl
   | some f => simp only [Option.map_some, zrg, zjx, zs3]
theorem zHr (a : Sl zal) : zqU (zii a) = zqU a := by
 unfold zqU
 rw [zwg, zH7, zpl, List.length_map]
theorem zBd (f : zai) : zd5 (zdz f) = zd5 f := by
 unfold zd5; rw [zrg, zjx, zm8, List.length_map]
theorem zE6 (t : zal) : zfE (zhX t) = zfE t := by
 unfold zfE
 rw [ziL, List.length_map, List.all_map]
 congr 2; funext f; exact zBd f
theorem zBe (a : Sl zal) : zof (zii a) = zof a := by
 have h1 : zjs (zii a) = zjs a := by unfold zjs zii; rw [Sl.out_l, zm0]
 have h2 : zlq (zii a) = zlq a := by unfold zlq zii; rw [Sl.out_l, zmV]
 unfold zof
 rw [h1, h2, zpl, List.length_map, List.all_map]
 congr 2; funext t; exact zE6 t
theorem zJF (fn : Int) (its : Sl zad) (its' : Sl zad) (h : its'.l = its.l.map zhA) (op : Int) (d : Val) : zj6 fn its' op d = zj6 fn its op d := by
 unfold zj6
 rw [h, List.all_map]
 congr 2; funext w
 simp only [Function.comp_apply, zr6]
 rw [zrf]; rfl
theorem zJB (x y : zad) : zq1 (zhA x) (zhA y) = zq1 x y := by
 unfold zq1 zcG
 simp only [zcR, zH4]
theorem ztM (x : zan) : zj5 (zgv x) = zj5 x := by
 unfold zj5
 rw [zm8, List.length_map, zmf]; rfl
theorem zS6 (x : zan) : k1B (zgv x) = k1B x := by
 unfold k1B
 rw [ztM, zmg, List.length_map]
 congr 1
 match x.args.l with
 | [] => rfl
 | [_] => rfl
 | [a, b] => simp only [List.map_cons, List.map_nil, zn7, zKs]
 | _ :: _ :: _ :: _ => rfl
theorem zS5 (x : zan) : k2B (zgv x) = k2B x := by
 unfold k2B
 rw [ztM, zmg, List.length_map]
 congr 1
 match x.args.l with
 | [] => rfl
 | [a] => simp only [List.map_cons, List.map_nil, zHr]
 | _ :: _ :: _ => rfl
theorem zS4 (x : zan) : k3B (zgv x) = k3B x := by
 unfold k3B
 rw [ztM, zmg, List.length_map]
 congr 1
 match x.args.l with
 | [] => rfl
 | [a] => simp only [List.map_cons, List.map_nil, zwg]
 | _ :: _ :: _ => rfl
theorem zOf (l : List zai) : adj (fun (x y : zai) => decide (zb0 x.atom y.atom < 0)) (l.map zdz) = adj (fun (x y : zai) => decide (zb0 x.atom y.atom < 0)) l :=
 zBK (fun x y => by rw [zjx, zjx, zH5]) l
theorem zFx (l : List zal) : adj (fun (x y : zal) => decide (zbF x.factors y.factors < 0)) (l.map zhX) = adj (fun (x y : zal) => decide (zbF x.factors y.factors < 0)) l :=
 zBK (fun x y => by simp only [zbF, ziL, ← zjw, zpn, zpj]; first | done | rfl) l
mutual
theorem zLd : ∀ x : zal, ztq (zhX x) = ztq x
 | .mk c ⟨f, fs⟩ => by
   have h := zxg fs
   rw [zoH, zoH, ziL, zwh, zOf]
   simp only [zal.coeff, zal.factors]
   rw [← zjw, h]
theorem zxg : ∀ l : List zai, zlm (zcW l) = zlm l
 | [] => rfl
 | x :: xs => by simp only [zcW, zlm, zGQ x, zxg xs]
theorem zGQ : ∀ x : zai, zgj (zdz x) = zgj x
 | .mk a e => by
   have h := zLf a
   rw [zh9, zh9, zrg, zjx, zs3]
   simp only [zai.atom, zai.exp, h]
theorem zLf : ∀ x : zan, zgw (zgv x) = zgw x
 | .mk k r ⟨f1, as⟩ f ⟨f2, is⟩ o b => by
   have h1 := zFM as
   have h2 := zCl is
   rw [zln, zln, ztM, zS6, zS5, zS4, zmg, zs3, List.length_map]
   have h4 : k4B (zgv (.mk k r ⟨f1, as⟩ f ⟨f2, is⟩ o b)) = k4B (.mk k r ⟨f1, as⟩ f ⟨f2, is⟩ o b) := by
    unfold k4B
    rw [zmg, zm8, List.length_map, List.length_map, zBK zJB, zJF _ (zan.items (.mk k r ⟨f1, as⟩ f ⟨f2, is⟩ o b)) _ (zm8 _)]
    simp only [zan.args, zan.items]
    rw [← zpi, h2, zmf]
    simp only [zan.func, zan.op, zan.bound]
   rw [h4]
   simp only [zan.args]
   rw [← zrW, h1, zmf]
   simp only [zan.row]
theorem zFM : ∀ l : List (Sl zal), zww (ziM l) = zww l
 | [] => rfl
 | ⟨f, x⟩ :: xs => by
   have h := ztp x
   have h2 := zFM xs
   rw [zn1] at h2 ⊢
   rw [zn1] at h2 ⊢
   have e : zbZ (zii ⟨f, x⟩) = zbZ ⟨f, x⟩ := by
    unfold zbZ
    rw [zBe, zpl, zFx, ← zme, h]
   have e2 : Sl.out (zeT x) = zii ⟨f, x⟩ := rfl
   simp only [ziM, List.all_cons, h2, e2, e]
   rw [zpl, List.length_map]
theorem ztp : ∀ l : List zal, zdl (zeT l) = zdl l
 | [] => rfl
 | x :: xs => by simp only [zeT, zdl, zLd x, ztp xs]
theorem zCl : ∀ l : List zad, zsy (zgk l) = zsy l
 | [] => rfl
 | x :: xs => by simp only [zgk, zsy, zLe x, zCl xs]
theorem zLe : ∀ x : zad, zAw (zhA x) = zAw x
 | .mk v ⟨f, x⟩ => by
   have h := ztp x
   have e : zbZ (zii ⟨f, x⟩) = zbZ ⟨f, x⟩ := by
    unfold zbZ
    rw [zBe, zpl, zFx, ← zme, h]
   rw [zrJ, zrJ, zrf]
   simp only [zad.ann]
   rw [e, zpl, List.length_map]
end
theorem zIE (a : Sl zal) : zbZ (zii a) = zbZ a := by
 unfold zbZ
 rw [zBe, zpl, zFx, ← zme, ztp]
theorem zHd {a : Sl zal} (hv : zbZ a = true) (hw : zbv a.l) : zcu (zcp a) = (zii a, 0) := by
 have hv' := hv
 unfold zbZ at hv'
 simp only [Bool.and_eq_true] at hv'
 obtain ⟨⟨hf, hvt⟩, _⟩ := hv'
 unfold zof zjs at hf
 simp only [Bool.and_eq_true, decide_eq_true_eq] at hf
 have h := zG6 8 a (by omega) hvt hw [] zP4
 rw [List.append_nil] at h
 unfold zcu
 rw [h]
 simp only
 rw [zIE, zLh, hv]
 simp
theorem zLO {s : Str} {a : Sl zal} (h : zcu s = (a, 0)) : zbZ a = true ∧ zcp a = s := by
 unfold zcu at h
 revert h
 rcases zlr 9 s with ⟨x, ok, r⟩
 simp only
 split
 · rename_i hc
   intro h
   simp only [Prod.mk.injEq, and_true] at h
   simp only [Bool.and_eq_true, beq_iff_eq] at hc
   rw [← h]; exact ⟨hc.1.2, hc.2⟩
 · intro h
   simp at h
theorem zHe (s : Str) : (zcu s).2 = 0 ∨ zcu s = (Sl.nil, 3) := by
 unfold zcu
 rcases zlr 9 s with ⟨x, ok, r⟩
 simp only
 split
 · exact .inl rfl
 · exact .inr rfl
end Go.Ev
namespace Go.Ev
instance (n : Int) : Decidable (zld n) := inferInstanceAs (Decidable (_ ∧ _))
theorem in0 : zld 0 := by decide
theorem zCR {s : Str} (h : (zi8 s).2 = true) : zld (zi8 s).1 := by
 unfold zi8 at h ⊢
 cases he : Lib.atoiAll s with
 | ok v => exact Lib.atoiAll_bounds he
 | _ => rw [he] at h; cases h
theorem zC3 {s r : Str} {n : Int} (h : zg5 s = (n, true, r)) : zld n ∧ r.length ≤ s.length := by
 have h2 := zjm zcD s
 unfold zg5 at h
 obtain ⟨rfl, h'⟩ := Prod.mk.inj h
 obtain ⟨h3, rfl⟩ := Prod.mk.inj h'
 exact ⟨zCR h3, by omega⟩
theorem zLg (s : Str) : (zlV s).length ≤ s.length := by
 induction s using zlV.induct with
 | case1 => exact Nat.le_refl _
 | case2 b => exact Nat.le_refl _
 | case3 b c s h ih => rw [zlV, if_pos h]; simp; omega
 | case4 b c s h ih => rw [zlV, if_neg h]; simp at ih ⊢; omega
theorem zMB {s : Str} (h : (ze8 s).2 = 0) : zwv (ze8 s).1 ∧ (ze8 s).1.text.length ≤ s.length := by
 unfold ze8 at h ⊢
 split
 · exact ⟨⟨by decide, by decide⟩, Nat.zero_le _⟩
 · rename_i h1; rw [if_neg h1] at h
   split
   · exact ⟨⟨by decide, by decide⟩, Nat.zero_le _⟩
   · rename_i h2; rw [if_neg h2] at h
     cases hu : zia s with
     | some t =>
       rw [hu] at h
       simp only at h ⊢
       split
       · rename_i h3; rw [if_pos h3] at h; cases h
       · refine ⟨⟨by simp only; decide, by simp only; decide⟩, ?_⟩
         unfold zia at hu
         cases s with
         | nil => cases hu
         | cons b t2 =>
           simp only at hu
           split at hu
           · cases hu
             have := zLg t2.dropLast
             simp only [List.length_dropLast, List.length_cons] at *; omega
           · cases hu
     | none =>
       rw [hu] at h
       simp only at h ⊢
       split
       · rename_i h3; rw [if_pos h3] at h
         split
         · rename_i h4; exact ⟨⟨by simp only; decide, zCR h4⟩, Nat.zero_le _⟩
         · rename_i h4; rw [if_neg h4] at h; cases h
       · rename_i h3; rw [if_neg h3] at h; cases h
theorem zz3 {s r : Str} {v : Val} (h : ze9 s = (v, true, r)) : zwv v ∧ v.text.length + r.length ≤ s.length := by
 unfold ze9 at h
 split at h
 · split at h
   · cases h
   · obtain ⟨rfl, h'⟩ := Prod.mk.inj h
     obtain ⟨h3, rfl⟩ := Prod.mk.inj h'
     have := zMB (by simpa using h3)
     refine ⟨this.1, ?_⟩
     have h4 := this.2
     rw [List.length_take] at h4
     rw [List.length_drop]
     have := h4
     rename_i n hq _
     by_cases hn : n + 2 ≤ s.length
     · omega
     · rw [show s.length - (n + 2) = 0 by omega]; omega
 · obtain ⟨rfl, h'⟩ := Prod.mk.inj h
   obtain ⟨h3, rfl⟩ := Prod.mk.inj h'
   have h2 := zjm zG0 s
   have := zMB (by simpa using h3)
   exact ⟨this.1, by omega⟩
theorem zCB {s : Str} (h : (zhK s).2 = 0) : zld (zhK s).1 := by
 unfold zhK at h ⊢
 split
 · rename_i h1; rw [if_pos h1] at h; cases h
 · rename_i h1; rw [if_neg h1] at h
   split
   · rename_i h2; rw [if_pos h2] at h; cases h
   · rename_i h2; rw [if_neg h2] at h
     cases he : Lib.atoiAll s with
     | ok v => exact Lib.atoiAll_bounds he
     | _ => rw [he] at h; cases h
theorem zPP {s : Str} (h : (zic s).2 = 0) : zu0 (zic s).1 ∧ 1 ≤ s.length := by
 unfold zic at h ⊢
 split
 · rename_i h1; rw [if_pos h1] at h
   split
   · rename_i h2; rw [if_pos h2] at h; cases h
   · rename_i h2; rw [if_neg h2] at h
     split
     · rename_i h3
       refine ⟨⟨zCB h3.1, zCB h3.2⟩, ?_⟩
       cases s with
       | nil => cases h1
       | cons b s => simp
     · rename_i h3; rw [if_neg h3] at h; cases h
 · rename_i h1; rw [if_neg h1] at h; cases h
def okA (ann : znd) : Prop := ∀ s a r, ann s = (a, true, r) → zbv a.l ∧ zak a.l + 5 * r.length ≤ 5 * s.length
theorem zgA {p s : Str} {c : Bool} {r : Str} (h : zaP p s = (c, r)) : r.length + (if c then p.length else 0) = s.length := zCr h
theorem zxn (l : List zad) (x : zad) : za9 (l ++ [x]) = za9 l + zec x + 1 := by
 induction l with
 | nil => simp [za9]
 | cons y l ih => simp only [List.cons_append, za9, ih]; omega
theorem ztv (l : List zai) (x : zai) : zaB (l ++ [x]) = zaB l + zc4 x + 1 := by
 induction l with
 | nil => simp [zaB]
 | cons y l ih => simp only [List.cons_append, zaB, ih]; omega
theorem zxl (l : List zal) (x : zal) : zak (l ++ [x]) = zak l + zcF x + 1 := by
 induction l with
 | nil => simp [zak]
 | cons y l ih => simp only [List.cons_append, zak, ih]; omega
theorem zxd (l : List zad) (x : zad) : zka (l ++ [x]) ↔ zka l ∧ zxe x := by
 induction l with
 | nil => simp [zka]
 | cons y l ih => simp only [List.cons_append, zka, ih, and_assoc]
theorem ztn (l : List zai) (x : zai) : zgO (l ++ [x]) ↔ zgO l ∧ zhv x := by
 induction l with
 | nil => simp [zgO]
 | cons y l ih => simp only [List.cons_append, zgO, ih, and_assoc]
theorem zxc (l : List zal) (x : zal) : zbv (l ++ [x]) ↔ zbv l ∧ zqE x := by
 induction l with
 | nil => simp [zbv]
 | cons y l ih => simp only [List.cons_append, zbv, ih, and_assoc]
theorem zLU {ann : znd} (h : okA ann) : ∀ (k : Nat) (acc : List zad) (s : Str) (l : List zad) (r : Str), zjq ann k acc s = (l, true, r) → zka acc → zka l ∧ za9 l + 5 * r.length ≤ za9 acc + 5 * s.length := by
 intro k
 induction k with
 | zero => intro acc s l r e; cases e
 | succ k ih =>
   intro acc s l r e ha
   rw [zjq] at e
   rcases hl : ze9 s with ⟨v, ok, s1⟩
   rw [hl] at e
   cases ok
   · cases e
   · obtain ⟨hv, hvl⟩ := zz3 hl
     rcases ht : zaP zp3 s1 with ⟨c, s2⟩
     simp only [ht, if_true] at e
     cases c
     · cases e
     · have h2 := zgA ht
       rcases hA : ann s2 with ⟨a, is, s3⟩
       simp only [hA, if_true] at e
       cases is
       · cases e
       · obtain ⟨hw, hs⟩ := h s2 a s3 hA
         rcases hm : zaP zkZ s3 with ⟨d, s4⟩
         have h3 := zgA hm
         simp only [hm, if_true] at e
         have hz : zec (zad.mk v a) = zak a.l + v.text.length + 1 := ziG _
         have hwi : zxe (zad.mk v a) := (zqF _).2 ⟨hv, hw⟩
         simp only [if_true, zp3, zkZ, List.length_cons, List.length_nil] at h2 h3
         cases d
         · cases e
           refine ⟨(zxd _ _).2 ⟨ha, hwi⟩, ?_⟩
           rw [zxn, hz]; simp only [Bool.false_eq_true, if_false] at h3; omega
         · obtain ⟨h5, h6⟩ := ih _ _ _ _ e ((zxd _ _).2 ⟨ha, hwi⟩)
           refine ⟨h5, ?_⟩
           rw [zxn, hz] at h6; simp only [if_true] at h3; omega
theorem zJO (z : UInt8) : ∀ (l : List Str) (i : Int) (s : Str), (zch z l i s).2.length ≤ s.length ∧ ((zch z l i s).1 = -1 ∨ i ≤ (zch z l i s).1 ∧ (zch z l i s).1 < i + l.length) := by
 intro l
 induction l with
 | nil => intro i s; exact ⟨Nat.le_refl _, .inl rfl⟩
 | cons w l ih =>
   intro i s; rw [zch]; split
   · refine ⟨?_, .inr ?_⟩
     · unfold zaP; split <;> simp
     · simp only [List.length_cons]; omega
   · obtain ⟨h1, h2⟩ := ih (i + 1) s
     refine ⟨h1, ?_⟩
     rcases h2 with h2 | h2
     · exact .inl h2
     · right; simp only [List.length_cons]; omega
theorem zNf {ann : znd} (h : okA ann) (s : Str) (x : zan) (r : Str) (e : zr5 ann s = (x, true, r)) : zhG x ∧ zbx x + 5 * r.length ≤ 5 * s.length + 1 := by
 unfold zr5 at e
 have h1 := zJO 123 zc9 0 s
 rcases hi : zch 123 zc9 0 s with ⟨fn, s1⟩
 rw [hi] at e h1
 simp only at e h1
 split at e
 · cases e
 · rcases hI : zjq ann (s1.length + 1) [] s1 with ⟨its, ok, s2⟩
   rw [hI] at e
   cases ok
   · cases e
   · obtain ⟨h2, h3⟩ := zLU h _ _ _ _ _ hI trivial
     rcases ht : zaP zkE s2 with ⟨c, s3⟩
     have h4 := zgA ht
     simp only [ht, if_true] at e
     cases c
     · cases e
     · have h5 := zJO 32 zc1 0 s3
       rcases hj : zch 32 zc1 0 s3 with ⟨i, s4⟩
       rcases hl : ze9 s4 with ⟨v, ok, s5⟩
       rw [hj] at h5
       simp only [hj, hl, if_true] at e
       obtain ⟨rfl, e'⟩ := Prod.mk.inj e
       obtain ⟨e1, rfl⟩ := Prod.mk.inj e'
       rw [Bool.and_eq_true, decide_eq_true_eq] at e1
       obtain ⟨e1, rfl⟩ := e1
       obtain ⟨hv, hvl⟩ := zz3 hl
       have hn : (zc9.length : Int) = 4 := rfl
       have ho : (zc1.length : Int) = 6 := rfl
       simp only at h5
       refine ⟨(ziF _).2 ⟨by simp only [zan.kind]; decide, ⟨by simp only [zan.row]; decide, by simp only [zan.row]; decide⟩, trivial, ⟨by simp only [zan.func]; omega, by simp only [zan.func]; omega⟩, by simpa [zan.items] using h2, ⟨by simp only [zan.op]; omega, by simp only [zan.op]; omega⟩, hv⟩, ?_⟩
       rw [zcq]
       simp only [zan.args, zan.items, zan.bound, Sl.out_l, za9, Sl.nil_l, zcv] at h3 ⊢
       simp only [if_true] at h4
       omega
theorem zLY (s : Str) : (zhO s).2.length + (if (zhO s).1 = 0 then 0 else 5) ≤ s.length := by
 unfold zhO
 split
 · rename_i h; have := zgA (p := zeY) (s := s) (c := true) (r := (zaP zeY s).2) (by rw [← h])
   simp [zeY] at this ⊢; omega
 · split
   · rename_i h; have := zgA (p := zeZ) (s := s) (c := true) (r := (zaP zeZ s).2) (by rw [← h])
     simp [zeZ] at this ⊢; omega
   · split
     · rename_i h; have := zgA (p := zcZ) (s := s) (c := true) (r := (zaP zcZ s).2) (by rw [← h])
       simp [zcZ] at this ⊢; omega
     · split
       · rename_i h; have := zgA (p := ziz) (s := s) (c := true) (r := (zaP ziz s).2) (by rw [← h])
         simp [ziz] at this ⊢; omega
       · simp
theorem zNN (s : Str) : 0 ≤ (zhO s).1 ∧ (zhO s).1 ≤ 4 := by
 unfold zhO
 split
 · simp
 · split
   · simp
   · split
     · simp
     · split
       · simp
       · simp
theorem zKG {k : Int} {l : List (Sl zal)} (hk : 0 ≤ k ∧ k ≤ 4) (hw : zvY l) : zhG (zjC k l) := by
 refine (ziF _).2 ⟨⟨by simp only [zjC, zan.kind]; omega, by simp only [zjC, zan.kind]; omega⟩, ⟨in0, in0⟩, ?_, in0, trivial, in0, in0, in0⟩
 simpa [zjC, zan.args] using hw
theorem zOc {ann : znd} (h : okA ann) (s : Str) (x : zan) (r : Str) (e : zqg ann s = (x, true, r)) : zhG x ∧ zbx x + 4 + 5 * r.length ≤ 5 * s.length := by
 unfold zqg at e
 have h0 := zLY s
 have hk := zNN s
 rcases hh : zhO s with ⟨k, s0⟩
 rw [hh] at e h0 hk
 simp only at e h0 hk
 by_cases hk0 : k = 0
 · rw [if_pos hk0] at e
   obtain ⟨rfl, e'⟩ := Prod.mk.inj e
   obtain ⟨e1, rfl⟩ := Prod.mk.inj e'
   obtain ⟨h1, h2⟩ := zPP (by simpa using e1)
   have h3 := zjm zFU s0
   refine ⟨(ziF _).2 ⟨in0, h1, trivial, in0, trivial, in0, in0, in0⟩, ?_⟩
   rw [zcq]
   simp only [zan.args, zan.items, zan.bound, za9, Sl.nil_l, zcv, List.length_nil]
   omega
 · rw [if_neg hk0] at e
   rw [if_neg hk0] at h0
   by_cases hk4 : k = 4
   · rw [if_pos hk4] at e
     rcases hT : zr5 ann s0 with ⟨y, ok, s1⟩
     rw [hT] at e
     cases ok
     · cases e
     · obtain ⟨h1, h2⟩ := zNf h _ _ _ hT
       simp only [if_true] at e
       obtain ⟨rfl, e'⟩ := Prod.mk.inj e
       obtain ⟨e1, rfl⟩ := Prod.mk.inj e'
       have h3 := zgA (p := [93]) (s := s1) (c := true) (r := (zaP [93] s1).2) (by rw [← e1])
       simp only [if_true, List.length_cons, List.length_nil] at h3
       exact ⟨h1, by omega⟩
   · rw [if_neg hk4] at e
     rcases hA : ann s0 with ⟨a, ok, s1⟩
     rw [hA] at e
     cases ok
     · cases e
     · obtain ⟨h1, h2⟩ := h _ _ _ hA
       simp only [if_true] at e
       by_cases hk1 : k = 1
       · rw [if_pos hk1] at e
         rcases ht : zaP zp2 s1 with ⟨c, s2⟩
         have h3 := zgA ht
         simp only [ht] at e
         cases c
         · cases e
         · rcases hB : ann s2 with ⟨b, ok2, s3⟩
           simp only [hB, if_true] at e
           cases ok2
           · cases e
           · obtain ⟨h4, h5⟩ := h _ _ _ hB
             simp only [if_true] at e
             obtain ⟨rfl, e'⟩ := Prod.mk.inj e
             obtain ⟨e1, rfl⟩ := Prod.mk.inj e'
             have h6 := zgA (p := [93]) (s := s3) (c := true) (r := (zaP [93] s3).2) (by rw [← e1])
             simp only [if_true, List.length_cons, List.length_nil] at h6 h3
             refine ⟨zKG hk ⟨h1, h4, trivial⟩, ?_⟩
             rw [zcq]
             simp only [zjC, zan.args, zan.items, zan.bound, za9, Sl.nil_l, Sl.out_l, zcv, List.length_nil]
             omega
       · rw [if_neg hk1] at e
         obtain ⟨rfl, e'⟩ := Prod.mk.inj e
         obtain ⟨e1, rfl⟩ := Prod.mk.inj e'
         have h6 := zgA (p := [93]) (s := s1) (c := true) (r := (zaP [93] s1).2) (by rw [← e1])
         simp only [if_true, List.length_cons, List.length_nil] at h6
         refine ⟨zKG hk ⟨h1, trivial⟩, ?_⟩
         rw [zcq]
         simp only [zjC, zan.args, zan.items, zan.bound, za9, Sl.nil_l, Sl.out_l, zcv, List.length_nil]
         omega
theorem zJ1 {ann : znd} (h : okA ann) (s : Str) (x : zai) (r : Str) (e : znw ann s = (x, true, r)) : zhv x ∧ zc4 x + 3 + 5 * r.length ≤ 5 * s.length := by
 unfold znw at e
 rcases hA : zqg ann s with ⟨a, ok, s1⟩
 rw [hA] at e
 cases ok
 · cases e
 · obtain ⟨h1, h2⟩ := zOc h _ _ _ hA
   rcases ht : zaP [94] s1 with ⟨c, s2⟩
   have h3 := zgA ht
   simp only [ht, if_true] at e
   cases c
   · cases e
     refine ⟨(zlU _).2 ⟨h1, (show zld 1 by decide)⟩, ?_⟩
     rw [zcA]; simp only [zai.atom]; simp only [Bool.false_eq_true, if_false] at h3; omega
   · rcases hN : zg5 s2 with ⟨n, ok, s3⟩
     simp only [hN, if_true] at e
     cases e
     obtain ⟨h4, h5⟩ := zC3 hN
     refine ⟨(zlU _).2 ⟨h1, h4⟩, ?_⟩
     rw [zcA]; simp only [zai.atom]; simp only [if_true] at h3; omega
theorem zHK {ann : znd} (h : okA ann) : ∀ (k : Nat) (acc : List zai) (s : Str) (l : List zai) (r : Str), zhx ann k acc s = (l, true, r) → zgO acc → zgO l ∧ zaB l + 2 + 5 * r.length ≤ zaB acc + 5 * s.length := by
 intro k
 induction k with
 | zero => intro acc s l r e; cases e
 | succ k ih =>
   intro acc s l r e ha
   rw [zhx] at e
   rcases hF : znw ann s with ⟨f, ok, s1⟩
   rw [hF] at e
   cases ok
   · cases e
   · obtain ⟨h1, h2⟩ := zJ1 h _ _ _ hF
     rcases ht : zaP [42] s1 with ⟨c, s2⟩
     have h3 := zgA ht
     simp only [ht, if_true] at e
     cases c
     · cases e
       refine ⟨(ztn _ _).2 ⟨ha, h1⟩, ?_⟩
       rw [ztv]; simp only [Bool.false_eq_true, if_false] at h3; omega
     · obtain ⟨h5, h6⟩ := ih _ _ _ _ e ((ztn _ _).2 ⟨ha, h1⟩)
       refine ⟨h5, ?_⟩
       rw [ztv] at h6; simp only [if_true] at h3; omega
theorem zNg {ann : znd} (h : okA ann) (s : Str) (x : zal) (r : Str) (e : ztN ann s = (x, true, r)) : zqE x ∧ zcF x + 1 + 5 * r.length ≤ 5 * s.length := by
 have hF : ∀ (c : Int) (t : Str), zld c → zv7 ann c t = (x, true, r) → zqE x ∧ zcF x + 1 + 5 * r.length ≤ 5 * t.length := by
  intro c t hc e
  unfold zv7 at e
  rcases hf : zhx ann (t.length + 1) [] t with ⟨fs, ok, s1⟩
  rw [hf] at e
  simp only at e
  obtain ⟨rfl, e'⟩ := Prod.mk.inj e
  obtain ⟨rfl, rfl⟩ := Prod.mk.inj e'
  obtain ⟨h1, h2⟩ := zHK h _ _ _ _ _ hf trivial
  refine ⟨(zqD _).2 ⟨hc, by simpa [zal.factors] using h1⟩, ?_⟩
  rw [zdm]; simp only [zal.factors, Sl.out_l, zaB] at h2 ⊢; omega
 unfold ztN at e
 split at e
 · rename_i hd
   rcases hN : zg5 s with ⟨n, ok, s1⟩
   rw [hN] at e
   cases ok
   · cases e
   · obtain ⟨h4, h5⟩ := zC3 hN
     rcases ht : zaP [42] s1 with ⟨c, s2⟩
     have h3 := zgA ht
     simp only [ht, if_true] at e
     cases c
     · obtain ⟨rfl, e'⟩ := Prod.mk.inj e
       obtain ⟨_, rfl⟩ := Prod.mk.inj e'
       refine ⟨(zqD _).2 ⟨h4, trivial⟩, ?_⟩
       have h6 : s2.length < s.length := by
        have e1 : s2 = s1 := zsQ ht
        subst e1
        have h7 := zjm zcD s
        have e2 : (ztH zcD s).2 = s2 := by unfold zg5 at hN; exact (Prod.mk.inj (Prod.mk.inj hN).2).2
        rw [e2] at h7
        cases s with
        | nil => cases hd
        | cons b s =>
          have : 1 ≤ (ztH zcD (b :: s)).1.length := by
           unfold ztH
           have hb : zcD.contains b = true := by
            rw [zrc]; unfold zmb at hd; simp at hd; unfold zq5; exact hd
           rw [List.takeWhile_cons, if_pos hb]; simp
          omega
       rw [zdm]; simp only [zal.factors, Sl.nil_l, zaB]; omega
     · obtain ⟨h6, h7⟩ := hF n s2 h4 e
       refine ⟨h6, ?_⟩
       simp only [if_true, List.length_cons, List.length_nil] at h3; omega
 · exact hF 1 s (by decide) e
theorem zLk {ann : znd} (h : okA ann) : ∀ (k : Nat) (acc : List zal) (s : Str) (a : Sl zal) (r : Str), zlZ ann k acc s = (a, true, r) → zbv acc → zbv a.l ∧ zak a.l + 5 * r.length ≤ zak acc + 5 * s.length := by
 intro k
 induction k with
 | zero => intro acc s l r e; cases e
 | succ k ih =>
   intro acc s l r e ha
   rw [zlZ] at e
   rcases hT : ztN ann s with ⟨f, ok, s1⟩
   rw [hT] at e
   cases ok
   · cases e
   · obtain ⟨h1, h2⟩ := zNg h _ _ _ hT
     rcases ht : zaP zk0 s1 with ⟨c, s2⟩
     have h3 := zgA ht
     simp only [ht, if_true] at e
     cases c
     · cases e
       refine ⟨by rw [Sl.out_l]; exact (zxc _ _).2 ⟨ha, h1⟩, ?_⟩
       rw [Sl.out_l, zxl]; simp only [Bool.false_eq_true, if_false] at h3; omega
     · obtain ⟨h5, h6⟩ := ih _ _ _ _ e ((zxc _ _).2 ⟨ha, h1⟩)
       refine ⟨h5, ?_⟩
       rw [zxl] at h6; simp only [if_true] at h3; omega
theorem zM5 : ∀ d, okA (zlr d) := by
 intro d
 induction d with
 | zero => intro s a r e; cases e
 | succ d ih =>
   intro s a r e
   rw [zlr] at e
   rcases ht : zaP [48] s with ⟨c, s1⟩
   have h3 := zgA ht
   simp only [ht] at e
   cases c
   · obtain ⟨h1, h2⟩ := zLk ih _ _ _ _ _ e trivial
     refine ⟨h1, ?_⟩
     simp only [zak] at h2; simp only [Bool.false_eq_true, if_false] at h3; omega
   · cases e
     refine ⟨trivial, ?_⟩
     simp only [Sl.nil_l, zak]; simp only [if_true] at h3; omega
end Go.Ev
