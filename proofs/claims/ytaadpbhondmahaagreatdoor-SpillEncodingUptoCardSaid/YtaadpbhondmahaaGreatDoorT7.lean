/- Part of a proof. -/
import Derived.Lib.AtoiAllCases
import Derived.Test.YtaadpbhondmahaaGreatDoorT6
set_option linter.all false
namespace Go.Ev
theorem ze9 (p s : Str) : zaQ p (p ++ s) = (true, s) := by
 unfold zaQ
 rw [if_pos (by simp)]
 simp
theorem zr2 (s : Str) (b : UInt8) : zaQ [b] (b :: s) = (true, s) := ze9 [b] s
theorem zmw (p s : Str) (b : UInt8) (h : s.head? ≠ some b) : zaQ (b :: p) s = (false, s) := by
 unfold zaQ
 rw [if_neg]
 cases s with
 | nil => simp
 | cons c s =>
   simp only [List.head?_cons, ne_eq, yA] at h
   simp [List.isPrefixOf]
   intro e; exact absurd e.symm h
theorem zCj {p s r : Str} (h : zaQ p s = (true, r)) : s = p ++ r := by
 unfold zaQ at h
 split at h
 · rename_i hp
   obtain ⟨t, ht⟩ := List.isPrefixOf_iff_prefix.1 hp
   simp only [YD, true_and] at h
   rw [<- ht] at h ⊢
   simp at h; rw [h]
 · simp at h
theorem zuy {p s r : Str} (h : zaQ p s = (false, r)) : r = s := by
 unfold zaQ at h
 split at h
 · simp at h
 · simp only [YD, true_and] at h; exact h.symm
theorem zEY {p s r : Str} {c : Bool} (h : zaQ p s = (c, r)) : r.length + (if c then p.length else 0) = s.length := by
 cases c
 · rw [zuy h]; simp
 · have := zCj h; rw [this]; simp; omega
theorem zDh {set t s : Str} (ht : ∀ b ∈ t, set.contains b = true) (hs : ∀ b, s.head? = some b -> set.contains b = false) : zvB set (t ++ s) = (t, s) := by
 unfold zvB
 have e2 : s.takeWhile (fun b => set.contains b) = [] /\ s.dropWhile (fun b => set.contains b) = s := by
  cases s with
  | nil => simp
  | cons b s =>
    have := hs b rfl
    simp only [List.takeWhile_cons, List.dropWhile_cons, this, yF, if_false, and_self]
 induction t with
 | nil => simp only [yZ]; rw [e2.1, e2.2]
 | cons b t ih =>
   have hb := ht b yQ
   have := ih fun c hc => ht c (yU _ hc)
   simp only [YD] at this
   simp only [yS, List.takeWhile_cons, List.dropWhile_cons, hb, if_true, this.1, this.2]
theorem zIM (set s : Str) : (zvB set s).1 ++ (zvB set s).2 = s := by
 unfold zvB; exact List.takeWhile_append_dropWhile
theorem zkd (set s : Str) : (zvB set s).1.length + (zvB set s).2.length = s.length := by
 have := congrArg List.length (zIM set s)
 rw [yD] at this; exact this
def zsj (b : UInt8) : Prop := 48 <= b.toNat /\ b.toNat <= 57
theorem zss {b : UInt8} : zcE.contains b = true ↔ zsj b := by
 unfold zsj zcE
 simp only [List.contains_cons, List.contains_nil, Bool.or_false, Bool.or_eq_true, beq_iff_eq, <- UInt8.toNat_inj]
 constructor
 · rintro (h | h | h | h | h | h | h | h | h | h) <;> rw [h] <;> decide
 · intro ⟨h1, h2⟩
   have : b.toNat = 48 ∨ b.toNat = 49 ∨ b.toNat = 50 ∨ b.toNat = 51 ∨ b.toNat = 52 ∨ b.toNat = 53 ∨ b.toNat = 54 ∨ b.toNat = 55 ∨ b.toNat = 56 ∨ b.toNat = 57 := by omega
   simpa using this
def znp (acc : Nat) (s : Str) : Nat := s.foldl (fun a b => a * 10 + (b.toNat - 48)) acc
theorem zqy (a : Nat) (b : UInt8) (s : Str) : znp a (b :: s) = znp (a * 10 + (b.toNat - 48)) s := by unfold znp; rw [List.foldl_cons]
theorem zxx (a : Nat) : znp a [] = a := by unfold znp; rw [List.foldl_nil]
theorem zKJ (a : Nat) (s t : Str) : znp a (s ++ t) = znp (znp a s) t := by unfold znp; rw [List.foldl_append]
theorem zNd (a : Nat) (s : Str) : a <= znp a s := by
 induction s generalizing a with
 | nil => exact yP _
 | cons b s ih => rw [zqy]; exact Nat.le_trans YJ (ih _)
theorem zyi {s : Str} (hs : ∀ b ∈ s, zsj b) : ∀ {acc : Nat}, znp acc s < 18446744073709551616 -> Lib.parseUint10 acc s = .ok (znp acc s) := by
 induction s with
 | nil => intro acc _; rw [zxx]; rfl
 | cons b s ih =>
   intro acc h
   have hb := hs b yQ
   have hg := zNd (acc * 10 + (b.toNat - 48)) s
   rw [zqy] at h ⊢
   rw [Lib.parseUint10, if_pos (show 48 <= b.toNat /\ b.toNat <= 57 from hb), if_neg YJ, if_neg YJ]
   exact ih (fun c hc => hs c (yU _ hc)) h
theorem zFE {d : Nat} (h : d < 10) : zsj (UInt8.ofNat (48 + d)) /\ (UInt8.ofNat (48 + d)).toNat - 48 = d := by
 have : (UInt8.ofNat (48 + d)).toNat = 48 + d := by simp [UInt8.toNat_ofNat']; omega
 unfold zsj; rw [this]; omega
theorem zKI (c : UInt8) (u : Nat) (h : c.toNat - 48 = u) : znp 0 [c] = u := by
 rw [zqy, zxx, Nat.zero_mul, yk, h]
theorem zzq (k u : Nat) (h : u < 10 ^ k) (hk : 0 < k) : (∀ b ∈ zCG k u, zsj b) /\ znp 0 (zCG k u) = u /\ zCG k u ≠ [] /\ (0 < u -> (zCG k u).head? ≠ some 48) := by
 induction k generalizing u with
 | zero => omega
 | succ k ih =>
   rw [zCG]
   by_cases h1 : u < 10
   · rw [if_pos h1]
     obtain ⟨a, b⟩ := zFE h1
     have a' : ∀ c ∈ [UInt8.ofNat (48 + u)], zsj c := by intro c hc; rw [List.mem_singleton] at hc; rw [hc]; exact a
     refine ⟨a', zKI _ _ b, List.cons_ne_nil _ _, fun hu => ?_⟩
     simp only [List.head?_cons, ne_eq, yA]
     intro e
     rw [e] at b
     have : (48 : UInt8).toNat - 48 = u := b
     simp at this; omega
   · rw [if_neg h1]
     have hk' : 0 < k := by
      cases k with
      | zero => simp at h; omega
      | succ k => omega
     obtain ⟨a1, a2, a3, a4⟩ := ih (u / 10) (by rw [Nat.pow_succ] at h; omega) hk'
     obtain ⟨b1, b2⟩ := zFE (d := u % 10) YJ
     refine ⟨fun b hb => ?_, ?_, by simp, fun hu => ?_⟩
     · rcases yu.1 hb with hb | hb
       · exact a1 b hb
       · simp only [List.mem_singleton] at hb; subst hb; exact b1
     · rw [zKJ, a2, zqy, zxx, b2]; omega
     · have := a4 YJ
       cases hd : zCG k (u / 10) with
       | nil => exact absurd hd a3
       | cons c l => rw [hd] at this; simpa using this
theorem zlw {n : Int} (h : 0 <= n) (h2 : n <= 9223372036854775807) : (∀ b ∈ zb8 n, zsj b) /\ znp 0 (zb8 n) = n.toNat /\ zb8 n ≠ [] /\ (0 < n -> (zb8 n).head? ≠ some 48) := by
 unfold zb8; rw [if_neg YJ]
 obtain ⟨a, b, c, d⟩ := zzq 20 n.toNat YJ YJ
 exact ⟨a, b, c, fun h => d YJ⟩
theorem zJs {n : Int} (h : 0 <= n) (h2 : n <= 9223372036854775807) : Lib.atoiAll (zb8 n) = .ok n := by
 obtain ⟨a, b, c, _⟩ := zlw h h2
 cases hd : zb8 n with
 | nil => exact absurd hd c
 | cons x l =>
   rw [hd] at a b
   have hx := a x yQ
   unfold zsj at hx
   rw [Lib.atoiAll_plain x l YJ YJ]
   unfold Lib.parseMag
   rw [if_neg (by simp), zyi a YJ, b]
   unfold Lib.signless
   simp only
   rw [if_neg YJ]
   congr 1; omega
theorem zPo {n : Int} (h : n < 0) (h2 : -9223372036854775808 <= n) : Lib.atoiAll (zb8 n) = .ok n := by
 unfold zb8; rw [if_pos h]
 obtain ⟨a, b, c, _⟩ := zzq 20 n.natAbs YJ YJ
 rw [Lib.atoiAll_minus]
 unfold Lib.parseMag
 rw [if_neg c, zyi a YJ, b]
 unfold Lib.signed
 simp only
 rw [if_neg YJ]
 congr 1; omega
theorem zNH {n : Int} (h : zkY n) : Lib.atoiAll (zb8 n) = .ok n := by
 obtain ⟨h1, h2⟩ := h
 by_cases hn : 0 <= n
 · exact zJs hn h2
 · exact zPo YJ h1
theorem zz2 {n : Int} (h : zkY n) : zj2 (zb8 n) = (n, true) := by unfold zj2; rw [zNH h]
theorem zxg {n : Int} {s : Str} (h0 : 0 <= n) (h : n <= 9223372036854775807) (hs : ∀ b, s.head? = some b -> zcE.contains b = false) : zhy (zb8 n ++ s) = (n, true, s) := by
 obtain ⟨a, _⟩ := zlw h0 h
 unfold zhy
 rw [zDh (fun b hb => zss.2 (a b hb)) hs, zz2 ⟨by omega, h⟩]
theorem zpA (b : UInt8) (s : Str) : zuJ (b :: s) = if b = 39 then 39 :: 39 :: zuJ s else b :: zuJ s := rfl
theorem zG4 (s : Str) : zm6 (zuJ s) = s := by
 induction s with
 | nil => rfl
 | cons b s ih =>
   rw [zpA]
   by_cases h : b = 39
   · rw [if_pos h, zm6, if_pos ⟨rfl, rfl⟩, ih, h]
   · rw [if_neg h]
     cases hs : zuJ s with
     | nil => rw [hs] at ih; rw [<- ih]; rfl
     | cons c l => rw [zm6, if_neg (fun e => h e.1), <- hs, ih]
theorem zKy (s : Str) : zxu (zuJ s) = true := by
 induction s with
 | nil => rfl
 | cons b s ih =>
   rw [zpA]
   by_cases h : b = 39
   · rw [if_pos h, zxu, if_pos ⟨rfl, rfl⟩, ih]
   · rw [if_neg h]
     have hb : (b != 39) = true := by simpa using h
     cases hs : zuJ s with
     | nil => rw [zxu, hb]
     | cons c l => rw [zxu, if_neg (fun e => h e.1), <- hs, ih, hb]; rfl
theorem zL6 (s tail : Str) (ht : tail.head? ≠ some 39) : zCq (zuJ s ++ 39 :: tail) = some (zuJ s).length := by
 induction s with
 | nil =>
   show zCq (39 :: tail) = some 0
   cases tail with
   | nil => rfl
   | cons c l =>
     rw [zCq, if_pos rfl, if_neg]
     intro e; subst e; exact ht rfl
 | cons b s ih =>
   rw [zpA]
   by_cases h : b = 39
   · rw [if_pos h]
     show zCq (39 :: 39 :: (zuJ s ++ 39 :: tail)) = _
     rw [zCq, if_pos rfl, if_pos rfl, ih]; rfl
   · rw [if_neg h]
     show zCq (b :: (zuJ s ++ 39 :: tail)) = _
     cases hs : zuJ s ++ 39 :: tail with
     | nil => simp at hs
     | cons c l => rw [zCq, if_neg h, <- hs, ih]; rfl
theorem zC5 (s : Str) : ziQ (zue s) = some s := by
 unfold zue ziQ
 simp only
 rw [if_pos]
 · rw [List.dropLast_concat, zG4]
 · refine ⟨trivial, by simp, by simp, ?_⟩
   rw [List.dropLast_concat, zKy]
def zQL (b : UInt8) : Prop := b = 45 ∨ zsj b
theorem zxl {n : Int} (h : zkY n) : (∀ b ∈ zb8 n, zQL b) /\ zb8 n ≠ [] := by
 obtain ⟨h1, h2⟩ := h
 by_cases hn : 0 <= n
 · obtain ⟨a, _, c, _⟩ := zlw hn h2
   exact ⟨fun b hb => .inr (a b hb), c⟩
 · unfold zb8; rw [if_pos YJ]
   obtain ⟨a, _, c, _⟩ := zzq 20 n.natAbs YJ YJ
   refine ⟨fun b hb => ?_, by simp⟩
   rcases yj.1 hb with rfl | hb
   · exact .inl rfl
   · exact .inr (a b hb)
theorem zQD {b : UInt8} (h : zQL b) : zJM.contains b = true := by
 unfold zJM
 rw [List.contains_cons, Bool.or_eq_true]
 rcases h with rfl | h
 · exact .inl rfl
 · right
   have := zss.2 h
   simp only [List.contains_iff_mem, yu] at this ⊢
   exact .inl this
theorem zIV {b : UInt8} (h : zQL b) (c : UInt8) (hc : c.toNat = 39 ∨ c.toNat = 84 ∨ c.toNat = 70) : b ≠ c := by
 intro e; subst e
 rcases h with rfl | h
 · revert hc; decide
 · unfold zsj at h; omega
theorem zKm {n : Int} (h : zkY n) : zyp (zb8 n) = true := by
 obtain ⟨h1, h2⟩ := h
 unfold zyp
 by_cases hn : 0 <= n
 · obtain ⟨a, b, c, d⟩ := zlw hn h2
   have e : zaQ [45] (zb8 n) = (false, zb8 n) := by
    refine zmw [] _ 45 fun e => ?_
    cases hd : zb8 n with
    | nil => rw [hd] at e; simp at e
    | cons x l =>
      rw [hd] at e a; simp at e; subst e
      have := a 45 yQ; unfold zsj at this; revert this; decide
   rw [e]
   simp only [yK, Bool.not_eq_true', List.isEmpty_eq_false_iff, Bool.and_eq_false_iff]
   refine ⟨⟨c, ?_⟩, yl.2 fun b hb => zss.2 (a b hb)⟩
   by_cases h0 : n = 0
   · subst h0; right; rfl
   · left; have := d YJ; simpa using this
 · unfold zb8; rw [if_pos YJ]
   obtain ⟨a, _, c, d⟩ := zzq 20 n.natAbs YJ YJ
   rw [zr2]
   simp only [yK, Bool.not_eq_true', List.isEmpty_eq_false_iff, Bool.and_eq_false_iff]
   exact ⟨⟨c, .inl (by have := d YJ; simpa using this)⟩, yl.2 fun b hb => zss.2 (a b hb)⟩
theorem zEP {v : Val} (h : zaE v = true) (hw : zlH v) : zfn (zdD v) = (v, 0) := by
 obtain ⟨k, n, t⟩ := v
 unfold zdD
 rw [if_pos h]
 unfold zaE at h
 simp only at h ⊢
 by_cases h0 : k = 0
 · subst h0
   rw [if_pos rfl] at h ⊢
   obtain rfl : t = [] := by simpa using h
   have hn : zkY n := hw.2
   obtain ⟨a, c⟩ := zxl hn
   obtain ⟨x, l, hd⟩ : ∃ x l, zb8 n = x :: l := by
    cases hd : zb8 n with
    | nil => exact absurd hd c
    | cons x l => exact ⟨x, l, rfl⟩
   have hx := a x (by rw [hd]; exact yQ)
   unfold zfn
   rw [if_neg (by rw [hd]; intro e; injection e with e _; exact zIV hx 84 (by decide) e), if_neg (by rw [hd]; intro e; injection e with e _; exact zIV hx 70 (by decide) e)]
   have : ziQ (zb8 n) = none := by
    rw [hd]; unfold ziQ; simp only
    rw [if_neg]; intro e; exact zIV hx 39 (by decide) e.1
   rw [this]
   simp only
   rw [if_pos (zKm hn), zz2 hn]; rfl
 · rw [if_neg h0] at h ⊢
   by_cases h1 : k = 1
   · subst h1
     rw [if_pos rfl] at h ⊢
     simp only [yK, beq_iff_eq, YG] at h
     obtain ⟨rfl, hl⟩ := h
     unfold zfn
     rw [if_neg (by unfold zue zJL; intro e; injection e with e _; revert e; decide), if_neg (by unfold zue zCm; intro e; injection e with e _; revert e; decide), zC5]
     simp only
     rw [if_neg YJ]
   · rw [if_neg h1] at h ⊢
     by_cases h2 : k = 2
     · subst h2
       rw [if_pos rfl] at h
       simp only [yK, Bool.or_eq_true, beq_iff_eq] at h
       obtain ⟨h3, rfl⟩ := h
       rcases h3 with rfl | rfl <;> rfl
     · rw [if_neg h2] at h; cases h
def zAg (s : Str) : Prop := ∀ b, s.head? = some b -> zJM.contains b = false /\ b ≠ 39
theorem zuG {v : Val} {s : Str} (h : zaE v = true) (hw : zlH v) (hs : zAg s) : zfq (zdD v ++ s) = (v, true, s) := by
 have hp := zEP h hw
 have zfo : (∀ b ∈ zdD v, zJM.contains b = true) -> zdD v ≠ [] -> (zdD v).head? ≠ some 39 -> zfq (zdD v ++ s) = (v, true, s) := by
  intro h1 h2 h3
  unfold zfq
  rw [if_neg, zDh h1 (fun b hb => (hs b hb).1), hp]; rfl
  cases hd : zdD v with
  | nil => exact absurd hd h2
  | cons x l => rw [hd] at h3; simpa using h3
 obtain ⟨k, n, t⟩ := v
 unfold zdD at hp zfo ⊢
 rw [if_pos h] at hp zfo ⊢
 unfold zaE at h
 simp only at h hp zfo ⊢
 by_cases h0 : k = 0
 · rw [if_pos h0] at hp zfo ⊢
   obtain ⟨a, c⟩ := zxl hw.2
   refine zfo (fun b hb => zQD (a b hb)) c fun e => ?_
   cases hd : zb8 n with
   | nil => exact absurd hd c
   | cons x l =>
     simp only at a
     rw [hd] at e a; simp at e
     exact zIV (a x yQ) 39 (by decide) e
 · rw [if_neg h0] at hp zfo ⊢
   by_cases h1 : k = 1
   · rw [if_pos h1] at hp ⊢
     have ht : s.head? ≠ some 39 := fun e => (hs 39 e).2 rfl
     have e1 : zue t ++ s = 39 :: (zuJ t ++ 39 :: s) := by unfold zue; simp
     rw [e1]
     unfold zfq
     rw [if_pos (List.head?_cons ..)]
     simp only [List.drop_succ_cons, yg]
     rw [zL6 t s ht]
     simp only
     have e2 : (39 :: (zuJ t ++ 39 :: s)).take ((zuJ t).length + 2) = zue t := by
      unfold zue
      rw [List.take_succ_cons, List.take_append, List.take_of_length_le YJ, Nat.add_sub_cancel_left]; rfl
     have e3 : (zuJ t ++ 39 :: s).drop ((zuJ t).length + 1) = s := by
      rw [List.drop_append, List.drop_of_length_le YJ, Nat.add_sub_cancel_left]; rfl
     rw [e2, hp]
     simp only [beq_self_eq_true, YD, true_and]
     exact e3
   · rw [if_neg h1] at hp zfo ⊢
     by_cases h2 : n = 1
     · rw [if_pos h2] at hp zfo ⊢
       exact zfo (by decide) (by decide) (by decide)
     · rw [if_neg h2] at hp zfo ⊢
       exact zfo (by decide) (by decide) (by decide)
theorem zzU {n : Int} (h : 1 <= n) (h2 : n <= 9223372036854775807) : zim (zb8 n) = (n, 0) := by
 obtain ⟨a, _, c, d⟩ := zlw YJ h2
 unfold zim
 rw [if_neg c, if_neg, zJs YJ h2]
 simp only [Bool.or_eq_true, beq_iff_eq, List.any_eq_true, Bool.not_eq_true', not_or, not_exists, not_and, Bool.not_eq_false]
 exact ⟨d YJ, fun b hb => zss.2 (a b hb)⟩
theorem zKP {s t : Str} (h : ∀ b ∈ s, b ≠ 46) : zlP (s ++ 46 :: t) = (s, t, true) := by
 unfold zlP
 induction s with
 | nil => simp
 | cons b s ih =>
   have hb := h b yQ
   have := ih fun c hc => h c (yU _ hc)
   simp only [YD] at this ⊢
   have hb' : (b != 46) = true := by simpa using hb
   simp only [yS, List.takeWhile_cons, List.dropWhile_cons, hb', if_true, this.1, this.2.1, true_and, List.contains_cons, this.2.2, Bool.or_true]
theorem zFa {r : zbZ} (h : zdY r = true) (hw : zw1 r) : ziT (zj5 r) = (r, 0) := by
 unfold zj5
 rw [if_pos h]
 simp only [zdY, yK, YG] at h
 obtain ⟨a, _⟩ := zlw (n := r.table) YJ hw.1.2
 unfold ziT
 rw [zr2, zKP]
 · simp only [zzU h.1 hw.1.2, zzU h.2 hw.2.2, Bool.and_self, if_true]
   rw [if_neg (by decide), if_pos ⟨trivial, trivial⟩]
 · intro b hb e; subst e; have := a 46 hb; revert this; unfold zsj; decide
theorem zFS {r : zbZ} (h : zdY r = true) (hw : zw1 r) : (∀ b ∈ zj5 r, zIL.contains b = true) /\ ∃ l, zj5 r = 116 :: l := by
 unfold zj5; rw [if_pos h]
 simp only [zdY, yK, YG] at h
 obtain ⟨a, _⟩ := zlw (n := r.table) YJ hw.1.2
 obtain ⟨b, _⟩ := zlw (n := r.seq) YJ hw.2.2
 have dm : ∀ c, zsj c -> zIL.contains c = true := by
  intro c hc
  have := zss.2 hc
  unfold zIL
  simp only [List.contains_iff_mem, yj] at this ⊢
  exact .inr (.inr this)
 refine ⟨fun c hc => ?_, _, rfl⟩
 rcases yj.1 hc with rfl | hc
 · decide
 · rcases yu.1 hc with hc | hc
   · exact dm c (a c hc)
   · rcases yj.1 hc with rfl | hc
     · decide
     · exact dm c (b c hc)
mutual
def ziw : zam -> zam
 | .mk c ⟨_, fs⟩ => .mk c (Sl.out (zcZ fs))
def zcZ : List zaj -> List zaj
 | [] => []
 | x :: xs => zdE x :: zcZ xs
def zdE : zaj -> zaj
 | .mk a e => .mk (zgT a) e
def zgT : zas -> zas
 | .mk k r ⟨_, as⟩ f ⟨_, is⟩ o b => .mk k r (Sl.out (zjt as)) f (Sl.out (zgG is)) o b
def zjt : List (Sl zam) -> List (Sl zam)
 | [] => []
 | ⟨_, x⟩ :: xs => Sl.out (ze3 x) :: zjt xs
def ze3 : List zam -> List zam
 | [] => []
 | x :: xs => ziw x :: ze3 xs
def zgG : List zae -> List zae
 | [] => []
 | x :: xs => zid x :: zgG xs
def zid : zae -> zae
 | .mk v ⟨_, l⟩ => .mk v (Sl.out (ze3 l))
end
def zhU (a : Sl zam) : Sl zam := Sl.out (ze3 a.l)
theorem zkl (l : List zaj) : zcZ l = l.map zdE := by
 induction l with
 | nil => rfl
 | cons x l ih => simp only [zcZ, yR, ih]
theorem znr (l : List zam) : ze3 l = l.map ziw := by
 induction l with
 | nil => rfl
 | cons x l ih => simp only [ze3, yR, ih]
theorem zqC (l : List zae) : zgG l = l.map zid := by
 induction l with
 | nil => rfl
 | cons x l ih => simp only [zgG, yR, ih]
theorem ztk (l : List (Sl zam)) : zjt l = l.map zhU := by
 induction l with
 | nil => rfl
 | cons x l ih => cases x; simp only [zjt, yR, ih, zhU]
theorem zv5 (x : zam) : ziw x = .mk x.coeff (Sl.out (x.factors.l.map zdE)) := by rcases x with ⟨c, ⟨f, l⟩⟩; simp only [ziw, zam.coeff, zam.factors, zkl]
theorem zqE (x : zaj) : zdE x = .mk (zgT x.atom) x.exp := by cases x; simp only [zdE, zaj.atom, zaj.exp]
theorem zsu (x : zae) : zid x = .mk x.value (zhU x.ann) := by rcases x with ⟨v, ⟨f, l⟩⟩; simp only [zid, zae.ann, zae.value, zhU]
theorem znt (x : zas) : zgT x = .mk x.kind x.row (Sl.out (x.args.l.map zhU)) x.func (Sl.out (x.items.l.map zid)) x.op x.bound := by
 rcases x with ⟨k, r, ⟨f1, as⟩, fn, ⟨f2, is⟩, op, b⟩
 simp only [zgT, ztk, zqC, zas.kind, zas.row, zas.args, zas.func, zas.items, zas.op, zas.bound]
theorem zNq (k : Int) (r : zbZ) (f1 : Fl) (as : List (Sl zam)) (fn : Int) (f2 : Fl) (is : List zae) (op : Int) (b : Val) : zgT (.mk k r ⟨f1, as⟩ fn ⟨f2, is⟩ op b) = .mk k r (Sl.out (as.map zhU)) fn (Sl.out (is.map zid)) op b := by
 simp only [zgT, ztk, zqC]
theorem zsf (sep : Str) : zfc [] sep = [] := rfl
theorem zis (x sep : Str) : zfc [x] sep = x := Lib.join_one x sep
theorem zjr (x y : Str) (l : List Str) (sep : Str) : zfc (x :: y :: l) sep = x ++ (sep ++ zfc (y :: l) sep) := by
 unfold zfc; rw [Lib.join_cons, Lib.join_cons]; simp [Lib.joinTail]
theorem zvS {l : List Str} (sep : Str) (h : ∀ x ∈ l, x ≠ []) : l.length <= (zfc l sep).length := by
 induction l with
 | nil => simp
 | cons x l ih =>
   have hx := h x yQ
   have hx : 0 < x.length := by cases x; exact absurd rfl hx; simp
   cases l with
   | nil => rw [zis]; simp; omega
   | cons y l =>
     have := ih fun z hz => h z (yU _ hz)
     rw [zjr]; simp only [yD, yC] at this ⊢; omega
def hd (P : UInt8 -> Prop) (s : Str) : Prop := ∀ b, s.head? = some b -> P b
def zAb (b : UInt8) : Prop := zIL.contains b = false
def zLI (b : UInt8) : Prop := zIL.contains b = false /\ b ≠ 94
def zLH (b : UInt8) : Prop := zLI b /\ b ≠ 42
def zDb (b : UInt8) : Prop := zLH b /\ b ≠ 32
theorem zsm {P : UInt8 -> Prop} {b : UInt8} (h : P b) (s : Str) : hd P (b :: s) := by
 intro c hc; simp only [List.head?_cons, yA] at hc; subst hc; exact h
theorem zsl {P Q : UInt8 -> Prop} {s : Str} (h : hd P s) (k : ∀ b, P b -> Q b) : hd Q s := fun b hb => k b (h b hb)
theorem zTB {P : UInt8 -> Prop} : hd P [] := by intro c hc; simp at hc
theorem zQo {b : UInt8} (h : zIL.contains b = false) : zcE.contains b = false := by
 unfold zIL at h
 rw [List.contains_cons, List.contains_cons] at h
 simp only [Bool.or_eq_false_iff] at h
 exact h.2.2
theorem zvn {s p : Str} {b : UInt8} (h : hd (fun c => c ≠ b) s) : zaQ (b :: p) s = (false, s) :=
 zmw p s b fun e => h b e rfl
theorem znm (p s : Str) (b c : UInt8) (h : c ≠ b) : zaQ (b :: p) (c :: s) = (false, c :: s) := zmw p _ b (by simpa using h)
theorem zHw (s : Str) : ziq (zfa ++ s) = (1, s) := by unfold ziq; rw [ze9]; rfl
theorem zHx (s : Str) : ziq (zfb ++ s) = (2, s) := by
 unfold ziq; rw [ze9]
 rw [show zaQ zfa (zfb ++ s) = (false, zfb ++ s) from znm _ _ 109 100 (by decide)]; rfl
theorem zFv (s : Str) : ziq (zc3 ++ s) = (3, s) := by
 unfold ziq; rw [ze9]
 rw [show zaQ zfa (zc3 ++ s) = (false, zc3 ++ s) from znm _ _ 109 97 (by decide), show zaQ zfb (zc3 ++ s) = (false, zc3 ++ s) from znm _ _ 100 97 (by decide)]; rfl
theorem zJ6 (s : Str) : ziq (zji ++ s) = (4, s) := by
 unfold ziq; rw [ze9]
 rw [show zaQ zfa (zji ++ s) = (false, zji ++ s) from znm _ _ 109 116 (by decide), show zaQ zfb (zji ++ s) = (false, zji ++ s) from znm _ _ 100 116 (by decide),
  show zaQ zc3 (zji ++ s) = (false, zji ++ s) from znm _ _ 97 116 (by decide)]; rfl
theorem zLF (p s : Str) (b c : UInt8) (h : (s.head? == some c) = false) : zaQ (b :: c :: p) (b :: s) = (false, b :: s) := by
 unfold zaQ
 rw [if_neg]
 cases s with
 | nil => simp [List.isPrefixOf]
 | cons d s =>
   simp at h
   simp [List.isPrefixOf]
   intro e; exact absurd e.symm h
theorem zMj {r : zbZ} (h : zdY r = true) (hw : zw1 r) (s : Str) : ziq (zj5 r ++ s) = (0, zj5 r ++ s) := by
 unfold zj5; rw [if_pos h]
 simp only [zdY, yK, YG] at h
 obtain ⟨a, _, c, _⟩ := zlw (n := r.table) YJ hw.1.2
 obtain ⟨x, l, hd⟩ : ∃ x l, zb8 r.table = x :: l := by
  cases hd : zb8 r.table with
  | nil => exact absurd hd c
  | cons x l => exact ⟨x, l, rfl⟩
 have hx := a x (by rw [hd]; exact yQ)
 rw [hd]
 have hx : x ≠ 101 := by intro e; subst e; revert hx; unfold zsj; decide
 unfold ziq
 rw [show zaQ zfa (116 :: (x :: l ++ 46 :: zb8 r.seq) ++ s) = (false, _) from znm _ _ 109 116 (by decide), show zaQ zfb (116 :: (x :: l ++ 46 :: zb8 r.seq) ++ s) = (false, _) from znm _ _ 100 116 (by decide),
  show zaQ zc3 (116 :: (x :: l ++ 46 :: zb8 r.seq) ++ s) = (false, _) from znm _ _ 97 116 (by decide), show zaQ zji (116 :: (x :: l ++ 46 :: zb8 r.seq) ++ s) = (false, _) from zLF _ _ 116 101 (by simpa using hx)]; rfl
theorem zTE (s : Str) (f : Int) (h0 : 0 <= f) (h3 : f <= 3) : zcj 123 zde 0 (nth zde f ++ 123 :: s) = (f, s) := by
 have : f = 0 ∨ f = 1 ∨ f = 2 ∨ f = 3 := by omega
 rcases this with rfl | rfl | rfl | rfl
 · have e : nth zde 0 ++ 123 :: s = [67, 79, 85, 78, 84, 123] ++ s := rfl
   rw [e]; simp [zcj, zde, zaQ]
 · have e : nth zde 1 ++ 123 :: s = [83, 85, 77, 123] ++ s := rfl
   rw [e]; simp [zcj, zde, zaQ, List.isPrefixOf]
 · have e : nth zde 2 ++ 123 :: s = [77, 73, 78, 123] ++ s := rfl
   rw [e]; simp [zcj, zde, zaQ, List.isPrefixOf]
 · have e : nth zde 3 ++ 123 :: s = [77, 65, 88, 123] ++ s := rfl
   rw [e]; simp [zcj, zde, zaQ, List.isPrefixOf]
theorem zTo (s : Str) (o : Int) (h0 : 5 <= o) (h3 : o <= 10) : zcj 32 zc5 0 (nth zc5 (o - 5) ++ 32 :: s) = (o - 5, s) := by
 obtain ⟨f, rfl⟩ : ∃ f, o = f + 5 := ⟨o - 5, by omega⟩
 rw [show f + 5 - 5 = f by omega]
 have : f = 0 ∨ f = 1 ∨ f = 2 ∨ f = 3 ∨ f = 4 ∨ f = 5 := by omega
 rcases this with rfl | rfl | rfl | rfl | rfl | rfl
 · have e : nth zc5 0 ++ 32 :: s = [61, 32] ++ s := rfl
   rw [e]; simp [zcj, zc5, zaQ]
 · have e : nth zc5 1 ++ 32 :: s = [60, 62, 32] ++ s := rfl
   rw [e]; simp [zcj, zc5, zaQ, List.isPrefixOf]
 · have e : nth zc5 2 ++ 32 :: s = [60, 32] ++ s := rfl
   rw [e]; simp [zcj, zc5, zaQ, List.isPrefixOf]
 · have e : nth zc5 3 ++ 32 :: s = [60, 61, 32] ++ s := rfl
   rw [e]; simp [zcj, zc5, zaQ, List.isPrefixOf]
 · have e : nth zc5 4 ++ 32 :: s = [62, 32] ++ s := rfl
   rw [e]; simp [zcj, zc5, zaQ, List.isPrefixOf]
 · have e : nth zc5 5 ++ 32 :: s = [62, 61, 32] ++ s := rfl
   rw [e]; simp [zcj, zc5, zaQ, List.isPrefixOf]
def zsO (ann : zow) (a : Sl zam) : Prop := ∀ s, hd zDb s -> ann (zcu a ++ s) = (zhU a, true, s)
theorem zS6 : zDb 93 := by refine ⟨⟨⟨?_, ?_⟩, ?_⟩, ?_⟩ <;> decide
theorem zS8 : zDb 44 := by refine ⟨⟨⟨?_, ?_⟩, ?_⟩, ?_⟩ <;> decide
theorem zS7 : zDb 59 := by refine ⟨⟨⟨?_, ?_⟩, ?_⟩, ?_⟩ <;> decide
theorem zQl : zDb 125 := by refine ⟨⟨⟨?_, ?_⟩, ?_⟩, ?_⟩ <;> decide
theorem zTa : zLH 32 := by refine ⟨⟨?_, ?_⟩, ?_⟩ <;> decide
theorem zS9 : zLI 42 := by refine ⟨?_, ?_⟩ <;> decide
theorem zS5 : zAb 94 := by unfold zAb; decide
theorem zZj (s : Str) : zAg (58 :: s) := by intro b hb; simp only [List.head?_cons, yA] at hb; subst hb; decide
theorem z06 (s : Str) : zAg (zro ++ s) := zZj _
theorem zZi (s : Str) : zAg (93 :: s) := by intro b hb; simp only [List.head?_cons, yA] at hb; subst hb; decide
theorem zZr (s : Str) : hd zDb ([93] ++ s) := zsm zS6 s
theorem zQP (s : Str) : hd zDb (zrn ++ s) := zsm zS8 _
theorem z1z (s : Str) : zAg ([93] ++ s) := zZi s
theorem zJ5 {ann : zow} : ∀ (l acc : List zae) (k : Nat) (s : Str), l ≠ [] -> l.length <= k -> (∀ x ∈ l, zaE x.value = true /\ zlH x.value /\ zsO ann x.ann) ->
 zkf ann k acc (zfc (l.map zgs) zl9 ++ (zlJ ++ s)) = (acc ++ l.map zid, true, zlJ ++ s) := by
 intro l
 induction l with
 | nil => intro acc k s h; exact absurd rfl h
 | cons x l ih =>
   intro acc k s _ hk hx
   obtain ⟨k, rfl⟩ : ∃ j, k = j + 1 := ⟨k - 1, by simp at hk; omega⟩
   obtain ⟨h1, h2, h3⟩ := hx x yQ
   cases l with
   | nil =>
     simp only [yR, yr, zis]
     rw [zm8, yT, yT, zkf, zuG h1 h2 (z06 _)]
     simp only [if_true, ze9]
     rw [h3 (zlJ ++ s) (zsm zQl _)]
     simp only [if_true]
     rw [show zaQ zl9 (zlJ ++ s) = (false, zlJ ++ s) from znm _ _ 59 125 (by decide)]
     simp only [yF, if_false]
     rw [<- zsu]
   | cons y l =>
     have ih := ih (acc ++ [zid x]) k s (by simp) (by simp at hk ⊢; omega) (fun z hz => hx z (yU _ hz))
     simp only [yR] at ih ⊢
     rw [zjr, yT, yT, zm8, yT, yT, zkf, zuG h1 h2 (z06 _)]
     simp only [if_true, ze9]
     rw [h3 (zl9 ++ _) (zsm zS7 _)]
     simp only [if_true, ze9]
     rw [<- zsu, ih]; simp
theorem zQe {fn : Int} {d : Val} {w : zae} (h : ztA fn d w = true) : zaE w.value = true := by
 unfold ztA at h
 simp only [Bool.not_eq_true', Bool.or_eq_false_iff, Bool.not_eq_false'] at h
 exact h.1.1
theorem zAj {fn : Int} {its : Sl zae} {op : Int} {d : Val} (h : zk1 fn its op d = true) : 0 <= fn /\ fn <= 3 /\ 5 <= op /\ op <= 10 /\ zaE d = true /\ ∀ x ∈ its.l, zaE x.value = true := by
 unfold zk1 at h
 simp only [yK, Bool.not_eq_true', Bool.or_eq_false_iff, decide_eq_false_iff_not, Bool.not_eq_false', yl] at h
 obtain ⟨⟨⟨⟨⟨⟨h1, h2⟩, h3⟩, h4⟩, h5⟩, _⟩, h6⟩ := h
 exact ⟨by omega, by omega, by omega, by omega, h5, fun x hx => zQe (h6 x hx)⟩
theorem znc {fn : Int} {il : Nat} {op : Int} {b : Val} (h : zqk fn il op b = true) : fn = 0 /\ il = 0 /\ op = 0 /\ b = ⟨0, 0, []⟩ := by
 unfold zqk at h
 simp only [yK, beq_iff_eq] at h
 obtain ⟨⟨⟨h1, h2⟩, h3⟩, h4, h5, h6⟩ := h
 refine ⟨h1, by omega, h3, ?_⟩
 cases b; simp_all
theorem zFM {l : List zae} : ∀ x ∈ l.map zgs, x ≠ [] := by
 intro x hx
 obtain ⟨w, _, rfl⟩ := YC.1 hx
 rw [zm8]; unfold zro; simp
theorem zxj (a b : Str) {n : Nat} (h : n <= a.length) : n <= (a ++ b).length + 1 := by rw [yD]; omega
theorem zFx {ann : zow} {x : zas} (hv : zgU x = true) (hw : zii x) (ha : ∀ a ∈ x.args.l, x.kind ≠ 0 -> zsO ann a) (hi : ∀ w ∈ x.items.l, x.kind ≠ 0 -> zsO ann w.ann) (s : Str) (hs : hd zAb s) :
 zrA ann (zfK x ++ s) = (zgT x, true, s) := by
 rcases x with ⟨k, r, ⟨f1, as⟩, fn, ⟨f2, is⟩, op, b⟩
 rw [zzE, zNq]
 simp only [zas.kind, zas.args, zas.items] at ha hi
 have hw := (zjo _).1 hw
 simp only [zas.kind, zas.row, zas.args, zas.func, zas.items, zas.op, zas.bound] at hw
 obtain ⟨_, hwr, _, _, hwi, _, hwb⟩ := hw
 unfold zgU at hv
 by_cases h0 : k = 0
 · rw [if_pos h0] at hv ⊢
   simp only [yK, beq_iff_eq] at hv
   obtain ⟨⟨h1, h2⟩, h3⟩ := hv
   obtain ⟨rfl, h4, rfl, rfl⟩ := znc h3
   obtain rfl : as = [] := ym.1 YJ
   obtain rfl : is = [] := ym.1 h4
   obtain ⟨c1, c2⟩ := zFS h1 hwr
   unfold zrA
   rw [zMj h1 hwr s]
   simp only [if_true]
   rw [zDh c1 hs, zFa h1 hwr, h0]; rfl
 · rw [if_neg h0] at hv ⊢
   simp only [yK, beq_iff_eq] at hv
   obtain ⟨⟨⟨hr1, hr2⟩, hva⟩, hv⟩ := hv
   obtain rfl : r = ⟨0, 0⟩ := by cases r; simp_all
   by_cases h1 : k = 1
   · rw [if_pos h1] at hv ⊢
     simp only [yK, beq_iff_eq] at hv
     obtain ⟨⟨h2, h3⟩, _⟩ := hv
     obtain ⟨rfl, h4, rfl, rfl⟩ := znc h3
     obtain rfl : is = [] := ym.1 h4
     obtain ⟨x, y, rfl⟩ : ∃ x y, as = [x, y] := by
      match as, h2 with
      | [x, y], _ => exact ⟨x, y, rfl⟩
      | [], h => simp at h
      | [_], h => simp at h
      | _ :: _ :: _ :: _, h => simp at h; omega
     subst h1
     have hx := ha x (by simp) (by decide)
     have hy := ha y (by simp) (by decide)
     simp only [yR, yr, yH, yX, yc, yT]
     unfold zrA
     rw [zHw]
     simp only [Int.one_ne_zero, if_false, show ¬ (1 : Int) = 4 by decide]
     rw [hx _ (zQP _)]
     simp only [if_true, ze9]
     rw [hy _ (zZr _)]
     simp only [if_true]
     rw [ze9]; rfl
   · rw [if_neg h1] at hv ⊢
     by_cases h2 : k = 2
     · rw [if_pos h2] at hv ⊢
       simp only [yK, beq_iff_eq] at hv
       obtain ⟨⟨h5, h3⟩, _⟩ := hv
       obtain ⟨rfl, h4, rfl, rfl⟩ := znc h3
       obtain rfl : is = [] := ym.1 h4
       obtain ⟨x, rfl⟩ : ∃ x, as = [x] := List.length_eq_one_iff.1 YJ
       subst h2
       have hx := ha x (by simp) (by decide)
       simp only [yR, yr, yH, yc, yT]
       unfold zrA
       rw [zHx]
       simp only [show ¬ (2 : Int) = 0 by decide, if_false, show ¬ (2 : Int) = 4 by decide, show ¬ (2 : Int) = 1 by decide]
       rw [hx _ (zZr _)]
       simp only [if_true]
       rw [ze9]; rfl
     · rw [if_neg h2] at hv ⊢
       by_cases h3 : k = 3
       · rw [if_pos h3] at hv ⊢
         simp only [yK, beq_iff_eq] at hv
         obtain ⟨⟨h5, h6⟩, _⟩ := hv
         obtain ⟨rfl, h4, rfl, rfl⟩ := znc h6
         obtain rfl : is = [] := ym.1 h4
         obtain ⟨x, rfl⟩ : ∃ x, as = [x] := List.length_eq_one_iff.1 YJ
         subst h3
         have hx := ha x (by simp) (by decide)
         simp only [yR, yr, yH, yc, yT]
         unfold zrA
         rw [zFv]
         simp only [show ¬ (3 : Int) = 0 by decide, if_false, show ¬ (3 : Int) = 4 by decide, show ¬ (3 : Int) = 1 by decide]
         rw [hx _ (zZr _)]
         simp only [if_true]
         rw [ze9]; rfl
       · rw [if_neg h3] at hv ⊢
         by_cases h4 : k = 4
         · rw [if_pos h4] at hv
           simp only [yK, beq_iff_eq, Bool.not_eq_true', beq_eq_false_iff_ne, ne_eq] at hv
           obtain ⟨⟨⟨⟨⟨h5, h6⟩, _⟩, h7⟩, _⟩, _⟩ := hv
           obtain rfl : as = [] := ym.1 YJ
           obtain ⟨k1, k2, k3, k4, k5, k6⟩ := zAj h7
           subst h4
           have hne : is ≠ [] := by intro e; subst e; exact h6 rfl
           have hwi := (zpW _).1 hwi
           have hit : ∀ x ∈ is, zaE x.value = true /\ zlH x.value /\ zsO ann x.ann := fun x hx => ⟨k6 x hx, ((zrW _).1 (hwi x hx)).1, hi x hx (by decide)⟩
           unfold zrA
           simp only [yT]
           rw [zJ6]
           simp only [show ¬ (4 : Int) = 0 by decide, if_false, if_true]
           unfold zty
           rw [yS, zTE _ _ k1 k2]
           simp only
           rw [if_neg (show ¬ fn < 0 by omega), zJ5 is [] _ _ hne (zxj _ _ (by have := zvS zl9 (zFM (l := is)); rw [yV] at this; exact this)) hit]
           simp only [if_true, ze9]
           rw [yS, zTo _ _ k3 k4]
           simp only
           rw [zuG k5 hwb (z1z _)]
           simp only [Bool.and_true, YH (show 0 <= op - 5 by omega), if_true, ze9, yZ, show 5 + (op - 5) = op by omega]; rfl
         · rw [if_neg h4] at hv; cases hv
theorem zux {x : zas} (hv : zgU x = true) : ∃ b l, zfK x = b :: l /\ b ≠ 48 /\ (decide (48 <= b.toNat) && decide (b.toNat <= 57)) = false := by
 rcases x with ⟨k, r, ⟨f1, as⟩, fn, ⟨f2, is⟩, op, b⟩
 rw [zzE]
 unfold zgU at hv
 by_cases h0 : k = 0
 · rw [if_pos h0] at hv ⊢
   simp only [yK] at hv
   unfold zj5; rw [if_pos hv.1.1]
   exact ⟨_, _, rfl, by decide, by decide⟩
 · rw [if_neg h0]
   by_cases h1 : k = 1
   · rw [if_pos h1]; exact ⟨_, _, rfl, by decide, by decide⟩
   · rw [if_neg h1]
     by_cases h2 : k = 2
     · rw [if_pos h2]; exact ⟨_, _, rfl, by decide, by decide⟩
     · rw [if_neg h2]
       by_cases h3 : k = 3
       · rw [if_pos h3]; exact ⟨_, _, rfl, by decide, by decide⟩
       · rw [if_neg h3]; exact ⟨_, _, rfl, by decide, by decide⟩
def zQb (ann : zow) (x : zas) : Prop := zgU x = true /\ zii x /\ (∀ a ∈ x.args.l, x.kind ≠ 0 -> zsO ann a) /\ (∀ w ∈ x.items.l, x.kind ≠ 0 -> zsO ann w.ann)
def ztq (ann : zow) (f : zaj) : Prop := zQb ann f.atom /\ 1 <= f.exp /\ f.exp <= 9223372036854775807
def zAM (ann : zow) (t : zam) : Prop := (∀ f ∈ t.factors.l, ztq ann f) /\ 1 <= t.coeff /\ t.coeff <= 9223372036854775807
theorem zEZ {s : Str} (h : hd zLI s) : hd zAb s := zsl h fun _ h => h.1
theorem zAc {s : Str} (h : hd zAb s) : ∀ b, s.head? = some b -> zcE.contains b = false := fun b hb => zQo (h b hb)
theorem zz5 {ann : zow} {x : zaj} (h : ztq ann x) (s : Str) (hs : hd zLI s) : zoP ann (zbI x ++ s) = (zdE x, true, s) := by
 obtain ⟨⟨h1, h2, h3, h4⟩, h5, h6⟩ := h
 rw [zk9, zqE]
 unfold zoP
 by_cases he : x.exp = 1
 · rw [if_pos he, zFx h1 h2 h3 h4 s (zEZ hs)]
   simp only [if_true]
   rw [zvn (zsl hs fun _ h => h.2), he]
   simp
 · rw [if_neg he, yT, yS, zFx h1 h2 h3 h4 _ (zsm zS5 _)]
   simp only [if_true]
   rw [zr2]
   simp only [if_true]
   rw [zxg YJ h6 (zAc (zEZ hs))]
theorem zG6 {ann : zow} {x : zaj} (h : ztq ann x) : zbI x ≠ [] := by
 obtain ⟨b, l, e, _⟩ := zux h.1.1
 rw [zk9, e]; split <;> simp
theorem zyk {ann : zow} : ∀ (l acc : List zaj) (k : Nat) (s : Str), l ≠ [] -> l.length <= k -> (∀ x ∈ l, ztq ann x) -> hd zLH s ->
 zic ann k acc (zfc (l.map zbI) [42] ++ s) = (acc ++ l.map zdE, true, s) := by
 intro l
 induction l with
 | nil => intro acc k s h; exact absurd rfl h
 | cons x l ih =>
   intro acc k s _ hk hx hs
   obtain ⟨k, rfl⟩ : ∃ j, k = j + 1 := ⟨k - 1, by simp at hk; omega⟩
   have h1 := hx x yQ
   cases l with
   | nil =>
     simp only [yR, yr, zis]
     rw [zic, zz5 h1 s (zsl hs fun _ h => h.1)]
     simp only [if_true]
     rw [zvn (zsl hs fun _ h => h.2)]
     simp
   | cons y l =>
     have ih := ih (acc ++ [zdE x]) k s (by simp) (by simp at hk ⊢; omega) (fun z hz => hx z (yU _ hz)) hs
     simp only [yR] at ih ⊢
     rw [zjr, yT, yT, zic, zz5 h1 _ (show hd zLI ([42] ++ _) from zsm zS9 _)]
     simp only [if_true, ze9]
     rw [ih]; simp
theorem zFV {ann : zow} {l : List zaj} (h : ∀ x ∈ l, ztq ann x) (s : Str) : l.length <= (zfc (l.map zbI) [42] ++ s).length + 1 := by
 have := zvS [42] (l := l.map zbI) (fun x hx => by obtain ⟨f, hf, rfl⟩ := YC.1 hx; exact zG6 (h f hf))
 rw [yV] at this
 exact zxj _ _ this
theorem zCC {ann : zow} {l : List zaj} (h : ∀ x ∈ l, ztq ann x) (hne : l ≠ []) (s : Str) : zno (zfc (l.map zbI) [42] ++ s) = false /\ ∃ b r, zfc (l.map zbI) [42] = b :: r /\ b ≠ 48 := by
 cases l with
 | nil => exact absurd rfl hne
 | cons x l =>
   obtain ⟨b, t, e, h1, h2⟩ := zux (h x yQ).1.1
   obtain ⟨r, hr⟩ : ∃ r, zfc ((x :: l).map zbI) [42] = b :: r := by
    have hx : ∃ u, zbI x = b :: u := by rw [zk9, e]; split; exact ⟨_, rfl⟩; exact ⟨_, rfl⟩
    obtain ⟨u, hu⟩ := hx
    cases l with
    | nil => exact ⟨u, by rw [yR, yr, zis, hu]⟩
    | cons y l => exact ⟨_, by rw [yR, yR, zjr, hu]; rfl⟩
   rw [hr]
   exact ⟨h2, b, r, rfl, h1⟩
theorem zvU {n : Int} (h : 1 <= n) (h2 : n <= 9223372036854775807) (s : Str) : zno (zb8 n ++ s) = true /\ ∃ b r, zb8 n = b :: r /\ b ≠ 48 := by
 obtain ⟨a, _, c, d⟩ := zlw YJ h2
 have d := d YJ
 cases e : zb8 n with
 | nil => exact absurd e c
 | cons b r =>
   rw [e] at a d
   have hb := a b yQ
   refine ⟨?_, b, r, rfl, by simpa using d⟩
   show (decide (48 <= b.toNat) && decide (b.toNat <= 57)) = true
   rw [YH hb.1, YH hb.2]; rfl
theorem zFu {ann : zow} {x : zam} (h : zAM ann x) (s : Str) (hs : hd zLH s) : zvH ann (zgr x ++ s) = (ziw x, true, s) := by
 obtain ⟨h1, h2, h3⟩ := h
 rw [zpm, zv5]
 have hsr : hd zAb s := zsl hs fun _ h => h.1.1
 unfold zvH
 by_cases he : x.factors.l.isEmpty = true
 · rw [if_pos he, (zvU h2 h3 s).1, if_pos rfl, zxg YJ h3 (zAc hsr)]
   simp only [if_true]
   rw [zvn (zsl hs fun _ h => h.2)]
   rw [List.isEmpty_iff.1 he]; rfl
 · have hne : x.factors.l ≠ [] := fun e => he (by rw [e]; rfl)
   rw [if_neg he]
   by_cases hc : x.coeff = 1
   · rw [if_pos hc, (zCC h1 hne s).1]
     simp only [yF, if_false]
     unfold zyj
     rw [zyk _ [] _ s hne (zFV h1 s) h1 hs, hc]; rfl
   · rw [if_neg hc, yT, (zvU h2 h3 _).1, if_pos rfl, yS, zxg YJ h3 (zAc (zsm (by unfold zAb; decide) _))]
     simp only [if_true]
     rw [zr2]
     simp only [if_true]
     unfold zyj
     rw [zyk _ [] _ s hne (zFV h1 s) h1 hs]; rfl
theorem zzD {ann : zow} {x : zam} (h : zAM ann x) : ∃ b r, zgr x = b :: r /\ b ≠ 48 := by
 obtain ⟨h1, h2, h3⟩ := h
 rw [zpm]
 split
 · exact (zvU h2 h3 []).2
 · rename_i he
   have hne : x.factors.l ≠ [] := fun e => he (by rw [e]; rfl)
   split
   · exact (zCC h1 hne []).2
   · obtain ⟨b, r, e, hb⟩ := (zvU h2 h3 []).2
     exact ⟨b, _, by rw [e]; rfl, hb⟩
theorem zTD (s : Str) : hd zLH (zma ++ s) := zsm zTa _
theorem zJ2 {ann : zow} : ∀ (l acc : List zam) (k : Nat) (s : Str), l ≠ [] -> l.length <= k -> (∀ x ∈ l, zAM ann x) -> hd zDb s ->
 znd ann k acc (zfc (l.map zgr) zma ++ s) = (Sl.out (acc ++ l.map ziw), true, s) := by
 intro l
 induction l with
 | nil => intro acc k s h; exact absurd rfl h
 | cons x l ih =>
   intro acc k s _ hk hx hs
   obtain ⟨k, rfl⟩ : ∃ j, k = j + 1 := ⟨k - 1, by simp at hk; omega⟩
   have h1 := hx x yQ
   cases l with
   | nil =>
     simp only [yR, yr, zis]
     rw [znd, zFu h1 s (zsl hs fun _ h => h.1)]
     simp only [if_true]
     rw [show zaQ zma s = (false, s) from zvn (zsl hs fun _ h => h.2)]
     simp
   | cons y l =>
     have ih := ih (acc ++ [ziw x]) k s (by simp) (by simp at hk ⊢; omega) (fun z hz => hx z (yU _ hz)) hs
     simp only [yR] at ih ⊢
     rw [zjr, yT, yT, znd, zFu h1 _ (zTD _)]
     simp only [if_true, ze9]
     rw [ih]; simp
theorem zJn {a : Sl zam} : zhU a = Sl.out (a.l.map ziw) := by unfold zhU; rw [znr]
theorem zJG {ann : zow} {l : List zam} (h : ∀ x ∈ l, zAM ann x) (hne : l ≠ []) : ∃ b r, zfc (l.map zgr) zma = b :: r /\ b ≠ 48 := by
 cases l with
 | nil => exact absurd rfl hne
 | cons x l =>
   obtain ⟨b, t, e, h1⟩ := zzD (h x yQ)
   cases l with
   | nil => exact ⟨b, t, by rw [yR, yr, zis, e], h1⟩
   | cons y l => exact ⟨b, _, by rw [yR, yR, zjr, e]; rfl, h1⟩
theorem zLC {ann : zow} {l : List zam} (h : ∀ x ∈ l, zAM ann x) (s : Str) : l.length <= (zfc (l.map zgr) zma ++ s).length + 1 := by
 have := zvS zma (l := l.map zgr) (fun x hx => by obtain ⟨f, hf, rfl⟩ := YC.1 hx; obtain ⟨b, r, e, _⟩ := zzD (h f hf); rw [e]; simp)
 rw [yV] at this
 exact zxj _ _ this
theorem zOP {d : Nat} {a : Sl zam} (h : ∀ x ∈ a.l, zAM (zng d) x) (s : Str) (hs : hd zDb s) : zng (d + 1) (zcu a ++ s) = (zhU a, true, s) := by
 rw [zC7, zJn]
 by_cases he : a.l.isEmpty = true
 · rw [if_pos he, List.isEmpty_iff.1 he]
   show (match zaQ [48] (48 :: s) with | (c, s1) => if c then ((Sl.nil : Sl zam), true, s1) else znd (zng d) (s1.length + 1) [] s1) = _
   rw [zr2]; rfl
 · have hne : a.l ≠ [] := fun e => he (by rw [e]; rfl)
   rw [if_neg he]
   obtain ⟨b, r, e, hb⟩ := zJG h hne
   have e2 : zaQ [48] (zfc (a.l.map zgr) zma ++ s) = (false, zfc (a.l.map zgr) zma ++ s) := by
    rw [e]; exact znm _ _ 48 b hb
   show (match zaQ [48] (zfc (a.l.map zgr) zma ++ s) with | (c, s1) => if c then ((Sl.nil : Sl zam), true, s1) else znd (zng d) (s1.length + 1) [] s1) = _
   rw [e2]
   simp only [yF, if_false]
   rw [zJ2 _ [] _ s hne (zLC h s) h hs]; rfl
theorem zzg {α : Type} {f : α -> Nat} {l : List α} {x : α} (h : x ∈ l) : f x <= zjk f l := by
 induction l with
 | nil => simp at h
 | cons y l ih =>
   simp only [zjk]
   rcases yj.1 h with rfl | h
   · omega
   · have := ih h; omega
theorem zp1 {x : zas} (hv : zgU x = true) (hk : x.kind ≠ 0) : (∀ a ∈ x.args.l, zdp a.l = true) /\ ∀ w ∈ x.items.l, zdp w.ann.l = true := by
 rcases x with ⟨k, r, ⟨f1, as⟩, fn, ⟨f2, is⟩, op, b⟩
 simp only [zas.kind, zas.args, zas.items] at hk ⊢
 unfold zgU at hv
 rw [if_neg hk] at hv
 simp only [yK, beq_iff_eq] at hv
 obtain ⟨⟨_, hva⟩, hv⟩ := hv
 rw [zpl] at hva
 refine ⟨fun a ha => ?_, fun w hw => ?_⟩
 · have := yl.1 hva a ha
   simp only [yK, zb2] at this
   exact this.2.1.2
 · have noitems : ∀ {fn op : Int} {b : Val}, zqk fn is.length op b = true -> False := by
    intro fn op b h
    have := (znc h).2.1
    rw [ym.1 this] at hw; simp at hw
   by_cases h1 : k = 1
   · rw [if_pos h1] at hv; simp only [yK] at hv; exact (noitems hv.1.2).elim
   · rw [if_neg h1] at hv
     by_cases h2 : k = 2
     · rw [if_pos h2] at hv; simp only [yK] at hv; exact (noitems hv.1.2).elim
     · rw [if_neg h2] at hv
       by_cases h3 : k = 3
       · rw [if_pos h3] at hv; simp only [yK] at hv; exact (noitems hv.1.2).elim
       · rw [if_neg h3] at hv
         by_cases h4 : k = 4
         · rw [if_pos h4] at hv
           simp only [yK] at hv
           have := hv.1.2
           rw [zw3] at this
           have := yl.1 this w hw
           rw [zs4] at this
           simp only [yK, zb2] at this
           exact this.2.1.2
         · rw [if_neg h4] at hv; cases hv
theorem zNG {ann : zow} {x : zas} {d : Nat} (hn : zmD x <= d) (hv : zgU x = true) (hw : zii x) (H : ∀ a : Sl zam, zce a.l < d -> zdp a.l = true -> zbB a.l -> zsO ann a) : zQb ann x := by
 have hw' := (zjo _).1 hw
 obtain ⟨_, _, hwa, _, hwi, _, _⟩ := hw'
 have hwa := (zw2 _).1 hwa
 have hwi := (zpW _).1 hwi
 refine ⟨hv, hw, fun a ha hk => ?_, fun w hw hk => ?_⟩
 · have e := zle x
   rw [if_neg hk] at e
   have e2 : zce a.l <= ziX x.args.l := by rw [zir]; exact zzg (f := fun x : Sl zam => zce x.l) ha
   exact H a YJ ((zp1 hv hk).1 a ha) (hwa a ha)
 · have e := zle x
   rw [if_neg hk] at e
   have e2 : ziW w <= zgu x.items.l := by rw [zqo]; exact zzg hw
   rw [znj] at e2
   exact H w.ann YJ ((zp1 hv hk).2 w hw) ((zrW _).1 (hwi w hw)).2
theorem zLE {ann : zow} {t : zam} {d : Nat} (hn : zjG t <= d) (hv : zvi t = true) (hw : zrV t) (H : ∀ a : Sl zam, zce a.l < d -> zdp a.l = true -> zbB a.l -> zsO ann a) : zAM ann t := by
 rw [zp0] at hv
 simp only [yK, Bool.not_eq_true', decide_eq_false_iff_not] at hv
 obtain ⟨⟨⟨h1, h2⟩, h3⟩, _⟩ := hv
 rw [zoa] at h3
 have hw' := (zpX _).1 ((zrU _).1 hw).2
 rw [zni, znk] at hn
 refine ⟨fun f hf => ?_, by omega, by omega⟩
 have hv := yl.1 h3 f hf
 rw [ziP] at hv
 simp only [yK, Bool.not_eq_true', Bool.or_eq_false_iff, decide_eq_false_iff_not] at hv
 have hwf := (zm5 _).1 (hw' f hf)
 have e := zzg (f := zgn) hf
 rw [zqp] at e
 have := hwf.2.2
 exact ⟨zNG YJ hv.2 hwf.1 H, by omega, by omega⟩
theorem zJU : ∀ (d : Nat) (a : Sl zam), zce a.l <= d -> zdp a.l = true -> zbB a.l -> zsO (zng (d + 1)) a := by
 intro d
 have step : ∀ {d : Nat} {a : Sl zam}, zce a.l <= d -> zdp a.l = true -> zbB a.l -> (∀ b : Sl zam, zce b.l < d -> zdp b.l = true -> zbB b.l -> zsO (zng d) b) -> zsO (zng (d + 1)) a := by
  intro d a hn hv hw H s hs
  refine zOP (fun x hx => ?_) s hs
  rw [zpk] at hv
  rw [zqn] at hn
  have e := zzg (f := zjG) hx
  exact zLE YJ (yl.1 hv x hx) ((zpV _).1 hw x hx) H
 induction d with
 | zero => intro a hn hv hw; exact step hn hv hw fun b hb => absurd hb YJ
 | succ d ih => intro a hn hv hw; exact step hn hv hw fun b hb => ih b YJ
theorem zD7 (l : List zaj) : (zcZ l).length = l.length := by rw [zkl, yV]
theorem zuL (l : List zam) : (ze3 l).length = l.length := by rw [znr, yV]
theorem zqs {α β : Type} {a : List α} {b : List β} (h : a.length = b.length) : a.isEmpty = b.isEmpty := by
 cases a <;> cases b <;> simp_all
mutual
theorem zLv : ∀ x : zam, zgr (ziw x) = zgr x
 | .mk c ⟨f, fs⟩ => by
   rw [zpm, zpm]
   simp only [ziw, zam.factors, zam.coeff, Sl.out_l]
   rw [<- zgt, zyc fs, zgt, zqs (zD7 fs)]
   first | done | rfl
theorem zyc : ∀ l : List zaj, zik (zcZ l) = zik l
 | [] => rfl
 | x :: xs => by simp only [zcZ, zik, zG8 x, zyc xs]
theorem zG8 : ∀ x : zaj, zbI (zdE x) = zbI x
 | .mk a e => by simp only [zdE, zbI, zLx a]
theorem zLx : ∀ x : zas, zfK (zgT x) = zfK x
 | .mk k r ⟨f1, as⟩ f ⟨f2, is⟩ o b => by
   rw [zvl, zvl]
   simp only [zgT, zas.kind, zas.row, zas.args, zas.func, zas.items, zas.op, zas.bound, Sl.out_l]
   rw [<- ziR, <- zij, zEV as, zCh is, ziR, zij]
   first | done | rfl
theorem zEV : ∀ l : List (Sl zam), zrm (zjt l) = zrm l
 | [] => rfl
 | ⟨f, x⟩ :: xs => by
   have h := zs5 x
   rw [ziR, ziR]
   simp only [zjt, yR, zcu, Sl.out_l, h, zqs (zuL x)]
   rw [<- ziR, <- ziR, zEV xs]
theorem zs5 : ∀ l : List zam, zl8 (ze3 l) = zl8 l
 | [] => rfl
 | x :: xs => by simp only [ze3, zl8, zLv x, zs5 xs]
theorem zCh : ∀ l : List zae, zoK (zgG l) = zoK l
 | [] => rfl
 | x :: xs => by simp only [zgG, zoK, zLw x, zCh xs]
theorem zLw : ∀ x : zae, zgs (zid x) = zgs x
 | .mk v ⟨f, l⟩ => by
   rw [zm8, zm8]
   simp only [zid, zae.value, zae.ann, zcu, Sl.out_l, zs5 l, zqs (zuL l)]
end
theorem zOl (a : Sl zam) : zcu (zhU a) = zcu a := by
 unfold zcu zhU; rw [Sl.out_l, zs5, zqs (zuL a.l)]
mutual
theorem zHg : ∀ x : zam, zls (ziw x) = zls x
 | .mk c ⟨f, fs⟩ => by rw [zp9, zp9]; simp only [ziw, zam.factors, Sl.out_l, zud fs]
theorem zud : ∀ l : List zaj, zdl (zcZ l) = zdl l
 | [] => rfl
 | x :: xs => by simp only [zcZ, zdl, zDc x, zud xs]
theorem zDc : ∀ x : zaj, zeT (zdE x) = zeT x
 | .mk a e => by simp only [zdE, zeT, zHi a]
theorem zHi : ∀ x : zas, zof (zgT x) = zof x
 | .mk k r ⟨f1, as⟩ f ⟨f2, is⟩ o b => by
   rw [zqb, zqb]
   simp only [zgT, zas.args, zas.items, Sl.out_l, zzP as, zye is]
theorem zzP : ∀ l : List (Sl zam), zia (zjt l) = zia l
 | [] => rfl
 | ⟨f, x⟩ :: xs => by
   rw [zj0, zj0]
   simp only [zjt, zgf, Sl.out_l, zoe x]
   rw [<- zj0, <- zj0, zzP xs]
theorem zoe : ∀ l : List zam, zdZ (ze3 l) = zdZ l
 | [] => rfl
 | x :: xs => by simp only [ze3, zdZ, zHg x, zoe xs]
theorem zye : ∀ l : List zae, zfW (zgG l) = zfW l
 | [] => rfl
 | x :: xs => by simp only [zgG, zfW, zHh x, zye xs]
theorem zHh : ∀ x : zae, zlt (zid x) = zlt x
 | .mk v ⟨f, l⟩ => by rw [zqa, zqa]; simp only [zid, zae.ann, Sl.out_l, zoe l]
end
mutual
theorem zHC : ∀ x : zam, zjG (ziw x) = zjG x
 | .mk c ⟨f, fs⟩ => by rw [zni, zni]; simp only [ziw, zam.factors, Sl.out_l, zui fs]
theorem zui : ∀ l : List zaj, zd9 (zcZ l) = zd9 l
 | [] => rfl
 | x :: xs => by simp only [zcZ, zd9, zDE x, zui xs]
theorem zDE : ∀ x : zaj, zgn (zdE x) = zgn x
 | .mk a e => by simp only [zdE, zgn, zHE a]
theorem zHE : ∀ x : zas, zmD (zgT x) = zmD x
 | .mk k r ⟨f1, as⟩ f ⟨f2, is⟩ o b => by
   rw [zle, zle]
   simp only [zgT, zas.kind, zas.args, zas.items, Sl.out_l, zAd as, zyn is]
   first | done | rfl
theorem zAd : ∀ l : List (Sl zam), ziX (zjt l) = ziX l
 | [] => rfl
 | ⟨f, x⟩ :: xs => by
   rw [zir, zir]
   simp only [zjt, zjk, Sl.out_l, zok x]
   rw [<- zir, <- zir, zAd xs]
theorem zok : ∀ l : List zam, zce (ze3 l) = zce l
 | [] => rfl
 | x :: xs => by simp only [ze3, zce, zHC x, zok xs]
theorem zyn : ∀ l : List zae, zgu (zgG l) = zgu l
 | [] => rfl
 | x :: xs => by simp only [zgG, zgu, zHD x, zyn xs]
theorem zHD : ∀ x : zae, ziW (zid x) = ziW x
 | .mk v ⟨f, l⟩ => by rw [znj, znj]; simp only [zid, zae.ann, Sl.out_l, zok l]
end
mutual
theorem zKR : ∀ x y : zam, zfs x (ziw y) = zfs x y
 | .mk c ⟨f, fs⟩, y => by simp only [zfs]; rw [zv5]; simp only [zam.factors, zam.coeff, Sl.out_l, <- zkl, zqI fs]
theorem zqI : ∀ l m : List zaj, zbX l (zcZ m) = zbX l m
 | [], [] => by simp only [zcZ]
 | [], _ :: _ => by simp only [zcZ, zbX]
 | _ :: _, [] => by simp only [zcZ]
 | x :: xs, y :: ys => by simp only [zcZ, zbX, zGm x, zqI xs]
theorem zGm : ∀ x y : zaj, zct x (zdE y) = zct x y
 | .mk a e, y => by simp only [zct]; rw [zqE]; simp only [zaj.atom, zaj.exp, zCO a]
theorem zCO : ∀ x y : zas, zb3 x (zgT y) = zb3 x y
 | .mk k r ⟨f1, as⟩ f ⟨f2, is⟩ o b, y => by
   simp only [zb3]; rw [znt]
   simp only [zas.kind, zas.row, zas.args, zas.func, zas.items, zas.op, zas.bound, Sl.out_l, <- ztk, <- zqC, zCP as, zAC is]
theorem zCP : ∀ l m : List (Sl zam), zgg l (zjt m) = zgg l m
 | [], [] => by simp only [zjt]
 | [], ⟨_, _⟩ :: _ => by simp only [zjt, zgg]
 | _ :: _, [] => by simp only [zjt]
 | ⟨_, x⟩ :: xs, ⟨_, y⟩ :: ys => by simp only [zjt, zgg, Sl.out_l, zqH x, zCP xs]
theorem zqH : ∀ l m : List zam, zdz l (ze3 m) = zdz l m
 | [], [] => by simp only [ze3]
 | [], _ :: _ => by simp only [ze3, zdz]
 | _ :: _, [] => by simp only [ze3]
 | x :: xs, y :: ys => by simp only [ze3, zdz, zKR x, zqH xs]
theorem zAC : ∀ l m : List zae, zcU l (zgG m) = zcU l m
 | [], [] => by simp only [zgG]
 | [], _ :: _ => by simp only [zgG, zcU]
 | _ :: _, [] => by simp only [zgG]
 | x :: xs, y :: ys => by simp only [zgG, zcU, zCN x, zAC xs]
theorem zCN : ∀ x y : zae, zcV x (zid y) = zcV x y
 | .mk v ⟨f, l⟩, y => by simp only [zcV]; rw [zsu]; simp only [zae.value, zae.ann, zhU, Sl.out_l, zqH l]
end
theorem zH9 (r : zbZ) : zpB r r = 0 := by unfold zpB; rw [zju, zju]; rfl
theorem zuN (v : Val) : zfd v v = 0 := by unfold zfd; rw [zju, zju, zGk]; rfl
theorem zvK (b : Int) : orI 0 b = b := by unfold orI; rw [if_pos rfl]
mutual
theorem zGj : ∀ x : zam, zfs x x = 0
 | .mk c ⟨f, fs⟩ => by simp only [zfs, zam.factors, zam.coeff, zsx fs, zvK, zju]
theorem zsx : ∀ l : List zaj, zbX l l = 0
 | [] => by simp only [zbX]
 | x :: xs => by simp only [zbX, zBH x, zsx xs, zvK]
theorem zBH : ∀ x : zaj, zct x x = 0
 | .mk a e => by simp only [zct, zaj.atom, zaj.exp, zGo a, zvK, zju]
theorem zGo : ∀ x : zas, zb3 x x = 0
 | .mk k r ⟨f1, as⟩ f ⟨f2, is⟩ o b => by
   simp only [zb3, zas.kind, zas.row, zas.args, zas.func, zas.items, zas.op, zas.bound, zyu as, zv7 is, zvK, zju, zH9, zuN]
theorem zyu : ∀ l : List (Sl zam), zgg l l = 0
 | [] => by simp only [zgg]
 | ⟨_, x⟩ :: xs => by simp only [zgg, zmE x, zyu xs, zvK]
theorem zmE : ∀ l : List zam, zdz l l = 0
 | [] => by simp only [zdz]
 | x :: xs => by simp only [zdz, zGj x, zmE xs, zvK]
theorem zv7 : ∀ l : List zae, zcU l l = 0
 | [] => by simp only [zcU]
 | x :: xs => by simp only [zcU, zGl x, zv7 xs, zvK]
theorem zGl : ∀ x : zae, zcV x x = 0
 | .mk v ⟨f, l⟩ => by simp only [zcV, zae.value, zae.ann, zuN, zmE l, zvK]
end
mutual
theorem zKQ : ∀ x y : zam, zfs (ziw x) y = zfs x y
 | .mk c ⟨f, fs⟩, y => by rw [zm2, zm2]; simp only [ziw, zam.factors, zam.coeff, Sl.out_l, zqD fs]
theorem zqD : ∀ l m : List zaj, zbX (zcZ l) m = zbX l m
 | [], _ => by simp only [zcZ]
 | _ :: _, [] => by simp only [zcZ, zbX]
 | x :: xs, y :: ys => by simp only [zcZ, zbX, zGh x, zqD xs]
theorem zGh : ∀ x y : zaj, zct (zdE x) y = zct x y
 | .mk a e, y => by simp only [zdE, zct, zCK a]
theorem zCK : ∀ x y : zas, zb3 (zgT x) y = zb3 x y
 | .mk k r ⟨f1, as⟩ f ⟨f2, is⟩ o b, y => by
   rw [zm4, zm4]
   simp only [zgT, zas.kind, zas.row, zas.args, zas.func, zas.items, zas.op, zas.bound, Sl.out_l, zCL as, zAy is]
theorem zCL : ∀ l m : List (Sl zam), zgg (zjt l) m = zgg l m
 | [], _ => by simp only [zjt]
 | ⟨_, _⟩ :: _, [] => by rw [zj6, zj6]; simp only [zjt, zwY]
 | ⟨_, x⟩ :: xs, ⟨_, y⟩ :: ys => by
   have h := zCL xs ys
   rw [zj6, zj6] at h
   rw [zj6, zj6]; simp only [zjt, zwY, zcR, Sl.out_l, zns x, h]
theorem zns : ∀ l m : List zam, zdz (ze3 l) m = zdz l m
 | [], _ => by simp only [ze3]
 | _ :: _, [] => by simp only [ze3, zdz]
 | x :: xs, y :: ys => by simp only [ze3, zdz, zKQ x, zns xs]
theorem zAy : ∀ l m : List zae, zcU (zgG l) m = zcU l m
 | [], _ => by simp only [zgG]
 | _ :: _, [] => by simp only [zgG, zcU]
 | x :: xs, y :: ys => by simp only [zgG, zcU, zCJ x, zAy xs]
theorem zCJ : ∀ x y : zae, zcV (zid x) y = zcV x y
 | .mk v ⟨f, l⟩, y => by rw [zm3, zm3]; simp only [zid, zae.value, zae.ann, zcR, Sl.out_l, zns l]
end
theorem zKT (x y : zas) : zb3 (zgT x) (zgT y) = zb3 x y := by rw [zCO, zCK]
theorem zKS (x y : zae) : zcV (zid x) (zid y) = zcV x y := by rw [zCN, zCJ]
theorem zNt (x y : Sl zam) : zcR (zhU x) (zhU y) = zcR x y := by unfold zcR zhU; rw [Sl.out_l, Sl.out_l, zqH, zns]
theorem zEe {α : Type} {f : α -> α -> Bool} {g : α -> α} (h : ∀ x y, f (g x) (g y) = f x y) : ∀ l : List α, adj f (l.map g) = adj f l
 | [] => rfl
 | [_] => rfl
 | x :: y :: l => by
   have := zEe h (y :: l)
   simp only [yR] at this ⊢
   simp only [adj, h, this]
theorem zMn {α : Type} (g : α -> α) (l : List α) : zFD (l.map g) = (zFD l).map g := by
 match l with
 | [] => rfl
 | [_] => rfl
 | _ :: _ :: _ => rfl
theorem zyr (t : zam) : (ziw t).coeff = t.coeff := by rw [zv5]; rfl
theorem zjs (t : zam) : (ziw t).factors.l = t.factors.l.map zdE := by rw [zv5]; simp only [zam.factors, Sl.out_l]
theorem zsv (f : zaj) : (zdE f).exp = f.exp := by rw [zqE]; rfl
theorem zkm (f : zaj) : (zdE f).atom = zgT f.atom := by rw [zqE]; rfl
theorem zuM (x : zas) : (zgT x).kind = x.kind := by rw [znt]; rfl
theorem zoq (x : zas) : (zgT x).items.l = x.items.l.map zid := by rw [znt]; simp only [zas.items, Sl.out_l]
theorem znu (x : zas) : (zgT x).args.l = x.args.l.map zhU := by rw [znt]; simp only [zas.args, Sl.out_l]
theorem zqF (a : Sl zam) : (zhU a).l = a.l.map ziw := by rw [zJn, Sl.out_l]
theorem zyq (a : Sl zam) : zeu (zhU a) = zeu a := by
 unfold zeu
 rw [zqF, List.any_map]
 congr 1; funext t
 simp only [Function.comp_apply, zjs, yV]
theorem zKX (a : Sl zam) : zmd (zhU a) = zmd a := by
 unfold zmd
 rw [zqF, zMn]
 cases zFD a.l with
 | none => rfl
 | some t =>
   simp only [yf, zyr, zjs, zMn]
   cases zFD t.factors.l with
   | none => rfl
   | some f => simp only [yf, zsv, zkm, zuM]
theorem zKe (a : Sl zam) : zsb (zhU a) = zsb a := by
 unfold zsb
 rw [zyq, zKX, zqF, yV]
theorem zDL (f : zaj) : zea (zdE f) = zea f := by
 unfold zea; rw [zsv, zkm, zoq, yV]
theorem zHT (t : zam) : zfX (ziw t) = zfX t := by
 unfold zfX
 rw [zjs, yV, List.all_map]
 congr 2; funext f; exact zDL f
theorem zDM (a : Sl zam) : zpz (zhU a) = zpz a := by
 have h1 : zkh (zhU a) = zkh a := by unfold zkh zhU; rw [Sl.out_l, zok]
 have h2 : zmA (zhU a) = zmA a := by unfold zmA zhU; rw [Sl.out_l, zoe]
 unfold zpz
 rw [h1, h2, zqF, yV, List.all_map]
 congr 2; funext t; exact zHT t
theorem zMB (fn : Int) (its its' : Sl zae) (h : its'.l = its.l.map zid) (op : Int) (d : Val) : zk1 fn its' op d = zk1 fn its op d := by
 unfold zk1
 rw [h, List.all_map]
 congr 2; funext w
 simp only [Function.comp_apply, ztA]
 rw [zsu]; rfl
theorem zMx (x y : zae) : zse (zid x) (zid y) = zse x y := by
 unfold zse zcI
 simp only [zcU, zKS]
theorem zvG (x : zas) : zk0 (zgT x) = zk0 x := by
 unfold zk0
 rw [zoq, yV, znt]; rfl
theorem zZm (x : zas) : k1B (zgT x) = k1B x := by
 unfold k1B
 rw [zvG, znu, yV]
 congr 1
 match x.args.l with
 | [] => rfl
 | [_] => rfl
 | [a, b] => simp only [yR, yr, zpq, zNt]
 | _ :: _ :: _ :: _ => rfl
theorem zZl (x : zas) : k2B (zgT x) = k2B x := by
 unfold k2B
 rw [zvG, znu, yV]
 congr 1
 match x.args.l with
 | [] => rfl
 | [a] => simp only [yR, yr, zKe]
 | _ :: _ :: _ => rfl
theorem zZk (x : zas) : k3B (zgT x) = k3B x := by
 unfold k3B
 rw [zvG, znu, yV]
 congr 1
 match x.args.l with
 | [] => rfl
 | [a] => simp only [yR, yr, zyq]
 | _ :: _ :: _ => rfl
theorem zRm (l : List zaj) : adj (fun (x y : zaj) => decide (zb3 x.atom y.atom < 0)) (l.map zdE) = adj (fun (x y : zaj) => decide (zb3 x.atom y.atom < 0)) l :=
 zEe (fun x y => by rw [zkm, zkm, zKT]) l
theorem zIk (l : List zam) : adj (fun (x y : zam) => decide (zbF x.factors y.factors < 0)) (l.map ziw) = adj (fun (x y : zam) => decide (zbF x.factors y.factors < 0)) l :=
 zEe (fun x y => by simp only [zbF, zjs, <- zkl, zqI, zqD]; first | done | rfl) l
mutual
theorem zOg : ∀ x : zam, zvi (ziw x) = zvi x
 | .mk c ⟨f, fs⟩ => by
   have h := zzC fs
   rw [zp0, zp0, zjs, zyr, zRm]
   simp only [zam.coeff, zam.factors]
   rw [<- zkl, h]
theorem zzC : ∀ l : List zaj, zmu (zcZ l) = zmu l
 | [] => rfl
 | x :: xs => by simp only [zcZ, zmu, zJD x, zzC xs]
theorem zJD : ∀ x : zaj, zgE (zdE x) = zgE x
 | .mk a e => by
   have h := zOi a
   rw [ziP, ziP, zsv, zkm, zuM]
   simp only [zaj.atom, zaj.exp, h]
theorem zOi : ∀ x : zas, zgU (zgT x) = zgU x
 | .mk k r ⟨f1, as⟩ f ⟨f2, is⟩ o b => by
   have h1 := zIB as
   have h2 := zEQ is
   rw [zmv, zmv, zvG, zZm, zZl, zZk, znu, zuM, yV]
   have h4 : k4B (zgT (.mk k r ⟨f1, as⟩ f ⟨f2, is⟩ o b)) = k4B (.mk k r ⟨f1, as⟩ f ⟨f2, is⟩ o b) := by
    unfold k4B
    rw [znu, zoq, yV, yV, zEe zMx, zMB _ (zas.items (.mk k r ⟨f1, as⟩ f ⟨f2, is⟩ o b)) _ (zoq _)]
    simp only [zas.args, zas.items]
    rw [<- zqC, h2, znt]
    simp only [zas.func, zas.op, zas.bound]
   rw [h4]
   simp only [zas.args]
   rw [<- ztk, h1, znt]
   simp only [zas.row]
theorem zIB : ∀ l : List (Sl zam), zyJ (zjt l) = zyJ l
 | [] => rfl
 | ⟨f, x⟩ :: xs => by
   have h := zvh x
   have h2 := zIB xs
   rw [zpl] at h2 ⊢
   rw [zpl] at h2 ⊢
   have e : zb2 (zhU ⟨f, x⟩) = zb2 ⟨f, x⟩ := by
    unfold zb2
    rw [zDM, zqF, zIk, <- znr, h]
   have e2 : Sl.out (ze3 x) = zhU ⟨f, x⟩ := rfl
   simp only [zjt, List.all_cons, h2, e2, e]
   rw [zqF, yV]
theorem zvh : ∀ l : List zam, zdp (ze3 l) = zdp l
 | [] => rfl
 | x :: xs => by simp only [ze3, zdp, zOg x, zvh xs]
theorem zEQ : ∀ l : List zae, zub (zgG l) = zub l
 | [] => rfl
 | x :: xs => by simp only [zgG, zub, zOh x, zEQ xs]
theorem zOh : ∀ x : zae, zC3 (zid x) = zC3 x
 | .mk v ⟨f, x⟩ => by
   have h := zvh x
   have e : zb2 (zhU ⟨f, x⟩) = zb2 ⟨f, x⟩ := by
    unfold zb2
    rw [zDM, zqF, zIk, <- znr, h]
   rw [zs4, zs4, zsu]
   simp only [zae.ann]
   rw [e, zqF, yV]
end
theorem zLr (a : Sl zam) : zb2 (zhU a) = zb2 a := by
 unfold zb2
 rw [zDM, zqF, zIk, <- znr, zvh]
theorem zCu {a : Sl zam} (hv : zb2 a = true) (hw : zbB a.l) : zib (zcu a) = (zhU a, 0) := by
 have hv' := hv
 unfold zb2 at hv'
 simp only [yK] at hv'
 obtain ⟨⟨hf, hvt⟩, _⟩ := hv'
 unfold zpz zkh at hf
 simp only [yK, YG] at hf
 have h := zJU 8 a YJ hvt hw [] zTB
 rw [List.append_nil] at h
 unfold zib
 rw [h]
 simp only
 rw [zLr, zOl, hv]
 simp
instance (n : Int) : Decidable (zkY n) := inferInstanceAs (Decidable (_ /\ _))
theorem in0 : zkY 0 := by decide
theorem zFs {s : Str} (h : (zj2 s).2 = true) : zkY (zj2 s).1 := by
 unfold zj2 at h ⊢
 cases he : Lib.atoiAll s with
 | ok v => exact Lib.atoiAll_bounds he
 | _ => rw [he] at h; cases h
theorem zFF {s r : Str} {n : Int} (h : zhy s = (n, true, r)) : zkY n /\ r.length <= s.length := by
 have h2 := zkd zcE s
 unfold zhy at h
 obtain ⟨rfl, h'⟩ := YE h
 obtain ⟨h3, rfl⟩ := YE h'
 exact ⟨zFs h3, by omega⟩
theorem zOj (s : Str) : (zm6 s).length <= s.length := by
 induction s using zm6.induct with
 | case1 => exact yP _
 | case2 b => exact yP _
 | case3 b c s h ih => rw [zm6, if_pos h]; simp; omega
 | case4 b c s h ih => rw [zm6, if_neg h]; simp at ih ⊢; omega
theorem zPB {s : Str} (h : (zfn s).2 = 0) : zlH (zfn s).1 /\ (zfn s).1.text.length <= s.length := by
 unfold zfn at h ⊢
 split
 · exact ⟨⟨by decide, by decide⟩, yi _⟩
 · rename_i h1; rw [if_neg h1] at h
   split
   · exact ⟨⟨by decide, by decide⟩, yi _⟩
   · rename_i h2; rw [if_neg h2] at h
     cases hu : ziQ s with
     | some t =>
       rw [hu] at h
       simp only at h ⊢
       split
       · rename_i h3; rw [if_pos h3] at h; cases h
       · refine ⟨⟨by simp only; decide, by simp only; decide⟩, ?_⟩
         unfold ziQ at hu
         cases s with
         | nil => cases hu
         | cons b t2 =>
           simp only at hu
           split at hu
           · cases hu
             have := zOj t2.dropLast
             simp only [List.length_dropLast, yC] at *; omega
           · cases hu
     | none =>
       rw [hu] at h
       simp only at h ⊢
       split
       · rename_i h3; rw [if_pos h3] at h
         split
         · rename_i h4; exact ⟨⟨by simp only; decide, zFs h4⟩, yi _⟩
         · rename_i h4; rw [if_neg h4] at h; cases h
       · rename_i h3; rw [if_neg h3] at h; cases h
theorem zCw {s r : Str} {v : Val} (h : zfq s = (v, true, r)) : zlH v /\ v.text.length + r.length <= s.length := by
 unfold zfq at h
 split at h
 · split at h
   · cases h
   · obtain ⟨rfl, h'⟩ := YE h
     obtain ⟨h3, rfl⟩ := YE h'
     have := zPB (by simpa using h3)
     refine ⟨this.1, ?_⟩
     have h4 := this.2
     rw [List.length_take] at h4
     rw [List.length_drop]
     have := h4
     rename_i n hq _
     by_cases hn : n + 2 <= s.length
     · omega
     · rw [show s.length - (n + 2) = 0 by omega]; omega
 · obtain ⟨rfl, h'⟩ := YE h
   obtain ⟨h3, rfl⟩ := YE h'
   have h2 := zkd zJM s
   have := zPB (by simpa using h3)
   exact ⟨this.1, by omega⟩
theorem zFb {s : Str} (h : (zim s).2 = 0) : zkY (zim s).1 := by
 unfold zim at h ⊢
 split
 · rename_i h1; rw [if_pos h1] at h; cases h
 · rename_i h1; rw [if_neg h1] at h
   split
   · rename_i h2; rw [if_pos h2] at h; cases h
   · rename_i h2; rw [if_neg h2] at h
     cases he : Lib.atoiAll s with
     | ok v => exact Lib.atoiAll_bounds he
     | _ => rw [he] at h; cases h
theorem zTf {s : Str} (h : (ziT s).2 = 0) : zw1 (ziT s).1 /\ 1 <= s.length := by
 unfold ziT at h ⊢
 split
 · rename_i h1; rw [if_pos h1] at h
   split
   · rename_i h2; rw [if_pos h2] at h; cases h
   · rename_i h2; rw [if_neg h2] at h
     split
     · rename_i h3
       refine ⟨⟨zFb h3.1, zFb h3.2⟩, ?_⟩
       cases s with
       | nil => cases h1
       | cons b s => simp
     · rename_i h3; rw [if_neg h3] at h; cases h
 · rename_i h1; rw [if_neg h1] at h; cases h
def okA (ann : zow) : Prop := ∀ s a r, ann s = (a, true, r) -> zbB a.l /\ zak a.l + 5 * r.length <= 5 * s.length
theorem zgX {p s : Str} {c : Bool} {r : Str} (h : zaQ p s = (c, r)) : r.length + (if c then p.length else 0) = s.length := zEY h
theorem zzJ (l : List zae) (x : zae) : zbb (l ++ [x]) = zbb l + zei x + 1 := by
 induction l with
 | nil => simp [zbb]
 | cons y l ih => simp only [yS, zbb, ih]; omega
theorem zvo (l : List zaj) (x : zaj) : zaD (l ++ [x]) = zaD l + zc8 x + 1 := by
 induction l with
 | nil => simp [zaD]
 | cons y l ih => simp only [yS, zaD, ih]; omega
theorem zzH (l : List zam) (x : zam) : zak (l ++ [x]) = zak l + zcH x + 1 := by
 induction l with
 | nil => simp [zak]
 | cons y l ih => simp only [yS, zak, ih]; omega
theorem zzz (l : List zae) (x : zae) : zk6 (l ++ [x]) ↔ zk6 l /\ zzA x := by
 induction l with
 | nil => simp [zk6]
 | cons y l ih => simp only [yS, zk6, ih, and_assoc]
theorem zvf (l : List zaj) (x : zaj) : zhb (l ++ [x]) ↔ zhb l /\ zh9 x := by
 induction l with
 | nil => simp [zhb]
 | cons y l ih => simp only [yS, zhb, ih, and_assoc]
theorem zzy (l : List zam) (x : zam) : zbB (l ++ [x]) ↔ zbB l /\ zrV x := by
 induction l with
 | nil => simp [zbB]
 | cons y l ih => simp only [yS, zbB, ih, and_assoc]
theorem zOU {ann : zow} (h : okA ann) : ∀ (k : Nat) (acc : List zae) (s : Str) (l : List zae) (r : Str), zkf ann k acc s = (l, true, r) -> zk6 acc -> zk6 l /\ zbb l + 5 * r.length <= zbb acc + 5 * s.length := by
 intro k
 induction k with
 | zero => intro acc s l r e; cases e
 | succ k ih =>
   intro acc s l r e ha
   rw [zkf] at e
   rcases hl : zfq s with ⟨v, ok, s1⟩
   rw [hl] at e
   cases ok
   · cases e
   · obtain ⟨hv, hvl⟩ := zCw hl
     rcases ht : zaQ zro s1 with ⟨c, s2⟩
     simp only [ht, if_true] at e
     cases c
     · cases e
     · have h2 := zgX ht
       rcases hA : ann s2 with ⟨a, is, s3⟩
       simp only [hA, if_true] at e
       cases is
       · cases e
       · obtain ⟨hw, hs⟩ := h s2 a s3 hA
         rcases hm : zaQ zl9 s3 with ⟨d, s4⟩
         have h3 := zgX hm
         simp only [hm, if_true] at e
         have hz : zei (zae.mk v a) = zak a.l + v.text.length + 1 := zjp _
         have hwi : zzA (zae.mk v a) := (zrW _).2 ⟨hv, hw⟩
         simp only [if_true, zro, zl9, yC, yI] at h2 h3
         cases d
         · cases e
           refine ⟨(zzz _ _).2 ⟨ha, hwi⟩, ?_⟩
           rw [zzJ, hz]; simp only [yF, if_false] at h3; omega
         · obtain ⟨h5, h6⟩ := ih _ _ _ _ e ((zzz _ _).2 ⟨ha, hwi⟩)
           refine ⟨h5, ?_⟩
           rw [zzJ, hz] at h6; simp only [if_true] at h3; omega
theorem zMI (z : UInt8) : ∀ (l : List Str) (i : Int) (s : Str), (zcj z l i s).2.length <= s.length /\ ((zcj z l i s).1 = -1 ∨ i <= (zcj z l i s).1 /\ (zcj z l i s).1 < i + l.length) := by
 intro l
 induction l with
 | nil => intro i s; exact ⟨yP _, .inl rfl⟩
 | cons w l ih =>
   intro i s; rw [zcj]; split
   · refine ⟨?_, .inr ?_⟩
     · unfold zaQ; split <;> simp
     · simp only [yC]; omega
   · obtain ⟨h1, h2⟩ := ih (i + 1) s
     refine ⟨h1, ?_⟩
     rcases h2 with h2 | h2
     · exact .inl h2
     · right; simp only [yC]; omega
theorem zQj {ann : zow} (h : okA ann) (s : Str) (x : zas) (r : Str) (e : zty ann s = (x, true, r)) : zii x /\ zby x + 5 * r.length <= 5 * s.length + 1 := by
 unfold zty at e
 have h1 := zMI 123 zde 0 s
 rcases hi : zcj 123 zde 0 s with ⟨fn, s1⟩
 rw [hi] at e h1
 simp only at e h1
 split at e
 · cases e
 · rcases hI : zkf ann (s1.length + 1) [] s1 with ⟨its, ok, s2⟩
   rw [hI] at e
   cases ok
   · cases e
   · obtain ⟨h2, h3⟩ := zOU h _ _ _ _ _ hI trivial
     rcases ht : zaQ zlJ s2 with ⟨c, s3⟩
     have h4 := zgX ht
     simp only [ht, if_true] at e
     cases c
     · cases e
     · have h5 := zMI 32 zc5 0 s3
       rcases hj : zcj 32 zc5 0 s3 with ⟨i, s4⟩
       rcases hl : zfq s4 with ⟨v, ok, s5⟩
       rw [hj] at h5
       simp only [hj, hl, if_true] at e
       obtain ⟨rfl, e'⟩ := YE e
       obtain ⟨e1, rfl⟩ := YE e'
       rw [yK, YG] at e1
       obtain ⟨e1, rfl⟩ := e1
       obtain ⟨hv, hvl⟩ := zCw hl
       have hn : (zde.length : Int) = 4 := rfl
       have ho : (zc5.length : Int) = 6 := rfl
       simp only at h5
       refine ⟨(zjo _).2 ⟨by simp only [zas.kind]; decide, ⟨by simp only [zas.row]; decide, by simp only [zas.row]; decide⟩, trivial, ⟨by simp only [zas.func]; omega, by simp only [zas.func]; omega⟩, by simpa [zas.items] using h2, ⟨by simp only [zas.op]; omega, by simp only [zas.op]; omega⟩, hv⟩, ?_⟩
       rw [zcr]
       simp only [zas.args, zas.items, zas.bound, Sl.out_l, zbb, Sl.nil_l, zcw] at h3 ⊢
       simp only [if_true] at h4
       omega
theorem zOX (s : Str) : (ziq s).2.length + (if (ziq s).1 = 0 then 0 else 5) <= s.length := by
 unfold ziq
 split
 · rename_i h; have := zgX (p := zfa) (s := s) (c := true) (r := (zaQ zfa s).2) (by rw [<- h])
   simp [zfa] at this ⊢; omega
 · split
   · rename_i h; have := zgX (p := zfb) (s := s) (c := true) (r := (zaQ zfb s).2) (by rw [<- h])
     simp [zfb] at this ⊢; omega
   · split
     · rename_i h; have := zgX (p := zc3) (s := s) (c := true) (r := (zaQ zc3 s).2) (by rw [<- h])
       simp [zc3] at this ⊢; omega
     · split
       · rename_i h; have := zgX (p := zji) (s := s) (c := true) (r := (zaQ zji s).2) (by rw [<- h])
         simp [zji] at this ⊢; omega
       · simp
theorem zQO (s : Str) : 0 <= (ziq s).1 /\ (ziq s).1 <= 4 := by
 unfold ziq
 split
 · simp
 · split
   · simp
   · split
     · simp
     · split
       · simp
       · simp
theorem zNI {k : Int} {l : List (Sl zam)} (hk : 0 <= k /\ k <= 4) (hw : zya l) : zii (zks k l) := by
 refine (zjo _).2 ⟨⟨by simp only [zks, zas.kind]; omega, by simp only [zks, zas.kind]; omega⟩, ⟨in0, in0⟩, ?_, in0, trivial, in0, in0, in0⟩
 simpa [zks, zas.args] using hw
theorem zRh {ann : zow} (h : okA ann) (s : Str) (x : zas) (r : Str) (e : zrA ann s = (x, true, r)) : zii x /\ zby x + 4 + 5 * r.length <= 5 * s.length := by
 unfold zrA at e
 have h0 := zOX s
 have hk := zQO s
 rcases hh : ziq s with ⟨k, s0⟩
 rw [hh] at e h0 hk
 simp only at e h0 hk
 by_cases hk0 : k = 0
 · rw [if_pos hk0] at e
   obtain ⟨rfl, e'⟩ := YE e
   obtain ⟨e1, rfl⟩ := YE e'
   obtain ⟨h1, h2⟩ := zTf (by simpa using e1)
   have h3 := zkd zIL s0
   refine ⟨(zjo _).2 ⟨in0, h1, trivial, in0, trivial, in0, in0, in0⟩, ?_⟩
   rw [zcr]
   simp only [zas.args, zas.items, zas.bound, zbb, Sl.nil_l, zcw, yI]
   omega
 · rw [if_neg hk0] at e
   rw [if_neg hk0] at h0
   by_cases hk4 : k = 4
   · rw [if_pos hk4] at e
     rcases hT : zty ann s0 with ⟨y, ok, s1⟩
     rw [hT] at e
     cases ok
     · cases e
     · obtain ⟨h1, h2⟩ := zQj h _ _ _ hT
       simp only [if_true] at e
       obtain ⟨rfl, e'⟩ := YE e
       obtain ⟨e1, rfl⟩ := YE e'
       have h3 := zgX (p := [93]) (s := s1) (c := true) (r := (zaQ [93] s1).2) (by rw [<- e1])
       simp only [if_true, yC, yI] at h3
       exact ⟨h1, by omega⟩
   · rw [if_neg hk4] at e
     rcases hA : ann s0 with ⟨a, ok, s1⟩
     rw [hA] at e
     cases ok
     · cases e
     · obtain ⟨h1, h2⟩ := h _ _ _ hA
       simp only [if_true] at e
       by_cases hk1 : k = 1
       · rw [if_pos hk1] at e
         rcases ht : zaQ zrn s1 with ⟨c, s2⟩
         have h3 := zgX ht
         simp only [ht] at e
         cases c
         · cases e
         · rcases hB : ann s2 with ⟨b, ok2, s3⟩
           simp only [hB, if_true] at e
           cases ok2
           · cases e
           · obtain ⟨h4, h5⟩ := h _ _ _ hB
             simp only [if_true] at e
             obtain ⟨rfl, e'⟩ := YE e
             obtain ⟨e1, rfl⟩ := YE e'
             have h6 := zgX (p := [93]) (s := s3) (c := true) (r := (zaQ [93] s3).2) (by rw [<- e1])
             simp only [if_true, yC, yI] at h6 h3
             refine ⟨zNI hk ⟨h1, h4, trivial⟩, ?_⟩
             rw [zcr]
             simp only [zks, zas.args, zas.items, zas.bound, zbb, Sl.nil_l, Sl.out_l, zcw, yI]
             omega
       · rw [if_neg hk1] at e
         obtain ⟨rfl, e'⟩ := YE e
         obtain ⟨e1, rfl⟩ := YE e'
         have h6 := zgX (p := [93]) (s := s1) (c := true) (r := (zaQ [93] s1).2) (by rw [<- e1])
         simp only [if_true, yC, yI] at h6
         refine ⟨zNI hk ⟨h1, trivial⟩, ?_⟩
         rw [zcr]
         simp only [zks, zas.args, zas.items, zas.bound, zbb, Sl.nil_l, Sl.out_l, zcw, yI]
         omega
theorem zMX {ann : zow} (h : okA ann) (s : Str) (x : zaj) (r : Str) (e : zoP ann s = (x, true, r)) : zh9 x /\ zc8 x + 3 + 5 * r.length <= 5 * s.length := by
 unfold zoP at e
 rcases hA : zrA ann s with ⟨a, ok, s1⟩
 rw [hA] at e
 cases ok
 · cases e
 · obtain ⟨h1, h2⟩ := zRh h _ _ _ hA
   rcases ht : zaQ [94] s1 with ⟨c, s2⟩
   have h3 := zgX ht
   simp only [ht, if_true] at e
   cases c
   · cases e
     refine ⟨(zm5 _).2 ⟨h1, (show zkY 1 by decide)⟩, ?_⟩
     rw [zcB]; simp only [zaj.atom]; simp only [yF, if_false] at h3; omega
   · rcases hN : zhy s2 with ⟨n, ok, s3⟩
     simp only [hN, if_true] at e
     cases e
     obtain ⟨h4, h5⟩ := zFF hN
     refine ⟨(zm5 _).2 ⟨h1, h4⟩, ?_⟩
     rw [zcB]; simp only [zaj.atom]; simp only [if_true] at h3; omega
theorem zKx {ann : zow} (h : okA ann) : ∀ (k : Nat) (acc : List zaj) (s : Str) (l : List zaj) (r : Str), zic ann k acc s = (l, true, r) -> zhb acc -> zhb l /\ zaD l + 2 + 5 * r.length <= zaD acc + 5 * s.length := by
 intro k
 induction k with
 | zero => intro acc s l r e; cases e
 | succ k ih =>
   intro acc s l r e ha
   rw [zic] at e
   rcases hF : zoP ann s with ⟨f, ok, s1⟩
   rw [hF] at e
   cases ok
   · cases e
   · obtain ⟨h1, h2⟩ := zMX h _ _ _ hF
     rcases ht : zaQ [42] s1 with ⟨c, s2⟩
     have h3 := zgX ht
     simp only [ht, if_true] at e
     cases c
     · cases e
       refine ⟨(zvf _ _).2 ⟨ha, h1⟩, ?_⟩
       rw [zvo]; simp only [yF, if_false] at h3; omega
     · obtain ⟨h5, h6⟩ := ih _ _ _ _ e ((zvf _ _).2 ⟨ha, h1⟩)
       refine ⟨h5, ?_⟩
       rw [zvo] at h6; simp only [if_true] at h3; omega
theorem zQk {ann : zow} (h : okA ann) (s : Str) (x : zam) (r : Str) (e : zvH ann s = (x, true, r)) : zrV x /\ zcH x + 1 + 5 * r.length <= 5 * s.length := by
 have hF : ∀ (c : Int) (t : Str), zkY c -> zyj ann c t = (x, true, r) -> zrV x /\ zcH x + 1 + 5 * r.length <= 5 * t.length := by
  intro c t hc e
  unfold zyj at e
  rcases hf : zic ann (t.length + 1) [] t with ⟨fs, ok, s1⟩
  rw [hf] at e
  simp only at e
  obtain ⟨rfl, e'⟩ := YE e
  obtain ⟨rfl, rfl⟩ := YE e'
  obtain ⟨h1, h2⟩ := zKx h _ _ _ _ _ hf trivial
  refine ⟨(zrU _).2 ⟨hc, by simpa [zam.factors] using h1⟩, ?_⟩
  rw [zdq]; simp only [zam.factors, Sl.out_l, zaD] at h2 ⊢; omega
 unfold zvH at e
 split at e
 · rename_i hd
   rcases hN : zhy s with ⟨n, ok, s1⟩
   rw [hN] at e
   cases ok
   · cases e
   · obtain ⟨h4, h5⟩ := zFF hN
     rcases ht : zaQ [42] s1 with ⟨c, s2⟩
     have h3 := zgX ht
     simp only [ht, if_true] at e
     cases c
     · obtain ⟨rfl, e'⟩ := YE e
       obtain ⟨_, rfl⟩ := YE e'
       refine ⟨(zrU _).2 ⟨h4, trivial⟩, ?_⟩
       have h6 : s2.length < s.length := by
        have e1 : s2 = s1 := zuy ht
        subst e1
        have h7 := zkd zcE s
        have e2 : (zvB zcE s).2 = s2 := by unfold zhy at hN; exact (YE (YE hN).2).2
        rw [e2] at h7
        cases s with
        | nil => cases hd
        | cons b s =>
          have : 1 <= (zvB zcE (b :: s)).1.length := by
           unfold zvB
           have hb : zcE.contains b = true := by
            rw [zss]; unfold zno at hd; simp at hd; unfold zsj; exact hd
           rw [List.takeWhile_cons, if_pos hb]; simp
          omega
       rw [zdq]; simp only [zam.factors, Sl.nil_l, zaD]; omega
     · obtain ⟨h6, h7⟩ := hF n s2 h4 e
       refine ⟨h6, ?_⟩
       simp only [if_true, yC, yI] at h3; omega
 · exact hF 1 s (by decide) e
theorem zOo {ann : zow} (h : okA ann) : ∀ (k : Nat) (acc : List zam) (s : Str) (a : Sl zam) (r : Str), znd ann k acc s = (a, true, r) -> zbB acc -> zbB a.l /\ zak a.l + 5 * r.length <= zak acc + 5 * s.length := by
 intro k
 induction k with
 | zero => intro acc s l r e; cases e
 | succ k ih =>
   intro acc s l r e ha
   rw [znd] at e
   rcases hT : zvH ann s with ⟨f, ok, s1⟩
   rw [hT] at e
   cases ok
   · cases e
   · obtain ⟨h1, h2⟩ := zQk h _ _ _ hT
     rcases ht : zaQ zma s1 with ⟨c, s2⟩
     have h3 := zgX ht
     simp only [ht, if_true] at e
     cases c
     · cases e
       refine ⟨by rw [Sl.out_l]; exact (zzy _ _).2 ⟨ha, h1⟩, ?_⟩
       rw [Sl.out_l, zzH]; simp only [yF, if_false] at h3; omega
     · obtain ⟨h5, h6⟩ := ih _ _ _ _ e ((zzy _ _).2 ⟨ha, h1⟩)
       refine ⟨h5, ?_⟩
       rw [zzH] at h6; simp only [if_true] at h3; omega
theorem zP7 : ∀ d, okA (zng d) := by
 intro d
 induction d with
 | zero => intro s a r e; cases e
 | succ d ih =>
   intro s a r e
   rw [zng] at e
   rcases ht : zaQ [48] s with ⟨c, s1⟩
   have h3 := zgX ht
   simp only [ht] at e
   cases c
   · obtain ⟨h1, h2⟩ := zOo ih _ _ _ _ _ e trivial
     refine ⟨h1, ?_⟩
     simp only [zak] at h2; simp only [yF, if_false] at h3; omega
   · cases e
     refine ⟨trivial, ?_⟩
     simp only [Sl.nil_l, zak]; simp only [if_true] at h3; omega
end Go.Ev
