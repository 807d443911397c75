/- Part of a proof. -/
import Derived.Lib.AtoiAllCases
import Derived.Test.YtaadpbhondmahaaGreatDoorT6
set_option linter.all false
namespace Go.Ev
theorem zow (p s : Str) (b : UInt8) (h : s.head? ≠ some b) : za3 (b :: p) s = (false, s) := by
 unfold za3
 rw [if_neg]
 cases s with
 | nil => simp
 | cons c s =>
   simp only [List.head?_cons, ne_eq, Option.some.injEq] at h
   simp [List.isPrefixOf]
   intro e; exact absurd e.symm h
theorem zuz {p s r : Str} (h : za3 p s = (true, r)) : s = p ++ r := by
 unfold za3 at h
 split at h
 · rename_i hp
   obtain ⟨t, ht⟩ := List.isPrefixOf_iff_prefix.1 hp
   simp only [Prod.mk.injEq, true_and] at h
   rw [← ht] at h ⊢
   simp at h; rw [h]
 · simp at h
theorem zpt {p s r : Str} (h : za3 p s = (false, r)) : r = s := by
 unfold za3 at h
 split at h
 · simp at h
 · simp only [Prod.mk.injEq, true_and] at h; exact h.symm
theorem zwC {p s r : Str} {c : Bool} (h : za3 p s = (c, r)) : r.length + (if c then p.length else 0) = s.length := by
 cases c
 · rw [zpt h]; simp
 · have := zuz h; rw [this]; simp; omega
theorem zzv (set s : Str) : (zq6 set s).1 ++ (zq6 set s).2 = s := by
 unfold zq6; exact List.takeWhile_append_dropWhile
theorem zhY (set s : Str) : (zq6 set s).1.length + (zq6 set s).2.length = s.length := by
 have := congrArg List.length (zzv set s)
 rw [List.length_append] at this; exact this
def zET (b : UInt8) : Prop := 48 ≤ b.toNat ∧ b.toNat ≤ 57
theorem zDd {b : UInt8} : zcs.contains b = true ↔ zET b := by
 unfold zET zcs
 simp only [List.contains_cons, List.contains_nil, Bool.or_false, Bool.or_eq_true, beq_iff_eq, ← UInt8.toNat_inj]
 constructor
 · rintro (h | h | h | h | h | h | h | h | h | h) <;> rw [h] <;> decide
 · intro ⟨h1, h2⟩
   have : b.toNat = 48 ∨ b.toNat = 49 ∨ b.toNat = 50 ∨ b.toNat = 51 ∨ b.toNat = 52 ∨ b.toNat = 53 ∨ b.toNat = 54 ∨ b.toNat = 55 ∨ b.toNat = 56 ∨ b.toNat = 57 := by omega
   simpa using this
end Go.Ev
namespace Go.Ev
theorem zxi (b : UInt8) (s : Str) : zE2 (b :: s) = if b = 39 then 39 :: 39 :: zE2 s else b :: zE2 s := rfl
end Go.Ev
namespace Go.Ev
theorem zCH (sep : Str) : zjV [] sep = [] := rfl
theorem zCG (x sep : Str) : zjV [x] sep = x := Lib.join_one x sep
theorem zCF (x y : Str) (l : List Str) (sep : Str) : zjV (x :: y :: l) sep = x ++ (sep ++ zjV (y :: l) sep) := by
 unfold zjV; rw [Lib.join_cons, Lib.join_cons]; simp [Lib.joinTail]
def hd (P : UInt8 → Prop) (s : Str) : Prop := ∀ b, s.head? = some b → P b
end Go.Ev
namespace Go.Ev
theorem zGh {fn : Int} {d : Val} {w : zaf} (h : zsh fn d w = true) : zbb w.value = true := by
 unfold zsh at h
 simp only [Bool.not_eq_true', Bool.or_eq_false_iff, Bool.not_eq_false'] at h
 exact h.1.1
theorem zyK {fn : Int} {its : Sl zaf} {op : Int} {d : Val} (h : zpk fn its op d = true) : 0 ≤ fn ∧ fn ≤ 3 ∧ 5 ≤ op ∧ op ≤ 10 ∧ zbb d = true ∧ ∀ x ∈ its.l, zbb x.value = true := by
 unfold zpk at h
 simp only [Bool.and_eq_true, Bool.not_eq_true', Bool.or_eq_false_iff, decide_eq_false_iff_not, Bool.not_eq_false', List.all_eq_true] at h
 obtain ⟨⟨⟨⟨⟨⟨h1, h2⟩, h3⟩, h4⟩, h5⟩, _⟩, h6⟩ := h
 exact ⟨by omega, by omega, by omega, by omega, h5, fun x hx => zGh (h6 x hx)⟩
theorem zyx {fn : Int} {il : Nat} {op : Int} {b : Val} (h : zmA fn il op b = true) : fn = 0 ∧ il = 0 ∧ op = 0 ∧ b = ⟨0, 0, []⟩ := by
 unfold zmA at h
 simp only [Bool.and_eq_true, beq_iff_eq] at h
 obtain ⟨⟨⟨h1, h2⟩, h3⟩, h4, h5, h6⟩ := h
 refine ⟨h1, by omega, h3, ?_⟩
 cases b; simp_all
end Go.Ev
namespace Go.Ev
theorem zsR {x : zap} (hv : zmk x = true) (hk : x.kind ≠ 0) : (∀ a ∈ x.args.l, zhl a.l = true) ∧ ∀ w ∈ x.items.l, zhl w.ann.l = true := by
 rcases x with ⟨k, r, ⟨f1, as⟩, fn, ⟨f2, is⟩, op, b⟩
 simp only [zap.kind, zap.args, zap.items] at hk ⊢
 unfold zmk at hv
 rw [if_neg hk] at hv
 simp only [Bool.and_eq_true, beq_iff_eq] at hv
 obtain ⟨⟨_, hva⟩, hv⟩ := hv
 rw [zsS] at hva
 refine ⟨fun a ha => ?_, fun w hw => ?_⟩
 · have := List.all_eq_true.1 hva a ha
   simp only [Bool.and_eq_true, zdD] at this
   exact this.2.1.2
 · have noitems : ∀ {fn : Int} {op : Int} {b : Val}, zmA fn is.length op b = true → False := by
    intro fn op b h
    have := (zyx h).2.1
    rw [List.length_eq_zero_iff.1 this] at hw; simp at hw
   by_cases h1 : k = 1
   · rw [if_pos h1] at hv; simp only [Bool.and_eq_true] at hv; exact (noitems hv.1.2).elim
   · rw [if_neg h1] at hv
     by_cases h2 : k = 2
     · rw [if_pos h2] at hv; simp only [Bool.and_eq_true] at hv; exact (noitems hv.1.2).elim
     · rw [if_neg h2] at hv
       by_cases h3 : k = 3
       · rw [if_pos h3] at hv; simp only [Bool.and_eq_true] at hv; exact (noitems hv.1.2).elim
       · rw [if_neg h3] at hv
         by_cases h4 : k = 4
         · rw [if_pos h4] at hv
           simp only [Bool.and_eq_true] at hv
           have := hv.1.2
           rw [zux] at this
           have := List.all_eq_true.1 this w hw
           rw [zzl] at this
           simp only [Bool.and_eq_true, zdD] at this
           exact this.2.1.2
         · rw [if_neg h4] at hv; cases hv
end Go.Ev
namespace Go.Ev
end Go.Ev
namespace Go.Ev
theorem zEH {s : Str} {a : Sl zam} (h : zfV s = (a, 0)) : zdD a = true ∧ zeS a = s := by
 unfold zfV at h
 revert h
 rcases zl0 9 s with ⟨x, ok, r⟩
 simp only
 split
 · rename_i hc
   intro h
   simp only [Prod.mk.injEq, and_true] at h
   simp only [Bool.and_eq_true, beq_iff_eq] at hc
   rw [← h]; exact ⟨hc.1.2, hc.2⟩
 · intro h
   simp at h
end Go.Ev
namespace Go.Ev
instance (n : Int) : Decidable (zl2 n) := inferInstanceAs (Decidable (_ ∧ _))
theorem in0 : zl2 0 := by decide
theorem zwY {s : Str} (h : (ziu s).2 = true) : zl2 (ziu s).1 := by
 unfold ziu at h ⊢
 cases he : Lib.atoiAll s with
 | ok v => exact Lib.atoiAll_bounds he
 | _ => rw [he] at h; cases h
theorem zw3 {s r : Str} {n : Int} (h : zgH s = (n, true, r)) : zl2 n ∧ r.length ≤ s.length := by
 have h2 := zhY zcs s
 unfold zgH at h
 obtain ⟨rfl, h'⟩ := Prod.mk.inj h
 obtain ⟨h3, rfl⟩ := Prod.mk.inj h'
 exact ⟨zwY h3, by omega⟩
theorem zEc (s : Str) : (znf s).length ≤ s.length := by
 induction s using znf.induct with
 | case1 => exact Nat.le_refl _
 | case2 b => exact Nat.le_refl _
 | case3 b c s h ih => rw [znf, if_pos h]; simp; omega
 | case4 b c s h ih => rw [znf, if_neg h]; simp at ih ⊢; omega
theorem zFw {s : Str} (h : (zfo s).2 = 0) : zpX (zfo s).1 ∧ (zfo s).1.text.length ≤ s.length := by
 unfold zfo at h ⊢
 split
 · exact ⟨⟨by decide, by decide⟩, Nat.zero_le _⟩
 · rename_i h1; rw [if_neg h1] at h
   split
   · exact ⟨⟨by decide, by decide⟩, Nat.zero_le _⟩
   · rename_i h2; rw [if_neg h2] at h
     cases hu : zjM s with
     | some t =>
       rw [hu] at h
       simp only at h ⊢
       split
       · rename_i h3; rw [if_pos h3] at h; cases h
       · refine ⟨⟨by simp only; decide, by simp only; decide⟩, ?_⟩
         unfold zjM at hu
         cases s with
         | nil => cases hu
         | cons b t2 =>
           simp only at hu
           split at hu
           · cases hu
             have := zEc t2.dropLast
             simp only [List.length_dropLast, List.length_cons] at *; omega
           · cases hu
     | none =>
       rw [hu] at h
       simp only at h ⊢
       split
       · rename_i h3; rw [if_pos h3] at h
         split
         · rename_i h4; exact ⟨⟨by simp only; decide, zwY h4⟩, Nat.zero_le _⟩
         · rename_i h4; rw [if_neg h4] at h; cases h
       · rename_i h3; rw [if_neg h3] at h; cases h
theorem zuR {s r : Str} {v : Val} (h : zfX s = (v, true, r)) : zpX v ∧ v.text.length + r.length ≤ s.length := by
 unfold zfX at h
 split at h
 · split at h
   · cases h
   · obtain ⟨rfl, h'⟩ := Prod.mk.inj h
     obtain ⟨h3, rfl⟩ := Prod.mk.inj h'
     have := zFw (by simpa using h3)
     refine ⟨this.1, ?_⟩
     have h4 := this.2
     rw [List.length_take] at h4
     rw [List.length_drop]
     have := h4
     rename_i n hq _
     by_cases hn : n + 2 ≤ s.length
     · omega
     · rw [show s.length - (n + 2) = 0 by omega]; omega
 · obtain ⟨rfl, h'⟩ := Prod.mk.inj h
   obtain ⟨h3, rfl⟩ := Prod.mk.inj h'
   have h2 := zhY zEs s
   have := zFw (by simpa using h3)
   exact ⟨this.1, by omega⟩
theorem zwN {s : Str} (h : (zhu s).2 = 0) : zl2 (zhu s).1 := by
 unfold zhu at h ⊢
 split
 · rename_i h1; rw [if_pos h1] at h; cases h
 · rename_i h1; rw [if_neg h1] at h
   split
   · rename_i h2; rw [if_pos h2] at h; cases h
   · rename_i h2; rw [if_neg h2] at h
     cases he : Lib.atoiAll s with
     | ok v => exact Lib.atoiAll_bounds he
     | _ => rw [he] at h; cases h
theorem zIL {s : Str} (h : (zhZ s).2 = 0) : zAj (zhZ s).1 ∧ 1 ≤ s.length := by
 unfold zhZ at h ⊢
 split
 · rename_i h1; rw [if_pos h1] at h
   split
   · rename_i h2; rw [if_pos h2] at h; cases h
   · rename_i h2; rw [if_neg h2] at h
     split
     · rename_i h3
       refine ⟨⟨zwN h3.1, zwN h3.2⟩, ?_⟩
       cases s with
       | nil => cases h1
       | cons b s => simp
     · rename_i h3; rw [if_neg h3] at h; cases h
 · rename_i h1; rw [if_neg h1] at h; cases h
def okA (ann : zsb) : Prop := ∀ s a r, ann s = (a, true, r) → zcl a.l ∧ zal a.l + 5 * r.length ≤ 5 * s.length
theorem zfp {p s : Str} {c : Bool} {r : Str} (h : za3 p s = (c, r)) : r.length + (if c then p.length else 0) = s.length := zwC h
theorem zsX (l : List zaf) (x : zaf) : zbB (l ++ [x]) = zbB l + zeV x + 1 := by
 induction l with
 | nil => simp [zbB]
 | cons y l ih => simp only [List.cons_append, zbB, ih]; omega
theorem zp3 (l : List zaj) (x : zaj) : za1 (l ++ [x]) = za1 l + zds x + 1 := by
 induction l with
 | nil => simp [za1]
 | cons y l ih => simp only [List.cons_append, za1, ih]; omega
theorem zsW (l : List zam) (x : zam) : zal (l ++ [x]) = zal l + zcY x + 1 := by
 induction l with
 | nil => simp [zal]
 | cons y l ih => simp only [List.cons_append, zal, ih]; omega
theorem zsN (l : List zaf) (x : zaf) : zjo (l ++ [x]) ↔ zjo l ∧ zuv x := by
 induction l with
 | nil => simp [zjo]
 | cons y l ih => simp only [List.cons_append, zjo, ih, and_assoc]
theorem zpY (l : List zaj) (x : zaj) : zge (l ++ [x]) ↔ zge l ∧ zgZ x := by
 induction l with
 | nil => simp [zge]
 | cons y l ih => simp only [List.cons_append, zge, ih, and_assoc]
theorem zsL (l : List zam) (x : zam) : zcl (l ++ [x]) ↔ zcl l ∧ zrS x := by
 induction l with
 | nil => simp [zcl]
 | cons y l ih => simp only [List.cons_append, zcl, ih, and_assoc]
theorem zER {ann : zsb} (h : okA ann) : ∀ (k : Nat) (acc : List zaf) (s : Str) (l : List zaf) (r : Str), zjC ann k acc s = (l, true, r) → zjo acc → zjo l ∧ zbB l + 5 * r.length ≤ zbB acc + 5 * s.length := by
 intro k
 induction k with
 | zero => intro acc s l r e; cases e
 | succ k ih =>
   intro acc s l r e ha
   rw [zjC] at e
   rcases hl : zfX s with ⟨v, ok, s1⟩
   rw [hl] at e
   cases ok
   · cases e
   · obtain ⟨hv, hvl⟩ := zuR hl
     rcases ht : za3 zqa s1 with ⟨c, s2⟩
     simp only [ht, if_true] at e
     cases c
     · cases e
     · have h2 := zfp ht
       rcases hA : ann s2 with ⟨a, is, s3⟩
       simp only [hA, if_true] at e
       cases is
       · cases e
       · obtain ⟨hw, hs⟩ := h s2 a s3 hA
         rcases hm : za3 zpu s3 with ⟨d, s4⟩
         have h3 := zfp hm
         simp only [hm, if_true] at e
         have hz : zeV (zaf.mk v a) = zal a.l + v.text.length + 1 := zlT _
         have hwi : zuv (zaf.mk v a) := (zww _).2 ⟨hv, hw⟩
         simp only [if_true, zqa, zpu, List.length_cons, List.length_nil] at h2 h3
         cases d
         · cases e
           refine ⟨(zsN _ _).2 ⟨ha, hwi⟩, ?_⟩
           rw [zsX, hz]; simp only [Bool.false_eq_true, if_false] at h3; omega
         · obtain ⟨h5, h6⟩ := ih _ _ _ _ e ((zsN _ _).2 ⟨ha, hwi⟩)
           refine ⟨h5, ?_⟩
           rw [zsX, hz] at h6; simp only [if_true] at h3; omega
theorem zCO (z : UInt8) : ∀ (l : List Str) (i : Int) (s : Str), (zcZ z l i s).2.length ≤ s.length ∧ ((zcZ z l i s).1 = -1 ∨ i ≤ (zcZ z l i s).1 ∧ (zcZ z l i s).1 < i + l.length) := by
 intro l
 induction l with
 | nil => intro i s; exact ⟨Nat.le_refl _, .inl rfl⟩
 | cons w l ih =>
   intro i s; rw [zcZ]; split
   · refine ⟨?_, .inr ?_⟩
     · unfold za3; split <;> simp
     · simp only [List.length_cons]; omega
   · obtain ⟨h1, h2⟩ := ih (i + 1) s
     refine ⟨h1, ?_⟩
     rcases h2 with h2 | h2
     · exact .inl h2
     · right; simp only [List.length_cons]; omega
theorem zGl {ann : zsb} (h : okA ann) (s : Str) (x : zap) (r : Str) (e : zpx ann s = (x, true, r)) : zk5 x ∧ zdp x + 5 * r.length ≤ 5 * s.length + 1 := by
 unfold zpx at e
 have h1 := zCO 123 zgK 0 s
 rcases hi : zcZ 123 zgK 0 s with ⟨fn, s1⟩
 rw [hi] at e h1
 simp only at e h1
 split at e
 · cases e
 · rcases hI : zjC ann (s1.length + 1) [] s1 with ⟨its, ok, s2⟩
   rw [hI] at e
   cases ok
   · cases e
   · obtain ⟨h2, h3⟩ := zER h _ _ _ _ _ hI trivial
     rcases ht : za3 znN s2 with ⟨c, s3⟩
     have h4 := zfp ht
     simp only [ht, if_true] at e
     cases c
     · cases e
     · have h5 := zCO 32 zgt 0 s3
       rcases hj : zcZ 32 zgt 0 s3 with ⟨i, s4⟩
       rcases hl : zfX s4 with ⟨v, ok, s5⟩
       rw [hj] at h5
       simp only [hj, hl, if_true] at e
       obtain ⟨rfl, e'⟩ := Prod.mk.inj e
       obtain ⟨e1, rfl⟩ := Prod.mk.inj e'
       rw [Bool.and_eq_true, decide_eq_true_eq] at e1
       obtain ⟨e1, rfl⟩ := e1
       obtain ⟨hv, hvl⟩ := zuR hl
       have hn : (zgK.length : Int) = 4 := rfl
       have ho : (zgt.length : Int) = 6 := rfl
       simp only at h5
       refine ⟨(zlS _).2 ⟨by simp only [zap.kind]; decide, ⟨by simp only [zap.row]; decide, by simp only [zap.row]; decide⟩, trivial, ⟨by simp only [zap.func]; omega, by simp only [zap.func]; omega⟩, by simpa [zap.items] using h2, ⟨by simp only [zap.op]; omega, by simp only [zap.op]; omega⟩, hv⟩, ?_⟩
       rw [zgf]
       simp only [zap.args, zap.items, zap.bound, Sl.out_l, zbB, Sl.nil_l, zdq] at h3 ⊢
       simp only [if_true] at h4
       omega
theorem zEV (s : Str) : (zjr s).2.length + (if (zjr s).1 = 0 then 0 else 5) ≤ s.length := by
 unfold zjr
 split
 · rename_i h; have := zfp (p := zfE) (s := s) (c := true) (r := (za3 zfE s).2) (by rw [← h])
   simp [zfE] at this ⊢; omega
 · split
   · rename_i h; have := zfp (p := zfP) (s := s) (c := true) (r := (za3 zfP s).2) (by rw [← h])
     simp [zfP] at this ⊢; omega
   · split
     · rename_i h; have := zfp (p := zd5) (s := s) (c := true) (r := (za3 zd5 s).2) (by rw [← h])
       simp [zd5] at this ⊢; omega
     · split
       · rename_i h; have := zfp (p := zjS) (s := s) (c := true) (r := (za3 zjS s).2) (by rw [← h])
         simp [zjS] at this ⊢; omega
       · simp
theorem zGQ (s : Str) : 0 ≤ (zjr s).1 ∧ (zjr s).1 ≤ 4 := by
 unfold zjr
 split
 · simp
 · split
   · simp
   · split
     · simp
     · split
       · simp
       · simp
theorem zDC {k : Int} {l : List (Sl zam)} (hk : 0 ≤ k ∧ k ≤ 4) (hw : zsO l) : zk5 (zib k l) := by
 refine (zlS _).2 ⟨⟨by simp only [zib, zap.kind]; omega, by simp only [zib, zap.kind]; omega⟩, ⟨in0, in0⟩, ?_, in0, trivial, in0, in0, in0⟩
 simpa [zib, zap.args] using hw
theorem zHi {ann : zsb} (h : okA ann) (s : Str) (x : zap) (r : Str) (e : zsg ann s = (x, true, r)) : zk5 x ∧ zdp x + 4 + 5 * r.length ≤ 5 * s.length := by
 unfold zsg at e
 have h0 := zEV s
 have hk := zGQ s
 rcases hh : zjr s with ⟨k, s0⟩
 rw [hh] at e h0 hk
 simp only at e h0 hk
 by_cases hk0 : k = 0
 · rw [if_pos hk0] at e
   obtain ⟨rfl, e'⟩ := Prod.mk.inj e
   obtain ⟨e1, rfl⟩ := Prod.mk.inj e'
   obtain ⟨h1, h2⟩ := zIL (by simpa using e1)
   have h3 := zhY zGp s0
   refine ⟨(zlS _).2 ⟨in0, h1, trivial, in0, trivial, in0, in0, in0⟩, ?_⟩
   rw [zgf]
   simp only [zap.args, zap.items, zap.bound, zbB, Sl.nil_l, zdq, List.length_nil]
   omega
 · rw [if_neg hk0] at e
   rw [if_neg hk0] at h0
   by_cases hk4 : k = 4
   · rw [if_pos hk4] at e
     rcases hT : zpx ann s0 with ⟨y, ok, s1⟩
     rw [hT] at e
     cases ok
     · cases e
     · obtain ⟨h1, h2⟩ := zGl h _ _ _ hT
       simp only [if_true] at e
       obtain ⟨rfl, e'⟩ := Prod.mk.inj e
       obtain ⟨e1, rfl⟩ := Prod.mk.inj e'
       have h3 := zfp (p := [93]) (s := s1) (c := true) (r := (za3 [93] s1).2) (by rw [← e1])
       simp only [if_true, List.length_cons, List.length_nil] at h3
       exact ⟨h1, by omega⟩
   · rw [if_neg hk4] at e
     rcases hA : ann s0 with ⟨a, ok, s1⟩
     rw [hA] at e
     cases ok
     · cases e
     · obtain ⟨h1, h2⟩ := h _ _ _ hA
       simp only [if_true] at e
       by_cases hk1 : k = 1
       · rw [if_pos hk1] at e
         rcases ht : za3 zpg s1 with ⟨c, s2⟩
         have h3 := zfp ht
         simp only [ht] at e
         cases c
         · cases e
         · rcases hB : ann s2 with ⟨b, ok2, s3⟩
           simp only [hB, if_true] at e
           cases ok2
           · cases e
           · obtain ⟨h4, h5⟩ := h _ _ _ hB
             simp only [if_true] at e
             obtain ⟨rfl, e'⟩ := Prod.mk.inj e
             obtain ⟨e1, rfl⟩ := Prod.mk.inj e'
             have h6 := zfp (p := [93]) (s := s3) (c := true) (r := (za3 [93] s3).2) (by rw [← e1])
             simp only [if_true, List.length_cons, List.length_nil] at h6 h3
             refine ⟨zDC hk ⟨h1, h4, trivial⟩, ?_⟩
             rw [zgf]
             simp only [zib, zap.args, zap.items, zap.bound, zbB, Sl.nil_l, Sl.out_l, zdq, List.length_nil]
             omega
       · rw [if_neg hk1] at e
         obtain ⟨rfl, e'⟩ := Prod.mk.inj e
         obtain ⟨e1, rfl⟩ := Prod.mk.inj e'
         have h6 := zfp (p := [93]) (s := s1) (c := true) (r := (za3 [93] s1).2) (by rw [← e1])
         simp only [if_true, List.length_cons, List.length_nil] at h6
         refine ⟨zDC hk ⟨h1, trivial⟩, ?_⟩
         rw [zgf]
         simp only [zib, zap.args, zap.items, zap.bound, zbB, Sl.nil_l, Sl.out_l, zdq, List.length_nil]
         omega
theorem zC2 {ann : zsb} (h : okA ann) (s : Str) (x : zaj) (r : Str) (e : znR ann s = (x, true, r)) : zgZ x ∧ zds x + 3 + 5 * r.length ≤ 5 * s.length := by
 unfold znR at e
 rcases hA : zsg ann s with ⟨a, ok, s1⟩
 rw [hA] at e
 cases ok
 · cases e
 · obtain ⟨h1, h2⟩ := zHi h _ _ _ hA
   rcases ht : za3 [94] s1 with ⟨c, s2⟩
   have h3 := zfp ht
   simp only [ht, if_true] at e
   cases c
   · cases e
     refine ⟨(zpq _).2 ⟨h1, (show zl2 1 by decide)⟩, ?_⟩
     rw [zfa]; simp only [zaj.atom]; simp only [Bool.false_eq_true, if_false] at h3; omega
   · rcases hN : zgH s2 with ⟨n, ok, s3⟩
     simp only [hN, if_true] at e
     cases e
     obtain ⟨h4, h5⟩ := zw3 hN
     refine ⟨(zpq _).2 ⟨h1, h4⟩, ?_⟩
     rw [zfa]; simp only [zaj.atom]; simp only [if_true] at h3; omega
theorem zA5 {ann : zsb} (h : okA ann) : ∀ (k : Nat) (acc : List zaj) (s : Str) (l : List zaj) (r : Str), zh1 ann k acc s = (l, true, r) → zge acc → zge l ∧ za1 l + 2 + 5 * r.length ≤ za1 acc + 5 * s.length := by
 intro k
 induction k with
 | zero => intro acc s l r e; cases e
 | succ k ih =>
   intro acc s l r e ha
   rw [zh1] at e
   rcases hF : znR ann s with ⟨f, ok, s1⟩
   rw [hF] at e
   cases ok
   · cases e
   · obtain ⟨h1, h2⟩ := zC2 h _ _ _ hF
     rcases ht : za3 [42] s1 with ⟨c, s2⟩
     have h3 := zfp ht
     simp only [ht, if_true] at e
     cases c
     · cases e
       refine ⟨(zpY _ _).2 ⟨ha, h1⟩, ?_⟩
       rw [zp3]; simp only [Bool.false_eq_true, if_false] at h3; omega
     · obtain ⟨h5, h6⟩ := ih _ _ _ _ e ((zpY _ _).2 ⟨ha, h1⟩)
       refine ⟨h5, ?_⟩
       rw [zp3] at h6; simp only [if_true] at h3; omega
theorem zGm {ann : zsb} (h : okA ann) (s : Str) (x : zam) (r : Str) (e : zsf ann s = (x, true, r)) : zrS x ∧ zcY x + 1 + 5 * r.length ≤ 5 * s.length := by
 have hF : ∀ (c : Int) (t : Str), zl2 c → zuP ann c t = (x, true, r) → zrS x ∧ zcY x + 1 + 5 * r.length ≤ 5 * t.length := by
  intro c t hc e
  unfold zuP at e
  rcases hf : zh1 ann (t.length + 1) [] t with ⟨fs, ok, s1⟩
  rw [hf] at e
  simp only at e
  obtain ⟨rfl, e'⟩ := Prod.mk.inj e
  obtain ⟨rfl, rfl⟩ := Prod.mk.inj e'
  obtain ⟨h1, h2⟩ := zA5 h _ _ _ _ _ hf trivial
  refine ⟨(zsM _).2 ⟨hc, by simpa [zam.factors] using h1⟩, ?_⟩
  rw [zhs]; simp only [zam.factors, Sl.out_l, za1] at h2 ⊢; omega
 unfold zsf at e
 split at e
 · rename_i hd
   rcases hN : zgH s with ⟨n, ok, s1⟩
   rw [hN] at e
   cases ok
   · cases e
   · obtain ⟨h4, h5⟩ := zw3 hN
     rcases ht : za3 [42] s1 with ⟨c, s2⟩
     have h3 := zfp ht
     simp only [ht, if_true] at e
     cases c
     · obtain ⟨rfl, e'⟩ := Prod.mk.inj e
       obtain ⟨_, rfl⟩ := Prod.mk.inj e'
       refine ⟨(zsM _).2 ⟨h4, trivial⟩, ?_⟩
       have h6 : s2.length < s.length := by
        have e1 : s2 = s1 := zpt ht
        subst e1
        have h7 := zhY zcs s
        have e2 : (zq6 zcs s).2 = s2 := by unfold zgH at hN; exact (Prod.mk.inj (Prod.mk.inj hN).2).2
        rw [e2] at h7
        cases s with
        | nil => cases hd
        | cons b s =>
          have : 1 ≤ (zq6 zcs (b :: s)).1.length := by
           unfold zq6
           have hb : zcs.contains b = true := by
            rw [zDd]; unfold zn4 at hd; simp at hd; unfold zET; exact hd
           rw [List.takeWhile_cons, if_pos hb]; simp
          omega
       rw [zhs]; simp only [zam.factors, Sl.nil_l, za1]; omega
     · obtain ⟨h6, h7⟩ := hF n s2 h4 e
       refine ⟨h6, ?_⟩
       simp only [if_true, List.length_cons, List.length_nil] at h3; omega
 · exact hF 1 s (by decide) e
theorem zEg {ann : zsb} (h : okA ann) : ∀ (k : Nat) (acc : List zam) (s : Str) (a : Sl zam) (r : Str), zpi ann k acc s = (a, true, r) → zcl acc → zcl a.l ∧ zal a.l + 5 * r.length ≤ zal acc + 5 * s.length := by
 intro k
 induction k with
 | zero => intro acc s l r e; cases e
 | succ k ih =>
   intro acc s l r e ha
   rw [zpi] at e
   rcases hT : zsf ann s with ⟨f, ok, s1⟩
   rw [hT] at e
   cases ok
   · cases e
   · obtain ⟨h1, h2⟩ := zGm h _ _ _ hT
     rcases ht : za3 zsd s1 with ⟨c, s2⟩
     have h3 := zfp ht
     simp only [ht, if_true] at e
     cases c
     · cases e
       refine ⟨by rw [Sl.out_l]; exact (zsL _ _).2 ⟨ha, h1⟩, ?_⟩
       rw [Sl.out_l, zsW]; simp only [Bool.false_eq_true, if_false] at h3; omega
     · obtain ⟨h5, h6⟩ := ih _ _ _ _ e ((zsL _ _).2 ⟨ha, h1⟩)
       refine ⟨h5, ?_⟩
       rw [zsW] at h6; simp only [if_true] at h3; omega
theorem zGb : ∀ d, okA (zl0 d) := by
 intro d
 induction d with
 | zero => intro s a r e; cases e
 | succ d ih =>
   intro s a r e
   rw [zl0] at e
   rcases ht : za3 [48] s with ⟨c, s1⟩
   have h3 := zfp ht
   simp only [ht] at e
   cases c
   · obtain ⟨h1, h2⟩ := zEg ih _ _ _ _ _ e trivial
     refine ⟨h1, ?_⟩
     simp only [zal] at h2; simp only [Bool.false_eq_true, if_false] at h3; omega
   · cases e
     refine ⟨trivial, ?_⟩
     simp only [Sl.nil_l, zal]; simp only [if_true] at h3; omega
end Go.Ev
