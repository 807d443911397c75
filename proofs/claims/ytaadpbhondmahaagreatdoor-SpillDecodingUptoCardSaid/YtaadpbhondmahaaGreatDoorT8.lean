/- Part of a proof. -/
import Derived.Lib.Replace
import Derived.Lib.IndexMore
import Derived.Lib.SlTrimSet
import Derived.Test.YtaadpbhondmahaaGreatDoorT7
set_option linter.all false
namespace Go.Ev
def zBA (te : TypeId) (b : Bool) : D := if b then .nili else .iface te .unk
theorem zxj (te : TypeId) (b : Bool) : zrj (zBA te b) = true := by cases b <;> rfl
@[go_sem] theorem zNI (te : TypeId) (b : Bool) : zro true (zBA te b) .nili .iface = some b := by cases b <;> rfl
@[go_sem] theorem zNK (P : Program) (op : BinOp) (t : TypeId) (c : Bool) (te : TypeId) (b : Bool) : zxW P op t c (zBA te b) .nili = zxV P t c (zBA te b) .nili op := by cases b <;> rfl
@[go_sem] theorem zQy (P : Program) (t : TypeId) (c : Bool) (te : TypeId) (b : Bool) : deq P t c (zBA te b) .nili = bnd (kOf P t) (zro c (zBA te b) .nili) := by cases b <;> rfl
def lim : Nat := 4294967281
def zrX (s old new : Str) : Prop := s.length < lim ∧ 1 ≤ old.length ∧ s.length + Lib.count s old * new.length ≤ room
instance (s old new : Str) : Decidable (zrX s old new) := inferInstanceAs (Decidable (_ ∧ _))
def zkg (s old new : Str) : Str := Lib.replaceAll s old new
def ziF : List D → Option D
 | [.str s, .str old, .str new] => if zrX s old new then some (.str (zkg s old new)) else none
 | _ => none
theorem zkk (s old new : Str) (h : zrX s old new) : ziF [.str s, .str old, .str new] = some (.str (zkg s old new)) := by simp only [ziF, h, if_true]
def zEX (s sub : Str) : Bool := Lib.contains s sub
def zlZ : List D → Option D
 | [.str s, .str sub] => if s.length < lim then some (.bool (zEX s sub)) else none
 | _ => none
theorem zvE (s sub : Str) (h : s.length < lim) : zlZ [.str s, .str sub] = some (.bool (zEX s sub)) := by simp only [zlZ, h, if_true]
def zwd (s sep : Str) : Str × Str × Bool := Lib.cut s sep
def zHx : List D → Option D
 | [.str s, .str sep] => if s.length < lim then some (.tup [.str (zwd s sep).1, .str (zwd s sep).2.1, .bool (zwd s sep).2.2]) else none
 | _ => none
theorem zEJ (s sep : Str) (h : s.length < lim) : zHx [.str s, .str sep] = some (.tup [.str (zwd s sep).1, .str (zwd s sep).2.1, .bool (zwd s sep).2.2]) := by simp only [zHx, h, if_true]
def zzo (s set : Str) : Prop := 0 < s.length ∧ s.length < lim ∧ 2 ≤ set.length ∧ set.length < lim ∧ (set.all fun b => decide (b.toNat < 128)) = true
instance (s set : Str) : Decidable (zzo s set) := inferInstanceAs (Decidable (_ ∧ _))
def trimS (s set : Str) : Str := Lib.trimS s set
def zAD : List D → Option D
 | [.str s, .str set] => if zzo s set then some (.str (trimS s set)) else none
 | _ => none
theorem zwZ (s set : Str) (h : zzo s set) : zAD [.str s, .str set] = some (.str (trimS s set)) := by simp only [zAD, h, if_true]
def zlo (s : Str) (_ _ : Int) : Int × Bool := ziu s
def zq9 (s : Str) (b z : Int) : Prop := s.length < lim ∧ b = 10 ∧ z = 64
instance (s : Str) (b z : Int) : Decidable (zq9 s b z) := inferInstanceAs (Decidable (_ ∧ _))
def zlY (te : TypeId) : List D → Option D
 | [.str s, .int .i64 b, .int .i64 z] => if zq9 s b z then some (.tup [.int .i64 (zlo s b z).1, zBA te (zlo s b z).2]) else none
 | _ => none
theorem zqf (te : TypeId) (s : Str) (b z : Int) (h : zq9 s b z) : zlY te [.str s, .int .i64 b, .int .i64 z] = some (.tup [.int .i64 (zlo s b z).1, zBA te (zlo s b z).2]) := by simp only [zlY, h, if_true]
def zAH (te : TypeId) : List D → Option D
 | [.str s] => if s.length < lim then some (.tup [.int .i64 (ziu s).1, zBA te (ziu s).2]) else none
 | _ => none
theorem zCr (te : TypeId) (s : Str) (h : s.length < lim) : zAH te [.str s] = some (.tup [.int .i64 (ziu s).1, zBA te (ziu s).2]) := by simp only [zAH, h, if_true]
def zqp (n _b : Int) : Str := zhT n
theorem zlr {old : Str} {b : UInt8} {s : Str} (h : old.isPrefixOf (b :: s) = true) : Lib.index (b :: s) old = 0 := by rw [Lib.index, if_pos h]
theorem zkn {old : Str} {b : UInt8} {s : Str} (h : old.isPrefixOf (b :: s) = false) : Lib.index (b :: s) old = if Lib.index s old == -1 then -1 else Lib.index s old + 1 := by
 rw [Lib.index, if_neg (by rw [h]; exact Bool.false_ne_true)]
theorem zs6 {s old new : Str} (hne : old ≠ new) : zkg s old new = Lib.replaceK old new (Lib.count s old) s := by
 unfold zkg Lib.replaceAll Lib.replace
 rw [if_neg (by simpa using hne)]
 unfold Lib.replaceNum
 rw [if_pos (by omega)]
theorem zCK {old : Str} (h0 : old ≠ []) : Lib.index [] old = -1 := by
 cases old with
 | nil => exact absurd rfl h0
 | cons b o => simp [Lib.index]
theorem zoA {old new : Str} (h0 : old ≠ []) (hne : old ≠ new) : zkg [] old new = [] := by
 rw [zs6 hne, Lib.count_miss (zCK h0)]; rfl
theorem zvt {old new : Str} {b : UInt8} {s : Str} (h0 : old ≠ []) (hne : old ≠ new) (h : old.isPrefixOf (b :: s) = true) : zkg (b :: s) old new = new ++ zkg ((b :: s).drop old.length) old new := by
 have hi : Lib.index (b :: s) old = ((0 : Nat) : Int) := zlr h
 rw [zs6 hne, zs6 hne, Lib.count_hit h0 hi, Nat.zero_add, Nat.add_comm 1, Lib.replaceK_hit _ _ _ _ 0 hi, Nat.zero_add]
 simp
theorem zqb {old new : Str} {b : UInt8} {s : Str} (h0 : old ≠ []) (hne : old ≠ new) (h : old.isPrefixOf (b :: s) = false) : zkg (b :: s) old new = b :: zkg s old new := by
 rw [zs6 hne, zs6 hne]
 have hc := zkn h
 have hge := Lib.index_ge s old
 by_cases hm : Lib.index s old = -1
 · rw [hm] at hc
   have hc : Lib.index (b :: s) old = -1 := by rw [hc]; rfl
   rw [Lib.count_miss hc, Lib.count_miss hm]; rfl
 · obtain ⟨i, hi⟩ : ∃ i : Nat, Lib.index s old = i := ⟨(Lib.index s old).toNat, by omega⟩
   rw [hi] at hc
   have hc : Lib.index (b :: s) old = ((i + 1 : Nat) : Int) := by
    rw [hc, if_neg (by intro e; have := eq_of_beq e; omega)]; omega
   have e1 := Lib.count_hit h0 hc
   have e2 := Lib.count_hit h0 hi
   have e3 : (b :: s).drop (i + 1 + old.length) = s.drop (i + old.length) := by rw [show i + 1 + old.length = (i + old.length) + 1 by omega]; rfl
   rw [e3] at e1
   rw [e1, e2, Nat.add_comm 1, Lib.replaceK_hit _ _ _ _ _ hc, Lib.replaceK_hit _ _ _ _ _ hi, e3]
   simp
theorem zAv (s : Str) : zkg s [39] [39, 39] = zE2 s := by
 induction s with
 | nil => exact zoA (by decide) (by decide)
 | cons b s ih =>
   rw [zxi]
   by_cases h : b = 39
   · subst h
     rw [if_pos rfl, zvt (by decide) (by decide) (by simp [List.isPrefixOf]), ← ih]; rfl
   · rw [if_neg h, zqb (by decide) (by decide) (by simp [List.isPrefixOf]; exact fun e => h e.symm), ih]
theorem zuM (a b c d : UInt8) (s : Str) : List.isPrefixOf [a, b] (c :: d :: s) = (decide (c = a ∧ d = b)) := by
 simp [List.isPrefixOf]
 by_cases h : c = a
 · by_cases k : d = b
   · subst h; subst k; simp
   · have : ¬ b = d := fun e => k e.symm
     simp [k, this]
 · have : ¬ a = c := fun e => h e.symm
   simp [h, this]
theorem zuI (new : Str) (hne : ([39, 39] : Str) ≠ new) : ∀ (n : Nat) (s : Str), s.length ≤ n → (new = [39] → zkg s [39, 39] new = znf s) ∧ (new = [] → zEX (zkg s [39, 39] new) [39] = !zvV s) := by
 have has1 : ∀ (b : UInt8) (s : Str), zEX (b :: s) [39] = (b == 39 || zEX s [39]) := by
  intro b s
  unfold zEX Lib.contains
  by_cases h : b = 39
  · subst h; rw [zlr (by simp [List.isPrefixOf])]; rfl
  · rw [zkn (by simp [List.isPrefixOf]; exact fun e => h e.symm)]
    have hb : (b == 39) = false := by simpa using h
    have hge := Lib.index_ge s [39]
    rw [hb, Bool.false_or]
    split
    · rename_i e; rw [eq_of_beq e]
    · rename_i e
      have : Lib.index s [39] ≠ -1 := by simpa using e
      rw [decide_eq_true (by omega), decide_eq_true (by omega)]
 have has0 : zEX [] [39] = false := rfl
 intro n
 induction n with
 | zero =>
   intro s hs
   obtain rfl : s = [] := List.length_eq_zero_iff.1 (by omega)
   rw [zoA (by decide) hne]
   exact ⟨fun _ => rfl, fun _ => rfl⟩
 | succ n ih =>
   intro s hs
   match s with
   | [] => rw [zoA (by decide) hne]; exact ⟨fun _ => rfl, fun _ => rfl⟩
   | [b] =>
     rw [zqb (by decide) hne (by simp [List.isPrefixOf]), zoA (by decide) hne]
     refine ⟨fun _ => rfl, fun _ => ?_⟩
     rw [has1, has0, zvV, Bool.or_false]; simp [bne]
   | b :: c :: t =>
     simp only [List.length_cons] at hs
     by_cases h : b = 39 ∧ c = 39
     · have e := zuM 39 39 b c t
       rw [decide_eq_true h] at e
       rw [zvt (by decide) hne e]
       obtain ⟨i1, i2⟩ := ih t (by omega)
       rw [znf, if_pos h, zvV, if_pos h]
       refine ⟨fun hn => ?_, fun hn => ?_⟩
       · rw [← i1 hn, hn]; rfl
       · rw [← i2 hn, hn]; rfl
     · have e := zuM 39 39 b c t
       rw [decide_eq_false h] at e
       rw [zqb (by decide) hne e]
       obtain ⟨i1, i2⟩ := ih (c :: t) (by simp; omega)
       rw [znf, if_neg h, zvV, if_neg h]
       refine ⟨fun hn => by rw [i1 hn], fun hn => ?_⟩
       rw [has1, i2 hn]
       cases hb : (b == 39)
       · have : (b != 39) = true := by simpa using hb
         rw [this]; rfl
       · have : (b != 39) = false := by simpa using hb
         rw [this]; rfl
theorem zAu (s : Str) : zkg s [39, 39] [39] = znf s := (zuI [39] (by decide) s.length s (Nat.le_refl _)).1 rfl
theorem zEW (s : Str) : zEX (zkg s [39, 39] []) [39] = !zvV s := (zuI [] (by decide) s.length s (Nat.le_refl _)).2 rfl
theorem zG9 (s : Str) : zwd s [46] = zks s := by
 unfold zwd Lib.cut zks
 induction s with
 | nil => rfl
 | cons b s ih =>
   by_cases h : b = 46
   · subst h; rw [zlr (by simp [List.isPrefixOf])]; simp
   · have hb : (b != 46) = true := by simpa using h
     have hb2 : (46 == b) = false := by simp; exact fun e => h e.symm
     rw [zkn (by simp [List.isPrefixOf]; exact fun e => h e.symm)]
     have hge := Lib.index_ge s [46]
     simp only [List.takeWhile_cons, List.dropWhile_cons, hb, if_true, List.contains_cons, hb2, Bool.false_or]
     by_cases hm : Lib.index s [46] = -1
     · rw [hm] at ih ⊢
       simp only [show ¬ (0 : Int) ≤ -1 by omega, if_false, Prod.mk.injEq] at ih
       simp only [beq_self_eq_true, if_true, show ¬ (0 : Int) ≤ -1 by omega, if_false, Prod.mk.injEq]
       exact ⟨by rw [← ih.1], ih.2.1, ih.2.2⟩
     · obtain ⟨i, hi⟩ : ∃ i : Nat, Lib.index s [46] = i := ⟨(Lib.index s [46]).toNat, by omega⟩
       rw [hi] at ih ⊢
       rw [if_pos (by omega)] at ih
       simp only [Prod.mk.injEq] at ih
       have e2 : (if ((i : Int) == -1) = true then (-1 : Int) else (i : Int) + 1) = ((i + 1 : Nat) : Int) := by rw [if_neg (by intro e; have := eq_of_beq e; omega)]; omega
       rw [e2, if_pos (by omega), Int.toNat_natCast]
       simp only [Prod.mk.injEq]
       refine ⟨?_, ?_, ih.2.2⟩
       · rw [List.take_succ_cons, ← ih.1]; simp
       · rw [← ih.2.1]; simp
theorem zyb {s : Str} : (trimS s zcs == []) = s.all fun b => zcs.contains b := by
 unfold trimS Lib.trimS Lib.trimLeftS Lib.trimRightS
 have h1 : ∀ l : Str, (l.dropWhile (zcs.contains ·) = []) ↔ ∀ b ∈ l, zcs.contains b = true := by
  intro l
  induction l with
  | nil => simp
  | cons b l ih =>
    rw [List.dropWhile_cons]
    split
    · rename_i hb
      rw [ih]
      exact ⟨fun h c hc => by rcases List.mem_cons.1 hc with rfl | hc; exact hb; exact h c hc, fun h c hc => h c (List.mem_cons_of_mem _ hc)⟩
    · rename_i hb; simp; intro h; exact absurd h (by simpa using hb)
 rw [Bool.eq_iff_iff, beq_iff_eq, List.all_eq_true, h1]
 constructor
 · intro h b hb
   by_cases hd : zcs.contains b = true
   · exact hd
   · exfalso
     have key : ∀ l : Str, (∃ b ∈ l, ¬ zcs.contains b = true) → ∃ b ∈ l.dropWhile (zcs.contains ·), ¬ zcs.contains b = true := by
      intro l
      induction l with
      | nil => rintro ⟨b, hb, _⟩; simp at hb
      | cons c l ih =>
        rintro ⟨b, hb, hd⟩
        rw [List.dropWhile_cons]
        split
        · rename_i hc
          rcases List.mem_cons.1 hb with rfl | hb
          · exact absurd hc hd
          · exact ih ⟨b, hb, hd⟩
        · exact ⟨b, hb, hd⟩
     obtain ⟨c, hc, hcd⟩ := key s.reverse ⟨b, by simpa using hb, hd⟩
     exact hcd (h c (by simpa using hc))
 · intro h b hb
   refine h b ?_
   have := (List.dropWhile_sublist (zcs.contains ·) (l := s.reverse)).subset (a := b) (by simpa using hb)
   simpa using this
def ztc : List D → Option D
 | [] => some (.bool true)
 | _ => none
theorem zAG : ztc [] = some (.bool true) := rfl
end Go.Ev
set_option linter.unusedVariables false
namespace Go.Ev
def ziW : Sl Str := Sl.of zgK
def zfr : Sl Str := Sl.of zgt
noncomputable def zio (kk : Nat) (a : zcc) : Option (Str) :=
 sel (
  some []) (
  bnd (okP (zpB a.table)) fun _ =>
  bnd (okP ([116].length + (zhT a.table).length ≤ room)) fun _ =>
  bnd (okP ((116 :: (zhT a.table)).length + [46].length ≤ room)) fun _ =>
  bnd (okP (zpB a.seq)) fun _ =>
  bnd (okP ((116 :: ((zhT a.table) ++ [46])).length + (zhT a.seq).length ≤ room)) fun _ =>
  some (116 :: (((zhT a.table) ++ [46]) ++ (zhT a.seq)))) (!((zhr a)))
noncomputable def zgx (kk : Nat) : Option ((Sl Str)) :=
 some (Sl.of [[67, 79, 85, 78, 84], [83, 85, 77], [77, 73, 78], [77, 65, 88]])
noncomputable def zgw (kk : Nat) : Option ((Sl Str)) :=
 some (Sl.of [[61], [60, 62], [60], [60, 61], [62], [62, 61]])
noncomputable def zi0 (kk : Nat) (a : Val) : Option (Str) :=
 sel (
  some []) (
  sel (
   bnd (okP ((zpB a.int && (10 : Int) == 10) = true)) fun _ =>
   some (zqp a.int 10)) (
   sel (
    bnd (okP (zrX a.text [39] [39, 39])) fun _ =>
    bnd (okP ([39].length + (zkg a.text [39] [39, 39]).length ≤ room)) fun _ =>
    bnd (okP ((39 :: (zkg a.text [39] [39, 39])).length + [39].length ≤ room)) fun _ =>
    some (39 :: ((zkg a.text [39] [39, 39]) ++ [39]))) (
    sel (
     some [84, 82, 85, 69]) (
     some [70, 65, 76, 83, 69]) (a.int == 1)) (a.kind == 1)) (a.kind == 0)) (!((zbb a)))
end Go.Ev
namespace Go.Ev
theorem zkb (n : Int) : IntKind.wrap .u64 n = n % 18446744073709551616 := by
 simp only [IntKind.wrap, IntKind.bits, IntKind.signed, Bool.false_and, Bool.false_eq_true, if_false]; rfl
theorem zu8 (n : Int) : IntKind.wrap .u8 n = n % 256 := by
 simp only [IntKind.wrap, IntKind.bits, IntKind.signed, Bool.false_and, Bool.false_eq_true, if_false]; rfl
theorem zz1 {k u : Nat} : (zFZ k u).length ≤ k := by
 induction k generalizing u with
 | zero => simp [zFZ]
 | succ k ih =>
   rw [zFZ]; split
   · simp
   · have := @ih (u / 10); simp; exact this
theorem zjW (a : Int) : (zhT a).length ≤ 21 := by
 unfold zhT; split
 · have := @zz1 20 a.natAbs; simp; exact this
 · have := @zz1 20 a.toNat; omega
theorem zzQ (s : Str) : (zE2 s).length ≤ 2 * s.length := by
 induction s with
 | nil => simp [zE2]
 | cons b s ih => rw [zxi]; split <;> simp <;> omega
theorem zqR (kk : Nat) (a : zcc) (h : zAj a) : zio kk a = some (zqt a) := by
 have h1 := zjW a.table
 have h2 := zjW a.seq
 unfold zio zqt
 rw [zdf]
 cases zhr a
 · rfl
 · rw [zaI, zav (zqq h.1), zad, zav (by unfold room; simp; omega), zad, zav (by unfold room; simp; omega), zad, zav (zqq h.2), zad, zav (by unfold room; simp; omega), zad]
   simp
theorem zlK (kk : Nat) : zgx kk = some ziW := rfl
theorem zlJ (kk : Nat) : zgw kk = some zfr := rfl
theorem zrJ (kk : Nat) (a : Val) (h : zl2 a.int) : zi0 kk a = some (zjD a) := by
 unfold zi0 zjD
 rw [zdf]
 cases hv : zbb a
 · rfl
 · simp only [zaI, if_true]
   rw [zfD]
   by_cases h0 : a.kind = 0
   · rw [if_pos h0, if_pos h0, zav (by rw [zqq h]; rfl)]; rfl
   · rw [if_neg h0, if_neg h0, zfD]
     unfold zbb at hv
     rw [if_neg h0] at hv
     by_cases h1 : a.kind = 1
     · rw [if_pos h1] at hv ⊢
       simp only [Bool.and_eq_true, decide_eq_true_eq] at hv
       have hl : a.text.length ≤ 255 := by omega
       have hc := Lib.count_le a.text [39]
       have he := zzQ a.text
       rw [if_pos h1, zav (show zrX a.text [39] [39, 39] from ⟨by unfold lim; omega, by decide, by unfold room; simp; omega⟩), zad, zAv, zav (by unfold room; simp; omega), zad, zav (by unfold room; simp; omega), zad]; rfl
     · rw [if_neg h1, if_neg h1, zfD]
       split <;> rfl
end Go.Ev
set_option linter.unusedVariables false
namespace Go.Ev
def zp1 (a : Sl zaj) : Str := zjV (a.l.map zdr) [42]
noncomputable def zbL (c2 : Sl zam) (c3 : Int) (sz : Nat) (kk : Nat) : Nat → List Str → Int → Option (Out (Str) (List Str × Int))
 | 0, _, _ => none
 | k + 1, s1, s4 =>
   sel (
    bnd (ix c2.l s4) fun (y5 : zam) =>
    sel (
     bnd (okP ((zpB y5.coeff && (10 : Int) == 10) = true)) fun _ =>
     bnd (okP ((s1.length + 1) * 16 ≤ room)) fun _ =>
     zbL c2 c3 sz kk k (s1 ++ [(zqp y5.coeff 10)]) (IntKind.wrap .i64 (s4 + 1))) (
     sel (
      bnd (okP (((∀ f ∈ y5.factors.l, ziA f = true ∧ zgZ f) ∧ za1 y5.factors.l < lim ∧ 4 * za1 y5.factors.l + 2 < sz))) fun _ =>
      bnd (okP ((s1.length + 1) * 16 ≤ room)) fun _ =>
      zbL c2 c3 sz kk k (s1 ++ [(zp1 y5.factors)]) (IntKind.wrap .i64 (s4 + 1))) (
      bnd (okP ((zpB y5.coeff && (10 : Int) == 10) = true)) fun _ =>
      bnd (okP ((zqp y5.coeff 10).length + [42].length ≤ room)) fun _ =>
      bnd (okP (((∀ f ∈ y5.factors.l, ziA f = true ∧ zgZ f) ∧ za1 y5.factors.l < lim ∧ 4 * za1 y5.factors.l + 2 < sz))) fun _ =>
      bnd (okP (((zqp y5.coeff 10) ++ [42]).length + (zp1 y5.factors).length ≤ room)) fun _ =>
      bnd (okP ((s1.length + 1) * 16 ≤ room)) fun _ =>
      zbL c2 c3 sz kk k (s1 ++ [(((zqp y5.coeff 10) ++ [42]) ++ (zp1 y5.factors))]) (IntKind.wrap .i64 (s4 + 1))) (y5.coeff == 1)) ((y5.factors.l.length : Int) == 0)) (
    some (.done (s1, s4))) (decide (s4 < c3))
noncomputable def zhi (kk : Nat) (sz : Nat) (a : (Sl zam)) : Option (Str) :=
 sel (
  some [48]) (
  zkl (zbL a (a.l.length : Int) sz kk kk [] 0) (fun r => some r) fun (q15 : List Str × Int) =>
   bnd (okP (zqo (Sl.out q15.1).l [32, 43, 32])) fun _ =>
   some (zld (Sl.out q15.1) [32, 43, 32])) ((a.l.length : Int) == 0)
noncomputable def zbd (c2 : Sl zaj) (c3 : Int) (sz : Nat) (kk : Nat) : Nat → List Str → Int → Option (Out (Str) (List Str × Int))
 | 0, _, _ => none
 | k + 1, s1, s4 =>
   sel (
    bnd (ix c2.l s4) fun (y5 : zaj) =>
    bnd (okP ((zmk y5.atom = true ∧ zk5 y5.atom ∧ zdp y5.atom < lim ∧ 4 * zdp y5.atom < sz))) fun _ =>
    sel (
     bnd (okP (zpB y5.exp)) fun _ =>
     bnd (okP ([94].length + (zhT y5.exp).length ≤ room)) fun _ =>
     bnd (okP ((zjB y5.atom).length + (94 :: (zhT y5.exp)).length ≤ room)) fun _ =>
     bnd (okP ((s1.length + 1) * 16 ≤ room)) fun _ =>
     zbd c2 c3 sz kk k (s1 ++ [((zjB y5.atom) ++ (94 :: (zhT y5.exp)))]) (IntKind.wrap .i64 (s4 + 1))) (
     bnd (okP ((s1.length + 1) * 16 ≤ room)) fun _ =>
     zbd c2 c3 sz kk k (s1 ++ [(zjB y5.atom)]) (IntKind.wrap .i64 (s4 + 1))) (y5.exp != 1)) (
    some (.done (s1, s4))) (decide (s4 < c3))
noncomputable def zc9 (kk : Nat) (sz : Nat) (a : (Sl zaj)) : Option (Str) :=
 zkl (zbd a (a.l.length : Int) sz kk kk [] 0) (fun r => some r) fun (q12 : List Str × Int) =>
  bnd (okP (zqo (Sl.out q12.1).l [42])) fun _ =>
  some (zld (Sl.out q12.1) [42])
noncomputable def zbA (c19 : Sl zaf) (c20 : Int) (c22 : zap) (sz : Nat) (kk : Nat) : Nat → List Str → Int → Option (Out (Str) (List Str × Int))
 | 0, _, _ => none
 | k + 1, s18, s21 =>
   sel (
    bnd (ix c19.l s21) fun (y23 : zaf) =>
    bnd (okP (zl2 y23.value.int)) fun _ =>
    bnd (okP ((zjD y23.value).length + [58, 32].length ≤ room)) fun _ =>
    bnd (okP ((zhl y23.ann.l = true ∧ zcl y23.ann.l ∧ zal y23.ann.l < lim ∧ 4 * zal y23.ann.l + 1 < sz))) fun _ =>
    bnd (okP (((zjD y23.value) ++ [58, 32]).length + (zeS y23.ann).length ≤ room)) fun _ =>
    bnd (okP ((s18.length + 1) * 16 ≤ room)) fun _ =>
    zbA c19 c20 c22 sz kk k (s18 ++ [(((zjD y23.value) ++ [58, 32]) ++ (zeS y23.ann))]) (IntKind.wrap .i64 (s21 + 1))) (
    some (.done (s18, s21))) (decide (s21 < c20))
noncomputable def zet (kk : Nat) (sz : Nat) (a : zap) : Option (Str) :=
 sel (
  bnd (okP (zAj a.row)) fun _ =>
  some (zqt a.row)) (
  sel (
   bnd (a.args.l[0]?) fun (y2 : (Sl zam)) =>
   bnd (okP ((zhl y2.l = true ∧ zcl y2.l ∧ zal y2.l < lim ∧ 4 * zal y2.l + 1 < sz))) fun _ =>
   bnd (okP ([109, 111, 110, 117, 115, 91].length + (zeS y2).length ≤ room)) fun _ =>
   bnd (okP ((109 :: 111 :: 110 :: 117 :: 115 :: 91 :: (zeS y2)).length + [44, 32].length ≤ room)) fun _ =>
   bnd (a.args.l[1]?) fun (y6 : (Sl zam)) =>
   bnd (okP ((zhl y6.l = true ∧ zcl y6.l ∧ zal y6.l < lim ∧ 4 * zal y6.l + 1 < sz))) fun _ =>
   bnd (okP ((109 :: 111 :: 110 :: 117 :: 115 :: 91 :: ((zeS y2) ++ [44, 32])).length + (zeS y6).length ≤ room)) fun _ =>
   bnd (okP ((109 :: 111 :: 110 :: 117 :: 115 :: 91 :: (((zeS y2) ++ [44, 32]) ++ (zeS y6))).length + [93].length ≤ room)) fun _ =>
   some (109 :: 111 :: 110 :: 117 :: 115 :: 91 :: ((((zeS y2) ++ [44, 32]) ++ (zeS y6)) ++ [93]))) (
   sel (
    bnd (a.args.l[0]?) fun (y10 : (Sl zam)) =>
    bnd (okP ((zhl y10.l = true ∧ zcl y10.l ∧ zal y10.l < lim ∧ 4 * zal y10.l + 1 < sz))) fun _ =>
    bnd (okP ([100, 101, 108, 116, 97, 91].length + (zeS y10).length ≤ room)) fun _ =>
    bnd (okP ((100 :: 101 :: 108 :: 116 :: 97 :: 91 :: (zeS y10)).length + [93].length ≤ room)) fun _ =>
    some (100 :: 101 :: 108 :: 116 :: 97 :: 91 :: ((zeS y10) ++ [93]))) (
    sel (
     bnd (a.args.l[0]?) fun (y14 : (Sl zam)) =>
     bnd (okP ((zhl y14.l = true ∧ zcl y14.l ∧ zal y14.l < lim ∧ 4 * zal y14.l + 1 < sz))) fun _ =>
     bnd (okP ([97, 98, 115, 101, 110, 116, 91].length + (zeS y14).length ≤ room)) fun _ =>
     bnd (okP ((97 :: 98 :: 115 :: 101 :: 110 :: 116 :: 91 :: (zeS y14)).length + [93].length ≤ room)) fun _ =>
     some (97 :: 98 :: 115 :: 101 :: 110 :: 116 :: 91 :: ((zeS y14) ++ [93]))) (
     zkl (zbA a.items (a.items.l.length : Int) a sz kk kk [] 0) (fun r => some r) fun (q29 : List Str × Int) =>
      bnd (ix (ziW).l a.func) fun (y30 : Str) =>
      bnd (okP ([116, 101, 115, 116, 91].length + y30.length ≤ room)) fun _ =>
      bnd (okP ((116 :: 101 :: 115 :: 116 :: 91 :: y30).length + [123].length ≤ room)) fun _ =>
      bnd (okP (zqo (Sl.out q29.1).l [59, 32])) fun _ =>
      bnd (okP ((116 :: 101 :: 115 :: 116 :: 91 :: (y30 ++ [123])).length + (zld (Sl.out q29.1) [59, 32]).length ≤ room)) fun _ =>
      bnd (okP ((116 :: 101 :: 115 :: 116 :: 91 :: ((y30 ++ [123]) ++ (zld (Sl.out q29.1) [59, 32]))).length + [125, 32].length ≤ room)) fun _ =>
      bnd (ix (zfr).l (IntKind.wrap .i64 (a.op - 5))) fun (y36 : Str) =>
      bnd (okP ((116 :: 101 :: 115 :: 116 :: 91 :: (((y30 ++ [123]) ++ (zld (Sl.out q29.1) [59, 32])) ++ [125, 32])).length + y36.length ≤ room)) fun _ =>
      bnd (okP ((116 :: 101 :: 115 :: 116 :: 91 :: ((((y30 ++ [123]) ++ (zld (Sl.out q29.1) [59, 32])) ++ [125, 32]) ++ y36)).length + [32].length ≤ room)) fun _ =>
      bnd (okP (zl2 a.bound.int)) fun _ =>
      bnd (okP ((116 :: 101 :: 115 :: 116 :: 91 :: (((((y30 ++ [123]) ++ (zld (Sl.out q29.1) [59, 32])) ++ [125, 32]) ++ y36) ++ [32])).length + (zjD a.bound).length ≤ room)) fun _ =>
      bnd (okP ((116 :: 101 :: 115 :: 116 :: 91 :: ((((((y30 ++ [123]) ++ (zld (Sl.out q29.1) [59, 32])) ++ [125, 32]) ++ y36) ++ [32]) ++ (zjD a.bound))).length + [93].length ≤ room)) fun _ =>
      some (116 :: 101 :: 115 :: 116 :: 91 :: (((((((y30 ++ [123]) ++ (zld (Sl.out q29.1) [59, 32])) ++ [125, 32]) ++ y36) ++ [32]) ++ (zjD a.bound)) ++ [93]))) (a.kind == 3)) (a.kind == 2)) (a.kind == 1)) (a.kind == 0)
end Go.Ev
namespace Go.Ev
def jl (c : Nat) : List Str → Nat
 | [] => 0
 | x :: l => x.length + c + jl c l
theorem ztk {c d : Nat} (h : c ≤ d) (l : List Str) : jl c l ≤ jl d l := by
 induction l with
 | nil => exact Nat.le_refl _
 | cons x l ih => simp only [jl]; omega
theorem zmH (l : List Str) (sep : Str) : (zjV l sep).length ≤ jl sep.length l := by
 induction l with
 | nil => simp [zCH, jl]
 | cons x l ih => cases l with
   | nil => rw [zCG]; simp only [jl]; omega
   | cons y l => rw [zCF]; simp only [List.length_append, jl] at ih ⊢; omega
theorem zoE (v : Val) : (zjD v).length ≤ 2 * v.text.length + 22 := by
 have h1 := zjW v.int
 have h2 := zzQ v.text
 unfold zjD
 split
 · split
   · omega
   · split
     · unfold zFD; simp; omega
     · split <;> simp [zB4, zwL]
 · simp
theorem zA3 (r : zcc) : (zqt r).length ≤ 44 := by
 have h1 := zjW r.table
 have h2 := zjW r.seq
 unfold zqt; split <;> simp; omega
theorem zCx {l : List Str} {n : Int} (h : ∀ x ∈ l, x.length ≤ 5) : (nth l n).length ≤ 5 := by
 unfold nth
 cases e : l[n.toNat]? with
 | none => simp
 | some x => exact h x (List.mem_of_getElem? e)
theorem zFV (n : Int) : (nth zgK n).length ≤ 5 := zCx (by decide)
theorem zFM (n : Int) : (nth zgt n).length ≤ 5 := zCx (by decide)
theorem zya {l : List Str} {b : Bool} {n : Nat} (h : jl 3 l ≤ n) : (txA l b).length ≤ n + 1 := by
 unfold txA
 split
 · have := zmH l zsd
   rw [show zsd.length = 3 from rfl] at this; omega
 · simp
theorem zFN {c : Nat} {l : List Str} (i : Nat) : ((l[i]?).getD []).length ≤ jl c l := by
 induction l generalizing i with
 | nil => simp [jl]
 | cons x l ih => cases i with
   | zero => simp [jl]; omega
   | succ i => have := ih i; simp only [List.getElem?_cons_succ, jl]; omega
theorem zBN (c : Int) (f : Fl) (fs : List zaj) : zng (.mk c ⟨f, fs⟩) = if fs.isEmpty then zhT c else if c = 1 then zjV (fs.map zdr) [42] else zhT c ++ 42 :: zjV (fs.map zdr) [42] := by
 simp only [zng, zhV]
 first | done | rfl
theorem zx8 (a : zap) (e : Int) : zdr (.mk a e) = if e = 1 then zjB a else zjB a ++ 94 :: zhT e := by
 simp only [zdr]
 first | done | rfl
mutual
theorem zGK : ∀ x : zam, (zng x).length ≤ 64 * zcY x
 | .mk c ⟨f, fs⟩ => by
   have h := zoD fs
   have hj := zmH (fs.map zdr) [42]
   have hm := ztk (show 1 ≤ 3 by omega) (fs.map zdr)
   have hi := zjW c
   rw [zhV] at h
   rw [show ([42] : Str).length = 1 from rfl] at hj
   rw [zBN, zhs]
   simp only [zam.factors]
   split
   · omega
   · split
     · omega
     · simp only [List.length_append, List.length_cons]; omega
theorem zoD : ∀ l : List zaj, jl 3 (zi4 l) ≤ 64 * za1 l
 | [] => by simp [zi4, jl]
 | x :: xs => by
   have h1 := zCA x
   have h2 := zoD xs
   simp only [zi4, jl, za1]; omega
theorem zCA : ∀ x : zaj, (zdr x).length ≤ 64 * zds x
 | .mk a e => by
   have h1 := zyJ a
   have hi := zjW e
   rw [zx8, zfa]
   simp only [zaj.atom]
   split
   · omega
   · simp only [List.length_append, List.length_cons]; omega
theorem zyJ : ∀ x : zap, (zjB x).length ≤ 64 * zdp x
 | .mk k r ⟨f1, as⟩ f ⟨f2, is⟩ o b => by
   have h1 := zCB as
   have h2 := zvP is
   have h3 := zA3 r
   have h4 := zoE b
   have h5 := zFV f
   have h6 := zFM (o - 5)
   rw [zq1] at h1
   rw [zmm] at h2
   have g0 := zFN (c := 0) (l := as.map zeS) 0
   have g1 := zFN (c := 0) (l := as.map zeS) 1
   have gs : (((as.map zeS)[0]?).getD []).length + (((as.map zeS)[1]?).getD []).length ≤ jl 0 (as.map zeS) := by
    match as.map zeS with
    | [] => simp [jl]
    | [x] => simp [jl]
    | x :: y :: l => simp only [List.getElem?_cons_zero, List.getElem?_cons_succ, Option.getD_some, jl]; omega
   have hj := zmH (is.map zi3) zpu
   have hm := ztk (show 2 ≤ 3 by omega) (is.map zi3)
   rw [show zpu.length = 2 from rfl] at hj
   rw [zBQ, zgf]
   simp only [zap.args, zap.items, zap.bound]
   split
   · omega
   · split
     · simp only [List.length_append, zfE, zpg, List.length_cons, List.length_nil]; omega
     · split
       · simp only [List.length_append, zfP, List.length_cons, List.length_nil]; omega
       · split
         · simp only [List.length_append, zd5, List.length_cons, List.length_nil]; omega
         · simp only [List.length_append, zjS, znN, List.length_cons, List.length_nil]; omega
theorem zCB : ∀ l : List (Sl zam), jl 0 (zpe l) ≤ 64 * zdq l
 | [] => by simp [zpe, jl]
 | ⟨f, x⟩ :: xs => by
   have h1 := zql x
   have h2 := zCB xs
   have h3 := zya (b := !x.isEmpty) h1
   simp only [zpe, jl, zdq]; omega
theorem zql : ∀ l : List zam, jl 3 (zml l) ≤ 64 * zal l
 | [] => by simp [zml, jl]
 | x :: xs => by
   have h1 := zGK x
   have h2 := zql xs
   simp only [zml, jl, zal]; omega
theorem zvP : ∀ l : List zaf, jl 3 (zps l) ≤ 64 * zbB l
 | [] => by simp [zps, jl]
 | x :: xs => by
   have h1 := zGL x
   have h2 := zvP xs
   simp only [zps, jl, zbB]; omega
theorem zGL : ∀ x : zaf, (zi3 x).length ≤ 64 * zeV x
 | .mk v ⟨f, l⟩ => by
   have h1 := zql l
   have h2 := zoE v
   have h3 := zya (b := !l.isEmpty) h1
   simp only [zi3, List.length_append, zqa, List.length_cons, List.length_nil, zeV]; omega
end
theorem zuS (a : Sl zam) : (zeS a).length ≤ 64 * zal a.l + 1 := zya (zql a.l)
theorem zn6 {α R : Type} {L : Nat → List Str → Int → Option (Out R (List Str × Int))} {xs : List α} {k : Nat} (g : α → Str)
 (hend : ∀ k s, L (k + 1) s xs.length = some (.done (s, (xs.length : Int))))
 (hstep : ∀ k (i : Nat) x (l : List Str), xs[i]? = some x → l.length = i → L (k + 1) l (i : Int) = L k (l ++ [g x]) ((i + 1 : Nat) : Int)) (hk : xs.length < k) :
 L k [] 0 = some (.done (xs.map g, (xs.length : Int))) := by
 have := zri (L := L) (n := xs.length) (k := k) (fun i => (xs.take i).map g) [] hend (fun k i hi => by
  have ex := List.getElem?_eq_getElem hi
  rw [hstep k i _ _ ex (by rw [List.length_map, List.length_take]; omega), List.take_add_one, ex, Option.toList_some, List.map_append]; rfl) rfl hk
 rw [List.take_length] at this; exact this
theorem zEb {f : zaj} (h : ziA f = true) (hw : zgZ f) : zmk f.atom = true ∧ zk5 f.atom ∧ zl2 f.exp := by
 rw [zqZ] at h
 simp only [Bool.and_eq_true] at h
 have hw := (zpq _).1 hw
 exact ⟨h.2, hw.1, hw.2⟩
theorem zD8 {t : zam} (h : zx4 t = true) (hw : zrS t) : (∀ f ∈ t.factors.l, ziA f = true ∧ zgZ f) ∧ zl2 t.coeff ∧ 1 ≤ t.coeff := by
 rw [zva] at h
 simp only [Bool.and_eq_true, Bool.not_eq_true', decide_eq_false_iff_not] at h
 have hw := (zsM _).1 hw
 have hf := h.1.2
 rw [zrU] at hf
 exact ⟨fun f hm => ⟨List.all_eq_true.1 hf f hm, (zu9 _).1 hw.2 f hm⟩, hw.1, by omega⟩
theorem okr {n : Nat} (h : n ≤ 140737488355328) : okP (n ≤ room) = some () := zav h
theorem zpj : lim = 4294967281 := rfl
theorem zvb {x : zap} (hv : zmk x = true) (hw : zk5 x) (hk : x.kind ≠ 0) {a : Sl zam} (ha : a ∈ x.args.l) : zhl a.l = true ∧ zcl a.l ∧ zal a.l + 1 ≤ zdq x.args.l := by
 have hw' := (zlS _).1 hw
 refine ⟨(zsR hv hk).1 a ha, (zAk _).1 hw'.2.2.1 a ha, ?_⟩
 obtain ⟨i, h⟩ := List.getElem?_of_mem ha
 exact zka h
theorem zD9 {x : zap} (hv : zmk x = true) (hw : zk5 x) (hk : x.kind ≠ 0) {a : zaf} (ha : a ∈ x.items.l) : zhl a.ann.l = true ∧ zcl a.ann.l ∧ zpX a.value ∧ zeV a + 1 ≤ zbB x.items.l := by
 have hw' := (zlS _).1 hw
 have hi := (zww _).1 ((zx3 _).1 hw'.2.2.2.2.1 a ha)
 refine ⟨(zsR hv hk).2 a ha, hi.2, hi.1, ?_⟩
 obtain ⟨i, h⟩ := List.getElem?_of_mem ha
 exact zkd h
theorem zFl {x : zap} (hv : zmk x = true) (hk : x.kind = 1) : ∃ a b, x.args.l = [a, b] := by
 rw [zpZ, if_neg (by omega), if_pos hk] at hv
 unfold k1B at hv
 simp only [Bool.and_eq_true, beq_iff_eq] at hv
 exact zFy hv.2.1.1
theorem zAc {x : zap} (hv : zmk x = true) (hk : x.kind = 2 ∨ x.kind = 3) : ∃ a, x.args.l = [a] := by
 rw [zpZ] at hv
 rcases hk with hk | hk
 · rw [if_neg (by omega), if_neg (by omega), if_pos hk] at hv
   unfold k2B at hv
   simp only [Bool.and_eq_true, beq_iff_eq] at hv
   exact zrZ hv.2.1.1
 · rw [if_neg (by omega), if_neg (by omega), if_neg (by omega), if_pos hk] at hv
   unfold k3B at hv
   simp only [Bool.and_eq_true, beq_iff_eq] at hv
   exact zrZ hv.2.1.1
theorem zAn {x : zap} (hv : zmk x = true) (h0 : x.kind ≠ 0) (h1 : x.kind ≠ 1) (h2 : x.kind ≠ 2) (h3 : x.kind ≠ 3) : x.kind = 4 ∧ 0 ≤ x.func ∧ x.func ≤ 3 ∧ 5 ≤ x.op ∧ x.op ≤ 10 := by
 rcases zrd hv with h | h | h | h | h
 · exact absurd h h0
 · exact absurd h h1
 · exact absurd h h2
 · exact absurd h h3
 · rw [zpZ, if_neg (by omega), if_neg (by omega), if_neg (by omega), if_neg (by omega), if_pos h] at hv
   unfold k4B at hv
   simp only [Bool.and_eq_true] at hv
   obtain ⟨a, b, c, d, _⟩ := zyK hv.2.1.1.2
   exact ⟨h, a, b, c, d⟩
theorem out_l {α : Type} (l : List α) : (Sl.out l).l = l := Sl.out_l l
theorem ziR {a : Sl zaj} {sz kk k : Nat} (hp : ∀ f ∈ a.l, ziA f = true ∧ zgZ f) (h1 : za1 a.l < lim) (h2 : 4 * za1 a.l + 2 < sz + 1) (hk : a.l.length < k) :
 zbd a (a.l.length : Int) sz kk k [] 0 = some (.done (a.l.map zdr, (a.l.length : Int))) := by
 have hn := ze3 a.l
 rw [zpj] at h1
 refine zn6 (xs := a.l) (L := zbd a (a.l.length : Int) sz kk) zdr (fun k s => by simp [zbd]) (fun k i x l hx hl => ?_) hk
 have hi := (List.getElem?_eq_some_iff.1 hx).1
 have hm := List.mem_of_getElem? hx
 obtain ⟨p1, p2, p3⟩ := zEb (hp x hm).1 (hp x hm).2
 have hsz := zg0 hx
 have hsz2 := zfa x
 have hla := zyJ x.atom
 have hit := zjW x.exp
 have hb1 : big = 1152921504606846976 := rfl
 simp only [zbd, zdV, hx]
 rw [decide_eq_true (show (i : Int) < a.l.length by omega), zaI, zbz (by omega), zad, zav ⟨p1, p2, by rw [zpj]; omega, by omega⟩, zad, zvl, zx9]
 split
 · rw [okr (by omega), zad]
 · rw [zav (zqq p3), zad, okr (by simp only [List.length_cons, List.length_nil]; omega), zad, okr (by simp only [List.length_cons]; omega), zad, okr (by omega), zad]
theorem zjy {kk sz : Nat} {a : Sl zaj} (h : (∀ f ∈ a.l, ziA f = true ∧ zgZ f) ∧ za1 a.l < lim ∧ 4 * za1 a.l + 2 < sz + 1) (hk : sz < kk) (hb : sz + 1 < big) : zc9 kk sz a = some (zp1 a) := by
 obtain ⟨hp, h1, h2⟩ := h
 have hn := ze3 a.l
 have hlim := zpj
 have l4 := zmH (a.l.map zdr) [42]
 have l5 := zoD a.l
 have l6 := ztk (show 1 ≤ 3 by omega) (a.l.map zdr)
 rw [zhV] at l5
 rw [show ([42] : Str).length = 1 from rfl] at l4
 unfold zc9
 rw [ziR hp h1 h2 (by omega), zb9]
 simp only
 rw [zav (show zqo (Sl.out (a.l.map zdr)).l [42] by rw [out_l]; exact ⟨by unfold room; omega, by unfold room; rw [List.length_map]; omega⟩), zad]
 unfold zld zp1; rw [out_l]
theorem znv {a : Sl zam} {sz kk k : Nat} (hv : zhl a.l = true) (hw : zcl a.l) (h1 : zal a.l < lim) (h2 : 4 * zal a.l + 1 < sz + 1) (hk : a.l.length < k) :
 zbL a (a.l.length : Int) sz kk k [] 0 = some (.done (a.l.map zng, (a.l.length : Int))) := by
 have hn := zfU a.l
 rw [zuw] at hv
 rw [zpj] at h1
 refine zn6 (xs := a.l) (L := zbL a (a.l.length : Int) sz kk) zng (fun k s => by simp [zbL]) (fun k i x l hx hl => ?_) hk
 have hi := (List.getElem?_eq_some_iff.1 hx).1
 have hm := List.mem_of_getElem? hx
 obtain ⟨p1, p2, p3⟩ := zD8 (List.all_eq_true.1 hv x hm) ((zx2 _).1 hw x hm)
 have hsz := zhG hx
 have hsz2 := zhs x
 have hit := zjW x.coeff
 have l4 := zmH (x.factors.l.map zdr) [42]
 have l5 := zoD x.factors.l
 have l6 := ztk (show 1 ≤ 3 by omega) (x.factors.l.map zdr)
 rw [zhV] at l5
 rw [show ([42] : Str).length = 1 from rfl] at l4
 have hb1 : big = 1152921504606846976 := rfl
 have hin : (zpB x.coeff && (10 : Int) == 10) = true := by rw [zqq p2]; rfl
 have hF : (zp1 x.factors).length ≤ 64 * za1 x.factors.l := by unfold zp1; omega
 simp only [zbL, zdV, hx]
 rw [decide_eq_true (show (i : Int) < a.l.length by omega), zaI, zbz (by omega), zad, zfD, zfD, zBO]
 by_cases he : (x.factors.l.length : Int) = 0
 · have : x.factors.l.isEmpty = true := by rw [List.isEmpty_iff]; exact List.length_eq_zero_iff.1 (by omega)
   rw [if_pos he, if_pos this, zav hin, zad, okr (by omega), zad]; rfl
 · have : ¬ x.factors.l.isEmpty = true := by rw [List.isEmpty_iff]; intro e; rw [e] at he; exact he rfl
   rw [if_neg he, if_neg this]
   by_cases hc : x.coeff = 1
   · rw [if_pos hc, if_pos hc, zav ⟨p1, by rw [zpj]; omega, by omega⟩, zad, okr (by omega), zad]; rfl
   · rw [if_neg hc, if_neg hc, zav hin, zad]
     unfold zqp
     rw [okr (by simp only [List.length_cons, List.length_nil]; omega), zad, zav ⟨p1, by rw [zpj]; omega, by omega⟩, zad, okr (by simp only [List.length_append, List.length_cons, List.length_nil]; omega), zad, okr (by omega), zad]
     congr 2
     unfold zp1; simp
theorem zo0 {kk sz : Nat} {a : Sl zam} (h : zhl a.l = true ∧ zcl a.l ∧ zal a.l < lim ∧ 4 * zal a.l + 1 < sz + 1) (hk : sz < kk) (hb : sz + 1 < big) : zhi kk sz a = some (zeS a) := by
 obtain ⟨hv, hw, h1, h2⟩ := h
 have hn := zfU a.l
 have hlim := zpj
 have l4 := zmH (a.l.map zng) zsd
 have l5 := zql a.l
 rw [zsT] at l5
 rw [show zsd.length = 3 from rfl] at l4
 unfold zhi
 rw [zfD, zEd]
 by_cases he : (a.l.length : Int) = 0
 · have : a.l = [] := List.length_eq_zero_iff.1 (by omega)
   rw [if_pos he, this]; rfl
 · have : a.l.isEmpty = false := by
    cases e : a.l with
    | nil => rw [e] at he; exact absurd rfl he
    | cons => rfl
   rw [if_neg he, this, znv hv hw h1 h2 (by omega), zb9]
   simp only
   rw [zav (show zqo (Sl.out (a.l.map zng)).l [32, 43, 32] by rw [out_l]; exact ⟨by unfold room; rw [show ([32, 43, 32] : Str) = zsd from rfl]; omega, by unfold room; rw [List.length_map]; omega⟩), zad]
   unfold zld; rw [out_l]; rfl
theorem zj2 {x : zap} {sz kk k : Nat} (hv : zmk x = true) (hw : zk5 x) (hk0 : x.kind ≠ 0) (h1 : zdp x < lim) (h2 : 4 * zdp x < sz + 1) (hk : x.items.l.length < k) :
 zbA x.items (x.items.l.length : Int) x sz kk k [] 0 = some (.done (x.items.l.map zi3, (x.items.l.length : Int))) := by
 have hz := zgf x
 have hn := zgE x.items.l
 rw [zpj] at h1
 refine zn6 (xs := x.items.l) (L := zbA x.items (x.items.l.length : Int) x sz kk) zi3 (fun k s => by simp [zbA]) (fun k i w l hx hl => ?_) hk
 have hi := (List.getElem?_eq_some_iff.1 hx).1
 have hm := List.mem_of_getElem? hx
 obtain ⟨p1, p2, p3, p4⟩ := zD9 hv hw hk0 hm
 have hsz := zlT w
 have hl1 := zoE w.value
 have hl2 := zuS w.ann
 have hb1 : big = 1152921504606846976 := rfl
 simp only [zbA, zdV, hx]
 rw [decide_eq_true (show (i : Int) < x.items.l.length by omega), zaI, zbz (by omega), zad, zav p3.2, zad, okr (by simp only [List.length_cons, List.length_nil]; omega), zad, zav ⟨p1, p2, by rw [zpj]; omega, by omega⟩, zad,
  okr (by simp only [List.length_append, List.length_cons, List.length_nil]; omega), zad, okr (by omega), zad, zBP]
 rfl
theorem zFO {l : List Str} {n : Int} (h0 : 0 ≤ n) (h : n < l.length) : ix l n = some (nth l n) := by
 obtain ⟨m, rfl⟩ : ∃ m : Nat, n = m := ⟨n.toNat, by omega⟩
 rw [zdV]; unfold nth
 rw [Int.toNat_natCast, List.getElem?_eq_getElem (by omega)]; rfl
theorem zkZ {kk sz : Nat} {a : zap} (h : zmk a = true ∧ zk5 a ∧ zdp a < lim ∧ 4 * zdp a < sz + 1) (hk : sz < kk) (hb : sz + 1 < big) : zet kk sz a = some (zjB a) := by
 obtain ⟨hv, hw, h1, h2⟩ := h
 have hz := zgf a
 have hw' := (zlS _).1 hw
 have hn := zgE a.items.l
 have hlim := zpj
 have hla := zyJ a
 unfold zet
 rw [zBR, zfD]
 by_cases c0 : a.kind = 0
 · rw [if_pos c0, if_pos c0, zav hw'.2.1, zad]
 rw [if_neg c0, if_neg c0, zfD]
 by_cases c1 : a.kind = 1
 · obtain ⟨x, y, e⟩ := zFl hv c1
   obtain ⟨p1, p2, p3⟩ := zvb hv hw c0 (a := x) (by rw [e]; simp)
   obtain ⟨q1, q2, q3⟩ := zvb hv hw c0 (a := y) (by rw [e]; simp)
   have l1 := zuS x
   have l2 := zuS y
   rw [if_pos c1, if_pos c1, e]
   simp only [List.getElem?_cons_zero, List.getElem?_cons_succ, zad, List.map_cons, List.map_nil, Option.getD_some]
   rw [zav ⟨p1, p2, by omega, by omega⟩, zad, okr (by simp only [List.length_append, List.length_cons, List.length_nil]; omega), zad, okr (by simp only [List.length_append, List.length_cons, List.length_nil]; omega), zad,
    zav ⟨q1, q2, by omega, by omega⟩, zad, okr (by simp only [List.length_append, List.length_cons, List.length_nil]; omega), zad, okr (by simp only [List.length_append, List.length_cons, List.length_nil]; omega), zad]
   simp [zfE, zpg]
 rw [if_neg c1, if_neg c1, zfD]
 by_cases c2 : a.kind = 2
 · obtain ⟨x, e⟩ := zAc hv (.inl c2)
   obtain ⟨p1, p2, p3⟩ := zvb hv hw c0 (a := x) (by rw [e]; simp)
   have l1 := zuS x
   rw [if_pos c2, if_pos c2, e]
   simp only [List.getElem?_cons_zero, zad, List.map_cons, List.map_nil, Option.getD_some]
   rw [zav ⟨p1, p2, by omega, by omega⟩, zad, okr (by simp only [List.length_append, List.length_cons, List.length_nil]; omega), zad, okr (by simp only [List.length_append, List.length_cons, List.length_nil]; omega), zad]
   simp [zfP]
 rw [if_neg c2, if_neg c2, zfD]
 by_cases c3 : a.kind = 3
 · obtain ⟨x, e⟩ := zAc hv (.inr c3)
   obtain ⟨p1, p2, p3⟩ := zvb hv hw c0 (a := x) (by rw [e]; simp)
   have l1 := zuS x
   rw [if_pos c3, if_pos c3, e]
   simp only [List.getElem?_cons_zero, zad, List.map_cons, List.map_nil, Option.getD_some]
   rw [zav ⟨p1, p2, by omega, by omega⟩, zad, okr (by simp only [List.length_append, List.length_cons, List.length_nil]; omega), zad, okr (by simp only [List.length_append, List.length_cons, List.length_nil]; omega), zad]
   simp [zd5]
 rw [if_neg c3, if_neg c3]
 obtain ⟨c4, f0, f3, o5, o10⟩ := zAn hv c0 c1 c2 c3
 have l1 := zFV a.func
 have l2 := zFM (a.op - 5)
 have l3 := zoE a.bound
 have l4 := zmH (a.items.l.map zi3) zpu
 have l5 := zvP a.items.l
 have l6 := ztk (show 2 ≤ 3 by omega) (a.items.l.map zi3)
 rw [zmm] at l5
 rw [show zpu.length = 2 from rfl] at l4
 have hJ : zld (Sl.out (a.items.l.map zi3)) [59, 32] = zjV (a.items.l.map zi3) zpu := by unfold zld; rw [out_l]; rfl
 rw [zj2 hv hw c0 h1 h2 (by omega), zb9]
 simp only
 rw [hJ, show ziW.l = zgK from rfl, show zfr.l = zgt from rfl, zgz (by omega) (by omega), zFO f0 (by rw [show zgK.length = 4 from rfl]; omega), zad, zFO (show 0 ≤ a.op - 5 by omega) (by rw [show zgt.length = 6 from rfl]; omega)]
 rw [okr (by simp only [List.length_append, List.length_cons, List.length_nil]; omega), zad, okr (by simp only [List.length_append, List.length_cons, List.length_nil]; omega), zad,
  zav (show zqo (Sl.out (a.items.l.map zi3)).l [59, 32] by rw [out_l]; exact ⟨by unfold room; rw [show ([59, 32] : Str) = zpu from rfl]; omega, by unfold room; rw [List.length_map]; omega⟩), zad,
  okr (by simp only [List.length_append, List.length_cons, List.length_nil]; omega), zad, okr (by simp only [List.length_append, List.length_cons, List.length_nil]; omega), zad, zad,
  okr (by simp only [List.length_append, List.length_cons, List.length_nil]; omega), zad, okr (by simp only [List.length_append, List.length_cons, List.length_nil]; omega), zad, zav hw'.2.2.2.2.2.2.2, zad,
  okr (by simp only [List.length_append, List.length_cons, List.length_nil]; omega), zad, okr (by simp only [List.length_append, List.length_cons, List.length_nil]; omega), zad]
 simp [zjS, znN]
end Go.Ev
namespace Go.Ev
end Go.Ev
set_option linter.unusedVariables false
namespace Go.Ev
end Go.Ev
namespace Go.Ev
end Go.Ev
set_option linter.unusedVariables false
namespace Go.Ev
def zBo (s : Str) : Bool := s.all fun b => decide (b.toNat < 128)
def ziv (a b : Str) : Bool := b.isPrefixOf a
def zfQ (a b : Str) : Str × Bool := ((za3 b a).2, (za3 b a).1)
def ziC (a b : Str) : Str := (za3 b a).2
def zmN (a b : Str) : Str := a.dropWhile fun x => b.contains x
def zaG (p : zab) (b : Str) : Bool × zab := ((za3 b p.rest).1, ⟨(za3 b p.rest).2⟩)
def zkj (p : zab) (b : Str) : Str × zab := ((zq6 b p.rest).1, ⟨(zq6 b p.rest).2⟩)
def zjq (p : zab) : Int × Bool × zab := ((zgH p.rest).1, (zgH p.rest).2.1, ⟨(zgH p.rest).2.2⟩)
def ztm (a : Int) : Bool := decide (48 ≤ a) && decide (a ≤ 57)
def zk6 (s : Str) : Str × Bool := ((zjM s).getD (if 2 ≤ s.length ∧ s.head? = some 39 ∧ s.getLast? = some 39 then znf (s.drop 1).dropLast else []), (zjM s).isSome)
def zi6 (p : zab) : Val × Bool × zab := ((zfX p.rest).1, (zfX p.rest).2.1, ⟨(zfX p.rest).2.2⟩)
noncomputable def zdx (kk : Nat) (a : Str) (b : Str) : Option (Bool) :=
 sel (
  bnd (zwD a none (some (b.length : Int))) fun (y1 : Str) =>
  some (y1 == b)) (
  some false) (decide ((b.length : Int) ≤ (a.length : Int)))
noncomputable def zhN (kk : Nat) (a : Str) (b : Str) : Option (Bool) :=
 some ((ziv a b))
noncomputable def zdy (kk : Nat) (a : Str) (b : Str) : Option (Str × Bool) :=
 sel (
  some (a, false)) (
  bnd (zwD a (some (b.length : Int)) none) fun (y1 : Str) =>
  some (y1, true)) (!((ziv a b)))
noncomputable def zhO (kk : Nat) (a : Str) (b : Str) : Option (Str × Bool) :=
 some ((zfQ a b).1, ((zfQ a b).2))
noncomputable def zc5 (kk : Nat) (a : Str) (b : Str) : Option (Str) :=
 sel (
  bnd (zwD a (some (b.length : Int)) none) fun (y1 : Str) =>
  some y1) (
  some a) ((ziv a b))
noncomputable def zhq (kk : Nat) (a : Str) (b : Str) : Option (Str) :=
 some (ziC a b)
noncomputable def zcy (c5 : Str) (c6 : Str) (c7 : Int) (c8 : Int) (c10 : Str) (c12 : Str) (kk : Nat) : Nat → Bool → Nat → Nat → Option (Out (Str) (Bool × Nat × Nat))
 | 0, _, _, _ => none
 | k + 1, s9, s11, s13 =>
   sel (
    zcy c5 c6 c7 c8 c10 c12 kk k ((s9) || (c8 == ((Utf8.decode ⟨c12.toArray⟩ s13).1))) s11 (s13 + (Utf8.decode ⟨c12.toArray⟩ s13).2)) (
    some (.done ((s9), s11, s13))) (ltn s13 c12.length)
noncomputable def zcz (c1 : Str) (c2 : Str) (c3 : Str) (kk : Nat) : Nat → Nat → Option (Out (Str) (Nat))
 | 0, _ => none
 | k + 1, s4 =>
   sel (
    zkl (zcy c1 c2 (s4 : Int) ((Utf8.decode ⟨c3.toArray⟩ s4).1) c3 c2 kk kk false (s4 + (Utf8.decode ⟨c3.toArray⟩ s4).2) 0) (fun r => some (.ret r)) fun (q14 : Bool × Nat × Nat) =>
     sel (
      bnd (zwD c1 (some (s4 : Int)) none) fun (y15 : Str) =>
      some (.ret y15)) (
      zcz c1 c2 c3 kk k q14.2.1) (!(q14.1))) (
    some (.done s4)) (ltn s4 c3.length)
noncomputable def zfz (kk : Nat) (a : Str) (b : Str) : Option (Str) :=
 zkl (zcz a b a kk kk 0) (fun r => some r) fun (q16 : Nat) =>
  some []
noncomputable def zfN (kk : Nat) (a : zab) (b : Str) : Option (Bool × zab) :=
 some (((zfQ a.rest b).2), (a.setRest ((zfQ a.rest b).1)))
noncomputable def zer (kk : Nat) (a : zab) (b : Str) : Option (Str × zab) :=
 bnd (okP (a.rest.length < lim ∧ b.length < lim ∧ zBo b = true)) fun _ =>
 bnd (zwD a.rest none (some (IntKind.wrap .i64 ((a.rest.length : Int) - ((zmN a.rest b).length : Int))))) fun (y2 : Str) =>
 some (y2, (a.setRest (zmN a.rest b)))
noncomputable def zc8 (kk : Nat) (a : zab) : Option (Int × Bool × zab) :=
 bnd (okP (a.rest.length < lim ∧ [48, 49, 50, 51, 52, 53, 54, 55, 56, 57].length < lim ∧ zBo [48, 49, 50, 51, 52, 53, 54, 55, 56, 57] = true)) fun _ =>
 bnd (okP (zq9 ((zkj a [48, 49, 50, 51, 52, 53, 54, 55, 56, 57]).1) (10 : Int) (64 : Int))) fun _ =>
 some ((zlo ((zkj a [48, 49, 50, 51, 52, 53, 54, 55, 56, 57]).1) 10 64).1, ((zlo ((zkj a [48, 49, 50, 51, 52, 53, 54, 55, 56, 57]).1) 10 64).2), (zkj a [48, 49, 50, 51, 52, 53, 54, 55, 56, 57]).2)
noncomputable def ziS (kk : Nat) (a : Int) : Option (Bool) :=
 some ((decide (48 ≤ a)) && (decide (a ≤ 57)))
noncomputable def zhf (kk : Nat) (a : Int) : Option (Bool) :=
 some (!((ztm a)))
noncomputable def za9 (c1 : Bool) (c2 : Str) (kk : Nat) : Nat → Nat → Option (Out (Int) (Nat))
 | 0, _ => none
 | k + 1, s3 =>
   sel (
    bnd (zhf kk ((Utf8.decode ⟨c2.toArray⟩ s3).1)) fun (r4 : Bool) =>
    sel (
     some (.ret (s3 : Int))) (
     za9 c1 c2 kk k (s3 + (Utf8.decode ⟨c2.toArray⟩ s3).2)) (((r4) && (c1)) || ((!(r4)) && (!(c1))))) (
    some (.done s3)) (ltn s3 c2.length)
noncomputable def zbM (kk : Nat) (a : Str) (c : Bool) : Option (Int) :=
 zkl (za9 (c) a kk kk 0) (fun r => some r) fun (q5 : Nat) =>
  some (-1)
noncomputable def zbN (kk : Nat) (a : Str) : Option (Int) :=
 bnd (zbM kk a true) fun (r1 : Int) =>
 some r1
noncomputable def zbr (kk : Nat) (a : Str) : Option (Bool) :=
 bnd (zbN kk a) fun (r1 : Int) =>
 some (decide (0 ≤ r1))
noncomputable def zfK (c1 : Str) (kk : Nat) : Option (Bool) :=
 sel (
  bnd (c1[0]?) fun (y2 : UInt8) =>
  sel (
   bnd (zbr kk c1) fun (r3 : Bool) =>
   some (r3)) (
   some true) (!((y2.toNat : Int) == 48))) (
  some true) (!(c1 == []))
noncomputable def zin (kk : Nat) (a : Str) : Option (Int × Int) :=
 bnd (zfK a kk) fun (q4 : Bool) =>
 sel (
  some (0, 3)) (
  bnd (okP (a.length < lim)) fun _ =>
  sel (
   some (0, 2)) (
   some ((ziu a).1, 0)) (!((ziu a).2))) (q4)
noncomputable def zi1 (kk : Nat) (a : Str) : Option (zcc × Int) :=
 bnd (okP (((zfQ a [116]).1).length < lim)) fun _ =>
 sel (
  some (zcc.zero, 3)) (
  bnd (okP (((zwd ((zfQ a [116]).1) [46]).1).length < lim)) fun _ =>
  bnd (okP (((zwd ((zfQ a [116]).1) [46]).2.1).length < lim)) fun _ =>
  sel (
   some (zcc.zero, 3)) (
   sel (
    some (zcc.zero, 2)) (
    some (((zcc.zero.setTable ((zhu ((zwd ((zfQ a [116]).1) [46]).1)).1)).setSeq ((zhu ((zwd ((zfQ a [116]).1) [46]).2.1)).1)), 0)) ((((zhu ((zwd ((zfQ a [116]).1) [46]).1)).2) != 0) || (((zhu ((zwd ((zfQ a [116]).1) [46]).2.1)).2) != 0))) ((((zhu ((zwd ((zfQ a [116]).1) [46]).1)).2) == 3) || (((zhu ((zwd ((zfQ a [116]).1) [46]).2.1)).2) == 3))) ((!((zfQ a [116]).2)) || (!((zwd ((zfQ a [116]).1) [46]).2.2)))
noncomputable def zfJ (c1 : Str) (kk : Nat) : Option (Bool) :=
 sel (
  bnd (c1[0]?) fun (y2 : UInt8) =>
  sel (
   bnd (ix c1 (IntKind.wrap .i64 ((c1.length : Int) - 1))) fun (y3 : UInt8) =>
   some ((y3.toNat : Int) != 39)) (
   some true) (!((y2.toNat : Int) != 39))) (
  some true) (!(decide ((c1.length : Int) < 2)))
noncomputable def zil (kk : Nat) (a : Str) : Option (Str × Bool) :=
 bnd (zfJ a kk) fun (q4 : Bool) =>
 sel (
  some ([], false)) (
  bnd (zwD a (some 1) (some (IntKind.wrap .i64 ((a.length : Int) - 1)))) fun (y5 : Str) =>
  bnd (okP (zrX y5 [39, 39] [])) fun _ =>
  bnd (okP (zrX y5 [39, 39] [39])) fun _ =>
  bnd (okP ((zkg y5 [39, 39] []).length < lim)) fun _ =>
  some ((zkg y5 [39, 39] [39]), (!((zEX (zkg y5 [39, 39] []) [39]))))) (q4)
noncomputable def zhe (kk : Nat) (a : Str) : Option (Bool) :=
 sel (
  bnd ((ziC a [45])[0]?) fun (y1 : UInt8) =>
  sel (
   some false) (
   bnd (okP (zzo (ziC a [45]) [48, 49, 50, 51, 52, 53, 54, 55, 56, 57])) fun _ =>
   some ((trimS (ziC a [45]) [48, 49, 50, 51, 52, 53, 54, 55, 56, 57]) == [])) (((y1.toNat : Int) == 48) && (!(a == [48])))) (
  some false) (!((ziC a [45]) == []))
noncomputable def zj4 (kk : Nat) (a : Str) : Option (Val × Int) :=
 sel (
  some (((Val.zero.setKind 2).setInt 1), 0)) (
  sel (
   some ((Val.zero.setKind 2), 0)) (
   bnd (okP (a.length < lim)) fun _ =>
   sel (
    sel (
     some (Val.zero, 6)) (
     some (((Val.zero.setKind 1).setText ((zk6 a).1)), 0)) (decide (255 < (((zk6 a).1).length : Int)))) (
    bnd (okP (a.length < lim)) fun _ =>
    sel (
     some (Val.zero, 3)) (
     bnd (okP (zq9 a (10 : Int) (64 : Int))) fun _ =>
     sel (
      some (Val.zero, 2)) (
      some ((Val.zero.setInt ((zlo a 10 64).1)), 0)) (!((zlo a 10 64).2))) (!((zuU a)))) ((zk6 a).2)) (a == [70, 65, 76, 83, 69])) (a == [84, 82, 85, 69])
noncomputable def zcD (c4 : Int) (c5 : zab) (c6 : Val) (kk : Nat) : Option (Bool) :=
 sel (
  bnd (ix c5.rest c4) fun (y7 : UInt8) =>
  sel (
   bnd (zwD c5.rest (some c4) none) fun (y8 : Str) =>
   some ((ziv y8 [39, 39]))) (
   some true) (!((y7.toNat : Int) != 39))) (
  some false) (decide (c4 < (c5.rest.length : Int)))
noncomputable def zbv (c2 : zab) (c3 : Val) (kk : Nat) : Nat → Int → Option (Out (Val × Bool × zab) (Int))
 | 0, _ => none
 | k + 1, s1 =>
   bnd (zcD s1 c2 c3 kk) fun (q9 : Bool) =>
   sel (
    bnd (ix c2.rest s1) fun (y10 : UInt8) =>
    sel (
     zbv c2 c3 kk k (IntKind.wrap .i64 ((IntKind.wrap .i64 (s1 + 1)) + 1))) (
     zbv c2 c3 kk k (IntKind.wrap .i64 (s1 + 1))) ((y10.toNat : Int) == 39)) (
    some (.done s1)) (q9)
noncomputable def zcT (kk : Nat) (a : zab) : Option (Val × Bool × zab) :=
 sel (
  zkl (zbv a Val.zero kk kk 1) (fun r => some r) fun (q11 : Int) =>
   sel (
    some (Val.zero, false, a)) (
    bnd (zwD a.rest none (some (IntKind.wrap .i64 (q11 + 1)))) fun (y12 : Str) =>
    bnd (zwD a.rest (some (IntKind.wrap .i64 (q11 + 1))) none) fun (y13 : Str) =>
    bnd (okP (y12.length < lim)) fun _ =>
    some ((zfo y12).1, (((zfo y12).2) == 0), (a.setRest y13))) (decide ((a.rest.length : Int) ≤ q11))) (
  bnd (okP (a.rest.length < lim ∧ [45, 48, 49, 50, 51, 52, 53, 54, 55, 56, 57, 84, 82, 85, 69, 70, 65, 76, 83, 69].length < lim ∧ zBo [45, 48, 49, 50, 51, 52, 53, 54, 55, 56, 57, 84, 82, 85, 69, 70, 65, 76, 83, 69] = true)) fun _ =>
  bnd (okP (((zkj a [45, 48, 49, 50, 51, 52, 53, 54, 55, 56, 57, 84, 82, 85, 69, 70, 65, 76, 83, 69]).1).length < lim)) fun _ =>
  some ((zfo ((zkj a [45, 48, 49, 50, 51, 52, 53, 54, 55, 56, 57, 84, 82, 85, 69, 70, 65, 76, 83, 69]).1)).1, (((zfo ((zkj a [45, 48, 49, 50, 51, 52, 53, 54, 55, 56, 57, 84, 82, 85, 69, 70, 65, 76, 83, 69]).1)).2) == 0), (zkj a [45, 48, 49, 50, 51, 52, 53, 54, 55, 56, 57, 84, 82, 85, 69, 70, 65, 76, 83, 69]).2)) ((ziv a.rest [39]))
end Go.Ev
set_option linter.unusedVariables false
namespace Go.Ev
def zrW (a : Sl Str) : Prop := a.l.length < 100 ∧ ∀ w ∈ a.l, w.length < 100
def zyO (a : Sl Str) (p : zab) : Int × zab := ((zcZ 123 a.l 0 p.rest).1, ⟨(zcZ 123 a.l 0 p.rest).2⟩)
def zre (a : Sl Str) (p : zab) : Int × zab := ((zcZ 32 a.l 0 p.rest).1, ⟨(zcZ 32 a.l 0 p.rest).2⟩)
def znZ (p : zab) (x : zap) : Option (zab × Int) := some (⟨(zjr p.rest).2⟩, if (zjr p.rest).1 = 0 then x.kind else (zjr p.rest).1)
def zct (p : zab) (d : Int) : Sl zam × Bool × zab := ((zl0 (d + 1).toNat p.rest).1, (zl0 (d + 1).toNat p.rest).2.1, ⟨(zl0 (d + 1).toNat p.rest).2.2⟩)
def zlb (p : zab) (d : Int) : zam × Bool × zab := ((zsf (zl0 d.toNat) p.rest).1, (zsf (zl0 d.toNat) p.rest).2.1, ⟨(zsf (zl0 d.toNat) p.rest).2.2⟩)
def zfj (p : zab) (d : Int) : zap × Bool × zab := ((zsg (zl0 d.toNat) p.rest).1, (zsg (zl0 d.toNat) p.rest).2.1, ⟨(zsg (zl0 d.toNat) p.rest).2.2⟩)
def zcI (p : zab) (_x : zap) (d : Int) : Bool × zab × zap := ((zpx (zl0 d.toNat) p.rest).2.1, ⟨(zpx (zl0 d.toNat) p.rest).2.2⟩, (zpx (zl0 d.toNat) p.rest).1)
noncomputable def zc7 (kk : Nat) (a : Str) (u1 : zab) : Option (Bool × zab) :=
 bnd (okP (a.length + [123].length ≤ room)) fun _ =>
 some (((zaG u1 (a ++ [123])).1), (zaG u1 (a ++ [123])).2)
noncomputable def zay (c1 : Sl Str) (c2 : Int) (kk : Nat) : Nat → Int → zab → Option (Out (Int × zab) (Int × zab))
 | 0, _, _ => none
 | k + 1, s3, s4 =>
   sel (
    bnd (ix c1.l s3) fun (y5 : Str) =>
    bnd (zc7 kk y5 s4) fun (r6 : Bool × zab) =>
    sel (
     some (.ret (s3, r6.2))) (
     zay c1 c2 kk k (IntKind.wrap .i64 (s3 + 1)) r6.2) (r6.1)) (
    some (.done (s3, s4))) (decide (s3 < c2))
noncomputable def zbf (kk : Nat) (a : (Sl Str)) (u1 : zab) : Option (Int × zab) :=
 zkl (zay a (a.l.length : Int) kk kk 0 u1) (fun r => some r) fun (q7 : Int × zab) =>
  some ((-1), q7.2)
noncomputable def zc6 (kk : Nat) (a : Str) (u1 : zab) : Option (Bool × zab) :=
 bnd (okP (a.length + [32].length ≤ room)) fun _ =>
 some (((zaG u1 (a ++ [32])).1), (zaG u1 (a ++ [32])).2)
noncomputable def zax (c1 : Sl Str) (c2 : Int) (kk : Nat) : Nat → Int → zab → Option (Out (Int × zab) (Int × zab))
 | 0, _, _ => none
 | k + 1, s3, s4 =>
   sel (
    bnd (ix c1.l s3) fun (y5 : Str) =>
    bnd (zc6 kk y5 s4) fun (r6 : Bool × zab) =>
    sel (
     some (.ret (s3, r6.2))) (
     zax c1 c2 kk k (IntKind.wrap .i64 (s3 + 1)) r6.2) (r6.1)) (
    some (.done (s3, s4))) (decide (s3 < c2))
noncomputable def zbe (kk : Nat) (a : (Sl Str)) (u1 : zab) : Option (Int × zab) :=
 zkl (zax a (a.l.length : Int) kk kk 0 u1) (fun r => some r) fun (q7 : Int × zab) =>
  some ((-1), q7.2)
end Go.Ev
set_option linter.unusedVariables false
namespace Go.Ev
@[go_sem] theorem zam.setCoeff_self (x : zam) : x.setCoeff x.coeff = x := by cases x; rfl
@[go_sem] theorem zap.setKind_self (x : zap) : x.setKind x.kind = x := by cases x; rfl
attribute [go_sem] Sl.out_l Sl.of_l Sl.nil_l
noncomputable def zbx (c1 : Int) (sz : Nat) (kk : Nat) : Nat → List zam → zab → Option (Out ((Sl zam) × Bool × zab) (List zam × zab))
 | 0, _, _ => none
 | k + 1, s2, s3 =>
   bnd (okP ((s3.rest.length < lim ∧ 0 ≤ c1 ∧ c1 ≤ 8 ∧ 4 * (c1 + 1).toNat + 2 < sz))) fun _ =>
   sel (
    some (.ret (Sl.nil, false, (zlb s3 c1).2.2))) (
    bnd (okP ((s2.length + 1) * 32 ≤ room)) fun _ =>
    sel (
     some (.ret ((Sl.of (s2 ++ [(zlb s3 c1).1])), true, (zaG ((zlb s3 c1).2.2) [32, 43, 32]).2))) (
     zbx c1 sz kk k (s2 ++ [(zlb s3 c1).1]) ((zaG ((zlb s3 c1).2.2) [32, 43, 32]).2)) (!((zaG ((zlb s3 c1).2.2) [32, 43, 32]).1))) (!((zlb s3 c1).2.1))
noncomputable def zcx (kk : Nat) (sz : Nat) (a : zab) (b : Int) : Option ((Sl zam) × Bool × zab) :=
 sel (
  some (Sl.nil, false, a)) (
  sel (
   some (Sl.nil, true, (zaG a [48]).2)) (
   zkl (zbx b sz kk kk [] ((zaG a [48]).2)) (fun r => some r) fun (q6 : List zam × zab) =>
    none) ((zaG a [48]).1)) (decide (b < 0))
noncomputable def zbI (c14 : Int) (c16 : zam) (sz : Nat) (kk : Nat) : Nat → zab → zam → List zaj → Option (Out (zam × Bool × zab) (zab × zam × List zaj))
 | 0, _, _, _ => none
 | k + 1, s15, s17, s18 =>
   bnd (okP ((s15.rest.length < lim ∧ 0 ≤ c14 ∧ c14 ≤ 8 ∧ 4 * (c14 + 1).toNat + 1 < sz))) fun _ =>
   sel (
    sel (
     bnd (okP (((zaG ((zfj s15 c14).2.2) [94]).2).rest.length < lim)) fun _ =>
     sel (
      some (.ret ((s17.setFactors (Sl.out s18)), false, (zjq ((zaG ((zfj s15 c14).2.2) [94]).2)).2.2))) (
      bnd (okP ((s18.length + 1) * 128 ≤ room)) fun _ =>
      sel (
       some (.ret (((s17.setFactors (Sl.out s18)).setFactors (Sl.of (s18 ++ [(((zaj.zero.setAtom ((zfj s15 c14).1)).setExp 1).setExp ((zjq ((zaG ((zfj s15 c14).2.2) [94]).2)).1))]))), true, (zaG ((zjq ((zaG ((zfj s15 c14).2.2) [94]).2)).2.2) [42]).2))) (
       zbI c14 c16 sz kk k ((zaG ((zjq ((zaG ((zfj s15 c14).2.2) [94]).2)).2.2) [42]).2) s17 (s18 ++ [(((zaj.zero.setAtom ((zfj s15 c14).1)).setExp 1).setExp ((zjq ((zaG ((zfj s15 c14).2.2) [94]).2)).1))])) (!((zaG ((zjq ((zaG ((zfj s15 c14).2.2) [94]).2)).2.2) [42]).1))) (!((zjq ((zaG ((zfj s15 c14).2.2) [94]).2)).2.1))) (
     bnd (okP ((s18.length + 1) * 128 ≤ room)) fun _ =>
     sel (
      some (.ret (((s17.setFactors (Sl.out s18)).setFactors (Sl.of (s18 ++ [((zaj.zero.setAtom ((zfj s15 c14).1)).setExp 1)]))), true, (zaG ((zaG ((zfj s15 c14).2.2) [94]).2) [42]).2))) (
      zbI c14 c16 sz kk k ((zaG ((zaG ((zfj s15 c14).2.2) [94]).2) [42]).2) s17 (s18 ++ [((zaj.zero.setAtom ((zfj s15 c14).1)).setExp 1)])) (!((zaG ((zaG ((zfj s15 c14).2.2) [94]).2) [42]).1))) ((zaG ((zfj s15 c14).2.2) [94]).1)) (
    some (.ret ((s17.setFactors (Sl.out s18)), false, (zfj s15 c14).2.2))) ((zfj s15 c14).2.1)
noncomputable def zc3 (c7 : Int) (c8 : Bool) (c9 : zab) (c10 : zam) (c11 : zam) (sz : Nat) (kk : Nat) : Option (Out (zam × Bool × zab) (zab × Int)) :=
 sel (
  bnd (okP (c9.rest.length < lim)) fun _ =>
  sel (
   sel (
    some (.ret ((c11.setCoeff ((zjq c9).1)), ((zjq c9).2.1), (zaG ((zjq c9).2.2) [42]).2))) (
    some (.done ((zaG ((zjq c9).2.2) [42]).2, (zjq c9).1))) (!((zaG ((zjq c9).2.2) [42]).1))) (
   some (.ret ((c11.setCoeff ((zjq c9).1)), ((zjq c9).2.1), (zjq c9).2.2))) (!(!((zjq c9).2.1)))) (
  some (.done (c9, c11.coeff))) (c8)
noncomputable def zcr (c1 : Int) (c2 : zab) (c3 : zam) (c4 : zam) (sz : Nat) (kk : Nat) : Option (Bool) :=
 sel (
  bnd (c2.rest[0]?) fun (y5 : UInt8) =>
  some ((decide (48 ≤ (y5.toNat : Int))) && (decide ((y5.toNat : Int) ≤ 57)))) (
  some false) (!(c2.rest == []))
noncomputable def zd2 (kk : Nat) (sz : Nat) (a : zab) (b : Int) : Option (zam × Bool × zab) :=
 bnd (zcr b a zam.zero (zam.zero.setCoeff 1) sz kk) fun (q6 : Bool) =>
 zkl (zc3 b (q6) a zam.zero (zam.zero.setCoeff 1) sz kk) (fun r => some r) fun (q13 : zab × Int) =>
  zkl (zbI b zam.zero sz kk kk q13.1 ((zam.zero.setCoeff 1).setCoeff q13.2) []) (fun r => some r) fun (q23 : zab × zam × List zaj) =>
   none
noncomputable def zc4 (c1 : Int) (c2 : zab) (c3 : zap) (c4 : zap) (sz : Nat) (kk : Nat) : Option (zab × Int) := znZ c2 c4
noncomputable def zd3 (kk : Nat) (sz : Nat) (a : zab) (b : Int) : Option (zap × Bool × zab) :=
 bnd (zc4 b a zap.zero zap.zero sz kk) fun (q5 : zab × Int) =>
 sel (
  bnd (okP (q5.1.rest.length < lim ∧ [116, 46, 48, 49, 50, 51, 52, 53, 54, 55, 56, 57].length < lim ∧ zBo [116, 46, 48, 49, 50, 51, 52, 53, 54, 55, 56, 57] = true)) fun _ =>
  bnd (okP (((zkj q5.1 [116, 46, 48, 49, 50, 51, 52, 53, 54, 55, 56, 57]).1).length < lim)) fun _ =>
  some (((zap.zero.setKind q5.2).setRow ((zhZ ((zkj q5.1 [116, 46, 48, 49, 50, 51, 52, 53, 54, 55, 56, 57]).1)).1)), (((zhZ ((zkj q5.1 [116, 46, 48, 49, 50, 51, 52, 53, 54, 55, 56, 57]).1)).2) == 0), (zkj q5.1 [116, 46, 48, 49, 50, 51, 52, 53, 54, 55, 56, 57]).2)) (
  sel (
   bnd (okP ((q5.1.rest.length < lim ∧ (zap.zero.setKind q5.2) = zap.zero.setKind 4 ∧ 0 ≤ b ∧ b ≤ 8 ∧ 4 * (b + 1).toNat < sz))) fun _ =>
   sel (
    some (((zcI q5.1 (zap.zero.setKind q5.2) b).2.2.setItems (Sl.out (((zcI q5.1 (zap.zero.setKind q5.2) b).2.2).items.l))), ((zaG ((zcI q5.1 (zap.zero.setKind q5.2) b).2.1) [93]).1), (zaG ((zcI q5.1 (zap.zero.setKind q5.2) b).2.1) [93]).2)) (
    some (((zcI q5.1 (zap.zero.setKind q5.2) b).2.2.setItems (Sl.out (((zcI q5.1 (zap.zero.setKind q5.2) b).2.2).items.l))), false, (zcI q5.1 (zap.zero.setKind q5.2) b).2.1)) ((zcI q5.1 (zap.zero.setKind q5.2) b).1)) (
   bnd (okP ((q5.1.rest.length < lim ∧ -1 ≤ (IntKind.wrap .i64 (b - 1)) ∧ (IntKind.wrap .i64 (b - 1)) ≤ 8 ∧ 4 * ((IntKind.wrap .i64 (b - 1)) + 1).toNat + 3 < sz))) fun _ =>
   sel (
    sel (
     bnd (okP ((((zaG ((zct q5.1 (IntKind.wrap .i64 (b - 1))).2.2) [44, 32]).2).rest.length < lim ∧ -1 ≤ (IntKind.wrap .i64 (b - 1)) ∧ (IntKind.wrap .i64 (b - 1)) ≤ 8 ∧ 4 * ((IntKind.wrap .i64 (b - 1)) + 1).toNat + 3 < sz))) fun _ =>
     sel (
      some ((((zap.zero.setKind q5.2).setArgs (Sl.of [(zct q5.1 (IntKind.wrap .i64 (b - 1))).1, (zct ((zaG ((zct q5.1 (IntKind.wrap .i64 (b - 1))).2.2) [44, 32]).2) (IntKind.wrap .i64 (b - 1))).1])).setArgs (Sl.of [(zct q5.1 (IntKind.wrap .i64 (b - 1))).1, (zct ((zaG ((zct q5.1 (IntKind.wrap .i64 (b - 1))).2.2) [44, 32]).2) (IntKind.wrap .i64 (b - 1))).1])), ((zaG ((zct ((zaG ((zct q5.1 (IntKind.wrap .i64 (b - 1))).2.2) [44, 32]).2) (IntKind.wrap .i64 (b - 1))).2.2) [93]).1), (zaG ((zct ((zaG ((zct q5.1 (IntKind.wrap .i64 (b - 1))).2.2) [44, 32]).2) (IntKind.wrap .i64 (b - 1))).2.2) [93]).2)) (
      some ((((zap.zero.setKind q5.2).setArgs (Sl.of [(zct q5.1 (IntKind.wrap .i64 (b - 1))).1, (zct ((zaG ((zct q5.1 (IntKind.wrap .i64 (b - 1))).2.2) [44, 32]).2) (IntKind.wrap .i64 (b - 1))).1])).setArgs (Sl.of [(zct q5.1 (IntKind.wrap .i64 (b - 1))).1, (zct ((zaG ((zct q5.1 (IntKind.wrap .i64 (b - 1))).2.2) [44, 32]).2) (IntKind.wrap .i64 (b - 1))).1])), false, (zct ((zaG ((zct q5.1 (IntKind.wrap .i64 (b - 1))).2.2) [44, 32]).2) (IntKind.wrap .i64 (b - 1))).2.2)) ((zct ((zaG ((zct q5.1 (IntKind.wrap .i64 (b - 1))).2.2) [44, 32]).2) (IntKind.wrap .i64 (b - 1))).2.1)) (
     some (((zap.zero.setKind q5.2).setArgs (Sl.of [(zct q5.1 (IntKind.wrap .i64 (b - 1))).1])), false, (zaG ((zct q5.1 (IntKind.wrap .i64 (b - 1))).2.2) [44, 32]).2)) ((zaG ((zct q5.1 (IntKind.wrap .i64 (b - 1))).2.2) [44, 32]).1)) (
    sel (
     some (((zap.zero.setKind q5.2).setArgs (Sl.of [(zct q5.1 (IntKind.wrap .i64 (b - 1))).1])), ((zaG ((zct q5.1 (IntKind.wrap .i64 (b - 1))).2.2) [93]).1), (zaG ((zct q5.1 (IntKind.wrap .i64 (b - 1))).2.2) [93]).2)) (
     some (((zap.zero.setKind q5.2).setArgs (Sl.of [(zct q5.1 (IntKind.wrap .i64 (b - 1))).1])), false, (zct q5.1 (IntKind.wrap .i64 (b - 1))).2.2)) ((zct q5.1 (IntKind.wrap .i64 (b - 1))).2.1)) (((zct q5.1 (IntKind.wrap .i64 (b - 1))).2.1) && (q5.2 == 1))) (q5.2 == 4)) (q5.2 == 0)
noncomputable def zbH (c2 : Int) (sz : Nat) (kk : Nat) : Nat → zab → zap → List zaf → Option (Out (Bool × zab × zap) (zab × zap × List zaf))
 | 0, _, _, _ => none
 | k + 1, s3, s4, s5 =>
   sel (
    bnd (okP (s3.rest.length < lim)) fun _ =>
    sel (
     sel (
      some (.ret (false, (zaG ((zi6 s3).2.2) [58, 32]).2, (s4.setItems (Sl.out s5))))) (
      bnd (okP ((((zaG ((zi6 s3).2.2) [58, 32]).2).rest.length < lim ∧ -1 ≤ (IntKind.wrap .i64 (c2 - 1)) ∧ (IntKind.wrap .i64 (c2 - 1)) ≤ 8 ∧ 4 * ((IntKind.wrap .i64 (c2 - 1)) + 1).toNat + 3 < sz))) fun _ =>
      sel (
       some (.ret (false, (zct ((zaG ((zi6 s3).2.2) [58, 32]).2) (IntKind.wrap .i64 (c2 - 1))).2.2, (s4.setItems (Sl.out s5))))) (
       bnd (okP ((s5.length + 1) * 56 ≤ room)) fun _ =>
       sel (
        some (.done ((zaG ((zct ((zaG ((zi6 s3).2.2) [58, 32]).2) (IntKind.wrap .i64 (c2 - 1))).2.2) [59, 32]).2, s4, (s5 ++ [((zaf.zero.setValue ((zi6 s3).1)).setAnn ((zct ((zaG ((zi6 s3).2.2) [58, 32]).2) (IntKind.wrap .i64 (c2 - 1))).1))])))) (
        zbH c2 sz kk k ((zaG ((zct ((zaG ((zi6 s3).2.2) [58, 32]).2) (IntKind.wrap .i64 (c2 - 1))).2.2) [59, 32]).2) s4 (s5 ++ [((zaf.zero.setValue ((zi6 s3).1)).setAnn ((zct ((zaG ((zi6 s3).2.2) [58, 32]).2) (IntKind.wrap .i64 (c2 - 1))).1))])) (!((zaG ((zct ((zaG ((zi6 s3).2.2) [58, 32]).2) (IntKind.wrap .i64 (c2 - 1))).2.2) [59, 32]).1))) (!((zct ((zaG ((zi6 s3).2.2) [58, 32]).2) (IntKind.wrap .i64 (c2 - 1))).2.1))) (!((zaG ((zi6 s3).2.2) [58, 32]).1))) (
     some (.ret (false, (zi6 s3).2.2, (s4.setItems (Sl.out s5))))) (!(!((zi6 s3).2.1)))) (
    some (.done (s3, s4, s5))) (decide (0 ≤ s4.func))
noncomputable def zcN (kk : Nat) (sz : Nat) (a : zab) (b : zap) (c : Int) : Option (Bool × zab × zap) :=
 bnd (okP (zrW (ziW))) fun _ =>
 zkl (zbH c sz kk kk ((zyO (ziW) a).2) (b.setFunc ((zyO (ziW) a).1)) []) (fun r => some r) fun (q9 : zab × zap × List zaf) =>
  sel (
   sel (
    some (false, (zaG q9.1 [125, 32]).2, (q9.2.1.setItems (Sl.out q9.2.2)))) (
    bnd (okP (zrW (zfr))) fun _ =>
    bnd (okP (((zre (zfr) ((zaG q9.1 [125, 32]).2)).2).rest.length < lim)) fun _ =>
    some (((decide (0 ≤ ((zre (zfr) ((zaG q9.1 [125, 32]).2)).1))) && ((zi6 ((zre (zfr) ((zaG q9.1 [125, 32]).2)).2)).2.1)), (zi6 ((zre (zfr) ((zaG q9.1 [125, 32]).2)).2)).2.2, (((q9.2.1.setItems (Sl.out q9.2.2)).setOp (IntKind.wrap .i64 (5 + ((zre (zfr) ((zaG q9.1 [125, 32]).2)).1)))).setBound ((zi6 ((zre (zfr) ((zaG q9.1 [125, 32]).2)).2)).1)))) (!((zaG q9.1 [125, 32]).1))) (
   some (false, q9.1, (q9.2.1.setItems (Sl.out q9.2.2)))) (!(decide (q9.2.1.func < 0)))
end Go.Ev
set_option linter.unusedVariables false
namespace Go.Ev
def znm (a : Sl zam) : Str := if zdD a then zeS a else []
def zDA : Bool := true
noncomputable def zgC (kk : Nat) (a : Str) : Option ((Sl zam) × Int) :=
 bnd (okP (((zab.zero.setRest a).rest.length < lim ∧ -1 ≤ (8 : Int) ∧ (8 : Int) ≤ 8 ∧ 4 * ((8 : Int) + 1).toNat + 3 < big - 1))) fun _ =>
 sel (
  bnd (okP (20 * zal ((zct (zab.zero.setRest a) 8).1).l + 1 < big - 1)) fun _ =>
  sel (
   bnd (okP ((zhl ((zct (zab.zero.setRest a) 8).1).l = true ∧ zcl ((zct (zab.zero.setRest a) 8).1).l ∧ zal ((zct (zab.zero.setRest a) 8).1).l < lim ∧ 4 * zal ((zct (zab.zero.setRest a) 8).1).l + 1 < big - 1))) fun _ =>
   sel (
    some (Sl.nil, 3)) (
    some ((zct (zab.zero.setRest a) 8).1, 0)) (!((zeS ((zct (zab.zero.setRest a) 8).1)) == a))) (
   some (Sl.nil, 3)) (!(!((zdD ((zct (zab.zero.setRest a) 8).1)))))) (
  some (Sl.nil, 3)) (!((!((zct (zab.zero.setRest a) 8).2.1)) || (!((((zct (zab.zero.setRest a) 8).2.2).rest) == []))))
noncomputable def zgc (kk : Nat) (a : (Sl zam)) : Option (Str) :=
 bnd (okP (20 * zal a.l + 1 < big - 1)) fun _ =>
 sel (
  some []) (
  bnd (okP ((zhl a.l = true ∧ zcl a.l ∧ zal a.l < lim ∧ 4 * zal a.l + 1 < big - 1))) fun _ =>
  some (zeS a)) (!((zdD a)))
end Go.Ev
namespace Go.Ev
def znh (l : List Val) : Nat := zfB (fun v => v.text.length + 1) l
end Go.Ev
set_option linter.unusedVariables false
namespace Go.Ev
end Go.Ev
namespace Go.Ev
theorem zmn (v : Val) (l : List Val) : znh (v :: l) = v.text.length + 1 + znh l := rfl
theorem zuA (l : List Val) : l.length ≤ znh l := by
 induction l with
 | nil => exact Nat.zero_le _
 | cons v l ih => rw [zmn, List.length_cons]; omega
-- the reference's hash
-- the program's hash
-- keys
-- buckets
-- few
-- sameness
-- the law
end Go.Ev
